/-
  Package rational and its reference agree on all texts.
-/
import Derived.Test.YtecklmdlmldpgaaGreatDoorZV
namespace Go.Proofs.YtecklmdlmldpgaaGreatDoor
open Go.RowKit

set_option maxRecDepth 100000 in
set_option maxHeartbeats 1000000 in
theorem Range_any (b : Nat) (lo hi : Int) (w : World) (hs : Src w b) (h1 : lo ≤ hi) (h2 : -100000 ≤ lo) (h3 : hi ≤ 100000) :
    Calls Tryz.prog 83 #[.pointer (some ⟨b, 0, none⟩), .int .i64 lo, .int .i64 hi] w fun e w' => ∃ r : Int, e = .returned (.int .i64 r) ∧ (lo ≤ r ∧ r ≤ hi) ∧ Src w' b ∧ w.grownBy w' (some b) := by
  have HN := Lib.hid (N_any b (hi - lo + 1) w hs (by omega) (by omega))
  clear hs
  go_enter Tryz.func83, Tryz.ntmps83
  go_wp2_with fail
  refine HN.out.mono ?_
  rintro e w1 ⟨r, rfl, hr, hs1, hg1⟩
  have HS1 := Lib.hid hs1
  have HG1 := Lib.hid hg1
  clear hs1 hg1
  go_wp2_with fail
  go_ret
  exact ⟨lo + (r : Int), rfl, ⟨by omega, by omega⟩, HS1.out, HG1.out⟩

set_option maxRecDepth 100000 in
set_option maxHeartbeats 1000000 in
theorem Pick_any (b g n : Nat) (S : Nat → Int) (w : World) (hs : Src w b) (hrow : ∀ i, i < n → w.cell? ⟨g, i, none⟩ = some (.int .i64 (S i))) (hgb : g ≠ b) (hg : g < w.heap.size) (hn1 : 1 ≤ n) (hn2 : n ≤ 1000) :
    Calls Tryz.prog 85 #[.pointer (some ⟨b, 0, none⟩), .slice (some ⟨g, 0, none⟩) n n] w fun e w' => ∃ i, i < n ∧ e = .returned (.int .i64 (S i)) ∧ Src w' b ∧ w.grownBy w' (some b) := by
  have HS := Lib.hid hs
  have HROW := Lib.hid hrow
  clear hs hrow
  go_enter Tryz.func85, Tryz.ntmps85
  go_wp2_with fail
  refine (N_any b (n : Int) w HS.out (by omega) (by omega)).mono ?_
  rintro e w1 ⟨r, rfl, hr, hs1, hg1⟩
  have hcell : w1.cell? ⟨g, r, none⟩ = some (.int .i64 (S r)) := (World.cell?_of_block (w := w) (a := ⟨g, r, none⟩) (hg1.block g hg (fun e => hgb (by injection e)))).trans (HROW.out r (by omega))
  have HS1 := Lib.hid hs1
  have HG1 := Lib.hid hg1
  have hrn : r < n := by omega
  clear hs1 hg1
  go_wp2_with fail
  go_ret
  exact ⟨r, hrn, rfl, HS1.out, HG1.out⟩

/-- A small fraction. -/
def Small1 (q : Rat) : Prop := q.num.natAbs ≤ 9 ∧ q.den ≤ 4
theorem Small1.dig {q : Rat} (h : Small1 q) : DigR 1 q := ⟨by unfold Dig; have := h.1; omega, by unfold Dig; have := h.2; omega⟩
theorem Small1.fits {q : Rat} (h : Small1 q) : FitsR q := h.dig.fits (by decide) (by decide)
def dens : List Int := [1, 1, 1, 2, 3, 4]
theorem dens_get (i : Nat) : 1 ≤ dens.getD i 1 ∧ dens.getD i 1 ≤ 4 := by
  by_cases h : i < dens.length
  · have : ∀ s ∈ dens, 1 ≤ s ∧ s ≤ 4 := by decide
    rw [List.getD_eq_getElem?_getD, List.getElem?_eq_getElem h]
    exact this _ (List.getElem_mem h)
  · rw [List.getD_eq_getElem?_getD, List.getElem?_eq_none (by omega)]
    decide
/-- The result is the text of a small fraction; the source goes on. -/
def RetRat (w : World) (b : Nat) (e : Ending) (w' : World) : Prop := ∃ q : Rat, e = .returned (.string (rstr q)) ∧ Small1 q ∧ Src w' b ∧ w.grownBy w' (some b)

set_option maxRecDepth 100000 in
set_option maxHeartbeats 2000000 in
theorem MRat_any (b : Nat) (w : World) (hs : Src w b) : Calls Tryz.prog 50 #[.pointer (some ⟨b, 0, none⟩)] w (RetRat w b) := by
  have HPK := Lib.hid (fun (W : World) (g : Nat) (hW : Blk W g 3 (dens.map (Value.int .i64))) (hS : Src W b) (hg : g ≠ b) => Pick_any b g 6 (fun i => dens.getD i 1) W hS (fun i hi => by
    rw [hW.cell, List.getElem?_map, List.getD_eq_getElem?_getD, List.getElem?_eq_getElem (show i < dens.length from hi)]; rfl) hg hW.lt (by omega) (by omega))
  have HS := Lib.hid hs
  clear hs
  go_enter Tryz.func50, Tryz.ntmps50
  go_wp2_with fail
  refine (Range_any b (-9) 9 w HS.out (by decide) (by decide) (by decide)).mono ?_
  rintro e w1 ⟨r, rfl, ⟨hr1, hr2⟩, hs1, hg1⟩
  have HS1 := Lib.hid hs1
  have HG1 := Lib.hid hg1
  have hb1 := hs1.lt
  clear hs1 hg1
  go_wp2_with fail
  refine (ROf_f r w1 (by omega) (by omega)).mono ?_
  rintro e w2 ⟨v2, rfl, hv2, hb2, hfr⟩
  have HAP := Lib.hid (hfr.apart hb1)
  obtain ⟨x2, X2, y2, z2, rfl⟩ := hv2.slice
  have hk := Blk.new w2 3 (dens.map (Value.int .i64))
  have hB0 : Below w2.heap.size w2 (w2.alloc (.cells #[.int .i64 1, .int .i64 1, .int .i64 1, .int .i64 2, .int .i64 3, .int .i64 4] 3)) := (Below.refl _ _).alloc (Nat.le_refl _) _
  have HV := Lib.hid (hv2.below hB0)
  have HS2 := Lib.hid ((HS1.out.below hb2).below hB0)
  have HG2 := Lib.hid (grown_bel (grown_bel HG1.out hb2) hB0)
  have hne : w2.heap.size ≠ b := by have := hb2.size; omega
  have HP := Lib.hid (HPK.out _ _ hk HS2.out hne)
  clear hv2 hfr hb2 hk hne
  go_wp2_with fail
  refine HP.out.mono ?_
  rintro e w3 ⟨i, hi, rfl, hs3, hg3⟩
  obtain ⟨hd1, hd2⟩ := dens_get i
  have HV3 := Lib.hid (HV.out.grown HAP.out hg3)
  have HS3 := Lib.hid hs3
  have HG3 := Lib.hid (grown_trans HG2.out hg3)
  clear hs3 hg3 HP HV HS2 HG2 hB0
  generalize dens.getD i 1 = k at *
  go_wp2_with fail
  refine (ROf_any k w3 (by omega) (by omega)).mono ?_
  rintro e w4 ⟨v4, rfl, hv4, hb4⟩
  obtain ⟨x4, X4, y4, z4, rfl⟩ := hv4.slice
  have HV4 := Lib.hid hv4
  have HR4 := Lib.hid (HV3.out.below hb4)
  have HS4 := Lib.hid (HS3.out.below hb4)
  have HG4 := Lib.hid (grown_bel HG3.out hb4)
  have lr : (limbs r.natAbs).length ≤ 1 := limbs_small (by omega)
  have lk : (limbs k.natAbs).length ≤ 1 := limbs_small (by omega)
  have hk0 : k ≠ 0 := by omega
  have sz : Sz 1 (Rat.divInt r k) := Sz.divInt hk0 lr lk
  have HSM : Hid (Small1 (Rat.divInt r k)) := by
    have := divInt_le (n := r) hk0
    exact ⟨by omega, by omega⟩
  have E1 := Lib.hid (outR_fits HSM.out.fits)
  clear hv4 hb4
  go_wp2_with fail
  refine (RNew_num _ _ r k w4 HR4.out HV4.out (by omega) (by omega) hk0).mono ?_
  rintro e w5 ⟨v5, rfl, hv5, hb5⟩
  obtain ⟨x5, x5', X5, X5', y5, z5, y5', z5', rfl⟩ := hv5.slice
  have HF := Lib.hid hv5
  have HS5 := Lib.hid (HS4.out.below hb5)
  have HG5 := Lib.hid (grown_bel HG4.out hb5)
  clear hv5 hb5
  go_wp2_with fail
  refine (RFGive_any _ _ w5 HF.out (sz.mono (by omega))).mono ?_
  rintro e w6 ⟨rfl, hb6⟩
  have HS6 := Lib.hid (HS5.out.below hb6)
  have HG6 := Lib.hid (grown_bel HG5.out hb6)
  clear hb6
  go_wp2_with fail
  go_ret
  exact ⟨_, by rw [E1.out]; rfl, HSM.out, HS6.out, HG6.out⟩

/-- The texts that are nearly fractions. -/
def oddRats : List ByteArray := [⟨#[]⟩, ⟨#[49, 47, 49]⟩, ⟨#[50, 47, 52]⟩, ⟨#[49, 47, 45, 50]⟩, ⟨#[49, 47, 48]⟩, ⟨#[48, 47, 51]⟩, ⟨#[45, 49, 47, 50]⟩, ⟨#[49, 47, 50, 47, 51]⟩, ⟨#[47, 50]⟩, ⟨#[49, 47]⟩, ⟨#[45, 48]⟩, ⟨#[55]⟩, ⟨#[49, 50, 51, 52, 53, 54, 55, 56, 57, 48, 49, 50, 51, 52, 53, 54, 55, 56, 57, 48, 47, 55]⟩]
theorem oddRats_size (i : Nat) : (oddRats.getD i ⟨#[]⟩).size ≤ 22 := by
  by_cases h : i < oddRats.length
  · have : ∀ s ∈ oddRats, s.size ≤ 22 := by decide
    rw [List.getD_eq_getElem?_getD, List.getElem?_eq_getElem h]
    exact this _ (List.getElem_mem h)
  · rw [List.getD_eq_getElem?_getD, List.getElem?_eq_none (by omega)]
    decide

set_option maxRecDepth 100000 in
set_option maxHeartbeats 1000000 in
theorem OddRat_any (b : Nat) (w : World) (hs : Src w b) :
    Calls Tryz.prog 51 #[.pointer (some ⟨b, 0, none⟩)] w fun e w' => ∃ s : ByteArray, e = .returned (.string s) ∧ s.size ≤ 22 ∧ Src w' b ∧ w.grownBy w' (some b) := by
  have HB := Lib.hid (Blk.new w 9 (oddRats.map Value.string))
  have HO : Hid (∀ o : Obj, w.grownBy (w.alloc o) (some b)) := fun o => World.grownBy_alloc _ _ _
  have hlt := hs.lt
  have HC := Lib.hid (fun (W : World) (hW : Blk W w.heap.size 9 (oddRats.map Value.string)) (hS : Src W b) => MText_any b w.heap.size 13 (fun i => oddRats.getD i ⟨#[]⟩) W hS (fun i hi => by
    rw [hW.cell, List.getElem?_map, List.getD_eq_getElem?_getD, List.getElem?_eq_getElem (show i < oddRats.length from hi)]; rfl) (by omega) hW.lt (by omega) (by omega))
  have HSA := Lib.hid (fun o => src_alloc hs o)
  clear hs
  go_enter Tryz.func51, Tryz.ntmps51
  go_wp2_with fail
  refine (HC.out _ HB.out (HSA.out _)).mono ?_
  rintro e w1 ⟨i, hi, rfl, hs1, hg1⟩
  have HS1 := Lib.hid hs1
  have HG1 := Lib.hid (grown_trans (HO.out _) hg1)
  clear hs1 hg1
  go_wp2_with fail
  go_ret
  exact ⟨_, rfl, oddRats_size i, HS1.out, HG1.out⟩

end Go.Proofs.YtecklmdlmldpgaaGreatDoor

namespace Go.Proofs.YtecklmdlmldpgaaGreatDoor
open Go.RowKit

theorem agRParts (s : ByteArray) (hs : s.size ≤ 4000000000) : ∃ (p q : ByteArray) (b : Bool), (∀ w, Env w → Calls Tryz.prog 34 #[.string s] w fun e w' => e = .returned (.tuple #[.string p, .string q, .bool b]) ∧ Below w.heap.size w w') ∧ (∀ w, Calls Tryz.prog 17 #[.string s] w fun e w' => e = .returned (.tuple #[.string p, .string q, .bool b]) ∧ Below w.heap.size w w') := by
  cases h : vR s
  · refine ⟨⟨#[]⟩, ⟨#[]⟩, false, fun w he => ?_, fun w => RFParts_bad s w hs h⟩
    have := RatParts_bad s.data.toList w (by rw [ba_size]; exact hs) he h
    rwa [ba_list] at this
  · obtain ⟨q, rfl, hf⟩ := vR_ex h
    exact ⟨str q.num, str (q.den : Int), true, fun w he => RatParts_ok q w hf he, fun w => RFParts_ok q w hf⟩
theorem agRFloor (s : ByteArray) (hs : s.size ≤ 4000000000) : ∃ (p : ByteArray) (c : Int), (∀ w, Env w → Calls Tryz.prog 40 #[.string s] w fun e w' => e = .returned (.tuple #[.string p, .int .i64 c]) ∧ Below w.heap.size w w') ∧ (∀ w, Calls Tryz.prog 54 #[.string s] w fun e w' => e = .returned (.tuple #[.string p, .int .i64 c]) ∧ Below w.heap.size w w') := by
  cases h : vR s
  · refine ⟨⟨#[]⟩, 1, fun w he => ?_, fun w => RFFloor_bad s w hs h⟩
    have := RatFloor_bad s.data.toList w (by rw [ba_size]; exact hs) he h
    rwa [ba_list] at this
  · obtain ⟨q, rfl, hf⟩ := vR_ex h
    exact ⟨str q.floor, 0, fun w he => RatFloor_ok q w hf he, fun w => RFFloor_ok q w hf⟩
theorem agRDigits (s : ByteArray) (hs : s.size ≤ 4000000000) : ∃ (c : Int), (∀ w, Env w → Calls Tryz.prog 56 #[.string s] w fun e w' => e = .returned (.int .i64 c) ∧ Below w.heap.size w w') ∧ (∀ w, Calls Tryz.prog 57 #[.string s] w fun e w' => e = .returned (.int .i64 c) ∧ Below w.heap.size w w') := by
  cases h : vR s
  · refine ⟨0, fun w he => ?_, fun w => RFDigits_bad s w hs h⟩
    have := RatDigits_bad s.data.toList w (by rw [ba_size]; exact hs) he h
    rwa [ba_list] at this
  · obtain ⟨q, rfl, hf⟩ := vR_ex h
    exact ⟨(digR q : Int), fun w he => RatDigits_ok q w hf he, fun w => RFDigits_ok q w hf⟩
theorem agRSign (s : ByteArray) (hs : s.size ≤ 4000000000) : ∃ (c : Int), (∀ w, Env w → Calls Tryz.prog 49 #[.string s] w fun e w' => e = .returned (.int .i64 c) ∧ Below w.heap.size w w') ∧ (∀ w, Calls Tryz.prog 58 #[.string s] w fun e w' => e = .returned (.int .i64 c) ∧ Below w.heap.size w w') := by
  cases h : vR s
  · refine ⟨0, fun w he => ?_, fun w => RFSignT_bad s w hs h⟩
    have := RatSign_bad s.data.toList w (by rw [ba_size]; exact hs) he h
    rwa [ba_list] at this
  · obtain ⟨q, rfl, hf⟩ := vR_ex h
    exact ⟨sgR q, fun w he => RatSign_ok q w hf he, fun w => RFSignT_ok q w hf⟩
theorem agRCompare (s t : ByteArray) (hs : s.size ≤ 4000000000) (ht : t.size ≤ 4000000000) : ∃ (c : Int), (∀ w, Env w → Calls Tryz.prog 48 #[.string s, .string t] w fun e w' => e = .returned (.int .i64 c) ∧ Below w.heap.size w w') ∧ (∀ w, Calls Tryz.prog 59 #[.string s, .string t] w fun e w' => e = .returned (.int .i64 c) ∧ Below w.heap.size w w') := by
  cases h : (vR s && vR t)
  · exact ⟨0, fun w he => RatCompare_bad s t w hs ht he h, fun w => RFCompare_bad s t w hs ht h⟩
  · obtain ⟨h1, h2⟩ := Bool.and_eq_true_iff.1 h
    obtain ⟨a, rfl, fa⟩ := vR_ex h1
    obtain ⟨b, rfl, fb⟩ := vR_ex h2
    exact ⟨sgR (a - b), fun w he => RatCompare_ok a b w fa fb he, fun w => RFCompare_ok a b w fa fb⟩
theorem agRAdd (s t : ByteArray) (hs : s.size ≤ 4000000000) (ht : t.size ≤ 4000000000) : ∃ (r : ByteArray) (c : Int), (∀ w, Env w → Calls Tryz.prog 41 #[.string s, .string t] w fun e w' => e = .returned (.tuple #[.string r, .int .i64 c]) ∧ Below w.heap.size w w') ∧ (∀ w, Calls Tryz.prog 60 #[.string s, .string t] w fun e w' => e = .returned (.tuple #[.string r, .int .i64 c]) ∧ Below w.heap.size w w') := by
  cases h : (vR s && vR t)
  · exact ⟨⟨#[]⟩, 1, fun w he => RatAdd_bad s t w hs ht he h, fun w => RFAddT_bad s t w hs ht h⟩
  · obtain ⟨h1, h2⟩ := Bool.and_eq_true_iff.1 h
    obtain ⟨a, rfl, fa⟩ := vR_ex h1
    obtain ⟨b, rfl, fb⟩ := vR_ex h2
    exact ⟨outR (a + b), outRE (a + b), fun w he => RatAdd_ok a b w fa fb he, fun w => RFAddT_ok a b w fa fb⟩
theorem agRSub (s t : ByteArray) (hs : s.size ≤ 4000000000) (ht : t.size ≤ 4000000000) : ∃ (r : ByteArray) (c : Int), (∀ w, Env w → Calls Tryz.prog 44 #[.string s, .string t] w fun e w' => e = .returned (.tuple #[.string r, .int .i64 c]) ∧ Below w.heap.size w w') ∧ (∀ w, Calls Tryz.prog 61 #[.string s, .string t] w fun e w' => e = .returned (.tuple #[.string r, .int .i64 c]) ∧ Below w.heap.size w w') := by
  cases h : (vR s && vR t)
  · exact ⟨⟨#[]⟩, 1, fun w he => RatSub_bad s t w hs ht he h, fun w => RFSubT_bad s t w hs ht h⟩
  · obtain ⟨h1, h2⟩ := Bool.and_eq_true_iff.1 h
    obtain ⟨a, rfl, fa⟩ := vR_ex h1
    obtain ⟨b, rfl, fb⟩ := vR_ex h2
    exact ⟨outR (a - b), outRE (a - b), fun w he => RatSub_ok a b w fa fb he, fun w => RFSubT_ok a b w fa fb⟩
theorem agRMul (s t : ByteArray) (hs : s.size ≤ 4000000000) (ht : t.size ≤ 4000000000) : ∃ (r : ByteArray) (c : Int), (∀ w, Env w → Calls Tryz.prog 45 #[.string s, .string t] w fun e w' => e = .returned (.tuple #[.string r, .int .i64 c]) ∧ Below w.heap.size w w') ∧ (∀ w, Calls Tryz.prog 62 #[.string s, .string t] w fun e w' => e = .returned (.tuple #[.string r, .int .i64 c]) ∧ Below w.heap.size w w') := by
  cases h : (vR s && vR t)
  · exact ⟨⟨#[]⟩, 1, fun w he => RatMul_bad s t w hs ht he h, fun w => RFMulT_bad s t w hs ht h⟩
  · obtain ⟨h1, h2⟩ := Bool.and_eq_true_iff.1 h
    obtain ⟨a, rfl, fa⟩ := vR_ex h1
    obtain ⟨b, rfl, fb⟩ := vR_ex h2
    exact ⟨outR (a * b), outRE (a * b), fun w he => RatMul_ok a b w fa fb he, fun w => RFMulT_ok a b w fa fb⟩
theorem agRDiv (s t : ByteArray) (hs : s.size ≤ 4000000000) (ht : t.size ≤ 4000000000) : ∃ (r : ByteArray) (c : Int), (∀ w, Env w → Calls Tryz.prog 47 #[.string s, .string t] w fun e w' => e = .returned (.tuple #[.string r, .int .i64 c]) ∧ Below w.heap.size w w') ∧ (∀ w, Calls Tryz.prog 63 #[.string s, .string t] w fun e w' => e = .returned (.tuple #[.string r, .int .i64 c]) ∧ Below w.heap.size w w') := by
  cases h : (vR s && vR t)
  · exact ⟨⟨#[]⟩, 1, fun w he => RatDiv_bad s t w hs ht he h, fun w => RFDivT_bad s t w hs ht h⟩
  · obtain ⟨h1, h2⟩ := Bool.and_eq_true_iff.1 h
    obtain ⟨a, rfl, fa⟩ := vR_ex h1
    obtain ⟨b, rfl, fb⟩ := vR_ex h2
    by_cases hb0 : b = 0
    · subst hb0
      exact ⟨⟨#[]⟩, 4, fun w he => RatDiv_zero a w fa he, fun w => RFDivT_zero a w fa⟩
    · exact ⟨outR (a / b), outRE (a / b), fun w he => RatDiv_ok a b w fa fb hb0 he, fun w => RFDivT_ok a b w fa fb hb0⟩
theorem valid_strR {s : ByteArray} (h : validB s.data.toList = true) : ∃ x, s = str x ∧ Fits x := by
  obtain ⟨x, hx, hf⟩ := valid_ex h
  refine ⟨x, ?_, hf⟩
  rw [← ba_list s, hx]
  rfl
theorem agRMake (s t : ByteArray) (hs : s.size ≤ 4000000000) (ht : t.size ≤ 4000000000) : ∃ (r : ByteArray) (c : Int), (∀ w, Env w → Calls Tryz.prog 36 #[.string s, .string t] w fun e w' => e = .returned (.tuple #[.string r, .int .i64 c]) ∧ Below w.heap.size w w') ∧ (∀ w, Calls Tryz.prog 16 #[.string s, .string t] w fun e w' => e = .returned (.tuple #[.string r, .int .i64 c]) ∧ Below w.heap.size w w') := by
  cases h : (validB s.data.toList && validB t.data.toList)
  · refine ⟨⟨#[]⟩, 1, fun w he => ?_, fun w => ?_⟩
    · have := RatMake_bad s.data.toList t.data.toList w (by rw [ba_size]; omega) (by rw [ba_size]; omega) h
      rwa [ba_list, ba_list] at this
    · have := RFMake_bad s.data.toList t.data.toList w (by rw [ba_size]; omega) (by rw [ba_size]; omega) h
      rwa [ba_list, ba_list] at this
  · obtain ⟨h1, h2⟩ := Bool.and_eq_true_iff.1 h
    obtain ⟨n, rfl, fn⟩ := valid_strR h1
    obtain ⟨m, rfl, fm⟩ := valid_strR h2
    by_cases hm : m = 0
    · subst hm
      exact ⟨⟨#[]⟩, 4, fun w _ => RatMake_zero n w fn, fun w => RFMake_zero n w fn⟩
    · exact ⟨outR (Rat.divInt n m), outRE (Rat.divInt n m), fun w he => RatMake_ok n m w fn fm hm he, fun w => RFMake_ok n m w fn fm hm⟩

end Go.Proofs.YtecklmdlmldpgaaGreatDoor
