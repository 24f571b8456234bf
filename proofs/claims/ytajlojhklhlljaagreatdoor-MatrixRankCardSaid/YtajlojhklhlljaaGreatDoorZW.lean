import Derived.Test.YtajlojhklhlljaaGreatDoorZV
set_option maxHeartbeats 16000000
set_option maxRecDepth 100000
namespace Go.Proofs.YtajlojhklhlljaaGreatDoor
open Go.RowKit
theorem Range_any (b : Nat) (lo hi : Int) (w : World) (hs : Src w b) (h1 : lo ≤ hi) (h2 : -100000 ≤ lo) (h3 : hi ≤ 100000) :
  Calls Tryz.prog 83 #[.pointer (some ⟨b, 0, none⟩), .int .i64 lo, .int .i64 hi] w fun e w' => ∃ r : Int, e = .returned (.int .i64 r) ∧ (lo ≤ r ∧ r ≤ hi) ∧ Src w' b ∧ w.grownBy w' (some b) := by
 have HN := Lib.hid (N_any b (hi - lo + 1) w hs (by omega) (by omega))
 clear hs
 go_enter Tryz.func83, Tryz.ntmps83
 go_wp2_with fail
 refine HN.out.mono ?_
 rintro e w1 ⟨r, rfl, hr, hs1, hg1⟩
 have HS1 := Lib.hid hs1
 have HG1 := Lib.hid hg1
 clear hs1 hg1
 go_wp2_with fail
 go_ret
 exact ⟨lo + (r : Int), rfl, ⟨by omega, by omega⟩, HS1.out, HG1.out⟩
theorem Pick_any (b g n : Nat) (S : Nat → Int) (w : World) (hs : Src w b) (hrow : ∀ i, i < n → w.cell? ⟨g, i, none⟩ = some (.int .i64 (S i))) (hgb : g ≠ b) (hg : g < w.heap.size) (hn1 : 1 ≤ n) (hn2 : n ≤ 1000) :
  Calls Tryz.prog 84 #[.pointer (some ⟨b, 0, none⟩), .slice (some ⟨g, 0, none⟩) n n] w fun e w' => ∃ i, i < n ∧ e = .returned (.int .i64 (S i)) ∧ Src w' b ∧ w.grownBy w' (some b) := by
 have HS := Lib.hid hs
 have HROW := Lib.hid hrow
 clear hs hrow
 go_enter Tryz.func84, Tryz.ntmps84
 go_wp2_with fail
 refine (N_any b (n : Int) w HS.out (by omega) (by omega)).mono ?_
 rintro e w1 ⟨r, rfl, hr, hs1, hg1⟩
 have hcell : w1.cell? ⟨g, r, none⟩ = some (.int .i64 (S r)) := (World.cell?_of_block (w := w) (a := ⟨g, r, none⟩) (hg1.block g hg (fun e => hgb (by injection e)))).trans (HROW.out r (by omega))
 have HS1 := Lib.hid hs1
 have HG1 := Lib.hid hg1
 have hrn : r < n := by omega
 clear hs1 hg1
 go_wp2_with fail
 go_ret
 exact ⟨r, hrn, rfl, HS1.out, HG1.out⟩
def Small1 (q : Rat) : Prop := q.num.natAbs ≤ 9 ∧ q.den ≤ 4
theorem Small1.dig {q : Rat} (h : Small1 q) : DigR 1 q := ⟨by unfold Dig; have := h.1; omega, by unfold Dig; have := h.2; omega⟩
theorem Small1.fits {q : Rat} (h : Small1 q) : FitsR q := h.dig.fits (by decide) (by decide)
def dens : List Int := [1, 1, 1, 2, 3, 4]
theorem dens_get (i : Nat) : 1 ≤ dens.getD i 1 ∧ dens.getD i 1 ≤ 4 := by
 by_cases h : i < dens.length
 ·have : ∀ s ∈ dens, 1 ≤ s ∧ s ≤ 4 := by decide
  rw [List.getD_eq_getElem?_getD, List.getElem?_eq_getElem h]
  exact this _ (List.getElem_mem h)
 ·rw [List.getD_eq_getElem?_getD, List.getElem?_eq_none (by omega)]
  decide
def RetRat (w : World) (b : Nat) (e : Ending) (w' : World) : Prop := ∃ q : Rat, e = .returned (.string (rstr q)) ∧ Small1 q ∧ Src w' b ∧ w.grownBy w' (some b)
theorem MRat_any (b : Nat) (w : World) (hs : Src w b) : Calls Tryz.prog 19 #[.pointer (some ⟨b, 0, none⟩)] w (RetRat w b) := by
 have HPK := Lib.hid (fun (W : World) (g : Nat) (hW : Blk W g 3 (dens.map (Value.int .i64))) (hS : Src W b) (hg : g ≠ b) => Pick_any b g 6 (fun i => dens.getD i 1) W hS (fun i hi => by
  rw [hW.cell, List.getElem?_map, List.getD_eq_getElem?_getD, List.getElem?_eq_getElem (show i < dens.length from hi)]; rfl) hg hW.lt (by omega) (by omega))
 have HS := Lib.hid hs
 clear hs
 go_enter Tryz.func19, Tryz.ntmps19
 go_wp2_with fail
 refine (Range_any b (-9) 9 w HS.out (by decide) (by decide) (by decide)).mono ?_
 rintro e w1 ⟨r, rfl, ⟨hr1, hr2⟩, hs1, hg1⟩
 have HS1 := Lib.hid hs1
 have HG1 := Lib.hid hg1
 have hb1 := hs1.lt
 clear hs1 hg1
 go_wp2_with fail
 refine (ROf_f r w1 (by omega) (by omega)).mono ?_
 rintro e w2 ⟨v2, rfl, hv2, hb2, hfr⟩
 have HAP := Lib.hid (hfr.apart hb1)
 obtain ⟨x2, X2, y2, z2, rfl⟩ := hv2.slice
 have hk := Blk.new w2 3 (dens.map (Value.int .i64))
 have hB0 : Below w2.heap.size w2 (w2.alloc (.cells #[.int .i64 1, .int .i64 1, .int .i64 1, .int .i64 2, .int .i64 3, .int .i64 4] 3)) := (Below.refl _ _).alloc (Nat.le_refl _) _
 have HV := Lib.hid (hv2.below hB0)
 have HS2 := Lib.hid ((HS1.out.below hb2).below hB0)
 have HG2 := Lib.hid (grown_bel (grown_bel HG1.out hb2) hB0)
 have hne : w2.heap.size ≠ b := by have := hb2.size; omega
 have HP := Lib.hid (HPK.out _ _ hk HS2.out hne)
 clear hv2 hfr hb2 hk hne
 go_wp2_with fail
 refine HP.out.mono ?_
 rintro e w3 ⟨i, hi, rfl, hs3, hg3⟩
 obtain ⟨hd1, hd2⟩ := dens_get i
 have HV3 := Lib.hid (HV.out.grown HAP.out hg3)
 have HS3 := Lib.hid hs3
 have HG3 := Lib.hid (grown_trans HG2.out hg3)
 clear hs3 hg3 HP HV HS2 HG2 hB0
 generalize dens.getD i 1 = k at *
 go_wp2_with fail
 refine (ROf_any k w3 (by omega) (by omega)).mono ?_
 rintro e w4 ⟨v4, rfl, hv4, hb4⟩
 obtain ⟨x4, X4, y4, z4, rfl⟩ := hv4.slice
 have HV4 := Lib.hid hv4
 have HR4 := Lib.hid (HV3.out.below hb4)
 have HS4 := Lib.hid (HS3.out.below hb4)
 have HG4 := Lib.hid (grown_bel HG3.out hb4)
 have lr : (limbs r.natAbs).length ≤ 1 := limbs_small (by omega)
 have lk : (limbs k.natAbs).length ≤ 1 := limbs_small (by omega)
 have hk0 : k ≠ 0 := by omega
 have sz : Sz 1 (Rat.divInt r k) := Sz.divInt hk0 lr lk
 have HSM : Hid (Small1 (Rat.divInt r k)) := by
  have := divInt_le (n := r) hk0
  exact ⟨by omega, by omega⟩
 have E1 := Lib.hid (outR_fits HSM.out.fits)
 clear hv4 hb4
 go_wp2_with fail
 refine (RNew_num _ _ r k w4 HR4.out HV4.out (by omega) (by omega) hk0).mono ?_
 rintro e w5 ⟨v5, rfl, hv5, hb5⟩
 obtain ⟨x5, x5', X5, X5', y5, z5, y5', z5', rfl⟩ := hv5.slice
 have HF := Lib.hid hv5
 have HS5 := Lib.hid (HS4.out.below hb5)
 have HG5 := Lib.hid (grown_bel HG4.out hb5)
 clear hv5 hb5
 go_wp2_with fail
 refine (RFGive_any _ _ w5 HF.out (sz.mono (by omega))).mono ?_
 rintro e w6 ⟨rfl, hb6⟩
 have HS6 := Lib.hid (HS5.out.below hb6)
 have HG6 := Lib.hid (grown_bel HG5.out hb6)
 clear hb6
 go_wp2_with fail
 go_ret
 exact ⟨_, by rw [E1.out]; rfl, HSM.out, HS6.out, HG6.out⟩
def oddRats : List ByteArray := [⟨#[]⟩, ⟨#[49, 47, 49]⟩, ⟨#[50, 47, 52]⟩, ⟨#[49, 47, 45, 50]⟩, ⟨#[49, 47, 48]⟩, ⟨#[48, 47, 51]⟩, ⟨#[45, 49, 47, 50]⟩, ⟨#[49, 47, 50, 47, 51]⟩, ⟨#[47, 50]⟩, ⟨#[49, 47]⟩, ⟨#[45, 48]⟩, ⟨#[55]⟩, ⟨#[49, 50, 51, 52, 53, 54, 55, 56, 57, 48, 49, 50, 51, 52, 53, 54, 55, 56, 57, 48, 47, 55]⟩]
end Go.Proofs.YtajlojhklhlljaaGreatDoor
