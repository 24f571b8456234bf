/-
  Package integer and its reference agree on all texts.
-/
import Derived.Test.YtnjccldjlpkgkaaGreatDoorZJ
import Derived.Test.YtnjccldjlpkgkaaGreatDoorZF
import Derived.Test.YtnjccldjlpkgkaaGreatDoorZK
namespace Go.Proofs.YtnjccldjlpkgkaaGreatDoor
open Go.RowKit

theorem val_drop_le (n k : Nat) : val ((limbs n).drop k) ≤ n := by
  have h := val_split (limbs n) k
  rw [val_limbs] at h
  have h1 : 1 * val ((limbs n).drop k) ≤ 1000000000 ^ (min k (limbs n).length) * val ((limbs n).drop k) := Nat.mul_le_mul_right _ (pow_pos' _)
  omega

set_option maxRecDepth 100000 in
set_option maxHeartbeats 2000000 in
theorem RSmall_ok (x : Int) (w : World) (hf : Fits x) : Calls Tryz.prog 10 #[.string (str x)] w fun e w' => e = .returned (.tuple #[.int .i64 (smallV x), .bool (smallB x)]) ∧ Below w.heap.size w w' := by
  have HF := Lib.hid hf
  have hlen := hf.len
  have hdx : (Lib.decDigits x.natAbs).length ≤ 1000000 := by unfold Fits at hf; omega
  have hlm : (limbs (4611686018427387904 : Int).natAbs).length ≤ 10 := limbs_length_le (by omega)
  have HMOST := Lib.hid (fun W => ROf_any 4611686018427387904 W (by omega) (by omega))
  generalize hmost : (4611686018427387904 : Int) = most at hlm HMOST
  have HME := Lib.hid hmost
  clear hf hmost
  go_enter Tryz.func10, Tryz.ntmps10
  go_wp2_with fail
  refine (RValid_ok x w HF.out).mono ?_
  rintro e w1 ⟨rfl, hb1⟩
  have HB1 := Lib.hid hb1
  clear hb1
  go_wp2_with fail
  refine (RRead_any x w1 hdx).mono ?_
  rintro e w2 ⟨v2, rfl, ⟨A, c, rfl, hlc, hc⟩, hb2⟩
  have HB2 := Lib.hid (HB1.out.trans (hb2.mono HB1.out.size))
  generalize hna : decide (x < 0) = na at *
  have HNA := Lib.hid hna
  have HC := Lib.hid hc
  have HW : Hid (Below w2.heap.size w2 (w2.alloc (.cells #[.bool na, .slice A (limbs x.natAbs).length c] 60))) := (Below.refl _ _).alloc (Nat.le_refl _) _
  have HK := Lib.hid (Blk.new w2 60 [.bool na, .slice A (limbs x.natAbs).length c])
  clear hb2 hc hna
  go_wp2_with fail
  generalize w2.alloc (.cells #[.bool na, .slice A (limbs x.natAbs).length c] 60) = W2 at *
  have hcall := HMOST.out W2
  rw [HME.out.symm] at hcall
  refine hcall.mono ?_
  clear hcall
  rw [HME.out]
  rintro e w3 ⟨v3, rfl, ⟨A3, c3, rfl, hlc3, hc3⟩, hb3⟩
  have HC2 := Lib.hid ((HC.out.below HW.out).below hb3)
  have HK3 := Lib.hid (HK.out.below hb3)
  have HB3 := Lib.hid ((HB2.out.trans (HW.out.mono HB2.out.size)).trans (hb3.mono (Nat.le_trans HB2.out.size HW.out.size)))
  have HC3 := Lib.hid hc3
  generalize decide (most < 0) = nm at *
  have HW3 : Hid (Below w3.heap.size w3 (w3.alloc (.cells #[.bool nm, .slice A3 (limbs most.natAbs).length c3] 60))) := (Below.refl _ _).alloc (Nat.le_refl _) _
  have HK5 := Lib.hid (Blk.new w3 60 [.bool nm, .slice A3 (limbs most.natAbs).length c3])
  clear hc3 hb3
  go_upto_region 5 with (fail)
  generalize w3.alloc (.cells #[.bool nm, .slice A3 (limbs most.natAbs).length c3] 60) = W3 at *
  have HK4 := Lib.hid (HK3.out.below HW3.out)
  have h40 : W3.cell? ⟨w2.heap.size, 0, none⟩ = some (.bool na) := HK4.out.at_ rfl
  have h41 : W3.cell? ⟨w2.heap.size, 1, none⟩ = some (.slice A (limbs x.natAbs).length c) := HK4.out.at_ rfl
  have h51 : W3.cell? ⟨w3.heap.size, 1, none⟩ = some (.slice A3 (limbs most.natAbs).length c3) := HK5.out.at_ rfl
  go_wp2_with fail
  refine (rsize_any A A3 x.natAbs most.natAbs c c3 W3 (HC2.out.below HW3.out) (HC3.out.below HW3.out) (by omega) (by omega)).mono ?_
  rintro e w4 ⟨rfl, hb4⟩
  have HB4 := Lib.hid ((HB3.out.trans (HW3.out.mono HB3.out.size)).trans (hb4.mono (Nat.le_trans HB3.out.size HW3.out.size)))
  have HC4 := Lib.hid ((HC2.out.below HW3.out).below hb4)
  have HK44 := Lib.hid (HK4.out.below hb4)
  clear hb4 h40 h41 h51
  have h40 : w4.cell? ⟨w2.heap.size, 0, none⟩ = some (.bool na) := HK44.out.at_ rfl
  have h41 : w4.cell? ⟨w2.heap.size, 1, none⟩ = some (.slice A (limbs x.natAbs).length c) := HK44.out.at_ rfl
  have hma : most.natAbs = 4611686018427387904 := by rw [← HME.out]; rfl
  by_cases hb : x.natAbs ≤ 4611686018427387904
  · have E1 := Lib.hid (show smallV x = x by unfold smallV; rw [if_pos hb])
    have E2 := Lib.hid (show smallB x = true by unfold smallB; exact decide_eq_true hb)
    obtain ⟨cm, hcm, hcm0⟩ : ∃ cm : Int, cm = cmpN x.natAbs most.natAbs ∧ ¬ 0 < cm := ⟨_, rfl, by
      rw [hma]
      rcases Nat.lt_or_eq_of_le hb with h | h
      · rw [cmpN_lt h]; omega
      · rw [cmpN_eq h]; omega⟩
    rw [← hcm]
    have HBB := Lib.hid hb
    have HVL : Hid (∀ k, (val ((limbs x.natAbs).drop k) : Int) ≤ 4611686018427387904) := fun k => by have := val_drop_le x.natAbs k; omega
    have HLA := Lib.hid (show ∀ i, nth (limbs x.natAbs) i < 1000000000 from (Low.limbs _).nth)
    clear hcm hma hb
    go_wp2_with fail
    go_loop [6, 7] (fun nv iv => ∃ (k : Nat) (m : Nat), k ≤ (limbs x.natAbs).length ∧ iv = .int .i64 ((k : Int) - 1) ∧ nv = .int .i64 (m : Int) ∧ m = val ((limbs x.natAbs).drop k)) (fun _ iv => (intOf iv + 1).toNat)
    case atStart => exact ⟨(limbs x.natAbs).length, 0, Nat.le_refl _, rfl, rfl, by rw [List.drop_length]; rfl⟩
    case round =>
      obtain ⟨k, m, hk, rfl, rfl, hm⟩ := hrel
      have HM := Lib.hid hm
      clear hm
      rcases Nat.eq_zero_or_pos k with h0 | h0
      · subst h0
        have hmx : m = x.natAbs := by rw [HM.out, List.drop_zero, val_limbs]
        have hmb : (m : Int) ≤ 4611686018427387904 := by rw [HM.out]; exact HVL.out 0
        have HMX := Lib.hid hmx
        clear hmx
        cases na
        · have hxx : (m : Int) = x := by
            have h1 : ¬ x < 0 := by simpa using HNA.out
            have := HMX.out
            omega
          have HXX := Lib.hid hxx
          clear hxx
          go_wp2_with fail
          go_ret2
          exact ⟨by rw [E1.out, E2.out, ← HXX.out]; rfl, HB4.out⟩
        · have hxx : -(m : Int) = x := by
            have h1 : x < 0 := by simpa using HNA.out
            have := HMX.out
            omega
          have HXX := Lib.hid hxx
          clear hxx
          go_wp2_with fail
          go_ret2
          exact ⟨by rw [E1.out, E2.out, ← HXX.out]; rfl, HB4.out⟩
      · obtain ⟨j, rfl⟩ : ∃ j, k = j + 1 := ⟨k - 1, by omega⟩
        obtain ⟨g, off, eA, hg, hcl⟩ := HC4.out (by intro e; rw [e] at hk; simp at hk)
        subst eA
        have hcell := hcl j (by omega)
        have hxj := HLA.out j
        have hnew : ((m * 1000000000 + nth (limbs x.natAbs) j : Nat) : Int) ≤ 4611686018427387904 := by
          have h1 := HVL.out j
          rw [val_drop, ← HM.out] at h1
          have e : m * 1000000000 + nth (limbs x.natAbs) j = nth (limbs x.natAbs) j + 1000000000 * m := by omega
          rw [e]; exact h1
        have HN2 : Hid (m * 1000000000 + nth (limbs x.natAbs) j = val ((limbs x.natAbs).drop j)) := by
          rw [val_drop, ← HM.out]
          show _ = _
          omega
        have hmm : (m : Int) * 1000000000 ≤ 4611686018427387904 := by omega
        clear hcl
        go_wp2_with fail
        go_round
        case rel => exact ⟨j, m * 1000000000 + nth (limbs x.natAbs) j, by omega, by go_num, congrArg (Value.int .i64) (by omega), HN2.out⟩
        case measure => simp [intOf]
  · have E1 := Lib.hid (show smallV x = 0 by unfold smallV; rw [if_neg hb])
    have E2 := Lib.hid (show smallB x = false by unfold smallB; exact decide_eq_false hb)
    obtain ⟨cm, hcm, hcm0⟩ : ∃ cm : Int, cm = cmpN x.natAbs most.natAbs ∧ 0 < cm := ⟨_, rfl, by
      rw [hma, cmpN_gt (by omega)]; omega⟩
    rw [← hcm]
    clear hcm hma hb
    go_wp2_with fail
    go_ret2
    exact ⟨by rw [E1.out, E2.out]; rfl, HB4.out⟩

set_option maxHeartbeats 1000000 in
theorem RSmall_bad (l : List UInt8) (w : World) (hl : l.length ≤ 140737488355328) (h : validB l = false) : Calls Tryz.prog 10 #[.string ⟨l.toArray⟩] w fun e w' => e = .returned (.tuple #[.int .i64 0, .bool false]) ∧ Below w.heap.size w w' := by
  have HV := Lib.hid (RValid_any l w hl)
  rw [h] at HV
  clear h
  go_enter Tryz.func10, Tryz.ntmps10
  go_wp2_with fail
  refine HV.out.mono ?_
  rintro e w1 ⟨rfl, hb1⟩
  have HB1 := Lib.hid hb1
  clear hb1
  go_wp2_with fail
  go_ret2
  exact ⟨rfl, HB1.out⟩

end Go.Proofs.YtnjccldjlpkgkaaGreatDoor

namespace Go.Proofs.YtnjccldjlpkgkaaGreatDoor
open Go.RowKit

theorem of_list (s : ByteArray) : s = ⟨s.data.toList.toArray⟩ := by cases s; simp
theorem list_size (s : ByteArray) : s.data.toList.length = s.size := Array.length_toList
theorem valid_str {s : ByteArray} (h : validB s.data.toList = true) : ∃ x, s = str x ∧ Fits x := by
  obtain ⟨x, hx, hf⟩ := valid_ex h
  refine ⟨x, ?_, hf⟩
  rw [of_list s, hx]
  rfl


set_option maxHeartbeats 1000000 in
theorem ISmall_bad (l : List UInt8) (w : World) (hl : l.length ≤ 140737488355328) (h : validB l = false) : Calls Tryz.prog 35 #[.string ⟨l.toArray⟩] w fun e w' => e = .returned (.tuple #[.int .i64 0, .bool false]) ∧ Below w.heap.size w w' := by
  have HV := Lib.hid (Valid_any l w hl)
  rw [h] at HV
  clear h
  go_enter Tryz.func35, Tryz.ntmps35
  go_wp2_with fail
  refine HV.out.mono ?_
  rintro e w1 ⟨rfl, hb1⟩
  have HB1 := Lib.hid hb1
  clear hb1
  go_wp2_with fail
  go_ret2
  exact ⟨rfl, HB1.out⟩


set_option maxRecDepth 100000 in
set_option maxHeartbeats 1000000 in
theorem ICompare_bad (l m : List UInt8) (w : World) (hl : l.length ≤ 140737488355328) (hm : m.length ≤ 140737488355328) (h : (validB l && validB m) = false) :
    Calls Tryz.prog 70 #[.string ⟨l.toArray⟩, .string ⟨m.toArray⟩] w fun e w' => e = .returned (.int .i64 0) ∧ Below w.heap.size w w' := by
  have HV := Lib.hid (Valid_any l w hl)
  cases h1 : validB l
  · rw [h1] at HV
    clear h1 h
    go_enter Tryz.func70, Tryz.ntmps70
    go_wp2_with fail
    refine HV.out.mono ?_
    rintro e w1 ⟨rfl, hb1⟩
    have HB1 := Lib.hid hb1
    clear hb1
    go_wp2_with fail
    go_ret
    exact ⟨rfl, HB1.out⟩
  · have h2 : validB m = false := by rw [h1] at h; simpa using h
    have HV2 := Lib.hid (fun W => Valid_any m W hm)
    rw [h1] at HV
    rw [h2] at HV2
    clear h1 h2 h
    go_enter Tryz.func70, Tryz.ntmps70
    go_wp2_with fail
    refine HV.out.mono ?_
    rintro e w1 ⟨rfl, hb1⟩
    have HB1 := Lib.hid hb1
    clear hb1
    go_wp2_with fail
    refine (HV2.out w1).mono ?_
    rintro e w2 ⟨rfl, hb2⟩
    have HB2 := Lib.hid (HB1.out.trans (hb2.mono HB1.out.size))
    clear hb2
    go_wp2_with fail
    go_ret
    exact ⟨rfl, HB2.out⟩


theorem agSmall (s : ByteArray) (hs : s.size ≤ 140737488355328) : ∃ (c : Int) (b : Bool), (∀ w, Calls Tryz.prog 35 #[.string s] w fun e w' => e = .returned (.tuple #[.int .i64 c, .bool b]) ∧ Below w.heap.size w w') ∧ (∀ w, Calls Tryz.prog 10 #[.string s] w fun e w' => e = .returned (.tuple #[.int .i64 c, .bool b]) ∧ Below w.heap.size w w') := by
  cases h : validB s.data.toList
  · refine ⟨0, false, fun w => ?_, fun w => ?_⟩
    · have := ISmall_bad s.data.toList w (by rw [list_size]; exact hs) h
      rwa [← of_list s] at this
    · have := RSmall_bad s.data.toList w (by rw [list_size]; exact hs) h
      rwa [← of_list s] at this
  · obtain ⟨x, rfl, hf⟩ := valid_str h
    exact ⟨smallV x, smallB x, fun w => ISmall_ok x w hf, fun w => RSmall_ok x w hf⟩


theorem agValid (s : ByteArray) (hs : s.size ≤ 140737488355328) : ∃ b : Bool, (∀ w, Calls Tryz.prog 57 #[.string s] w fun e w' => e = .returned (.bool b) ∧ Below w.heap.size w w') ∧ (∀ w, Calls Tryz.prog 26 #[.string s] w fun e w' => e = .returned (.bool b) ∧ Below w.heap.size w w') := by
  refine ⟨validB s.data.toList, fun w => ?_, fun w => ?_⟩
  · have := Valid_any s.data.toList w (by rw [list_size]; exact hs)
    rwa [← of_list s] at this
  · have := RValid_any s.data.toList w (by rw [list_size]; exact hs)
    rwa [← of_list s] at this


end Go.Proofs.YtnjccldjlpkgkaaGreatDoor
