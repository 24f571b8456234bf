/-
  Package joinlearnref01: times.
-/
import Derived.Test.YtmickdolpgjbhaaGreatDoorRefB
namespace Go.Proofs.YtmickdolpgjbhaaGreatDoor
open Go.RowKit

/-- The result is the row of the limbs of n, none of them 0 at the end. -/
def RetLimbs (w : World) (n : Nat) (e : Ending) (w' : World) : Prop := ∃ v, e = .returned v ∧ IsRow w' v (limbs n) ∧ Below w.heap.size w w'

set_option maxRecDepth 100000 in
set_option maxHeartbeats 4000000 in
theorem rtimes_any (A : Option Addr) (a n c : Nat) (w : World) (ha : Cells .i64 w A (limbs a)) (hla : (limbs a).length ≤ 100000000) (hn : n < 1000000000) :
    Calls Tryz.prog 68 #[.slice A (limbs a).length c, .int .i64 (n : Int)] w (RetLimbs w (n * a)) := by
  obtain ⟨i0, hi, hz0, hz1, hz2⟩ := info_parts Tryz.infoInt
  have HLA := Lib.hid (show ∀ i, nth (limbs a) i < 1000000000 from (Low.limbs a).nth)
  have HA := Lib.hid ha
  clear ha
  go_enter Tryz.func68, Tryz.ntmps68
  go_wp2_with fail
  go_loopw [5, 6, 7] (fun v cy i wr => ∃ (k cr : Nat) (os : List Nat), k ≤ (limbs a).length + 1 ∧ i = .int .i64 (k : Int) ∧ cr < 1000000000 ∧ cy = .int .i64 (cr : Int) ∧ (k = (limbs a).length + 1 → cr = 0) ∧ os.length = k ∧ Low os ∧ wr.ownsRow w.heap.size 3 1 v os.length (vn os) ∧ Below w.heap.size w wr ∧ val os + cr * 1000000000 ^ k = n * val ((limbs a).take k)) (fun _ _ i _ => (limbs a).length + 1 - (intOf i).toNat)
  case atStart => exact ⟨0, 0, [], Nat.zero_le _, rfl, by omega, rfl, by omega, rfl, Low.nil, World.ownsRow_nil _ _ _ _, Below.refl _ _, by simp [val]⟩
  case round =>
    obtain ⟨k, cr, os, hk, rfl, hcr, rfl, hlast, hlen, hlow, hown, hbel, hv⟩ := hrel
    have HLOW := Lib.hid hlow
    have HLEN := Lib.hid hlen
    have HOWN := Lib.hid hown
    have HBEL := Lib.hid hbel
    have HV := Lib.hid hv
    have HLAST := Lib.hid hlast
    have hol : os.length ≤ 100000001 := by omega
    have hsz := hbel.size
    have hxk := HLA.out k
    clear hlow hlen hown hbel hv hlast

    by_cases h1 : k < (limbs a).length
    ·
      obtain ⟨g, off, eg, hg, hc⟩ := HA.out (by intro e; rw [e] at h1; simp at h1)
      subst eg
      have hca : wr.cell? ⟨g, off + k, none⟩ = some (.int .i64 ((nth (limbs a) k : Nat) : Int)) := (HBEL.out.cell (p := ⟨g, off + k, none⟩) hg).trans (hc k h1)
      clear hc
      have hm0 : nth (limbs a) k * n ≤ 999999999 * 999999999 := Nat.mul_le_mul (by omega) (by omega)
      have em : (nth (limbs a) k : Int) * (n : Int) = ((nth (limbs a) k * n : Nat) : Int) := by rw [Int.natCast_mul]
      have hm : (nth (limbs a) k : Int) * (n : Int) ≤ 999999998000000001 := by rw [em]; omega
      have hmp : 0 ≤ (nth (limbs a) k : Int) * (n : Int) := by rw [em]; omega
      have EM := Lib.hid em
      clear em
      have HT : Hid ((cr : Int) + (nth (limbs a) k : Int) * (n : Int) = ((cr + nth (limbs a) k * n : Nat) : Int)) := by
        rw [EM.out]; show _ = _; omega
      have hcl : k < (limbs a).length + 1 := by have := HLAST.out; omega
      go_wp2_with (at_builtin; refine wpList_append_own _ rfl _ _ 22 rfl w.heap.size 3 i0 (.int .i64 0) 1 8 Tryz.underlying22 hi hz0 hz1 hz2 rfl (by decide) _ _ _ rfl (HOWN.out.alloc _) ⟨wr.heap.size, 0, none⟩ 1 1 [_] rfl rfl one_new one_cell (by unfold maxLen; omega) (by omega) (by simp; omega) ?_)
      intro v' w1 hown1 hgrow1 _
      obtain ⟨ho1, hb1⟩ := own_push HOWN.out HBEL.out hown1 hgrow1 (x := (cr + nth (limbs a) k * n) % 1000000000) (by rw [HT.out]; rfl)
      have HO1 := Lib.hid ho1
      have HB1 := Lib.hid hb1
      clear hown1 hgrow1 ho1 hb1
      go_wp2_with fail
      go_roundw
      case rel =>
        have e1 : ((cr : Int) + (nth (limbs a) k : Int) * (n : Int)) / 1000000000 = (((cr + nth (limbs a) k * n) / 1000000000 : Nat) : Int) := by rw [HT.out]; rfl
        rw [e1]
        refine ⟨k + 1, _, _, by omega, by go_num, ?_, rfl, ?_, by simp [HLEN.out], HLOW.out.snoc (Nat.mod_lt _ (by omega)), HO1.out, HB1.out, times_step _ _ _ _ _ HLEN.out HV.out⟩
        · generalize nth (limbs a) k * n = m at *; omega
        · intro hkn
          rw [nth_ge (by omega), Nat.zero_mul]
          omega
      case measure => simp [intOf]; omega
    · by_cases h3 : 0 < cr
      ·
        have HT : Hid ((cr : Int) = ((cr + nth (limbs a) k * n : Nat) : Int)) := by
          rw [nth_ge (xs := limbs a) (i := k) (by omega), Nat.zero_mul]; show _ = _; omega
        have hcl : k < (limbs a).length + 1 := by have := HLAST.out; omega
        have hcp : decide (0 < (cr : Int)) = true := decide_eq_true (by omega)
        go_wp2_with (at_builtin; refine wpList_append_own _ rfl _ _ 22 rfl w.heap.size 3 i0 (.int .i64 0) 1 8 Tryz.underlying22 hi hz0 hz1 hz2 rfl (by decide) _ _ _ rfl (HOWN.out.alloc _) ⟨wr.heap.size, 0, none⟩ 1 1 [_] rfl rfl one_new one_cell (by unfold maxLen; omega) (by omega) (by simp; omega) ?_)
        intro v' w1 hown1 hgrow1 _
        obtain ⟨ho1, hb1⟩ := own_push HOWN.out HBEL.out hown1 hgrow1 (x := (cr + nth (limbs a) k * n) % 1000000000) (by rw [HT.out]; rfl)
        have HO1 := Lib.hid ho1
        have HB1 := Lib.hid hb1
        clear hown1 hgrow1 ho1 hb1
        go_wp2_with fail
        go_roundw
        case rel =>
          have e1 : ((cr : Int)) / 1000000000 = (((cr + nth (limbs a) k * n) / 1000000000 : Nat) : Int) := by rw [HT.out]; rfl
          rw [e1]
          refine ⟨k + 1, _, _, by omega, by go_num, ?_, rfl, ?_, by simp [HLEN.out], HLOW.out.snoc (Nat.mod_lt _ (by omega)), HO1.out, HB1.out, times_step _ _ _ _ _ HLEN.out HV.out⟩
          · rw [nth_ge (xs := limbs a) (i := k) (by omega), Nat.zero_mul]; omega
          · intro hkn
            rw [nth_ge (by omega), Nat.zero_mul]
            omega
        case measure => simp [intOf]; omega
      · have hcp : decide (0 < (cr : Int)) = false := decide_eq_false (by omega)
        obtain rfl : cr = 0 := by omega
        have E := HV.out
        rw [List.take_of_length_le (by omega), val_limbs, Nat.zero_mul, Nat.add_zero] at E
        have hrow := own_row HOWN.out
        have HTR := Lib.hid (rtrim_num false u5 os (n * a) wr hrow HLOW.out E (by have := HLEN.out; omega))
        obtain ⟨A5, c5, rfl, hl5, hc5⟩ := hrow
        clear E hl5 hc5 HOWN
        go_wp2_with fail
        refine HTR.out.mono ?_
        rintro e w2 ⟨v2, rfl, ⟨A2, c2, rfl, hl2, hc2⟩, hb2⟩
        have e1 : (sgnB false (n * a)).natAbs = n * a := sgnB_natAbs _ _
        rw [e1] at hl2 hc2
        have HR : Hid (RetLimbs w (n * a) (.returned (.slice A2 (limbs (sgnB false (n * a)).natAbs).length c2)) w2) := by
          rw [e1]
          exact ⟨_, rfl, ⟨A2, c2, rfl, hl2, hc2⟩, HBEL.out.trans (hb2.mono HBEL.out.size)⟩
        clear hl2 hc2 hb2 e1
        go_wp2_with fail
        go_ret
        exact HR.out

end Go.Proofs.YtmickdolpgjbhaaGreatDoor
