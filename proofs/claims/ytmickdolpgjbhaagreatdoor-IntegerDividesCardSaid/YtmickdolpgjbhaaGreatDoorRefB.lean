/-
  Package joinlearnref01: plus, times.
-/
import Derived.Test.YtmickdolpgjbhaaGreatDoorRefA
namespace Go.Proofs.YtmickdolpgjbhaaGreatDoor
open Go.RowKit

/-- The result is a row of limbs that means n. -/
def RetLow (w : World) (n m : Nat) (e : Ending) (w' : World) : Prop := ∃ v xs, e = .returned v ∧ IsRow w' v xs ∧ Low xs ∧ val xs = n ∧ xs.length ≤ m ∧ Below w.heap.size w w'
theorem own_push {w wr w1 : World} {t e : TypeId} {v v' u : Value} {os : List Nat} {x : Nat} {X : Int} (h : wr.ownsRow w.heap.size e 1 v os.length (vn os)) (hb : Below w.heap.size w wr)
    (hown : w1.ownsRow w.heap.size e 1 v' (os.length + 1) (vn os ++ [.int .i64 X])) (hg : (wr.alloc (.cells #[u] t)).grownBy w1 v.ownBlock) (hX : X = (x : Int)) :
    w1.ownsRow w.heap.size e 1 v' (os ++ [x]).length (vn (os ++ [x])) ∧ Below w.heap.size w w1 := by
  subst hX
  refine ⟨?_, (hb.alloc hb.size _).grown hg (by have := hb.size; simp; omega) (fun g hg' => (h.lt g hg').1)⟩
  rw [vn_snoc, List.length_append]
  exact hown


set_option maxRecDepth 100000 in
set_option maxHeartbeats 4000000 in
theorem rplus_any (A A' : Option Addr) (a b c c' : Nat) (w : World) (ha : Cells .i64 w A (limbs a)) (hb : Cells .i64 w A' (limbs b)) (hla : (limbs a).length ≤ 100000000) (hlb : (limbs b).length ≤ 100000000) :
    Calls Tryz.prog 70 #[.slice A (limbs a).length c, .slice A' (limbs b).length c'] w (RetLow w (a + b) (max (limbs a).length (limbs b).length + 1)) := by
  obtain ⟨i0, hi, hz0, hz1, hz2⟩ := info_parts Tryz.infoInt
  obtain ⟨n, hn⟩ : ∃ n, n = max (limbs a).length (limbs b).length := ⟨_, rfl⟩
  rw [← hn]
  have hna : (limbs a).length ≤ n := by omega
  have hnb : (limbs b).length ≤ n := by omega
  have hn1 : n ≤ 100000000 := by omega
  have HLA := Lib.hid (show ∀ i, nth (limbs a) i < 1000000000 from (Low.limbs a).nth)
  have HLB := Lib.hid (show ∀ i, nth (limbs b) i < 1000000000 from (Low.limbs b).nth)
  have HN := Lib.hid hn
  have HA := Lib.hid ha
  have HB := Lib.hid hb
  clear hn ha hb
  go_enter Tryz.func70, Tryz.ntmps70
  go_wp2_with fail
  go_loopw [5, 6, 7] (fun v cy i wr => ∃ (k cr : Nat) (os : List Nat), k ≤ n + 1 ∧ i = .int .i64 (k : Int) ∧ cr ≤ 1 ∧ cy = .int .i64 (cr : Int) ∧ (k = n + 1 → cr = 0) ∧ os.length = k ∧ Low os ∧ wr.ownsRow w.heap.size 3 1 v os.length (vn os) ∧ Below w.heap.size w wr ∧ val os + cr * 1000000000 ^ k = val ((limbs a).take k) + val ((limbs b).take k)) (fun _ _ i _ => n + 1 - (intOf i).toNat)
  case atStart => exact ⟨0, 0, [], Nat.zero_le _, rfl, by omega, rfl, by omega, rfl, Low.nil, World.ownsRow_nil _ _ _ _, Below.refl _ _, by simp [val]⟩
  case round =>
    obtain ⟨k, cr, os, hk, rfl, hcr, rfl, hlast, hlen, hlow, hown, hbel, hv⟩ := hrel
    have HLOW := Lib.hid hlow
    have HLEN := Lib.hid hlen
    have HOWN := Lib.hid hown
    have HBEL := Lib.hid hbel
    have HV := Lib.hid hv
    have HLAST := Lib.hid hlast
    have hol : os.length ≤ 100000001 := by omega
    have hsz := hbel.size
    have hxk := HLA.out k
    have hyk := HLB.out k
    clear hlow hlen hown hbel hv hlast

    by_cases h1 : k < (limbs a).length
    · by_cases h2 : k < (limbs b).length
      ·
        obtain ⟨g, off, eg, hg, hc⟩ := HA.out (by intro e; rw [e] at h1; simp at h1)
        subst eg
        have hca : wr.cell? ⟨g, off + k, none⟩ = some (.int .i64 ((nth (limbs a) k : Nat) : Int)) := (HBEL.out.cell (p := ⟨g, off + k, none⟩) hg).trans (hc k h1)
        clear hc
        obtain ⟨g', off', eg', hg', hc'⟩ := HB.out (by intro e; rw [e] at h2; simp at h2)
        subst eg'
        have hcb : wr.cell? ⟨g', off' + k, none⟩ = some (.int .i64 ((nth (limbs b) k : Nat) : Int)) := (HBEL.out.cell (p := ⟨g', off' + k, none⟩) hg').trans (hc' k h2)
        clear hc'
        have HT : Hid ((cr : Int) + (nth (limbs a) k : Int) + (nth (limbs b) k : Int) = ((nth (limbs a) k + nth (limbs b) k + cr : Nat) : Int)) := by
          show _ = _
          omega
        have hcl : k < n + 1 := by have := HLAST.out; omega
        go_wp2_with (at_builtin; refine wpList_append_own _ rfl _ _ 22 rfl w.heap.size 3 i0 (.int .i64 0) 1 8 Tryz.underlying22 hi hz0 hz1 hz2 rfl (by decide) _ _ _ rfl (HOWN.out.alloc _) ⟨wr.heap.size, 0, none⟩ 1 1 [_] rfl rfl one_new one_cell (by unfold maxLen; omega) (by omega) (by simp; omega) ?_)
        intro v' w1 hown1 hgrow1 _
        obtain ⟨ho1, hb1⟩ := own_push HOWN.out HBEL.out hown1 hgrow1 (x := (nth (limbs a) k + nth (limbs b) k + cr) % 1000000000) (by have := HT.out; omega)
        have HO1 := Lib.hid ho1
        have HB1 := Lib.hid hb1
        clear hown1 hgrow1 ho1 hb1
        go_wp2_with fail
        go_roundw
        case rel =>
          have e1 : ((cr : Int) + (nth (limbs a) k : Int) + (nth (limbs b) k : Int)) / 1000000000 = (((nth (limbs a) k + nth (limbs b) k + cr) / 1000000000 : Nat) : Int) := by have := HT.out; omega
          rw [e1]
          refine ⟨k + 1, _, _, by omega, by go_num, by omega, rfl, ?_, by simp [HLEN.out], HLOW.out.snoc (Nat.mod_lt _ (by omega)), HO1.out, HB1.out, add_step _ _ _ _ _ HLEN.out HV.out⟩
          intro hkn
          rw [nth_ge (by omega), nth_ge (by omega)]
          omega
        case measure => simp [intOf]; omega
      ·
        obtain ⟨g, off, eg, hg, hc⟩ := HA.out (by intro e; rw [e] at h1; simp at h1)
        subst eg
        have hca : wr.cell? ⟨g, off + k, none⟩ = some (.int .i64 ((nth (limbs a) k : Nat) : Int)) := (HBEL.out.cell (p := ⟨g, off + k, none⟩) hg).trans (hc k h1)
        clear hc
        have HT : Hid ((cr : Int) + (nth (limbs a) k : Int) = ((nth (limbs a) k + nth (limbs b) k + cr : Nat) : Int)) := by
          have e2 := nth_ge (xs := limbs b) (i := k) (by omega)
          show _ = _
          omega
        have hcl : k < n + 1 := by have := HLAST.out; omega
        go_wp2_with (at_builtin; refine wpList_append_own _ rfl _ _ 22 rfl w.heap.size 3 i0 (.int .i64 0) 1 8 Tryz.underlying22 hi hz0 hz1 hz2 rfl (by decide) _ _ _ rfl (HOWN.out.alloc _) ⟨wr.heap.size, 0, none⟩ 1 1 [_] rfl rfl one_new one_cell (by unfold maxLen; omega) (by omega) (by simp; omega) ?_)
        intro v' w1 hown1 hgrow1 _
        obtain ⟨ho1, hb1⟩ := own_push HOWN.out HBEL.out hown1 hgrow1 (x := (nth (limbs a) k + nth (limbs b) k + cr) % 1000000000) (by have := HT.out; omega)
        have HO1 := Lib.hid ho1
        have HB1 := Lib.hid hb1
        clear hown1 hgrow1 ho1 hb1
        go_wp2_with fail
        go_roundw
        case rel =>
          have e1 : ((cr : Int) + (nth (limbs a) k : Int)) / 1000000000 = (((nth (limbs a) k + nth (limbs b) k + cr) / 1000000000 : Nat) : Int) := by have := HT.out; omega
          rw [e1]
          refine ⟨k + 1, _, _, by omega, by go_num, by omega, rfl, ?_, by simp [HLEN.out], HLOW.out.snoc (Nat.mod_lt _ (by omega)), HO1.out, HB1.out, add_step _ _ _ _ _ HLEN.out HV.out⟩
          intro hkn
          rw [nth_ge (by omega), nth_ge (by omega)]
          omega
        case measure => simp [intOf]; omega
    · by_cases h2 : k < (limbs b).length
      ·
        obtain ⟨g', off', eg', hg', hc'⟩ := HB.out (by intro e; rw [e] at h2; simp at h2)
        subst eg'
        have hcb : wr.cell? ⟨g', off' + k, none⟩ = some (.int .i64 ((nth (limbs b) k : Nat) : Int)) := (HBEL.out.cell (p := ⟨g', off' + k, none⟩) hg').trans (hc' k h2)
        clear hc'
        have HT : Hid ((cr : Int) + (nth (limbs b) k : Int) = ((nth (limbs a) k + nth (limbs b) k + cr : Nat) : Int)) := by
          have e1 := nth_ge (xs := limbs a) (i := k) (by omega)
          show _ = _
          omega
        have hcl : k < n + 1 := by have := HLAST.out; omega
        go_wp2_with (at_builtin; refine wpList_append_own _ rfl _ _ 22 rfl w.heap.size 3 i0 (.int .i64 0) 1 8 Tryz.underlying22 hi hz0 hz1 hz2 rfl (by decide) _ _ _ rfl (HOWN.out.alloc _) ⟨wr.heap.size, 0, none⟩ 1 1 [_] rfl rfl one_new one_cell (by unfold maxLen; omega) (by omega) (by simp; omega) ?_)
        intro v' w1 hown1 hgrow1 _
        obtain ⟨ho1, hb1⟩ := own_push HOWN.out HBEL.out hown1 hgrow1 (x := (nth (limbs a) k + nth (limbs b) k + cr) % 1000000000) (by have := HT.out; omega)
        have HO1 := Lib.hid ho1
        have HB1 := Lib.hid hb1
        clear hown1 hgrow1 ho1 hb1
        go_wp2_with fail
        go_roundw
        case rel =>
          have e1 : ((cr : Int) + (nth (limbs b) k : Int)) / 1000000000 = (((nth (limbs a) k + nth (limbs b) k + cr) / 1000000000 : Nat) : Int) := by have := HT.out; omega
          rw [e1]
          refine ⟨k + 1, _, _, by omega, by go_num, by omega, rfl, ?_, by simp [HLEN.out], HLOW.out.snoc (Nat.mod_lt _ (by omega)), HO1.out, HB1.out, add_step _ _ _ _ _ HLEN.out HV.out⟩
          intro hkn
          rw [nth_ge (by omega), nth_ge (by omega)]
          omega
        case measure => simp [intOf]; omega
      · by_cases h3 : 0 < cr
        ·
          have HT : Hid ((cr : Int) = ((nth (limbs a) k + nth (limbs b) k + cr : Nat) : Int)) := by
            have e1 := nth_ge (xs := limbs a) (i := k) (by omega)
            have e2 := nth_ge (xs := limbs b) (i := k) (by omega)
            show _ = _
            omega
          have hcl : k < n + 1 := by have := HLAST.out; omega
          have hcp : decide (0 < (cr : Int)) = true := decide_eq_true (by omega)
          go_wp2_with (at_builtin; refine wpList_append_own _ rfl _ _ 22 rfl w.heap.size 3 i0 (.int .i64 0) 1 8 Tryz.underlying22 hi hz0 hz1 hz2 rfl (by decide) _ _ _ rfl (HOWN.out.alloc _) ⟨wr.heap.size, 0, none⟩ 1 1 [_] rfl rfl one_new one_cell (by unfold maxLen; omega) (by omega) (by simp; omega) ?_)
          intro v' w1 hown1 hgrow1 _
          obtain ⟨ho1, hb1⟩ := own_push HOWN.out HBEL.out hown1 hgrow1 (x := (nth (limbs a) k + nth (limbs b) k + cr) % 1000000000) (by have := HT.out; omega)
          have HO1 := Lib.hid ho1
          have HB1 := Lib.hid hb1
          clear hown1 hgrow1 ho1 hb1
          go_wp2_with fail
          go_roundw
          case rel =>
            have e1 : ((cr : Int)) / 1000000000 = (((nth (limbs a) k + nth (limbs b) k + cr) / 1000000000 : Nat) : Int) := by have := HT.out; omega
            rw [e1]
            refine ⟨k + 1, _, _, by omega, by go_num, by omega, rfl, ?_, by simp [HLEN.out], HLOW.out.snoc (Nat.mod_lt _ (by omega)), HO1.out, HB1.out, add_step _ _ _ _ _ HLEN.out HV.out⟩
            intro hkn
            rw [nth_ge (by omega), nth_ge (by omega)]
            omega
          case measure => simp [intOf]; omega
        · have hcp : decide (0 < (cr : Int)) = false := decide_eq_false (by omega)
          obtain rfl : cr = 0 := by omega
          have E := HV.out
          rw [List.take_of_length_le (by omega), List.take_of_length_le (by omega), val_limbs, val_limbs, Nat.zero_mul, Nat.add_zero] at E
          have HE := Lib.hid E
          clear E
          go_wp2_with fail
          go_ret
          exact ⟨_, os, rfl, own_row HOWN.out, HLOW.out, HE.out, by have := HLEN.out; omega, HBEL.out⟩

end Go.Proofs.YtmickdolpgjbhaaGreatDoor
