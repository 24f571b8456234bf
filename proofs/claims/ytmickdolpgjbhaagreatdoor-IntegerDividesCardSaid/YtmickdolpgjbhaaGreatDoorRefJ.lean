/-
  Package joinlearnref01: Of, Digits.
-/
import Derived.Test.YtmickdolpgjbhaaGreatDoorRefI
import Derived.Test.YtmickdolpgjbhaaGreatDoorLimP
namespace Go.Proofs.YtmickdolpgjbhaaGreatDoor
open Go.RowKit

/-- A box whose first field is a sign, its second one a row of one's own. -/
theorem own_push2 {B : Nat} {w wr w1 : World} {t e : TypeId} {v v' u : Value} {os : List Nat} {x : Nat} {X : Int} (h : wr.ownsRow B e 1 v os.length (vn os)) (hB : B ≤ wr.heap.size) (hb : Below w.heap.size w wr) (hwB : w.heap.size ≤ B)
    (hown : w1.ownsRow B e 1 v' (os.length + 1) (vn os ++ [.int .i64 X])) (hg : (wr.alloc (.cells #[u] t)).grownBy w1 v.ownBlock) (hX : X = (x : Int)) :
    w1.ownsRow B e 1 v' (os ++ [x]).length (vn (os ++ [x])) ∧ Below w.heap.size w w1 ∧ B ≤ w1.heap.size ∧ ∀ g t' cs, g < B → Blk wr g t' cs → Blk w1 g t' cs := by
  subst hX
  have hs := hg.size
  rw [World.size_alloc] at hs
  refine ⟨?_, (hb.alloc hb.size _).grown hg (by have := hb.size; simp; omega) (fun g hg' => Nat.le_trans hwB (h.lt g hg').1), by omega, fun g t' cs hgB hk => ?_⟩
  · rw [vn_snoc, List.length_append]
    exact hown
  · exact (hk.alloc _).grown hg (fun e => by have := (h.lt g e.symm).1; omega)


set_option maxRecDepth 100000 in
set_option maxHeartbeats 2000000 in
theorem Of_pos (N : Nat) (w : World) (h1 : N ≤ 9223372036854775808) (h2 : N ≤ 9223372036854775807) :
    Calls Tryz.prog 41 #[.int .i64 ((N : Int))] w (RetBigN w ((N : Int))) := by
  obtain ⟨i0, hi, hz0, hz1, hz2⟩ := info_parts Tryz.infoInt
  have hdn : decide ((N : Int) < 0) = false := decide_eq_false (by omega)
  go_enter Tryz.func41, Tryz.ntmps41
  go_wp2_with fail
  have hb0 := Blk.new (w.alloc (.cells #[.bool false, .slice none 0 0] 51)) 51 [.bool false, .slice none 0 0]
  rw [World.size_alloc] at hb0
  have hr0 := (Blk.new w 51 [.bool false, .slice none 0 0]).alloc (.cells #[.bool false, .slice none 0 0] 51)
  have hbel : Below w.heap.size w ((w.alloc (.cells #[.bool false, .slice none 0 0] 51)).alloc (.cells #[.bool false, .slice none 0 0] 51)) := ((Below.refl _ _).alloc (Nat.le_refl _) _).alloc (by simp) _
  have hs0 : ((w.alloc (.cells #[.bool false, .slice none 0 0] 51)).alloc (.cells #[.bool false, .slice none 0 0] 51)).heap.size = w.heap.size + 2 := by simp
  generalize (w.alloc (.cells #[.bool false, .slice none 0 0] 51)).alloc (.cells #[.bool false, .slice none 0 0] 51) = W at *
  have HB0 := Lib.hid hb0
  have HR0 := Lib.hid hr0
  have HBEL0 := Lib.hid hbel
  have HS0 := Lib.hid hs0
  clear hb0 hr0 hbel hs0 hdn
  go_loopw [0] (fun nv wr => ∃ (M : Nat) (v : Value) (os : List Nat), nv = .int .i64 ((M : Int)) ∧ M ≤ N ∧ os ++ limbs M = limbs N ∧ Blk wr w.heap.size 51 [.bool false, .slice none 0 0] ∧ Blk wr (w.heap.size + 1) 51 [.bool false, v] ∧ wr.ownsRow (w.heap.size + 2) 3 1 v os.length (vn os) ∧ w.heap.size + 2 ≤ wr.heap.size ∧ Below w.heap.size w wr) (fun nv _ => (intOf nv).natAbs)
  case atStart => exact ⟨N, .slice none 0 0, [], rfl, Nat.le_refl _, rfl, HR0.out, HB0.out, World.ownsRow_nil _ _ _ _, by rw [HS0.out]; omega, HBEL0.out⟩
  case round =>
    obtain ⟨M, v, os, rfl, hMN, hsum, hr, hk, hown, hsz, hbel⟩ := hrel
    have HSUM := Lib.hid hsum
    have HR := Lib.hid hr
    have HK := Lib.hid hk
    have HOWN := Lib.hid hown
    have HBEL := Lib.hid hbel
    have hv1 : wr.cell? ⟨w.heap.size + 1, 1, none⟩ = some v := hk.at_ rfl
    have hv0 : wr.cell? ⟨w.heap.size + 1, 0, none⟩ = some (.bool false) := hk.at_ rfl
    have hf1 := hk.fr 1
    clear hsum hr hk hown hbel HB0 HR0 HBEL0 HS0
    have hol : os.length ≤ 3 := by
      have h3 : (limbs N).length ≤ 3 := limbs_length_le (by omega)
      have := congrArg List.length HSUM.out
      rw [List.length_append] at this
      omega
    rcases Nat.eq_zero_or_pos M with hM0 | hM0
    · subst hM0
      have hrow := own_row HOWN.out
      have hE := HSUM.out
      rw [limbs_zero, List.append_nil] at hE
      rw [hE] at hrow
      have HROW := Lib.hid hrow
      obtain ⟨A, c, rfl, hl, hc⟩ := hrow
      have HC := Lib.hid hc
      have hr0 : wr.cell? ⟨w.heap.size, 0, none⟩ = some (.bool false) := HR.out.at_ rfl
      have hr1 : wr.cell? ⟨w.heap.size, 1, none⟩ = some (.slice none 0 0) := HR.out.at_ rfl
      have hg0 := HR.out.fr 0
      have hg1 := HR.out.fr 1
      have HEND := Lib.hid (big_end (x := (N : Int)) (y := (N : Int)) (A := A) (c := c) HR.out HBEL.out (Nat.le_refl _) (by rw [show ((N : Int)).natAbs = N by omega]; exact hc) (by rw [show ((N : Int)).natAbs = N by omega]; exact hl) rfl)
      rw [show ((N : Int)).natAbs = N by omega, show decide ((N : Int) < 0) = false from decide_eq_false (by omega)] at HEND
      clear hc hE
      go_wp2_with fail
      refine bodyPost_ret (v := .agg #[.bool false, .slice A (limbs N).length c]) (by simp [results, Tryz.results41, go_sem, hr0, hr1]) rfl ?_
      exact HEND.out
    · have hstep := limbs_pos (n := M) (by omega)
      have HSTEP := Lib.hid hstep
      clear hstep
      have hq : ((M : Int) != 0) = true := by rw [bne_iff_ne]; omega
      have hd : ¬ ((M : Int) % 1000000000 < 0) := by omega
      go_wp2_with (at_builtin; refine wpList_append_own _ rfl _ _ 22 rfl (w.heap.size + 2) 3 i0 (.int .i64 0) 1 8 Tryz.underlying22 hi hz0 hz1 hz2 rfl (by decide) _ _ _ rfl (HOWN.out.alloc _) ⟨wr.heap.size, 0, none⟩ 1 1 [_] rfl rfl one_new one_cell (by unfold maxLen; omega) (by omega) (by simp; omega) ?_)
      intro v' w1 hown1 hgrow1 _
      obtain ⟨ho1, hb1, hs1, hk1⟩ := own_push2 HOWN.out hsz HBEL.out (by omega) hown1 hgrow1 (x := M % 1000000000) (by first | rfl | omega)
      obtain ⟨gn, capn, rfl, -, -⟩ := ho1.form (by simp)
      have HO1 := Lib.hid ho1
      have HB1 := Lib.hid hb1
      have HK1 := Lib.hid (hk1 _ _ _ (by omega) HK.out)
      have HR1 := Lib.hid (hk1 _ _ _ (by omega) HR.out)
      have hc1 : w1.cell? ⟨w.heap.size + 1, 1, none⟩ = some v := HK1.out.at_ rfl
      have hc1f := HK1.out.fr 1
      clear hown1 hgrow1 ho1 hb1 hk1
      go_wp2_with fail
      go_roundw
      case rel =>
        skip
        refine ⟨M / 1000000000, _, os ++ [M % 1000000000], rfl, by omega, ?_, HR1.out.far (p := ⟨w.heap.size + 1, 1, none⟩) (by show w.heap.size ≠ w.heap.size + 1; omega) _, HK1.out.set 1 _, (by have h := HO1.out; rw [List.length_append] at h ⊢; exact ownsRow_setCell_below h (a := ⟨w.heap.size + 1, 1, none⟩) (by show w.heap.size + 1 < w.heap.size + 2; omega) _), by simpa [World.setCell] using hs1, HB1.out.setCell (p := ⟨w.heap.size + 1, 1, none⟩) (Nat.le_succ _) _⟩
        rw [← HSUM.out, HSTEP.out, List.append_assoc]; rfl
      case measure => simp [intOf]; omega


set_option maxRecDepth 100000 in
set_option maxHeartbeats 2000000 in
theorem Of_neg (N : Nat) (w : World) (h1 : N ≤ 9223372036854775808) (h0 : 0 < N) :
    Calls Tryz.prog 41 #[.int .i64 (-(N : Int))] w (RetBigN w (-(N : Int))) := by
  obtain ⟨i0, hi, hz0, hz1, hz2⟩ := info_parts Tryz.infoInt
  have hdn : decide (-(N : Int) < 0) = true := decide_eq_true (by omega)
  go_enter Tryz.func41, Tryz.ntmps41
  go_wp2_with fail
  have hb0 := Blk.new (w.alloc (.cells #[.bool false, .slice none 0 0] 51)) 51 [.bool true, .slice none 0 0]
  rw [World.size_alloc] at hb0
  have hr0 := (Blk.new w 51 [.bool false, .slice none 0 0]).alloc (.cells #[.bool true, .slice none 0 0] 51)
  have hbel : Below w.heap.size w ((w.alloc (.cells #[.bool false, .slice none 0 0] 51)).alloc (.cells #[.bool true, .slice none 0 0] 51)) := ((Below.refl _ _).alloc (Nat.le_refl _) _).alloc (by simp) _
  have hs0 : ((w.alloc (.cells #[.bool false, .slice none 0 0] 51)).alloc (.cells #[.bool true, .slice none 0 0] 51)).heap.size = w.heap.size + 2 := by simp
  generalize (w.alloc (.cells #[.bool false, .slice none 0 0] 51)).alloc (.cells #[.bool true, .slice none 0 0] 51) = W at *
  have HB0 := Lib.hid hb0
  have HR0 := Lib.hid hr0
  have HBEL0 := Lib.hid hbel
  have HS0 := Lib.hid hs0
  clear hb0 hr0 hbel hs0 hdn
  go_loopw [0] (fun nv wr => ∃ (M : Nat) (v : Value) (os : List Nat), nv = .int .i64 (-(M : Int)) ∧ M ≤ N ∧ os ++ limbs M = limbs N ∧ Blk wr w.heap.size 51 [.bool false, .slice none 0 0] ∧ Blk wr (w.heap.size + 1) 51 [.bool true, v] ∧ wr.ownsRow (w.heap.size + 2) 3 1 v os.length (vn os) ∧ w.heap.size + 2 ≤ wr.heap.size ∧ Below w.heap.size w wr) (fun nv _ => (intOf nv).natAbs)
  case atStart => exact ⟨N, .slice none 0 0, [], rfl, Nat.le_refl _, rfl, HR0.out, HB0.out, World.ownsRow_nil _ _ _ _, by rw [HS0.out]; omega, HBEL0.out⟩
  case round =>
    obtain ⟨M, v, os, rfl, hMN, hsum, hr, hk, hown, hsz, hbel⟩ := hrel
    have HSUM := Lib.hid hsum
    have HR := Lib.hid hr
    have HK := Lib.hid hk
    have HOWN := Lib.hid hown
    have HBEL := Lib.hid hbel
    have hv1 : wr.cell? ⟨w.heap.size + 1, 1, none⟩ = some v := hk.at_ rfl
    have hv0 : wr.cell? ⟨w.heap.size + 1, 0, none⟩ = some (.bool true) := hk.at_ rfl
    have hf1 := hk.fr 1
    clear hsum hr hk hown hbel HB0 HR0 HBEL0 HS0
    have hol : os.length ≤ 3 := by
      have h3 : (limbs N).length ≤ 3 := limbs_length_le (by omega)
      have := congrArg List.length HSUM.out
      rw [List.length_append] at this
      omega
    rcases Nat.eq_zero_or_pos M with hM0 | hM0
    · subst hM0
      have hrow := own_row HOWN.out
      have hE := HSUM.out
      rw [limbs_zero, List.append_nil] at hE
      rw [hE] at hrow
      have HROW := Lib.hid hrow
      obtain ⟨A, c, rfl, hl, hc⟩ := hrow
      have HC := Lib.hid hc
      have hr0 : wr.cell? ⟨w.heap.size, 0, none⟩ = some (.bool false) := HR.out.at_ rfl
      have hr1 : wr.cell? ⟨w.heap.size, 1, none⟩ = some (.slice none 0 0) := HR.out.at_ rfl
      have hg0 := HR.out.fr 0
      have hg1 := HR.out.fr 1
      have HEND := Lib.hid (big_end (x := -(N : Int)) (y := -(N : Int)) (A := A) (c := c) HR.out HBEL.out (Nat.le_refl _) (by rw [show (-(N : Int)).natAbs = N by omega]; exact hc) (by rw [show (-(N : Int)).natAbs = N by omega]; exact hl) rfl)
      rw [show (-(N : Int)).natAbs = N by omega, show decide (-(N : Int) < 0) = true from decide_eq_true (by omega)] at HEND
      clear hc hE
      go_wp2_with fail
      refine bodyPost_ret (v := .agg #[.bool true, .slice A (limbs N).length c]) (by simp [results, Tryz.results41, go_sem, hr0, hr1]) rfl ?_
      exact HEND.out
    · have hstep := limbs_pos (n := M) (by omega)
      have HSTEP := Lib.hid hstep
      clear hstep
      obtain ⟨r, hr⟩ : ∃ r, r = M % 1000000000 := ⟨_, rfl⟩
      obtain ⟨q, hq'⟩ : ∃ q, q = M / 1000000000 := ⟨_, rfl⟩
      have hmod : (-(M : Int)).tmod 1000000000 = -((r : Nat) : Int) := by rw [Int.neg_tmod, hr]; rfl
      have hdiv : (-(M : Int)).tdiv 1000000000 = -((q : Nat) : Int) := by rw [Int.neg_tdiv, hq']; rfl
      have HRR := Lib.hid hr.symm
      have HQ := Lib.hid hq'.symm
      have hrl : r < 1000000000 := by rw [hr]; exact Nat.mod_lt _ (by omega)
      have hql : q ≤ M := by rw [hq']; exact Nat.div_le_self _ _
      have hqn : q < M := by omega
      have hqz : (-(M : Int) != 0) = true := by rw [bne_iff_ne]; omega
      clear hr hq'
      by_cases hr0 : 0 < r
      ·
        have hd : -((r : Nat) : Int) < 0 := by omega
        go_wp2_with (at_builtin; refine wpList_append_own _ rfl _ _ 22 rfl (w.heap.size + 2) 3 i0 (.int .i64 0) 1 8 Tryz.underlying22 hi hz0 hz1 hz2 rfl (by decide) _ _ _ rfl (HOWN.out.alloc _) ⟨wr.heap.size, 0, none⟩ 1 1 [_] rfl rfl one_new one_cell (by unfold maxLen; omega) (by omega) (by simp; omega) ?_)
        intro v' w1 hown1 hgrow1 _
        obtain ⟨ho1, hb1, hs1, hk1⟩ := own_push2 HOWN.out hsz HBEL.out (by omega) hown1 hgrow1 (x := r) (by first | rfl | omega)
        obtain ⟨gn, capn, rfl, -, -⟩ := ho1.form (by simp)
        have HO1 := Lib.hid ho1
        have HB1 := Lib.hid hb1
        have HK1 := Lib.hid (hk1 _ _ _ (by omega) HK.out)
        have HR1 := Lib.hid (hk1 _ _ _ (by omega) HR.out)
        have hc1 : w1.cell? ⟨w.heap.size + 1, 1, none⟩ = some v := HK1.out.at_ rfl
        have hc1f := HK1.out.fr 1
        clear hown1 hgrow1 ho1 hb1 hk1
        go_wp2_with fail
        go_roundw
        case rel =>
          skip
          refine ⟨M / 1000000000, _, os ++ [r], by rw [HQ.out], by omega, ?_, HR1.out.far (p := ⟨w.heap.size + 1, 1, none⟩) (by show w.heap.size ≠ w.heap.size + 1; omega) _, HK1.out.set 1 _, (by have h := HO1.out; rw [List.length_append] at h ⊢; exact ownsRow_setCell_below h (a := ⟨w.heap.size + 1, 1, none⟩) (by show w.heap.size + 1 < w.heap.size + 2; omega) _), by simpa [World.setCell] using hs1, HB1.out.setCell (p := ⟨w.heap.size + 1, 1, none⟩) (Nat.le_succ _) _⟩
          rw [← HSUM.out, HSTEP.out, List.append_assoc]; rw [HRR.out]; rfl
        case measure => simp [intOf, Int.natAbs_neg]; omega
      · obtain rfl : r = 0 := by omega
        have hmod' : (-(M : Int)).tmod 1000000000 = 0 := by rw [hmod]; rfl
        clear hmod
        go_wp2_with (at_builtin; refine wpList_append_own _ rfl _ _ 22 rfl (w.heap.size + 2) 3 i0 (.int .i64 0) 1 8 Tryz.underlying22 hi hz0 hz1 hz2 rfl (by decide) _ _ _ rfl (HOWN.out.alloc _) ⟨wr.heap.size, 0, none⟩ 1 1 [_] rfl rfl one_new one_cell (by unfold maxLen; omega) (by omega) (by simp; omega) ?_)
        intro v' w1 hown1 hgrow1 _
        obtain ⟨ho1, hb1, hs1, hk1⟩ := own_push2 HOWN.out hsz HBEL.out (by omega) hown1 hgrow1 (x := 0) (by first | rfl | omega)
        obtain ⟨gn, capn, rfl, -, -⟩ := ho1.form (by simp)
        have HO1 := Lib.hid ho1
        have HB1 := Lib.hid hb1
        have HK1 := Lib.hid (hk1 _ _ _ (by omega) HK.out)
        have HR1 := Lib.hid (hk1 _ _ _ (by omega) HR.out)
        have hc1 : w1.cell? ⟨w.heap.size + 1, 1, none⟩ = some v := HK1.out.at_ rfl
        have hc1f := HK1.out.fr 1
        clear hown1 hgrow1 ho1 hb1 hk1
        go_wp2_with fail
        go_roundw
        case rel =>
          skip
          refine ⟨M / 1000000000, _, os ++ [0], by rw [HQ.out], by omega, ?_, HR1.out.far (p := ⟨w.heap.size + 1, 1, none⟩) (by show w.heap.size ≠ w.heap.size + 1; omega) _, HK1.out.set 1 _, (by have h := HO1.out; rw [List.length_append] at h ⊢; exact ownsRow_setCell_below h (a := ⟨w.heap.size + 1, 1, none⟩) (by show w.heap.size + 1 < w.heap.size + 2; omega) _), by simpa [World.setCell] using hs1, HB1.out.setCell (p := ⟨w.heap.size + 1, 1, none⟩) (Nat.le_succ _) _⟩
          rw [← HSUM.out, HSTEP.out, List.append_assoc]; rw [HRR.out]; rfl
        case measure => simp [intOf, Int.natAbs_neg]; omega


end Go.Proofs.YtmickdolpgjbhaaGreatDoor
