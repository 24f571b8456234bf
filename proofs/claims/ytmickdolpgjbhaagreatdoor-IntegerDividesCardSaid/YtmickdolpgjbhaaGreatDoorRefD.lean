/-
  Package joinlearnref01: minus.
-/
import Derived.Test.YtmickdolpgjbhaaGreatDoorRefC
namespace Go.Proofs.YtmickdolpgjbhaaGreatDoor
open Go.RowKit

/-- What is still to be done of a difference: the limbs, the first one less a borrow. -/
def brow : List Nat → Nat → List Value
  | [], _ => []
  | x :: xs, br => .int .i64 ((x : Int) - (br : Int)) :: vn xs
theorem brow_zero (xs : List Nat) : brow xs 0 = vn xs := by cases xs <;> simp [brow, vn]
theorem brow_length (xs : List Nat) (br : Nat) : (brow xs br).length = xs.length := by cases xs <;> simp [brow, vn]
theorem brow_drop {xs : List Nat} {k : Nat} (h : k < xs.length) (br : Nat) : brow (xs.drop k) br = .int .i64 ((nth xs k : Int) - (br : Int)) :: vn (xs.drop (k + 1)) := by
  rw [List.drop_eq_getElem_cons h, brow, nth_lt h]
theorem vn_drop {xs : List Nat} {k : Nat} (h : k < xs.length) : vn (xs.drop k) = .int .i64 (nth xs k : Int) :: vn (xs.drop (k + 1)) := by
  rw [List.drop_eq_getElem_cons h, nth_lt h]; rfl
theorem row_set (os : List Nat) (u u' : Value) (l : List Value) : (vn os ++ u :: l).set os.length u' = vn os ++ u' :: l := by
  rw [← vn_length os, List.set_append_right _ _ (Nat.le_refl _)]; simp
theorem row_set1 (os : List Nat) (a u u' : Value) (l : List Value) : (vn os ++ a :: u :: l).set (os.length + 1) u' = vn os ++ a :: u' :: l := by
  rw [← vn_length os, List.set_append_right _ _ (by omega)]; simp
theorem row_at (os : List Nat) (u : Value) (l : List Value) : (vn os ++ u :: l)[os.length]? = some u := by rw [← vn_length os]; simp
theorem row_at1 (os : List Nat) (a u : Value) (l : List Value) : (vn os ++ a :: u :: l)[os.length + 1]? = some u := by
  rw [← vn_length os, List.getElem?_append_right (by omega)]; simp
theorem row_end (os : List Nat) (n : Nat) (l : List Value) : vn os ++ .int .i64 (n : Int) :: l = vn (os ++ [n]) ++ l := by simp [vn]
theorem grown_below {B : Nat} {w a b : World} {g : Nat} (h : Below B w a) (hg : a.grownBy b (some g)) (hB : B ≤ g) (hs : B ≤ a.heap.size) : Below B w b :=
  h.grown hg hs (fun k hk => by injection hk with hk; omega)

set_option maxRecDepth 100000 in
set_option maxHeartbeats 4000000 in
theorem rminusL_any (A A' : Option Addr) (a b c c' : Nat) (w : World) (ha : Cells .i64 w A (limbs a)) (hb : Cells .i64 w A' (limbs b)) (hla : (limbs a).length ≤ 100000000) (hlb : (limbs b).length ≤ 100000000) (hab : b ≤ a) (ha0 : 0 < a) :
    Calls Tryz.prog 69 #[.slice A (limbs a).length c, .slice A' (limbs b).length c'] w (RetLow w (a - b) (limbs a).length) := by
  obtain ⟨i0, hi, hz0, hz1, hz2⟩ := info_parts Tryz.infoInt
  have hl0 : 0 < (limbs a).length := limbs_length_pos.2 (by omega)
  have HLA := Lib.hid (show ∀ i, nth (limbs a) i < 1000000000 from (Low.limbs a).nth)
  have HLB := Lib.hid (show ∀ i, nth (limbs b) i < 1000000000 from (Low.limbs b).nth)
  have HAB := Lib.hid hab
  have HB := Lib.hid hb
  obtain ⟨g, off, eg, hg, hc⟩ := ha (by intro e; rw [e] at hl0; simp at hl0)
  subst eg
  have HC := Lib.hid hc
  have HW0 : Hid (∀ (j : Nat) (u : Value), (vn (limbs a))[j]? = some u → w.cell? ((⟨g, off, none⟩ : Addr).add j) = some u) := by
    intro j u hj
    have hjl : j < (limbs a).length := by
      rcases Nat.lt_or_ge j (limbs a).length with h | h
      · exact h
      · rw [List.getElem?_eq_none (by rw [vn_length]; exact h)] at hj; cases hj
    rw [vn_get hjl] at hj
    rw [show (⟨g, off, none⟩ : Addr).add j = ⟨g, off + j, none⟩ by unfold Addr.add; split <;> simp_all, HC.out j hjl, hj]
  clear ha hb hab hc
  go_enter Tryz.func69, Tryz.ntmps69
  go_wp2_with (at_builtin; refine wpList_append_own _ rfl _ _ 22 rfl w.heap.size 3 i0 (.int .i64 0) 1 8 Tryz.underlying22 hi hz0 hz1 hz2 rfl (by decide) _ _ _ rfl (World.ownsRow_nil _ _ _ _) ⟨g, off, none⟩ (limbs a).length c (vn (limbs a)) rfl (by rw [vn_length]; omega) HW0.out (by intro u hu; simp [vn] at hu; obtain ⟨x, _, rfl⟩ := hu; rfl) (by unfold maxLen; omega) (by omega) (Nat.le_refl _) ?_)
  intro v' w1 hown1 hgrow1 _
  obtain ⟨h, cap, rfl, hBh, hlt1⟩ := hown1.form hl0
  have hbel1 : Below w.heap.size w w1 := (Below.refl _ _).grown hgrow1 (Nat.le_refl _) (fun k hk => by simp [Value.ownBlock] at hk)
  have HOWN1 := Lib.hid hown1
  have HBEL1 := Lib.hid hbel1
  clear hown1 hgrow1 hbel1 hi hz0 hz1 hz2 HW0
  go_wp2_with fail
  go_loopw [6] (fun i wr => ∃ (k br : Nat) (os : List Nat), k ≤ (limbs a).length ∧ i = .int .i64 (k : Int) ∧ br ≤ 1 ∧ os.length = k ∧ Low os ∧ wr.ownsRow w.heap.size 3 1 (.slice (some ⟨h, 0, none⟩) (limbs a).length cap) (limbs a).length (vn os ++ brow ((limbs a).drop k) br) ∧ Below w.heap.size w wr ∧ val os + val ((limbs b).take k) = val ((limbs a).take k) + br * 1000000000 ^ k) (fun i _ => (limbs a).length - (intOf i).toNat)
  case atStart => exact ⟨0, 0, [], Nat.zero_le _, rfl, by omega, rfl, Low.nil, by rw [List.drop_zero, brow_zero]; exact HOWN1.out, HBEL1.out, by simp [val]⟩
  case round =>
    obtain ⟨k, br, os, hk, rfl, hbr, hlen, hlow, hown, hbel, hv⟩ := hrel
    have HLOW := Lib.hid hlow
    have HOWN := Lib.hid hown
    have HBEL := Lib.hid hbel
    have HV := Lib.hid hv
    have hsz := hbel.size
    have hxk := HLA.out k
    have hyk := HLB.out k
    subst hlen
    clear hlow hown hbel hv HOWN1 HBEL1
    by_cases hlt : os.length < (limbs a).length
    · have hrow := HOWN.out
      rw [brow_drop hlt] at hrow
      have hcell : wr.cell? ⟨h, os.length, none⟩ = some (.int .i64 ((nth (limbs a) os.length : Int) - (br : Int))) := (hrow.cellAt os.length (by omega)).trans (row_at _ _ _)
      have hfr := hrow.frozenAt os.length
      have HROW := Lib.hid hrow
      have HST := Lib.hid (sub_step (limbs a) (limbs b) os os.length br rfl hxk hyk hbr HV.out)
      clear hrow HOWN
      by_cases h2 : os.length < (limbs b).length
      · by_cases h3 : (nth (limbs a) os.length : Int) - (br : Int) - (nth (limbs b) os.length : Int) < 0
        ·
          have HLIM : Hid (∀ br', val (os ++ [(nth (limbs a) os.length + 1000000000 - nth (limbs b) os.length - br) % 1000000000]) + val ((limbs b).take (os.length + 1)) = val ((limbs a).take (os.length + 1)) + br' * 1000000000 ^ (os.length + 1) → os.length + 1 = (limbs a).length → br' = 0) := fun br' e h1 => by
            rw [h1] at e
            exact minus_last HAB.out (by simp [h1]) (HLOW.out.snoc (Nat.mod_lt _ (by omega))) e
          obtain ⟨g', off', eg', hg', hc'⟩ := HB.out (by intro e; rw [e] at h2; simp at h2)
          subst eg'
          have hcb : wr.cell? ⟨g', off' + os.length, none⟩ = some (.int .i64 ((nth (limbs b) os.length : Nat) : Int)) := (HBEL.out.cell (p := ⟨g', off' + os.length, none⟩) hg').trans (hc' os.length h2)
          clear hc'
          have hneg : (nth (limbs a) os.length : Int) - (br : Int) - (nth (limbs b) os.length : Int) < 0 := by omega
          have em : (nth (limbs a) os.length + 1000000000 - nth (limbs b) os.length - br) % 1000000000 = (nth (limbs a) os.length + 1000000000 - nth (limbs b) os.length - br) := Nat.mod_eq_of_lt (by omega)
          have ed : (nth (limbs a) os.length + 1000000000 - nth (limbs b) os.length - br) / 1000000000 = 0 := Nat.div_eq_of_lt (by omega)
          have hST := HST.out
          rw [ed] at hST
          have hk1 : os.length + 1 < (limbs a).length := by have := HLIM.out 1 hST; omega
          rw [em] at hST
          have HST2 := Lib.hid hST
          have EM := Lib.hid em
          have hrow := HROW.out
          rw [vn_drop hk1] at hrow
          have hcell1 : wr.cell? ⟨h, os.length + 1, none⟩ = some (.int .i64 (nth (limbs a) (os.length + 1) : Int)) := (hrow.cellAt (os.length + 1) (by omega)).trans (row_at1 _ _ _ _)
          have hfr1 := hrow.frozenAt (os.length + 1)
          have hx1 := HLA.out (os.length + 1)
          have HROW2 := Lib.hid hrow
          clear em ed hST hrow HST
          go_wp2_with fail
          go_region
          go_wp2_with fail
          go_roundw
          case rel =>
            refine ⟨os.length + 1, 1, os ++ [(nth (limbs a) os.length + 1000000000 - nth (limbs b) os.length - br)], by omega, by go_num, by omega, by simp, HLOW.out.snoc (by omega), ?_, ?_, by have := HST2.out; simpa using this⟩
            · have h1 := (((HROW2.out.stored (os.length) (.int .i64 ((nth (limbs a) os.length : Int) - (br : Int) - (nth (limbs b) os.length : Int)))).1.stored (os.length) (.int .i64 ((nth (limbs a) os.length : Int) - (br : Int) - (nth (limbs b) os.length : Int) + 1000000000))).1.stored (os.length + 1) (.int .i64 ((nth (limbs a) (os.length + 1) : Int) - 1))).1
              rw [row_set, row_set, row_set1] at h1
              have eX : (nth (limbs a) os.length : Int) - (br : Int) - (nth (limbs b) os.length : Int) + 1000000000 = (((nth (limbs a) os.length + 1000000000 - nth (limbs b) os.length - br) : Nat) : Int) := by omega
              rw [brow_drop hk1, ← row_end, ← eX]
              exact h1
            · exact (((HBEL.out.setCell (p := ⟨h, os.length, none⟩) hBh _).setCell (p := ⟨h, os.length, none⟩) hBh _).setCell (p := ⟨h, os.length + 1, none⟩) hBh _).drew
          case measure => simp [intOf]; omega
        ·
          have HLIM : Hid (∀ br', val (os ++ [(nth (limbs a) os.length + 1000000000 - nth (limbs b) os.length - br) % 1000000000]) + val ((limbs b).take (os.length + 1)) = val ((limbs a).take (os.length + 1)) + br' * 1000000000 ^ (os.length + 1) → os.length + 1 = (limbs a).length → br' = 0) := fun br' e h1 => by
            rw [h1] at e
            exact minus_last HAB.out (by simp [h1]) (HLOW.out.snoc (Nat.mod_lt _ (by omega))) e
          obtain ⟨g', off', eg', hg', hc'⟩ := HB.out (by intro e; rw [e] at h2; simp at h2)
          subst eg'
          have hcb : wr.cell? ⟨g', off' + os.length, none⟩ = some (.int .i64 ((nth (limbs b) os.length : Nat) : Int)) := (HBEL.out.cell (p := ⟨g', off' + os.length, none⟩) hg').trans (hc' os.length h2)
          clear hc'
          have hneg : ¬ (nth (limbs a) os.length : Int) - (br : Int) - (nth (limbs b) os.length : Int) < 0 := by omega
          have em : (nth (limbs a) os.length + 1000000000 - nth (limbs b) os.length - br) % 1000000000 = nth (limbs a) os.length - br - nth (limbs b) os.length := by rw [show (nth (limbs a) os.length + 1000000000 - nth (limbs b) os.length - br) = nth (limbs a) os.length - br - nth (limbs b) os.length + 1000000000 by omega, Nat.add_mod_right]; exact Nat.mod_eq_of_lt (by omega)
          have ed : (nth (limbs a) os.length + 1000000000 - nth (limbs b) os.length - br) / 1000000000 = 1 := by omega
          have hST := HST.out
          rw [ed, em] at hST
          have HST2 := Lib.hid hST
          clear em ed hST HST
          go_wp2_with fail
          go_region
          go_wp2_with fail
          go_roundw
          case rel =>
            refine ⟨os.length + 1, 0, os ++ [(nth (limbs a) os.length - br - nth (limbs b) os.length)], by omega, by go_num, by omega, by simp, HLOW.out.snoc (by omega), ?_, ?_, by have := HST2.out; simpa using this⟩
            · have h1 := (HROW.out.stored (os.length) (.int .i64 ((nth (limbs a) os.length : Int) - (br : Int) - (nth (limbs b) os.length : Int)))).1
              rw [row_set] at h1
              have eX : (nth (limbs a) os.length : Int) - (br : Int) - (nth (limbs b) os.length : Int) = (((nth (limbs a) os.length - br - nth (limbs b) os.length) : Nat) : Int) := by omega
              rw [brow_zero, ← row_end, ← eX]
              exact h1
            · exact (HBEL.out.setCell (p := ⟨h, os.length, none⟩) hBh _).drew
          case measure => simp [intOf]; omega
      · by_cases h3 : (nth (limbs a) os.length : Int) - (br : Int) < 0
        ·
          have HLIM : Hid (∀ br', val (os ++ [(nth (limbs a) os.length + 1000000000 - nth (limbs b) os.length - br) % 1000000000]) + val ((limbs b).take (os.length + 1)) = val ((limbs a).take (os.length + 1)) + br' * 1000000000 ^ (os.length + 1) → os.length + 1 = (limbs a).length → br' = 0) := fun br' e h1 => by
            rw [h1] at e
            exact minus_last HAB.out (by simp [h1]) (HLOW.out.snoc (Nat.mod_lt _ (by omega))) e
          have hy0 := nth_ge (xs := limbs b) (i := os.length) (by omega)
          have HY0 := Lib.hid hy0
          clear hy0
          have hneg : (nth (limbs a) os.length : Int) - (br : Int) < 0 := by have := HY0.out; omega
          have em : (nth (limbs a) os.length + 1000000000 - nth (limbs b) os.length - br) % 1000000000 = (nth (limbs a) os.length + 1000000000 - nth (limbs b) os.length - br) := Nat.mod_eq_of_lt (by have := HY0.out; omega)
          have ed : (nth (limbs a) os.length + 1000000000 - nth (limbs b) os.length - br) / 1000000000 = 0 := Nat.div_eq_of_lt (by have := HY0.out; omega)
          have hST := HST.out
          rw [ed] at hST
          have hk1 : os.length + 1 < (limbs a).length := by have := HLIM.out 1 hST; omega
          rw [em] at hST
          have HST2 := Lib.hid hST
          have EM := Lib.hid em
          have hrow := HROW.out
          rw [vn_drop hk1] at hrow
          have hcell1 : wr.cell? ⟨h, os.length + 1, none⟩ = some (.int .i64 (nth (limbs a) (os.length + 1) : Int)) := (hrow.cellAt (os.length + 1) (by omega)).trans (row_at1 _ _ _ _)
          have hfr1 := hrow.frozenAt (os.length + 1)
          have hx1 := HLA.out (os.length + 1)
          have HROW2 := Lib.hid hrow
          clear em ed hST hrow HST
          go_wp2_with fail
          go_roundw
          case rel =>
            refine ⟨os.length + 1, 1, os ++ [(nth (limbs a) os.length + 1000000000 - nth (limbs b) os.length - br)], by omega, by go_num, by omega, by simp, HLOW.out.snoc (by have := HY0.out; omega), ?_, ?_, by have := HST2.out; simpa using this⟩
            · have h1 := ((HROW2.out.stored (os.length) (.int .i64 ((nth (limbs a) os.length : Int) - (br : Int) + 1000000000))).1.stored (os.length + 1) (.int .i64 ((nth (limbs a) (os.length + 1) : Int) - 1))).1
              rw [row_set, row_set1] at h1
              have eX : (nth (limbs a) os.length : Int) - (br : Int) + 1000000000 = (((nth (limbs a) os.length + 1000000000 - nth (limbs b) os.length - br) : Nat) : Int) := by have := HY0.out; omega
              rw [brow_drop hk1, ← row_end, ← eX]
              exact h1
            · exact ((HBEL.out.setCell (p := ⟨h, os.length, none⟩) hBh _).setCell (p := ⟨h, os.length + 1, none⟩) hBh _)
          case measure => simp [intOf]; omega
        ·
          have HLIM : Hid (∀ br', val (os ++ [(nth (limbs a) os.length + 1000000000 - nth (limbs b) os.length - br) % 1000000000]) + val ((limbs b).take (os.length + 1)) = val ((limbs a).take (os.length + 1)) + br' * 1000000000 ^ (os.length + 1) → os.length + 1 = (limbs a).length → br' = 0) := fun br' e h1 => by
            rw [h1] at e
            exact minus_last HAB.out (by simp [h1]) (HLOW.out.snoc (Nat.mod_lt _ (by omega))) e
          have hy0 := nth_ge (xs := limbs b) (i := os.length) (by omega)
          have HY0 := Lib.hid hy0
          clear hy0
          have hneg : ¬ (nth (limbs a) os.length : Int) - (br : Int) < 0 := by have := HY0.out; omega
          have em : (nth (limbs a) os.length + 1000000000 - nth (limbs b) os.length - br) % 1000000000 = nth (limbs a) os.length - br - nth (limbs b) os.length := by rw [show (nth (limbs a) os.length + 1000000000 - nth (limbs b) os.length - br) = nth (limbs a) os.length - br - nth (limbs b) os.length + 1000000000 by have := HY0.out; omega, Nat.add_mod_right]; exact Nat.mod_eq_of_lt (by omega)
          have ed : (nth (limbs a) os.length + 1000000000 - nth (limbs b) os.length - br) / 1000000000 = 1 := by have := HY0.out; omega
          have hST := HST.out
          rw [ed, em] at hST
          have HST2 := Lib.hid hST
          clear em ed hST HST
          go_wp2_with fail
          go_roundw
          case rel =>
            refine ⟨os.length + 1, 0, os ++ [(nth (limbs a) os.length - br - nth (limbs b) os.length)], by omega, by go_num, by omega, by simp, HLOW.out.snoc (by have := HY0.out; omega), ?_, ?_, by have := HST2.out; simpa using this⟩
            · have h1 := HROW.out
              have eX : (nth (limbs a) os.length : Int) - (br : Int) = (((nth (limbs a) os.length - br - nth (limbs b) os.length) : Nat) : Int) := by have := HY0.out; omega
              rw [brow_zero, ← row_end, ← eX]
              exact h1
            · exact HBEL.out
          case measure => simp [intOf]; omega
    · have hlen : os.length = (limbs a).length := by omega
      have h0 := HV.out
      rw [hlen] at h0
      have hbr0 := minus_last HAB.out hlen HLOW.out h0
      rw [hbr0, List.take_of_length_le (limbs_length_mono HAB.out), List.take_length, val_limbs, val_limbs, Nat.zero_mul, Nat.add_zero] at h0
      have hrow : IsRow wr (.slice (some ⟨h, 0, none⟩) (limbs a).length cap) os := by
        have h1 := HOWN.out
        rw [List.drop_eq_nil_of_le (by omega), show brow [] br = [] from rfl, List.append_nil, ← hlen] at h1
        rw [← hlen]
        exact own_row h1
      have HE := Lib.hid (show val os = a - b by omega)
      have HROW := Lib.hid hrow
      clear h0 hrow hbr0
      go_wp2_with fail
      go_ret
      exact ⟨_, os, rfl, HROW.out, HLOW.out, HE.out, by omega, HBEL.out⟩

end Go.Proofs.YtmickdolpgjbhaaGreatDoor
