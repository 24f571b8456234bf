/-
  Package limbs: numbers with signs.
-/
import Derived.Test.YtmickdolpgjbhaaGreatDoorLimH
namespace Go.Proofs.YtmickdolpgjbhaaGreatDoor
open Go.RowKit

/-- A struct value that means an integer. -/
def IsNum (w : World) (v : Value) (z : Int) : Prop := ∃ s, v = .agg #[.bool (decide (z < 0)), s] ∧ IsNat w s z.natAbs
theorem IsNum.below {w w' : World} {v : Value} {z : Int} (h : IsNum w v z) (hb : Below w.heap.size w w') : IsNum w' v z := by
  obtain ⟨s, e, hs⟩ := h
  exact ⟨s, e, hs.below hb⟩
/-- The result means an integer; nothing that was there has changed. -/
def RetNum (w : World) (z : Int) (e : Ending) (w' : World) : Prop := ∃ v, e = .returned v ∧ IsNum w' v z ∧ Below w.heap.size w w'

set_option maxHeartbeats 1000000 in
theorem number_any (ng : Bool) (A : Option Addr) (l c : Nat) (w : World) (hl : l ≤ 1000000000) :
    Calls Tryz.prog 60 #[.bool ng, .slice A l c] w fun e w' => e = .returned (.agg #[.bool (ng && decide (0 < l)), .slice A l c]) ∧ Below w.heap.size w w' := by
  cases ng
  · go_enter Tryz.func60, Tryz.ntmps60
    go_wp2_with fail
    exact bodyPost_ret (v := .agg #[.bool false, .slice A l c]) (by simp [results, Tryz.results60, go_sem]) rfl ⟨rfl, ((Below.refl _ _).alloc (Nat.le_refl _) _)⟩
  · by_cases h : 0 < l
    · have h' : decide (0 < (l : Int)) = true := by simp; omega
      go_enter Tryz.func60, Tryz.ntmps60
      go_wp2_with fail
      exact bodyPost_ret (v := .agg #[.bool true, .slice A l c]) (by simp [results, Tryz.results60, go_sem]) rfl ⟨by simp [h], ((Below.refl _ _).alloc (Nat.le_refl _) _)⟩
    · have h' : decide (0 < (l : Int)) = false := by simp; omega
      go_enter Tryz.func60, Tryz.ntmps60
      go_wp2_with fail
      exact bodyPost_ret (v := .agg #[.bool false, .slice A l c]) (by simp [results, Tryz.results60, go_sem]) rfl ⟨by simp [h], ((Below.refl _ _).alloc (Nat.le_refl _) _)⟩

/-- n with a sign. -/
def sgn (ng : Bool) (n : Nat) : Int := if ng then -(n : Int) else (n : Int)
theorem sgn_neg (ng : Bool) (n : Nat) : decide (sgn ng n < 0) = (ng && decide (0 < (limbs n).length)) := by
  have h : 0 < (limbs n).length ↔ n ≠ 0 := limbs_length_pos
  cases ng
  · simp [sgn]
  · simp only [sgn, if_true, Bool.true_and]
    rw [decide_eq_decide, h]; omega
theorem sgn_natAbs (ng : Bool) (n : Nat) : (sgn ng n).natAbs = n := by cases ng <;> simp [sgn]
theorem sgn_self (z : Int) : sgn (decide (z < 0)) z.natAbs = z := by
  unfold sgn
  by_cases h : z < 0 <;> simp [h] <;> omega
theorem isNum_sgn {w : World} {s : Value} {ng : Bool} {n : Nat} (h : IsNat w s n) : IsNum w (.agg #[.bool (ng && decide (0 < (limbs n).length)), s]) (sgn ng n) :=
  ⟨s, by rw [sgn_neg], by rw [sgn_natAbs]; exact h⟩
theorem number_num (ng : Bool) (v : Value) (n : Nat) (w : World) (h : IsNat w v n) (hl : (limbs n).length ≤ 1000000000) : Calls Tryz.prog 60 #[.bool ng, v] w (RetNum w (sgn ng n)) := by
  obtain ⟨A, c, rfl, hlc, hc⟩ := h
  refine (number_any ng A (limbs n).length c w hl).mono ?_
  rintro e w' ⟨rfl, hb⟩
  exact ⟨_, rfl, isNum_sgn (IsNat.mk hlc (hc.below hb)), hb⟩
/-- Two numbers that came in lie in boxes; a third box is for the result. -/
structure Boxes (w W : World) (n0 n1 : Bool) (s0 s1 : Value) : Prop where
  a0 : W.cell? ⟨w.heap.size, 0, none⟩ = some (.bool n0)
  a1 : W.cell? ⟨w.heap.size, 1, none⟩ = some s0
  b0 : W.cell? ⟨w.heap.size + 1, 0, none⟩ = some (.bool n1)
  b1 : W.cell? ⟨w.heap.size + 1, 1, none⟩ = some s1
  rb : W.heap[w.heap.size + 1 + 1]? = some (.cells #[.bool false, .slice none 0 0] 62 (0, 0))
  r0 : W.cell? ⟨w.heap.size + 1 + 1, 0, none⟩ = some (.bool false)
  r1 : W.cell? ⟨w.heap.size + 1 + 1, 1, none⟩ = some (.slice none 0 0)
  f0 : W.frozen? ⟨w.heap.size + 1 + 1, 0, none⟩ = false
  f1 : W.frozen? ⟨w.heap.size + 1 + 1, 1, none⟩ = false
  bel : Below w.heap.size w W
  size : w.heap.size + 3 ≤ W.heap.size
theorem limbs_length_mul (a b : Nat) : (limbs (a * b)).length ≤ (limbs a).length + (limbs b).length := by
  apply limbs_length_le
  rw [Nat.pow_add]
  exact Nat.mul_lt_mul'' (limbs_lt a) (limbs_lt b)
theorem limbs_length_add (a b : Nat) : (limbs (a + b)).length ≤ max (limbs a).length (limbs b).length + 1 := by
  apply limbs_length_le
  have h1 := Nat.lt_of_lt_of_le (limbs_lt a) (pow_mono (Nat.le_max_left (limbs a).length (limbs b).length))
  have h2 := Nat.lt_of_lt_of_le (limbs_lt b) (pow_mono (Nat.le_max_right (limbs a).length (limbs b).length))
  rw [Nat.pow_succ]
  generalize 1000000000 ^ max (limbs a).length (limbs b).length = P at *
  omega
theorem sgn_mul (x y : Int) : sgn (decide (x < 0) != decide (y < 0)) (x.natAbs * y.natAbs) = x * y := by
  have hx := sgn_self x
  have hy := sgn_self y
  generalize decide (x < 0) = a at *
  generalize decide (y < 0) = b at *
  rw [← hx, ← hy]
  simp only [sgn_natAbs]
  cases a <;> cases b <;> simp [sgn, Int.natCast_mul, Int.neg_mul, Int.mul_neg]
theorem boxes (w : World) (n0 n1 : Bool) (s0 s1 : Value) : Boxes w (((w.alloc (.cells #[.bool n0, s0] 62)).alloc (.cells #[.bool n1, s1] 62)).alloc (.cells #[.bool false, .slice none 0 0] 62)) n0 n1 s0 s1 := by
  have e1 : (((w.alloc (.cells #[.bool n0, s0] 62)).alloc (.cells #[.bool n1, s1] 62)).alloc (.cells #[.bool false, .slice none 0 0] 62)).heap[w.heap.size]? = some (.cells #[.bool n0, s0] 62 (0, 0)) := by
    rw [Below.heap_alloc _ _ _ (by simp; omega), Below.heap_alloc _ _ _ (by simp)]; exact heap_alloc_new w _
  have e2 : (((w.alloc (.cells #[.bool n0, s0] 62)).alloc (.cells #[.bool n1, s1] 62)).alloc (.cells #[.bool false, .slice none 0 0] 62)).heap[w.heap.size + 1]? = some (.cells #[.bool n1, s1] 62 (0, 0)) := by
    rw [Below.heap_alloc _ _ _ (by simp)]
    have := heap_alloc_new (w.alloc (.cells #[.bool n0, s0] 62)) (.cells #[.bool n1, s1] 62)
    simpa using this
  have e3 : (((w.alloc (.cells #[.bool n0, s0] 62)).alloc (.cells #[.bool n1, s1] 62)).alloc (.cells #[.bool false, .slice none 0 0] 62)).heap[w.heap.size + 1 + 1]? = some (.cells #[.bool false, .slice none 0 0] 62 (0, 0)) := by
    have := heap_alloc_new ((w.alloc (.cells #[.bool n0, s0] 62)).alloc (.cells #[.bool n1, s1] 62)) (.cells #[.bool false, .slice none 0 0] 62)
    simpa using this
  exact ⟨cell_of_row _ _ 0 _ _ (0, 0) e1, cell_of_row _ _ 1 _ _ (0, 0) e1, cell_of_row _ _ 0 _ _ (0, 0) e2, cell_of_row _ _ 1 _ _ (0, 0) e2, e3, cell_of_row _ _ 0 _ _ (0, 0) e3, cell_of_row _ _ 1 _ _ (0, 0) e3,
    frozen_of_row _ _ 0 _ _ e3, frozen_of_row _ _ 1 _ _ e3, ((((Below.refl _ _).alloc (Nat.le_refl _) _).alloc (by simp) _).alloc (by simp; omega) _), by simp⟩
theorem Boxes.below {w W W' : World} {n0 n1 : Bool} {s0 s1 : Value} (h : Boxes w W n0 n1 s0 s1) (hb : Below W.heap.size W W') : Boxes w W' n0 n1 s0 s1 := by
  have hs := h.size
  have hs' := hb.size
  refine ⟨?_, ?_, ?_, ?_, (hb.block _ (by omega)).trans h.rb, ?_, ?_, ?_, ?_, h.bel.trans (hb.mono (by omega)), by omega⟩
  · rw [hb.cell (show (⟨w.heap.size, 0, none⟩ : Addr).block < _ by show w.heap.size < _; omega)]; exact h.a0
  · rw [hb.cell (show (⟨w.heap.size, 1, none⟩ : Addr).block < _ by show w.heap.size < _; omega)]; exact h.a1
  · rw [hb.cell (show (⟨w.heap.size + 1, 0, none⟩ : Addr).block < _ by show w.heap.size + 1 < _; omega)]; exact h.b0
  · rw [hb.cell (show (⟨w.heap.size + 1, 1, none⟩ : Addr).block < _ by show w.heap.size + 1 < _; omega)]; exact h.b1
  · rw [hb.cell (show (⟨w.heap.size + 1 + 1, 0, none⟩ : Addr).block < _ by show w.heap.size + 1 + 1 < _; omega)]; exact h.r0
  · rw [hb.cell (show (⟨w.heap.size + 1 + 1, 1, none⟩ : Addr).block < _ by show w.heap.size + 1 + 1 < _; omega)]; exact h.r1
  · rw [hb.frozen (show (⟨w.heap.size + 1 + 1, 0, none⟩ : Addr).block < _ by show w.heap.size + 1 + 1 < _; omega)]; exact h.f0
  · rw [hb.frozen (show (⟨w.heap.size + 1 + 1, 1, none⟩ : Addr).block < _ by show w.heap.size + 1 + 1 < _; omega)]; exact h.f1
theorem Boxes.drew {w W : World} {n0 n1 : Bool} {s0 s1 : Value} (h : Boxes w W n0 n1 s0 s1) : Boxes w W.drew n0 n1 s0 s1 := ⟨h.a0, h.a1, h.b0, h.b1, h.rb, h.r0, h.r1, h.f0, h.f1, h.bel.drew, h.size⟩

/-- Numbers don't lie in a box. -/
theorem Cells.store2 {w : World} {A : Option Addr} {xs : List Nat} {g : Nat} {b : Bool} {A0 : Option Addr} {l0 c0 : Nat} {t : TypeId} (h : Cells .u64 w A xs) (hg : w.heap[g]? = some (.cells #[.bool b, .slice A0 l0 c0] t (0, 0))) (u v : Value) :
    Cells .u64 ((w.setCell ⟨g, 0, none⟩ u).setCell ⟨g, 1, none⟩ v) A xs := by
  by_cases hne : xs = []
  · subst hne; exact Cells.nil _ _ _
  · have ho : Off g A := by
      intro b' off' e
      obtain ⟨b2, o2, e2, hlt, hc⟩ := h hne
      rw [e] at e2; injection e2 with e2; injection e2 with e2 e3
      subst e2 e3
      rintro rfl
      have h1 := hc 0 (by rcases xs with _ | ⟨x, xs⟩; exact absurd rfl hne; simp)
      rw [Nat.add_zero, cell_of_row _ _ _ _ _ _ hg] at h1
      rcases off' with _ | _ | off'
      · simp at h1
      · simp at h1
      · simp at h1
    have h1 : w.grownBy (w.setCell ⟨g, 0, none⟩ u) (some g) := only_setCell (p := ⟨g, 0, none⟩) (World.grownBy.refl w (some g)) (.inl rfl) u
    have h2 : w.grownBy ((w.setCell ⟨g, 0, none⟩ u).setCell ⟨g, 1, none⟩ v) (some g) := only_setCell (p := ⟨g, 1, none⟩) h1 (.inl rfl) v
    exact h.only h2 ho
theorem cell_far {w : World} {p q : Addr} (u : Value) (h : q.block ≠ p.block) : (w.setCell p u).cell? q = w.cell? q := World.cell?_of_block (w := w) (Below.heap_setCell w p u q.block h)
/-- The four cells of what came in. -/
def Four (w W : World) (n0 n1 : Bool) (s0 s1 : Value) : Prop := W.cell? ⟨w.heap.size, 0, none⟩ = some (.bool n0) ∧ W.cell? ⟨w.heap.size, 1, none⟩ = some s0 ∧ W.cell? ⟨w.heap.size + 1, 0, none⟩ = some (.bool n1) ∧ W.cell? ⟨w.heap.size + 1, 1, none⟩ = some s1
theorem Boxes.four {w W : World} {n0 n1 : Bool} {s0 s1 : Value} (h : Boxes w W n0 n1 s0 s1) : Four w W n0 n1 s0 s1 := ⟨h.a0, h.a1, h.b0, h.b1⟩
theorem Boxes.four_store {w W : World} {n0 n1 : Bool} {s0 s1 : Value} (h : Boxes w W n0 n1 s0 s1) (x y : Value) : Four w ((W.setCell ⟨w.heap.size + 1 + 1, 0, none⟩ x).setCell ⟨w.heap.size + 1 + 1, 1, none⟩ y) n0 n1 s0 s1 := by
  refine ⟨?_, ?_, ?_, ?_⟩
  · rw [cell_far _ (by show w.heap.size ≠ w.heap.size + 1 + 1; omega), cell_far _ (by show w.heap.size ≠ w.heap.size + 1 + 1; omega)]; exact h.a0
  · rw [cell_far _ (by show w.heap.size ≠ w.heap.size + 1 + 1; omega), cell_far _ (by show w.heap.size ≠ w.heap.size + 1 + 1; omega)]; exact h.a1
  · rw [cell_far _ (by show w.heap.size + 1 ≠ w.heap.size + 1 + 1; omega), cell_far _ (by show w.heap.size + 1 ≠ w.heap.size + 1 + 1; omega)]; exact h.b0
  · rw [cell_far _ (by show w.heap.size + 1 ≠ w.heap.size + 1 + 1; omega), cell_far _ (by show w.heap.size + 1 ≠ w.heap.size + 1 + 1; omega)]; exact h.b1

set_option maxRecDepth 100000 in
set_option maxHeartbeats 2000000 in
theorem Mul_any (u v : Value) (x y : Int) (w : World) (hx : IsNum w u x) (hy : IsNum w v y) (hlx : (limbs x.natAbs).length ≤ 100000000) (hly : (limbs y.natAbs).length ≤ 100000000) :
    Calls Tryz.prog 35 #[u, v] w (RetNum w (x * y)) := by
  obtain ⟨_, rfl, A, c, rfl, hlc, hc⟩ := hx
  obtain ⟨_, rfl, A', c', rfl, hlc', hc'⟩ := hy
  have HC := Lib.hid hc
  have HC' := Lib.hid hc'
  generalize hna : decide (x < 0) = na at *
  generalize hnb : decide (y < 0) = nb at *
  have HNA := Lib.hid hna
  have HNB := Lib.hid hnb
  clear hc hc' hna hnb
  go_enter Tryz.func35, Tryz.ntmps35
  go_wp2_with fail
  have hbx := boxes w na nb (.slice A (limbs x.natAbs).length c) (.slice A' (limbs y.natAbs).length c') 
  generalize ((w.alloc (.cells #[.bool na, .slice A (limbs x.natAbs).length c] 62)).alloc (.cells #[.bool nb, .slice A' (limbs y.natAbs).length c'] 62)).alloc (.cells #[.bool false, .slice none 0 0] 62) = W at *
  have HBX := Lib.hid hbx
  have ha0 := hbx.a0
  have ha1 := hbx.a1
  have hb0 := hbx.b0
  have hb1 := hbx.b1
  have HM := Lib.hid (fun (V : World) (hV : Below w.heap.size w V) => mul_any A A' x.natAbs y.natAbs c c' V (HC.out.below hV) (HC'.out.below hV) hlx hly)
  clear hbx
  go_region_held3 (fun w' => w'.cell? ⟨w.heap.size, 0, none⟩ = some (.bool na) ∧ w'.cell? ⟨w.heap.size, 1, none⟩ = some (.slice A (limbs x.natAbs).length c) ∧ w'.cell? ⟨w.heap.size + 1, 0, none⟩ = some (.bool nb) ∧ w'.cell? ⟨w.heap.size + 1, 1, none⟩ = some (.slice A' (limbs y.natAbs).length c'))
    (first | exact HBX3.out.four_store _ _ | exact HBX3.out.four | exact HBX2.out.four | go_keep)
    (first | (go_at_call 61; refine (HM.out _ (by exact HBX.out.drew.bel)).mono ?_; rintro e w2 ⟨v2, rfl, hv2, hb2⟩; have HBX2 := Lib.hid (HBX.out.drew.below hb2); have HV2 := Lib.hid hv2; clear hv2 hb2) | (go_at_call 60; refine (number_num _ _ _ _ HV2.out (Nat.le_trans (limbs_length_mul _ _) (by omega))).mono ?_; rintro e w3 ⟨v3, rfl, hv3, hb3⟩; have HBX3 := Lib.hid (HBX2.out.below hb3); obtain ⟨_, rfl, A3, c3, rfl, hl3, hs3⟩ := hv3; have HS3 := Lib.hid hs3; have HB3 := Lib.hid hb3; have hr0 := HBX3.out.r0; have hr1 := HBX3.out.r1; have hf0 := HBX3.out.f0; have hf1 := HBX3.out.f1; clear hb3 hs3))
  go_wp2_with fail
  have HBX4 := HBX3.out
  refine bodyPost_ret (v := .agg #[.bool (decide (sgn (!na == nb) (x.natAbs * y.natAbs) < 0)), .slice A3 (limbs (sgn (!na == nb) (x.natAbs * y.natAbs)).natAbs).length c3]) (by simp [results, Tryz.results35, go_sem, hr0, hr1]) rfl ?_
  have e : sgn (!na == nb) (x.natAbs * y.natAbs) = x * y := by rw [← HNA.out, ← HNB.out]; exact sgn_mul x y
  rw [e]
  have hb4 := (HBX4.bel.setCell (p := ⟨w.heap.size + 1 + 1, 0, none⟩) (by show w.heap.size ≤ w.heap.size + 1 + 1; omega) (.bool (decide (x * y < 0)))).setCell (p := ⟨w.heap.size + 1 + 1, 1, none⟩) (by show w.heap.size ≤ w.heap.size + 1 + 1; omega) (.slice A3 (limbs (x * y).natAbs).length c3)
  exact ⟨_, rfl, ⟨_, rfl, IsNat.mk (by rw [← e]; exact hl3) ((by rw [← e]; exact HS3.out : Cells .u64 w3 A3 (limbs (x * y).natAbs)).store2 HBX4.rb _ _)⟩, hb4⟩

end Go.Proofs.YtmickdolpgjbhaaGreatDoor
