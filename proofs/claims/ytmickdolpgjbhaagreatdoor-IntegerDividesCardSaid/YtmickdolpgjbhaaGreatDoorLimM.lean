/-
  Package limbs: Div of numbers with signs.
-/
import Derived.Test.YtmickdolpgjbhaaGreatDoorLimL
namespace Go.Proofs.YtmickdolpgjbhaaGreatDoor
open Go.RowKit

/-- The results mean two integers; nothing that was there has changed. -/
def RetNum2 (w : World) (q r : Int) (e : Ending) (w' : World) : Prop := ∃ v u, e = .returned (.tuple #[v, u]) ∧ IsNum w' v q ∧ IsNum w' u r ∧ Below w.heap.size w w'
/-- Two numbers that came in lie in boxes; two boxes are for the results. -/
structure BoxesD (w W : World) (n0 n1 : Bool) (s0 s1 : Value) : Prop where
  a0 : W.cell? ⟨w.heap.size, 0, none⟩ = some (.bool n0)
  a1 : W.cell? ⟨w.heap.size, 1, none⟩ = some s0
  b0 : W.cell? ⟨w.heap.size + 1, 0, none⟩ = some (.bool n1)
  b1 : W.cell? ⟨w.heap.size + 1, 1, none⟩ = some s1
  r0 : Res W (w.heap.size + 1 + 1)
  r1 : Res W (w.heap.size + 1 + 1 + 1)
  bel : Below w.heap.size w W
  size : w.heap.size + 4 ≤ W.heap.size
theorem boxesD (w : World) (n0 n1 : Bool) (s0 s1 : Value) : BoxesD w ((((w.alloc (.cells #[.bool n0, s0] 62)).alloc (.cells #[.bool n1, s1] 62)).alloc (.cells #[.bool false, .slice none 0 0] 62)).alloc (.cells #[.bool false, .slice none 0 0] 62)) n0 n1 s0 s1 := by
  have h := boxes w n0 n1 s0 s1
  have hs : ((((w.alloc (.cells #[.bool n0, s0] 62)).alloc (.cells #[.bool n1, s1] 62)).alloc (.cells #[.bool false, .slice none 0 0] 62))).heap.size = w.heap.size + 1 + 1 + 1 := by simp
  generalize ((w.alloc (.cells #[.bool n0, s0] 62)).alloc (.cells #[.bool n1, s1] 62)).alloc (.cells #[.bool false, .slice none 0 0] 62) = W at *
  have hb : Below W.heap.size W (W.alloc (.cells #[.bool false, .slice none 0 0] 62)) := (Below.refl _ _).alloc (Nat.le_refl _) _
  have h2 := h.below hb
  exact ⟨h2.a0, h2.a1, h2.b0, h2.b1, ⟨h2.rb⟩, hs ▸ Res.new W, h2.bel, by simp; omega⟩
theorem BoxesD.below {w W W' : World} {n0 n1 : Bool} {s0 s1 : Value} (h : BoxesD w W n0 n1 s0 s1) (hb : Below W.heap.size W W') : BoxesD w W' n0 n1 s0 s1 := by
  have hs := h.size
  have hs' := hb.size
  refine ⟨?_, ?_, ?_, ?_, h.r0.below hb, h.r1.below hb, h.bel.trans (hb.mono (by omega)), by omega⟩
  · rw [hb.cell (show (⟨w.heap.size, 0, none⟩ : Addr).block < _ by show w.heap.size < _; omega)]; exact h.a0
  · rw [hb.cell (show (⟨w.heap.size, 1, none⟩ : Addr).block < _ by show w.heap.size < _; omega)]; exact h.a1
  · rw [hb.cell (show (⟨w.heap.size + 1, 0, none⟩ : Addr).block < _ by show w.heap.size + 1 < _; omega)]; exact h.b0
  · rw [hb.cell (show (⟨w.heap.size + 1, 1, none⟩ : Addr).block < _ by show w.heap.size + 1 < _; omega)]; exact h.b1
/-- How Div ends. -/
theorem end2 {w W : World} {g h : Nat} {A A' : Option Addr} {c c' : Nat} {x y x' y' : Int} (hg : Res W g) (hh : Res W h) (hgh : g ≠ h) (hb : Below w.heap.size w W) (hwg : w.heap.size ≤ g) (hwh : w.heap.size ≤ h)
    (hc : Cells .u64 W A (limbs x.natAbs)) (hl : (limbs x.natAbs).length ≤ c) (hc' : Cells .u64 W A' (limbs y.natAbs)) (hl' : (limbs y.natAbs).length ≤ c') (e : x = x') (e' : y = y') :
    RetNum2 w x' y' (.returned (.tuple #[.agg #[.bool (decide (x < 0)), .slice A (limbs x.natAbs).length c], .agg #[.bool (decide (y < 0)), .slice A' (limbs y.natAbs).length c']]))
      ((((W.setCell ⟨g, 0, none⟩ (.bool (decide (x < 0)))).setCell ⟨g, 1, none⟩ (.slice A (limbs x.natAbs).length c)).setCell ⟨h, 0, none⟩ (.bool (decide (y < 0)))).setCell ⟨h, 1, none⟩ (.slice A' (limbs y.natAbs).length c')) := by
  subst e e'
  have hh2 : ((W.setCell ⟨g, 0, none⟩ (.bool (decide (x < 0)))).setCell ⟨g, 1, none⟩ (.slice A (limbs x.natAbs).length c)).heap[h]? = some (.cells #[.bool false, .slice none 0 0] 62 (0, 0)) := by
    rw [Below.heap_setCell _ _ _ _ (by show h ≠ g; omega), Below.heap_setCell _ _ _ _ (by show h ≠ g; omega)]; exact hh.rb
  exact ⟨_, _, rfl, ⟨_, rfl, IsNat.mk hl ((hc.store2 hg.rb _ _).store2 hh2 _ _)⟩, ⟨_, rfl, IsNat.mk hl' ((hc'.store2 hg.rb _ _).store2 hh2 _ _)⟩,
    (((hb.setCell (p := ⟨g, 0, none⟩) hwg _).setCell (p := ⟨g, 1, none⟩) hwg _).setCell (p := ⟨h, 0, none⟩) hwh _).setCell (p := ⟨h, 1, none⟩) hwh _⟩

theorem div_exact (x y : Int) (hy : y ≠ 0) (h : ¬ (x < 0 ∧ x.natAbs % y.natAbs ≠ 0)) : sgn (decide (x < 0) != decide (y < 0)) (x.natAbs / y.natAbs) = x / y ∧ sgn false (x.natAbs % y.natAbs) = x % y := by
  have h1 := Nat.mod_add_div x.natAbs y.natAbs
  have h2 := Nat.mod_lt x.natAbs (show 0 < y.natAbs by omega)
  have key : x = y * sgn (decide (x < 0) != decide (y < 0)) (x.natAbs / y.natAbs) + sgn false (x.natAbs % y.natAbs) := by
    generalize x.natAbs / y.natAbs = q at *
    generalize x.natAbs % y.natAbs = r at *
    have h1' : (r : Int) + (y.natAbs : Int) * (q : Int) = (x.natAbs : Int) := by rw [← Int.natCast_mul]; omega
    by_cases hx : x < 0 <;> by_cases hyn : y < 0 <;> simp only [hx, hyn, sgn, decide_true, decide_false, bne_self_eq_false, Bool.false_eq_true, if_false, if_true, Bool.bne_true, Bool.bne_false, Bool.not_true, Bool.not_false]
    · have hr : r = 0 := by apply Decidable.byContradiction; intro hr; exact h ⟨hx, hr⟩
      have e1 : (x.natAbs : Int) = -x := by omega
      have e2 : (y.natAbs : Int) = -y := by omega
      subst hr
      rw [e1, e2] at h1'
      grind
    · have hr : r = 0 := by apply Decidable.byContradiction; intro hr; exact h ⟨hx, hr⟩
      have e1 : (x.natAbs : Int) = -x := by omega
      have e2 : (y.natAbs : Int) = y := by omega
      subst hr
      rw [e1, e2] at h1'
      grind
    · have e1 : (x.natAbs : Int) = x := by omega
      have e2 : (y.natAbs : Int) = -y := by omega
      rw [e1, e2] at h1'
      grind
    · have e1 : (x.natAbs : Int) = x := by omega
      have e2 : (y.natAbs : Int) = y := by omega
      rw [e1, e2] at h1'
      grind
  have hr0 : 0 ≤ sgn false (x.natAbs % y.natAbs) := by simp [sgn]; omega
  have hr1 : sgn false (x.natAbs % y.natAbs) < y.natAbs := by simp only [sgn, Bool.false_eq_true, if_false]; omega
  generalize sgn (decide (x < 0) != decide (y < 0)) (x.natAbs / y.natAbs) = q at *
  generalize sgn false (x.natAbs % y.natAbs) = r at *
  exact ediv_unique x y q r hy key hr0 hr1
where
  ediv_unique (x y q r : Int) (hy : y ≠ 0) (h : x = y * q + r) (h0 : 0 ≤ r) (h1 : r < y.natAbs) : q = x / y ∧ r = x % y := by
    rcases Int.lt_or_gt_of_ne hy with hn | hp
    · have := (Int.ediv_emod_unique' (a := x) (b := y) (r := r) (q := q) hn).2 ⟨by omega, h0, by omega⟩
      exact ⟨this.1.symm, this.2.symm⟩
    · have := (Int.ediv_emod_unique (a := x) (b := y) (r := r) (q := q) hp).2 ⟨by omega, h0, by omega⟩
      exact ⟨this.1.symm, this.2.symm⟩
theorem div_more (x y : Int) (hy : y ≠ 0) (hx : x < 0) (hr : x.natAbs % y.natAbs ≠ 0) : sgn (decide (x < 0) != decide (y < 0)) (x.natAbs / y.natAbs + 1) = x / y ∧ sgn false (y.natAbs - x.natAbs % y.natAbs) = x % y := by
  have h1 := Nat.mod_add_div x.natAbs y.natAbs
  have h2 := Nat.mod_lt x.natAbs (show 0 < y.natAbs by omega)
  have key : x = y * sgn (decide (x < 0) != decide (y < 0)) (x.natAbs / y.natAbs + 1) + sgn false (y.natAbs - x.natAbs % y.natAbs) := by
    generalize x.natAbs / y.natAbs = q at *
    generalize x.natAbs % y.natAbs = r at *
    have h1' : (r : Int) + (y.natAbs : Int) * (q : Int) = (x.natAbs : Int) := by rw [← Int.natCast_mul]; omega
    have e0 : ((y.natAbs - r : Nat) : Int) = (y.natAbs : Int) - (r : Int) := by omega
    have e1 : (x.natAbs : Int) = -x := by omega
    by_cases hyn : y < 0 <;> simp only [hx, hyn, sgn, decide_true, decide_false, bne_self_eq_false, Bool.false_eq_true, if_false, if_true, Bool.bne_true, Bool.bne_false, Bool.not_true, Bool.not_false]
    · have e2 : (y.natAbs : Int) = -y := by omega
      rw [e0, e2, Int.natCast_succ]
      rw [e1, e2] at h1'
      grind
    · have e2 : (y.natAbs : Int) = y := by omega
      rw [e0, e2, Int.natCast_succ]
      rw [e1, e2] at h1'
      grind
  have hr0 : 0 ≤ sgn false (y.natAbs - x.natAbs % y.natAbs) := by simp [sgn]
  have hr1 : sgn false (y.natAbs - x.natAbs % y.natAbs) < y.natAbs := by simp only [sgn, Bool.false_eq_true, if_false]; omega
  generalize sgn (decide (x < 0) != decide (y < 0)) (x.natAbs / y.natAbs + 1) = q at *
  generalize sgn false (y.natAbs - x.natAbs % y.natAbs) = r at *
  exact div_exact.ediv_unique x y q r hy key hr0 hr1

end Go.Proofs.YtmickdolpgjbhaaGreatDoor
