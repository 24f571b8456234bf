/-
  Package fraction: Add, Mul, Div, Neg, Sub, Compare, Sign, Floor.
-/
import Derived.Test.YtajlojhklhlljaaGreatDoorZP
namespace Go.Proofs.YtajlojhklhlljaaGreatDoor
open Go.RowKit

theorem IsFrac.open_ {w : World} {v : Value} {q : Rat} (h : IsFrac w v q) : ∃ (na nb : Bool) (A A' : Option Addr) (l c l' c' : Nat), v = .agg #[.bool na, .slice A l c, .bool nb, .slice A' l' c'] ∧ IsNum w (.agg #[.bool na, .slice A l c]) q.num ∧ IsNum w (.agg #[.bool nb, .slice A' l' c']) (q.den : Int) := h
theorem IsFrac.slice {w : World} {v : Value} {q : Rat} (h : IsFrac w v q) : ∃ (na nb : Bool) (A A' : Option Addr) (l c l' c' : Nat), v = .agg #[.bool na, .slice A l c, .bool nb, .slice A' l' c'] := by
  obtain ⟨na, nb, A, A', l, c, l', c', e, _, _⟩ := h
  exact ⟨na, nb, A, A', l, c, l', c', e⟩
theorem IsFrac.drew {w : World} {v : Value} {q : Rat} (h : IsFrac w v q) : IsFrac w.drew v q := h
theorem Sz.n {k : Nat} {q : Rat} (h : Sz k q) : (limbs q.num.natAbs).length ≤ k := h.1
theorem Sz.d {k : Nat} {q : Rat} (h : Sz k q) : (limbs ((q.den : Int)).natAbs).length ≤ k := by rw [Int.natAbs_natCast]; exact h.2

end Go.Proofs.YtajlojhklhlljaaGreatDoor
