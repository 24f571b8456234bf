/-
  Package joinlearnref01: Div over texts.
-/
import Derived.Test.YtajlojhklhlljaaGreatDoorZJ
import Derived.Test.YtajlojhklhlljaaGreatDoorZF
import Derived.Deep.DrawnRows
namespace Go.Proofs.YtajlojhklhlljaaGreatDoor
open Go.RowKit

theorem IsBig.drew {w : World} {v : Value} {z : Int} (h : IsBig w v z) : IsBig w.drew v z := h
/-- The boxes of Div: the divisor, the quotient, the rest. -/
structure D3 (w W : World) (g8 g10 : Nat) (b8 b10 b11 : Bool) (s8 s10 s11 : Value) : Prop where
  k8 : Blk W (g8 + 1) 97 [.bool b8, s8]
  k10 : Blk W g10 97 [.bool b10, s10]
  k11 : Blk W (g10 + 1) 97 [.bool b11, s11]
  bel : Below w.heap.size w W
  lo : w.heap.size ≤ g8
  mid : g8 + 1 < g10
section
variable {w W W' : World} {g8 g10 : Nat} {b8 b10 b11 : Bool} {s8 s10 s11 : Value}
theorem D3.below (h : D3 w W g8 g10 b8 b10 b11 s8 s10 s11) (hb : Below W.heap.size W W') : D3 w W' g8 g10 b8 b10 b11 s8 s10 s11 :=
  ⟨h.k8.below hb, h.k10.below hb, h.k11.below hb, h.bel.trans (hb.mono (by have := h.k8.lt; have := h.lo; omega)), h.lo, h.mid⟩
theorem D3.drew (h : D3 w W g8 g10 b8 b10 b11 s8 s10 s11) : D3 w W.drew g8 g10 b8 b10 b11 s8 s10 s11 := ⟨h.k8, h.k10, h.k11, h.bel.drew, h.lo, h.mid⟩
abbrev Six (W : World) (g8 g10 : Nat) (b8 b10 b11 : Bool) (s8 s10 s11 : Value) : Prop :=
  W.cell? ⟨g8 + 1, 0, none⟩ = some (.bool b8) ∧ W.cell? ⟨g8 + 1, 1, none⟩ = some s8 ∧ W.cell? ⟨g10, 0, none⟩ = some (.bool b10) ∧ W.cell? ⟨g10, 1, none⟩ = some s10 ∧ W.cell? ⟨g10 + 1, 0, none⟩ = some (.bool b11) ∧ W.cell? ⟨g10 + 1, 1, none⟩ = some s11
end
/-- What the quotient's and the rest's boxes hold when both are known. -/
def DEnd (w : World) (g : Nat) (Q R : Int) (wc : World) : Prop := ∃ (Aq Ar : Option Addr) (cq cr : Nat), Blk wc g 97 [.bool (decide (Q < 0)), .slice Aq (limbs Q.natAbs).length cq] ∧ Blk wc (g + 1) 97 [.bool (decide (R < 0)), .slice Ar (limbs R.natAbs).length cr] ∧ IsBig wc (.agg #[.bool (decide (Q < 0)), .slice Aq (limbs Q.natAbs).length cq]) Q ∧ IsBig wc (.agg #[.bool (decide (R < 0)), .slice Ar (limbs R.natAbs).length cr]) R ∧ Below w.heap.size w wc
theorem D3.end_ {w W : World} {g8 g10 : Nat} {b8 b10 b11 : Bool} {s8 : Value} {B10 B11 : Option Addr} {l10 m10 l11 m11 : Nat} {Aq Ar : Option Addr} {cq cr : Nat} {Q R : Int} (h : D3 w W g8 g10 b8 b10 b11 s8 (.slice B10 l10 m10) (.slice B11 l11 m11))
    (hq : Cells .i64 W Aq (limbs Q.natAbs)) (hlq : (limbs Q.natAbs).length ≤ cq) (hr : Cells .i64 W Ar (limbs R.natAbs)) (hlr : (limbs R.natAbs).length ≤ cr) {Q' R' : Int} (eQ : Q' = Q) (eR : R' = R) :
    DEnd w g10 Q' R' ((((W.setCell ⟨g10, 0, none⟩ (.bool (decide (Q < 0)))).setCell ⟨g10, 1, none⟩ (.slice Aq (limbs Q.natAbs).length cq)).setCell ⟨g10 + 1, 0, none⟩ (.bool (decide (R < 0)))).setCell ⟨g10 + 1, 1, none⟩ (.slice Ar (limbs R.natAbs).length cr)) := by
  subst eQ eR
  have hlo : w.heap.size ≤ g10 := by have := h.lo; have := h.mid; omega
  have a1 := h.k10.set 0 (.bool (decide (Q' < 0)))
  have a2 := a1.set 1 (.slice Aq (limbs Q'.natAbs).length cq)
  have a3 := (a2.far (p := ⟨g10 + 1, 0, none⟩) (by show g10 ≠ g10 + 1; omega) (.bool (decide (R' < 0)))).far (p := ⟨g10 + 1, 1, none⟩) (by show g10 ≠ g10 + 1; omega) (.slice Ar (limbs R'.natAbs).length cr)
  have b1 := (h.k11.far (p := ⟨g10, 0, none⟩) (by show g10 + 1 ≠ g10; omega) (.bool (decide (Q' < 0)))).far (p := ⟨g10, 1, none⟩) (by show g10 + 1 ≠ g10; omega) (.slice Aq (limbs Q'.natAbs).length cq)
  have b2 := b1.set 0 (.bool (decide (R' < 0)))
  have b3 := b2.set 1 (.slice Ar (limbs R'.natAbs).length cr)
  have go : ∀ (B : Option Addr) (xs : List Nat), Cells .i64 W B xs → Cells .i64 ((((W.setCell ⟨g10, 0, none⟩ (.bool (decide (Q' < 0)))).setCell ⟨g10, 1, none⟩ (.slice Aq (limbs Q'.natAbs).length cq)).setCell ⟨g10 + 1, 0, none⟩ (.bool (decide (R' < 0)))).setCell ⟨g10 + 1, 1, none⟩ (.slice Ar (limbs R'.natAbs).length cr)) B xs :=
    fun B xs hB => (((hB.aside h.k10 noint2 0 _).aside a1 noint2 1 _).aside b1 noint2 0 _).aside b2 noint2 1 _
  exact ⟨Aq, Ar, cq, cr, a3, b3, ⟨_, _, rfl, hlq, go _ _ hq⟩, ⟨_, _, rfl, hlr, go _ _ hr⟩, (((h.bel.setCell (p := ⟨g10, 0, none⟩) hlo _).setCell (p := ⟨g10, 1, none⟩) hlo _).setCell (p := ⟨g10 + 1, 0, none⟩) (by show w.heap.size ≤ g10 + 1; omega) _).setCell (p := ⟨g10 + 1, 1, none⟩) (by show w.heap.size ≤ g10 + 1; omega) _⟩


attribute [local go_sem ↓] Go.wp_at_zero Go.wp_at_succ
end Go.Proofs.YtajlojhklhlljaaGreatDoor
