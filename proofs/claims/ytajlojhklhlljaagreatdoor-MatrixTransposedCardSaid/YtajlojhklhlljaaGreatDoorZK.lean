import Derived.Test.YtajlojhklhlljaaGreatDoorZJ
import Derived.Test.YtajlojhklhlljaaGreatDoorZF
import Derived.Deep.DrawnRows
set_option maxHeartbeats 16000000
set_option maxRecDepth 100000
namespace Go.Proofs.YtajlojhklhlljaaGreatDoor
open Go.RowKit
theorem IsBig.drew {w : World} {v : Value} {z : Int} (h : IsBig w v z) : IsBig w.drew v z := h
structure D3 (w W : World) (g8 g10 : Nat) (b8 b10 b11 : Bool) (s8 s10 s11 : Value) : Prop where
 k8 : Blk W (g8 + 1) 97 [.bool b8, s8]
 k10 : Blk W g10 97 [.bool b10, s10]
 k11 : Blk W (g10 + 1) 97 [.bool b11, s11]
 bel : Below w.heap.size w W
 lo : w.heap.size ≤ g8
 mid : g8 + 1 < g10
section
variable {w W W' : World} {g8 g10 : Nat} {b8 b10 b11 : Bool} {s8 s10 s11 : Value}
abbrev Six (W : World) (g8 g10 : Nat) (b8 b10 b11 : Bool) (s8 s10 s11 : Value) : Prop :=
 W.cell? ⟨g8 + 1, 0, none⟩ = some (.bool b8) ∧ W.cell? ⟨g8 + 1, 1, none⟩ = some s8 ∧ W.cell? ⟨g10, 0, none⟩ = some (.bool b10) ∧ W.cell? ⟨g10, 1, none⟩ = some s10 ∧ W.cell? ⟨g10 + 1, 0, none⟩ = some (.bool b11) ∧ W.cell? ⟨g10 + 1, 1, none⟩ = some s11
end
def DEnd (w : World) (g : Nat) (Q R : Int) (wc : World) : Prop := ∃ (Aq Ar : Option Addr) (cq cr : Nat), Blk wc g 97 [.bool (decide (Q < 0)), .slice Aq (limbs Q.natAbs).length cq] ∧ Blk wc (g + 1) 97 [.bool (decide (R < 0)), .slice Ar (limbs R.natAbs).length cr] ∧ IsBig wc (.agg #[.bool (decide (Q < 0)), .slice Aq (limbs Q.natAbs).length cq]) Q ∧ IsBig wc (.agg #[.bool (decide (R < 0)), .slice Ar (limbs R.natAbs).length cr]) R ∧ Below w.heap.size w wc
attribute [local go_sem ↓] Go.wp_at_zero Go.wp_at_succ
end Go.Proofs.YtajlojhklhlljaaGreatDoor
