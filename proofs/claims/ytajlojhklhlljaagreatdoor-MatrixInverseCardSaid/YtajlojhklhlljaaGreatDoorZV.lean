import Derived.Test.YtajlojhklhlljaaGreatDoorZU
import Derived.Test.YtajlojhklhlljaaGreatDoorZL
import Derived.Test.YtajlojhklhlljaaGreatDoorZO
import Derived.Test.YtajlojhklhlljaaGreatDoorZM
import Derived.Test.YtajlojhklhlljaaGreatDoorZR
import Derived.Shelf.Vars
set_option maxHeartbeats 16000000
set_option maxRecDepth 100000
namespace Go.Proofs.YtajlojhklhlljaaGreatDoor
open Go.RowKit
def Apart (b : Nat) (v : Value) : Prop := ∃ nb A l c, v = .agg #[.bool nb, .slice A l c] ∧ ∀ bb off, A = some ⟨bb, off, none⟩ → bb ≠ b
theorem FreshV.apart {w : World} {v : Value} {b : Nat} (h : FreshV w v) (hb : b < w.heap.size) : Apart b v := by
 obtain ⟨nb, A, l, c, e, hA⟩ := h
 exact ⟨nb, A, l, c, e, fun bb off e2 => by have := hA bb off e2; omega⟩
theorem IsBig.grown {w w' : World} {v : Value} {z : Int} {b : Nat} (h : IsBig w v z) (ha : Apart b v) (hg : w.grownBy w' (some b)) : IsBig w' v z := by
 obtain ⟨A, c, rfl, hl, hc⟩ := h
 obtain ⟨nb, A2, l2, c2, e, hA⟩ := ha
 injection e with e
 have e1 := congrArg (fun a => a[1]?) e
 simp at e1
 obtain ⟨rfl, _, _⟩ := e1
 exact ⟨A, c, rfl, hl, hc.only hg hA⟩
theorem grown_bel {a w w' : World} {g : Option Nat} (h : a.grownBy w g) (hb : Below w.heap.size w w') : a.grownBy w' g :=
 ⟨hb.os.trans h.os, hb.tape.trans h.tape, hb.output.trans h.output, Nat.le_trans h.size hb.size, fun i hi hne => (hb.block i (Nat.lt_of_lt_of_le hi h.size)).trans (h.block i hi hne)⟩
def RetLong (w : World) (b d : Nat) (e : Ending) (w' : World) : Prop := ∃ q : Rat, e = .returned (.string (rstr q)) ∧ DigR d q ∧ Src w' b ∧ w.grownBy w' (some b)
def LongS (w : World) (b d g : Nat) (W : World) : Prop := ∃ (z : Int) (nb : Bool) (A : Option Addr) (l c : Nat), z ≠ 0 ∧ Dig d z ∧ Blk W g 97 [.bool nb, .slice A l c] ∧ IsBig W (.agg #[.bool nb, .slice A l c]) z ∧ Apart b (.agg #[.bool nb, .slice A l c]) ∧ Src W b ∧ w.grownBy W (some b) ∧ b < g
end Go.Proofs.YtajlojhklhlljaaGreatDoor
namespace Go.Proofs.YtajlojhklhlljaaGreatDoor
open Go.RowKit
theorem rstr_is0 (q : Rat) : ((rstr q).toList == [48]) = decide (q = 0) := by
 rw [Lib.toList_data, rstr_list]
 by_cases h : q = 0
 ·subst h
  rw [rtext_whole (show (0 : Rat).den = 1 from rfl), decide_eq_true rfl]
  show (Lib.itoa 0 == [48]) = true
  rw [itoa_zero]; rfl
 ·rw [decide_eq_false h, beq_eq_false_iff_ne]
  exact rstr_ne_zero h
theorem rstr_lit {q : Rat} {n : Int} {d : Nat} {a b : List UInt8} (h1 : q.num = n) (h2 : q.den = d) (hd : d ≠ 1) (ha : Lib.itoa n = a) (hb : Lib.itoa (d : Int) = b) : rstr q = ⟨(a ++ 47 :: b).toArray⟩ := by
 unfold rstr
 rw [rtext_parts (by rw [h2]; exact hd), h1, h2, ha, hb]
theorem itoa_d {n : Nat} (h : n < 10) : Lib.itoa (n : Int) = [UInt8.ofNat (48 + n)] := by rw [itoa_pos, Lib.decDigits_one h]
theorem itoa_nd {n : Nat} (h : n < 10) (h0 : 0 < n) : Lib.itoa (-(n : Int)) = [45, UInt8.ofNat (48 + n)] := by rw [itoa_negNat _ h0, Lib.decDigits_one h]
theorem t_12 : rstr (Rat.divInt 1 2) = ⟨#[49, 47, 50]⟩ := rstr_lit (n := 1) (d := 2) (by decide +kernel) (by decide +kernel) (by decide) (itoa_d (n := 1) (by decide)) (itoa_d (n := 2) (by decide))
theorem fitsR_small {q : Rat} (h1 : q.num.natAbs < 1000000000) (h2 : q.den < 1000000000) : FitsR q := ⟨fits_small h1, fits_small (by rw [Int.natAbs_natCast]; exact h2)⟩
end Go.Proofs.YtajlojhklhlljaaGreatDoor
namespace Go.Proofs.YtajlojhklhlljaaGreatDoor
open Go.ChangeShapes Go.WideShapes Go.ChangeAt Go.RowKit
theorem env_of {W : World} (h : laidMetH Tryz.prog laidList W) (hs : W.ShapedOpen Tryz.prog) : Env W :=
 ⟨tab_of h, cell_of_shapedOpen_int (zero := #[.int .i64 0]) (t := 3) hs (of_decide_eq_true (by kernel_rfl)) (by kernel_rfl) rfl (by kernel_rfl) (by kernel_rfl) Tryz.underlying3⟩
end Go.Proofs.YtajlojhklhlljaaGreatDoor
