/-
  What the rows of the laws on fractions share: the library's variables, as the world's shape and the row lay them.
-/
import Derived.Test.YtnjccldjlpkgkaaGreatDoorZU
import Derived.Test.YtnjccldjlpkgkaaGreatDoorZL
import Derived.Test.YtnjccldjlpkgkaaGreatDoorZO
import Derived.Test.YtnjccldjlpkgkaaGreatDoorZM
import Derived.Test.YtnjccldjlpkgkaaGreatDoorZR
import Derived.Shelf.Vars
namespace Go.Proofs.YtnjccldjlpkgkaaGreatDoor
open Go.RowKit

/-- The number's row does not lie in block b. -/
def Apart (b : Nat) (v : Value) : Prop := ∃ nb A l c, v = .agg #[.bool nb, .slice A l c] ∧ ∀ bb off, A = some ⟨bb, off, none⟩ → bb ≠ b
theorem FreshV.apart {w : World} {v : Value} {b : Nat} (h : FreshV w v) (hb : b < w.heap.size) : Apart b v := by
  obtain ⟨nb, A, l, c, e, hA⟩ := h
  exact ⟨nb, A, l, c, e, fun bb off e2 => by have := hA bb off e2; omega⟩
theorem IsBig.grown {w w' : World} {v : Value} {z : Int} {b : Nat} (h : IsBig w v z) (ha : Apart b v) (hg : w.grownBy w' (some b)) : IsBig w' v z := by
  obtain ⟨A, c, rfl, hl, hc⟩ := h
  obtain ⟨nb, A2, l2, c2, e, hA⟩ := ha
  injection e with e
  have e1 := congrArg (fun a => a[1]?) e
  simp at e1
  obtain ⟨rfl, _, _⟩ := e1
  exact ⟨A, c, rfl, hl, hc.only hg hA⟩
theorem grown_bel {a w w' : World} {g : Option Nat} (h : a.grownBy w g) (hb : Below w.heap.size w w') : a.grownBy w' g :=
  ⟨hb.os.trans h.os, hb.tape.trans h.tape, hb.output.trans h.output, Nat.le_trans h.size hb.size, fun i hi hne => (hb.block i (Nat.lt_of_lt_of_le hi h.size)).trans (h.block i hi hne)⟩
theorem grown_drew {a w : World} {g : Option Nat} (h : a.grownBy w g) : a.grownBy w.drew g := ⟨h.os, h.tape, h.output, h.size, h.block⟩
/-- The result is the text of some fraction whose parts have at most d digits; the source goes on. -/
def RetLong (w : World) (b d : Nat) (e : Ending) (w' : World) : Prop := ∃ q : Rat, e = .returned (.string (rstr q)) ∧ DigR d q ∧ Src w' b ∧ w.grownBy w' (some b)
/-- A denominator that is not 0, in its box. -/
def LongS (w : World) (b d g : Nat) (W : World) : Prop := ∃ (z : Int) (nb : Bool) (A : Option Addr) (l c : Nat), z ≠ 0 ∧ Dig d z ∧ Blk W g 60 [.bool nb, .slice A l c] ∧ IsBig W (.agg #[.bool nb, .slice A l c]) z ∧ Apart b (.agg #[.bool nb, .slice A l c]) ∧ Src W b ∧ w.grownBy W (some b) ∧ b < g

end Go.Proofs.YtnjccldjlpkgkaaGreatDoor

namespace Go.Proofs.YtnjccldjlpkgkaaGreatDoor
open Go.RowKit

theorem rstr_is0 (q : Rat) : ((rstr q).toList == [48]) = decide (q = 0) := by
  rw [Lib.toList_data, rstr_list]
  by_cases h : q = 0
  · subst h
    rw [rtext_whole (show (0 : Rat).den = 1 from rfl), decide_eq_true rfl]
    show (Lib.itoa 0 == [48]) = true
    rw [itoa_zero]; rfl
  · rw [decide_eq_false h, beq_eq_false_iff_ne]
    exact rstr_ne_zero h
theorem rstr_lit {q : Rat} {n : Int} {d : Nat} {a b : List UInt8} (h1 : q.num = n) (h2 : q.den = d) (hd : d ≠ 1) (ha : Lib.itoa n = a) (hb : Lib.itoa (d : Int) = b) : rstr q = ⟨(a ++ 47 :: b).toArray⟩ := by
  unfold rstr
  rw [rtext_parts (by rw [h2]; exact hd), h1, h2, ha, hb]
theorem itoa_d {n : Nat} (h : n < 10) : Lib.itoa (n : Int) = [UInt8.ofNat (48 + n)] := by rw [itoa_pos, Lib.decDigits_one h]
theorem itoa_nd {n : Nat} (h : n < 10) (h0 : 0 < n) : Lib.itoa (-(n : Int)) = [45, UInt8.ofNat (48 + n)] := by rw [itoa_negNat _ h0, Lib.decDigits_one h]
theorem q_m32 : Rat.divInt 6 (-4) = Rat.divInt (-3) 2 := by decide +kernel
theorem q_56 : Rat.divInt 1 2 + Rat.divInt 1 3 = Rat.divInt 5 6 := by decide +kernel
theorem t_m32 : rstr (Rat.divInt (-3) 2) = ⟨#[45, 51, 47, 50]⟩ := rstr_lit (n := -3) (d := 2) (by decide +kernel) (by decide +kernel) (by decide) (itoa_nd (n := 3) (by decide) (by decide)) (itoa_d (n := 2) (by decide))
theorem t_12 : rstr (Rat.divInt 1 2) = ⟨#[49, 47, 50]⟩ := rstr_lit (n := 1) (d := 2) (by decide +kernel) (by decide +kernel) (by decide) (itoa_d (n := 1) (by decide)) (itoa_d (n := 2) (by decide))
theorem t_13 : rstr (Rat.divInt 1 3) = ⟨#[49, 47, 51]⟩ := rstr_lit (n := 1) (d := 3) (by decide +kernel) (by decide +kernel) (by decide) (itoa_d (n := 1) (by decide)) (itoa_d (n := 3) (by decide))
theorem t_56 : rstr (Rat.divInt 5 6) = ⟨#[53, 47, 54]⟩ := rstr_lit (n := 5) (d := 6) (by decide +kernel) (by decide +kernel) (by decide) (itoa_d (n := 5) (by decide)) (itoa_d (n := 6) (by decide))
theorem fitsR_small {q : Rat} (h1 : q.num.natAbs < 1000000000) (h2 : q.den < 1000000000) : FitsR q := ⟨fits_small h1, fits_small (by rw [Int.natAbs_natCast]; exact h2)⟩
theorem v_24 : validR [50, 47, 52] = false := by
  have hc : cutS [50, 47, 52] = ([50], [52], true) := rfl
  rw [validR_gcd (n := 2) (m := 4) (by rw [hc]) (by rw [hc]; exact (itoa_d (n := 2) (by decide)).symm) (by rw [hc]; exact (itoa_d (n := 4) (by decide)).symm) (fits_small (by decide)) (fits_small (by decide)) (by decide) (by decide)]
  decide
theorem str_m3 : str (-3) = ⟨#[45, 51]⟩ := str_neg1 (n := 3) (by decide) (by decide)

end Go.Proofs.YtnjccldjlpkgkaaGreatDoor

namespace Go.Proofs.YtnjccldjlpkgkaaGreatDoor
open Go.ChangeShapes Go.WideShapes Go.ChangeAt Go.RowKit

theorem env_of {W : World} (h : laidMetH Tryz.prog laidList W) (hs : W.ShapedOpen Tryz.prog) : Env W :=
  ⟨tab_of h, cell_of_shapedOpen_int (zero := #[.int .i64 0]) (t := 3) hs (of_decide_eq_true (by kernel_rfl)) (by kernel_rfl) rfl (by kernel_rfl) (by kernel_rfl) Tryz.underlying3⟩
theorem i16_wf {n : Int} (h : (Lit.int .i16 n).wf = true) : -32768 ≤ n ∧ n ≤ 32767 := by
  rw [Lit.wf, show IntKind.i16.min = -32768 by decide, show IntKind.i16.max = 32767 by decide] at h
  simpa using h
theorem u8_wfB {n : Int} (h : (Lit.int .u8 n).wf = true) : 0 ≤ n ∧ n ≤ 255 := by
  rw [Lit.wf, show IntKind.u8.min = 0 by decide, show IntKind.u8.max = 255 by decide] at h
  simpa using h
end Go.Proofs.YtnjccldjlpkgkaaGreatDoor
