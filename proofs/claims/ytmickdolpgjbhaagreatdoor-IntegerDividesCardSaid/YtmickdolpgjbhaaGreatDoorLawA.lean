/-
  Package joinlearnlaw01: what the laws share.
-/
import Derived.Test.YtmickdolpgjbhaaGreatDoorSane
namespace Go.Proofs.YtmickdolpgjbhaaGreatDoor
open Go.RowKit

def Dig (d : Nat) (x : Int) : Prop := x.natAbs < 10 ^ d
theorem Dig.of_len {d : Nat} {x : Int} (h : (Lib.decDigits x.natAbs).length ≤ d) : Dig d x := by
  unfold Dig
  have h1 := decVal_lt (l := Lib.decDigits x.natAbs) (decDigits_digs _)
  rw [decDigits_val] at h1
  exact Nat.lt_of_lt_of_le h1 (Nat.pow_le_pow_right (by decide) h)
theorem Dig.fits {d : Nat} {x : Int} (h : Dig d x) (hd1 : 1 ≤ d) (hd : d ≤ 400) : Fits x := by
  have := decDigits_length_le (r := x.natAbs) (k := d) hd1 h
  unfold Fits; omega
theorem Dig.mono {a b : Nat} {x : Int} (h : Dig a x) (hab : a ≤ b) : Dig b x := Nat.lt_of_lt_of_le h (Nat.pow_le_pow_right (by decide) hab)
theorem Dig.mul {a b c : Nat} {x y z : Int} (h : Dig a x) (k : Dig b y) (hz : x * y = z) (hc : a + b = c) : Dig c z := by
  subst hz; subst hc
  unfold Dig at *
  rw [Int.natAbs_mul, Nat.pow_add]
  exact Nat.mul_lt_mul'' h k
theorem Dig.add {a c : Nat} {x y z : Int} (h : Dig a x) (k : Dig a y) (hz : x + y = z) (hc : a + 1 = c) : Dig c z := by
  subst hz; subst hc
  unfold Dig at *
  rw [Nat.pow_succ]
  omega
theorem Dig.sub {a c : Nat} {x y z : Int} (h : Dig a x) (k : Dig a y) (hz : x - y = z) (hc : a + 1 = c) : Dig c z := by
  subst hz; subst hc
  unfold Dig at *
  rw [Nat.pow_succ]
  omega
theorem below_grown {n : Nat} {w a b : World} (h : Below n w a) (hn : n ≤ a.heap.size) (g : a.grownBy b (some n)) : Below n w b := by
  obtain ⟨h1, h2, h3, h4, h5⟩ := g
  exact h.trans { os := h1, tape := h2, output := h3, size := h4, block := fun i hi => h5 i (Nat.lt_of_lt_of_le hi hn) (fun e => by have := Option.some.inj e; omega) }
theorem IAdd_fit (x y z : Int) (w : World) (hz : x + y = z) (hfx : Fits x) (hfy : Fits y) (hfz : Fits z) (htab : Tab w) : Calls Tryz.prog 12 #[.string (str x), .string (str y)] w fun e w' => e = .returned (.tuple #[.string (str z), .int .i64 0]) ∧ Below w.heap.size w w' := by
  have h := IAdd_ok x y w hfx hfy htab
  rw [hz, outS_fits hfz, outE_fits hfz] at h
  exact h
theorem ISub_fit (x y z : Int) (w : World) (hz : x - y = z) (hfx : Fits x) (hfy : Fits y) (hfz : Fits z) (htab : Tab w) : Calls Tryz.prog 28 #[.string (str x), .string (str y)] w fun e w' => e = .returned (.tuple #[.string (str z), .int .i64 0]) ∧ Below w.heap.size w w' := by
  have h := ISub_ok x y w hfx hfy htab
  rw [hz, outS_fits hfz, outE_fits hfz] at h
  exact h
theorem IMul_fit (x y z : Int) (w : World) (hz : x * y = z) (hfx : Fits x) (hfy : Fits y) (hfz : Fits z) (htab : Tab w) : Calls Tryz.prog 9 #[.string (str x), .string (str y)] w fun e w' => e = .returned (.tuple #[.string (str z), .int .i64 0]) ∧ Below w.heap.size w w' := by
  have h := IMul_ok x y w hfx hfy htab
  rw [hz, outS_fits hfz, outE_fits hfz] at h
  exact h
end Go.Proofs.YtmickdolpgjbhaaGreatDoor
