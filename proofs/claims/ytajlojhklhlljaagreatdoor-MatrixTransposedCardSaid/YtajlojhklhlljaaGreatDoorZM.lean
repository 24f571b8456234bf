import Derived.Test.YtajlojhklhlljaaGreatDoorZF
import Derived.Test.YtajlojhklhlljaaGreatDoorZL
import Derived.Test.YtajlojhklhlljaaGreatDoorCards
import Derived.Test.YtajlojhklhlljaaGreatDoorTie
import Derived.WalkKit
import Derived.ProofKit
import Derived.OpenShut
import Derived.Deep.DeepHandedRow
import Derived.Deep.DeepWitnessRowRef
import Derived.Lib.LaidTab
import Derived.Stop.LaidErr
import Derived.Lay
import Derived.MakeChecks
set_option maxHeartbeats 16000000
set_option maxRecDepth 100000
namespace Go.Proofs.YtajlojhklhlljaaGreatDoor
open Go.RowKit
theorem str_pos1 {n : Nat} (h : n < 10) : str (n : Int) = ⟨#[UInt8.ofNat (48 + n)]⟩ := by unfold str; rw [itoa_pos, Lib.decDigits_one h]
theorem str_1 : str 1 = ⟨#[49]⟩ := str_pos1 (n := 1) (by decide)
theorem fits_small {x : Int} (h : x.natAbs < 1000000000) : Fits x := by
 have := decDigits_length_le (r := x.natAbs) (k := 9) (by omega) (by simpa using h)
 unfold Fits; omega
end Go.Proofs.YtajlojhklhlljaaGreatDoor
namespace Go.Proofs.YtajlojhklhlljaaGreatDoor
open Go.RowKit
def Dig (d : Nat) (x : Int) : Prop := x.natAbs < 10 ^ d
theorem Dig.fits {d : Nat} {x : Int} (h : Dig d x) (hd1 : 1 ≤ d) (hd : d ≤ 400) : Fits x := by
 have := decDigits_length_le (r := x.natAbs) (k := d) hd1 h
 unfold Fits; omega
theorem Dig.mono {a b : Nat} {x : Int} (h : Dig a x) (hab : a ≤ b) : Dig b x := Nat.lt_of_lt_of_le h (Nat.pow_le_pow_right (by decide) hab)
theorem Dig.mul {a b c : Nat} {x y z : Int} (h : Dig a x) (k : Dig b y) (hz : x * y = z) (hc : a + b = c) : Dig c z := by
 subst hz; subst hc
 unfold Dig at *
 rw [Int.natAbs_mul, Nat.pow_add]
 exact Nat.mul_lt_mul'' h k
theorem Dig.add {a c : Nat} {x y z : Int} (h : Dig a x) (k : Dig a y) (hz : x + y = z) (hc : a + 1 = c) : Dig c z := by
 subst hz; subst hc
 unfold Dig at *
 rw [Nat.pow_succ]
 omega
end Go.Proofs.YtajlojhklhlljaaGreatDoor
namespace Go.Proofs.YtajlojhklhlljaaGreatDoor
open Go.ChangeShapes Go.WideShapes Go.ChangeAt Go.RowKit
theorem own : ownKnob Tryz.prog.godebug = none := by kernel_rfl
theorem gPow : Tryz.prog.globalNamed "internal/strconv.uint64pow10" = some 1 := by kernel_rfl
theorem gPowType : (Tryz.prog.globals[1]?).map (·.type) = some 234 := by kernel_rfl
theorem cellsPow : Tryz.prog.cellsOf 234 = 20 := by kernel_rfl
theorem cellsU64 : Tryz.prog.cellsOf 150 = 1 := by kernel_rfl
theorem cellsInt : Tryz.prog.cellsOf 3 = 1 := by kernel_rfl
def laidList : List (String × DataW Unit) := [("math/bits.deBruijn32tab", Rows.laid_math_bits_deBruijn32tab), ("math/bits.deBruijn64tab", Rows.laid_math_bits_deBruijn64tab), ("internal/strconv.uint64pow10", Rows.laid_internal_strconv_uint64pow10), ("strconv.ErrRange", Rows.laid_strconv_ErrRange), ("strconv.ErrSyntax", Rows.laid_strconv_ErrSyntax)]
theorem laid_plain : (laidList.all fun x => x.2.handleName?.isNone) = true := by kernel_rfl
theorem tab_of {W : World} (h : laidMetH Tryz.prog laidList W) : Tab W := by
 rw [MakeChecks.laidMetH_plain _ _ _ laid_plain] at h
 exact Lib.tabIs_of_head (rest := [("strconv.ErrRange", Rows.laid_strconv_ErrRange), ("strconv.ErrSyntax", Rows.laid_strconv_ErrSyntax)]) gPow gPowType Tryz.underlying234 Tryz.underlying150 cellsU64 cellsPow h.tail.tail
theorem laid_met (os : Os) (args : Array Value) : laidMetH Tryz.prog laidList ((World.laidAll Tryz.prog os laidList).forCall (fun _ _ => 0) ⟨#[], args, []⟩).memory := by
 rw [MakeChecks.laidMetH_plain _ _ _ laid_plain]
 exact laidMet_laidAll _ (by kernel_rfl) (by kernel_rfl)
section
variable {H : Type} {enc : TypeId × Value → H}
theorem ints_in {W : World} {base : Nat} {v : Value} {d : DataW H} {p : List MemPlace} (hv : Value.okWide Tryz.prog W .any base 22 v)
  (h : DataW.Trod enc Tryz.prog W 0 (fun _ => true) true 22 v d p) :
  ∃ (A : Option Addr) (l c : Nat), v = .slice A l c ∧ Ints W A l ∧ l ≤ c ∧ l ≤ 9223372036854775807 ∧
   ∀ W', Below W.heap.size W W' → ∀ sp : Nat → Bool, (∀ x ∈ p, sp x.block = true) → DataW.Trod enc Tryz.prog W' 0 sp true 22 v d p := by
 obtain ⟨a0, len, cap, rfl⟩ := okWide_slice Tryz.underlying22 hv
 obtain ⟨fuel, hf⟩ := h
 rcases open_ints Tryz.underlying22 Tryz.underlying3 cellsInt hf with ⟨hcs, hx⟩ | ⟨a, len', cap', zs, hcs, _, hl, hm, hz, hx, hcell, hwz⟩
 ·obtain ⟨rfl, rfl, rfl⟩ : a0 = none ∧ len = 0 ∧ cap = 0 := by simpa [Value.cells] using hcs
  obtain ⟨rfl, rfl⟩ : d = .nil ∧ p = [] := by simpa using hx
  exact ⟨none, 0, 0, rfl, fun h => absurd h (by decide), Nat.le_refl _, by decide, fun W' _ sp _ => shut_slice_nil Tryz.underlying22⟩
 ·obtain ⟨rfl, rfl, rfl⟩ : a0 = some a ∧ len = len' ∧ cap = cap' := by simpa [Value.cells] using hcs
  obtain ⟨rfl, rfl⟩ : d = .slice (lits .i64 (zs.take len)) (lits .i64 (zs.drop len)) ∧ p = MemPlace.row a zs.length := by simpa using hx
  have hzc : zs.length = cap := by simpa using hz
  have hlt : ∀ i, i < zs.length → a.block < W.heap.size := fun i hi => by
   have h1 := hcell i hi
   rcases Nat.lt_or_ge a.block W.heap.size with hl' | hg'
   ·exact hl'
   ·exfalso
    rw [← block_add a i] at hg'
    unfold World.cell? at h1
    rw [Array.getElem?_eq_none hg'] at h1
    simp at h1
  have hm' : cap ≤ 9223372036854775807 := hm
  refine ⟨some a, len, cap, rfl, ?_, hl, by omega, ?_⟩
  ·intro h0
   obtain ⟨b, off, spot⟩ := a
   have hs := World.cell?_spot (hcell 0 (by omega))
   have hspot : spot = none := hs
   subst hspot
   refine ⟨b, off, rfl, hlt 0 (by omega), fun i hi => ⟨zs.getD i 0, by have := hcell i (by omega); rwa [Lib.add_plain] at this, ?_⟩⟩
   have hmem : zs.getD i 0 ∈ zs := by
    rw [List.getD_eq_getElem?_getD, List.getElem?_eq_getElem (by omega)]
    exact List.getElem_mem _
   have := hwz _ hmem
   rw [Lit.wf, show IntKind.i64.min = -9223372036854775808 by decide, show IntKind.i64.max = 9223372036854775807 by decide] at this
   simpa using this
  ·intro W' hb sp hsp
   refine ⟨2, shut_ints 0 Tryz.underlying22 Tryz.underlying3 cellsInt (Nat.zero_le _) hl hm ?_ ?_ hwz⟩
   ·by_cases h0 : zs.length = 0
    ·rw [h0]; split <;> omega
    ·have := hsp (.cell a.block (a.off + 0)) (MemPlace.mem_row.2 ⟨0, by omega, rfl⟩)
     have hsa : sp a.block = true := this
     rw [if_pos hsa]; exact hzc
   ·intro i hi
    rw [hb.cell (by rw [block_add]; exact hlt i hi)]
    exact hcell i hi
theorem post_true {f : Func} {s : ChangeSpec} {W W' : World} {args : Array Value} {ds : List (DataW H)} {before : List MemPlace}
  (hW : DataW.Whole enc Tryz.prog f.params.toList s.vars false W args.toList ds [] before) (hv : s.vars = []) (hfr : (s.fn H (ds ++ [])).results = [.lit (.bool true)]) (hfa : (s.fn H (ds ++ [])).args = ds) (hfv : (s.fn H (ds ++ [])).vars = [])
  (hrt : f.resultTypes = #[4]) (hb : Below W.heap.size W W')
  (hargs : ∀ sp : Nat → Bool, (∀ x ∈ before, sp x.block = true) → DataW.TrodAll enc Tryz.prog W' 0 sp true f.params.toList args.toList ds before) :
  s.post enc Tryz.prog f false true false false W args (.bool true) W' := by
 have hlt : ∀ p ∈ before, p.block < W.heap.size := fun p hp => hW.lt p hp
 refine ⟨ds, [], before, [], before, [], hW, ?_, ?_, ?_, World.keptBut_mono (fun p hp => ⟨hp, Or.inr (Or.inl hp)⟩) (hb.frame (· ∈ before)), fun h => by cases h⟩
 ·rw [hrt, hfr]
  exact trodAll_cons_mk (shut_bool Tryz.underlying4 _) trodAll_mk0
 ·rw [hfa]
  exact hargs _ fun p hp => by simpa using hlt p hp
 ·rw [hfv, hv]
  rfl
end
end Go.Proofs.YtajlojhklhlljaaGreatDoor
