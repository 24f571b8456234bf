/-
  Words for memory: a slice that reads as a list of natural numbers.
-/
import Derived.Test.YtmickdolpgjbhaaGreatDoorProg
import Derived.Test.YtmickdolpgjbhaaGreatDoorNat
import Derived.WalkKit
import Derived.WalkSpells
import Derived.WalkLawsBesides
import Derived.Lib.Hide
import Derived.Deep.QuietTactic
import Derived.BigQuiet
import Derived.Deep.LoopGhost
import Derived.Deep.DeepCutAuto
import Derived.Deep.RegionHeld3
import Derived.Deep.RegionWith
namespace Go.Proofs.YtmickdolpgjbhaaGreatDoor
open Go.RowKit

/-- The cells of a slice of integers of kind k that starts at A read as the list xs. -/
def Cells (k : IntKind) (w : World) (A : Option Addr) (xs : List Nat) : Prop :=
  xs ≠ [] → ∃ b off, A = some ⟨b, off, none⟩ ∧ b < w.heap.size ∧ ∀ i, i < xs.length → w.cell? ⟨b, off + i, none⟩ = some (.int k ((nth xs i : Nat) : Int))

theorem Cells.nil (k : IntKind) (w : World) (A : Option Addr) : Cells k w A [] := fun h => absurd rfl h
theorem Cells.keep {k : IntKind} {w w' : World} {A : Option Addr} {xs : List Nat} (h : Cells k w A xs) (hs : w.heap.size ≤ w'.heap.size) (hk : ∀ p : Addr, p.block < w.heap.size → w'.cell? p = w.cell? p) : Cells k w' A xs := fun hn => by
  obtain ⟨b, off, e, hb, hc⟩ := h hn
  exact ⟨b, off, e, by omega, fun i hi => (hk _ hb).trans (hc i hi)⟩
theorem Cells.below {k : IntKind} {w w' : World} {A : Option Addr} {xs : List Nat} (h : Cells k w A xs) (hb : Below w.heap.size w w') : Cells k w' A xs := h.keep hb.size fun _ hp => hb.cell hp
theorem Cells.drew {k : IntKind} {w : World} {A : Option Addr} {xs : List Nat} (h : Cells k w A xs) : Cells k w.drew A xs := h
theorem Cells.drewN {k : IntKind} {w : World} {A : Option Addr} {xs : List Nat} (h : Cells k w A xs) (n : Nat) : Cells k (w.drewN n) A xs := h
theorem Cells.take {k : IntKind} {w : World} {A : Option Addr} {xs : List Nat} (h : Cells k w A xs) (n : Nat) : Cells k w A (xs.take n) := fun hn => by
  obtain ⟨b, off, e, hb, hc⟩ := h (fun e => hn (by rw [e]; simp))
  refine ⟨b, off, e, hb, fun i hi => ?_⟩
  rw [hc i (by simp at hi; omega)]
  rw [nth_take (by simp at hi; omega)]

/-- The cells of a row of integers. -/
def rowOf (k : IntKind) (xs : List Nat) : Array Value := (xs.map fun x : Nat => Value.int k (x : Int)).toArray
theorem rowOf_get {k : IntKind} {xs : List Nat} {i : Nat} (h : i < xs.length) : (rowOf k xs)[i]? = some (.int k ((nth xs i : Nat) : Int)) := by
  simp [rowOf, nth, h]
theorem rowOf_set (k : IntKind) (xs : List Nat) (i x : Nat) : (rowOf k xs).setIfInBounds i (.int k (x : Int)) = rowOf k (xs.set i x) := by
  simp [rowOf, List.map_set]

/-- Block g is a row of integers, whole, none of them frozen. -/
def Row (k : IntKind) (w : World) (g : Nat) (t : TypeId) (xs : List Nat) : Prop := w.heap[g]? = some (.cells (rowOf k xs) t (0, 0))

section
variable {k : IntKind} {w w' : World} {g : Nat} {t : TypeId} {xs : List Nat}
theorem Row.lt (h : Row k w g t xs) : g < w.heap.size := by
  rcases Nat.lt_or_ge g w.heap.size with hlt | hge
  · exact hlt
  · unfold Row at h; rw [Array.getElem?_eq_none hge] at h; cases h
theorem Row.cell (h : Row k w g t xs) {i : Nat} (hi : i < xs.length) : w.cell? ⟨g, i, none⟩ = some (.int k ((nth xs i : Nat) : Int)) := (cell_of_row w g i _ t (0, 0) h).trans (rowOf_get hi)
theorem Row.frozen (h : Row k w g t xs) (i : Nat) : w.frozen? ⟨g, i, none⟩ = false := by
  unfold Row at h
  simp [World.frozen?, h]
theorem Row.new (k : IntKind) (w : World) (t : TypeId) (xs : List Nat) : Row k (w.alloc (.cells (rowOf k xs) t)) w.heap.size t xs := heap_alloc_new w _
theorem Row.drew (h : Row k w g t xs) : Row k w.drew g t xs := h
theorem Row.drewN (h : Row k w g t xs) (n : Nat) : Row k (w.drewN n) g t xs := h
theorem Row.alloc (h : Row k w g t xs) (o : Obj) : Row k (w.alloc o) g t xs := (Below.heap_alloc w o g h.lt).trans h
theorem Row.set (h : Row k w g t xs) (i x : Nat) : Row k (w.setCell ⟨g, i, none⟩ (.int k (x : Int))) g t (xs.set i x) := by
  unfold Row at h ⊢
  simp [World.setCell, Array.getElem?_modify, h, rowOf_set]
theorem Row.far (h : Row k w g t xs) {p : Addr} (hp : g ≠ p.block) (u : Value) : Row k (w.setCell p u) g t xs := (Below.heap_setCell w p u g hp).trans h
theorem Row.below {B : Nat} (h : Row k w g t xs) (hb : Below B w w') (hg : g < B) : Row k w' g t xs := (hb.block g hg).trans h
theorem Row.cells (h : Row k w g t xs) : Cells k w (some ⟨g, 0, none⟩) xs := fun _ => ⟨g, 0, rfl, h.lt, fun i hi => by rw [Nat.zero_add]; exact h.cell hi⟩
/-- A part of a row. -/
theorem Row.part (h : Row k w g t xs) (o n : Nat) : Cells k w (some ⟨g, o, none⟩) ((xs.drop o).take n) := fun _ => ⟨g, o, rfl, h.lt, fun i hi => by
  rw [h.cell (by simp at hi; omega)]
  have e : nth ((xs.drop o).take n) i = nth xs (o + i) := by
    rw [nth_take (by simp at hi; omega)]; simp [nth]
  rw [e]⟩
end

theorem madeRow (k : IntKind) (n : Nat) : madeCells (Value.int k 0).cells n = rowOf k (zeros n) := by
  have h := toList_madeCells_one (.int k 0) n
  have h2 : (madeCells (Value.int k 0).cells n).toList = (rowOf k (zeros n)).toList := by
    show (madeCells #[Value.int k 0] n).toList = _
    rw [h]; simp [rowOf, zeros]
  exact Array.toList_inj.1 h2
theorem run_make_ints {P : Program} (t e : TypeId) (i : TypeInfo) (k : IntKind) (by_ : Nat) (ht : P.underlying t = some (.slice e)) (hi : P.info? e = some i) (hz : i.zero = some (.int k 0)) (hs : i.size = 1) (hby : i.bytes = by_)
    (n : Nat) (hb : by_ * n ≤ 281474976710656) (h63 : n ≤ 9223372036854775807) (w : World) :
    (Instr.makeSlice t (.int .i64 (n : Int)) (.int .i64 (n : Int))).run P w = .ok (.slice (some ⟨w.heap.size, 0, none⟩) n n) (w.alloc (.cells (rowOf k (zeros n)) e)) := by
  have hb' : (i.bytes : Int) * (n : Int) ≤ 281474976710656 := by
    have h : ((i.bytes * n : Nat) : Int) ≤ 281474976710656 := by rw [hby]; omega
    rwa [Int.natCast_mul] at h
  have hr := run_make (P := P) w t e i (.int k 0) ht hi hz .i64 .i64 n n (by omega) (Int.le_refl _) hb' (by omega)
  simp only [Int.toNat_natCast, hs, Nat.mul_one, madeRow] at hr
  exact hr

/-- A slice value that means a number: its limbs, without zeros at the end. -/
def IsNat (w : World) (v : Value) (n : Nat) : Prop := ∃ A c, v = .slice A (limbs n).length c ∧ (limbs n).length ≤ c ∧ Cells .u64 w A (limbs n)
theorem IsNat.below {w w' : World} {v : Value} {n : Nat} (h : IsNat w v n) (hb : Below w.heap.size w w') : IsNat w' v n := by
  obtain ⟨A, c, e, hl, hc⟩ := h
  exact ⟨A, c, e, hl, hc.below hb⟩
/-- The result means a number; nothing that was there has changed. -/
def RetNat (w : World) (n : Nat) (e : Ending) (w' : World) : Prop := ∃ v, e = .returned v ∧ IsNat w' v n ∧ Below w.heap.size w w'
theorem below_drewN {B : Nat} {a w : World} (h : Below B a w) (n : Nat) : Below B a (w.drewN n) := ⟨h.os, h.tape, h.output, h.size, h.block⟩

theorem set_zeros (os : List Nat) (r t : Nat) : (os ++ zeros (r + 1)).set os.length t = (os ++ [t]) ++ zeros r := by
  unfold zeros; rw [List.replicate_succ]; simp
theorem Tryz.infoU64 : (Tryz.prog.info? 88).map (fun i => (i.zero, i.size, i.bytes)) = some (some (.int .u64 0), 1, 8) := by kernel_rfl


theorem u64_nat {x : Int} (n : Nat) (h : x = (n : Int)) (hn : n < 18446744073709551616) : IntKind.u64.wrap x = (n : Int) := by
  subst h; rw [IntKind.wrap_u64]; omega
theorem tdiv_nat (a b : Nat) : ((a : Int)).tdiv (b : Int) = ((a / b : Nat) : Int) := rfl
theorem tmod_nat (a b : Nat) : ((a : Int)).tmod (b : Int) = ((a % b : Nat) : Int) := rfl


theorem quiet_left {P : Program} {f : FuncId} {args : Array Value} {w : World} {n : Nat} {v : Value}
    (h : Calls P f args (w.drewN n) fun e w' => e = .returned v ∧ w.drewN n = w') : Calls P f args (w.drewN n) fun e w'' => e = .returned v ∧ ∃ m, w'' = w.drewN m :=
  h.mono fun _ _ ⟨he, hm⟩ => ⟨he, n, hm.symm⟩

end Go.Proofs.YtmickdolpgjbhaaGreatDoor
