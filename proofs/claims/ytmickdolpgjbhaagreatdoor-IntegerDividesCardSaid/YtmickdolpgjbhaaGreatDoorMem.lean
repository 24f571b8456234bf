/-
  Words for memory: a block known whole, rows of ints.
-/
import Derived.Test.YtmickdolpgjbhaaGreatDoorBase
import Derived.Laws.OwnMore
import Derived.Laws.AppendOwnNone
import Derived.OwnWalk
import Derived.OneCell
import Derived.Deep.AppendLies
import Derived.RegionTactic
namespace Go.Proofs.YtmickdolpgjbhaaGreatDoor
open Go.RowKit

/-- Block g holds the cells cs and nothing else, none of them frozen. -/
def Blk (w : World) (g : Nat) (t : TypeId) (cs : List Value) : Prop := w.heap[g]? = some (.cells cs.toArray t (0, 0))
section
variable {w w' : World} {g : Nat} {t : TypeId} {cs : List Value}
theorem Blk.lt (h : Blk w g t cs) : g < w.heap.size := by
  rcases Nat.lt_or_ge g w.heap.size with hlt | hge
  · exact hlt
  · unfold Blk at h; rw [Array.getElem?_eq_none hge] at h; cases h
theorem Blk.cell (h : Blk w g t cs) (i : Nat) : w.cell? ⟨g, i, none⟩ = cs[i]? := by
  rw [cell_of_row w g i cs.toArray t (0, 0) h]; simp
theorem Blk.at_ (h : Blk w g t cs) {i : Nat} {v : Value} (hi : cs[i]? = some v) : w.cell? ⟨g, i, none⟩ = some v := by rw [h.cell i, hi]
theorem Blk.fr (h : Blk w g t cs) (i : Nat) : w.frozen? ⟨g, i, none⟩ = false := by
  unfold Blk at h
  simp [World.frozen?, h]
theorem Blk.new (w : World) (t : TypeId) (cs : List Value) : Blk (w.alloc (.cells cs.toArray t)) w.heap.size t cs := heap_alloc_new w _
theorem Blk.alloc (h : Blk w g t cs) (o : Obj) : Blk (w.alloc o) g t cs := (Below.heap_alloc w o g h.lt).trans h
theorem Blk.drewN (h : Blk w g t cs) (n : Nat) : Blk (w.drewN n) g t cs := h
theorem Blk.drew (h : Blk w g t cs) : Blk w.drew g t cs := h
theorem Blk.set (h : Blk w g t cs) (i : Nat) (u : Value) : Blk (w.setCell ⟨g, i, none⟩ u) g t (cs.set i u) := by
  unfold Blk at h ⊢
  simp [World.setCell, Array.getElem?_modify, h]
theorem Blk.far (h : Blk w g t cs) {p : Addr} (hp : g ≠ p.block) (u : Value) : Blk (w.setCell p u) g t cs := (Below.heap_setCell w p u g hp).trans h
theorem Blk.under {B : Nat} (h : Blk w g t cs) (hb : Below B w w') (hg : g < B) : Blk w' g t cs := (hb.block g hg).trans h
theorem Blk.below (h : Blk w g t cs) (hb : Below w.heap.size w w') : Blk w' g t cs := (hb.block g h.lt).trans h
theorem Blk.grown {row : Option Nat} (h : Blk w g t cs) (hb : w.grownBy w' row) (hg : some g ≠ row) : Blk w' g t cs := (hb.block g h.lt hg).trans h
end

/-- A slice value that reads as a list of naturals, held as ints. -/
def IsRow (w : World) (v : Value) (xs : List Nat) : Prop := ∃ A c, v = .slice A xs.length c ∧ xs.length ≤ c ∧ Cells .i64 w A xs
theorem IsRow.below {w w' : World} {v : Value} {xs : List Nat} (h : IsRow w v xs) (hb : Below w.heap.size w w') : IsRow w' v xs := by
  obtain ⟨A, c, e, hl, hc⟩ := h
  exact ⟨A, c, e, hl, hc.below hb⟩
/-- The values of naturals. -/
def vn (xs : List Nat) : List Value := xs.map fun x : Nat => Value.int .i64 (x : Int)
theorem vn_length (xs : List Nat) : (vn xs).length = xs.length := by simp [vn]
theorem vn_get {xs : List Nat} {i : Nat} (h : i < xs.length) : (vn xs)[i]? = some (.int .i64 ((nth xs i : Nat) : Int)) := by simp [vn, nth, h]
theorem vn_snoc (xs : List Nat) (x : Nat) : vn (xs ++ [x]) = vn xs ++ [.int .i64 (x : Int)] := by simp [vn]
/-- A row of one's own reads as a list. -/
theorem own_row {w : World} {B e : Nat} {v : Value} {xs : List Nat} (h : w.ownsRow B e 1 v xs.length (vn xs)) : IsRow w v xs := by
  rcases h.2 with ⟨hv, h0⟩ | ⟨g, cap, cur, hv, hB, hg, hle, hm, hs, htake⟩
  · have : xs = [] := by simpa using h0
    subst this
    exact ⟨none, 0, hv, by simp, Cells.nil _ _ _⟩
  · refine ⟨_, cap, hv, hle, fun _ => ⟨g, 0, rfl, ?_, fun i hi => ?_⟩⟩
    · rcases Nat.lt_or_ge g w.heap.size with h' | h'
      · exact h'
      · rw [Array.getElem?_eq_none h'] at hg; cases hg
    · subst hv
      have := h.cellAt i (by omega)
      rw [Nat.zero_add, this, vn_get hi]
theorem own_below {w w' : World} {B e n : Nat} {v : Value} {xs : List Value} (h : w.ownsRow B e 1 v n xs) (hb : Below w.heap.size w w') : w'.ownsRow B e 1 v n xs :=
  h.kept (row := none) ⟨hb.os, hb.tape, hb.output, hb.size, fun k hk _ => hb.block k hk⟩ (by
    rcases hv : v.ownBlock with _ | g
    · exact .inl rfl
    · exact .inr (by simp))
theorem Tryz.infoInt : (Tryz.prog.info? 3).map (fun i => (i.zero, i.size, i.bytes)) = some (some (.int .i64 0), 1, 8) := by kernel_rfl
theorem one_new {w : World} {u : Value} {t : TypeId} : ∀ (j : Nat) (x : Value), ([u] : List Value)[j]? = some x → (w.alloc (.cells #[u] t)).cell? ((⟨w.heap.size, 0, none⟩ : Addr).add j) = some x := by
  intro j x hj
  match j, hj with
  | 0, hj => simp at hj; subst hj; simp [Addr.add]
theorem one_cell {k : IntKind} {n : Int} : ∀ u ∈ ([Value.int k n] : List Value), u.oneCell' = true := by intro u hu; simp at hu; subst hu; rfl

end Go.Proofs.YtmickdolpgjbhaaGreatDoor
