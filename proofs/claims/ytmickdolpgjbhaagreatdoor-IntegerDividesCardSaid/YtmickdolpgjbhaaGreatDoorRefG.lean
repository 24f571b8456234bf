/-
  Package joinlearnref01: Quo of Bigs.
-/
import Derived.Test.YtmickdolpgjbhaaGreatDoorRefF
namespace Go.Proofs.YtmickdolpgjbhaaGreatDoor
open Go.RowKit

/-- append(own row, row that reads as limbs...): whether the source is nil or not. -/
theorem wpList_append_cells {P : Program} {w : World} {ops : Array Oper} {rest : List Oper} {o : Oper} {a : Act} {Q : Exit → Act → World → Prop} (hgd : o.guard = none) (s x : Operand) (t : TypeId)
    (ho : o.op = .call { callee := .builtin .append, args := #[s, x], argTypes := #[t, t] })
    (base : Nat) (e : TypeId) (i : TypeInfo) (ht : P.underlying t = some (.slice e)) (hi : P.info? e = some i) (hz : i.zero = some (.int .i64 0)) (hsize : i.size = 1) (hby : i.bytes = 8)
    (v : Value) (n : Nat) (ys : List Value) (hs : a.eval s = v) (hown : w.ownsRow base e 1 v n ys) (A : Option Addr) (xs : List Nat) (c : Nat) (hx : a.eval x = .slice A xs.length c) (hc : Cells .i64 w A xs)
    (h63 : n + xs.length ≤ 1000000000) (hbase : base ≤ w.heap.size)
    (h : ∀ v' w', w'.ownsRow base e 1 v' (n + xs.length) (ys ++ vn xs) → w.grownBy w' v.ownBlock → wpList P ops Q rest (a.put o.dst v') w') : wpList P ops Q (o :: rest) a w := by
  rcases A with _ | ad
  · have hxs : xs = [] := by
      apply Decidable.byContradiction
      intro hne
      obtain ⟨b, off, e, _⟩ := hc hne
      cases e
    subst hxs
    refine wpList_plain hgd fun K hK => ?_
    have hrun : (Builtin.append_ #[t, t] o.type #[v, .slice none 0 c]).run P w = .ok v w := by
      rcases hown.2 with ⟨rfl, rfl⟩ | ⟨g, cap, cur, rfl, _, _, hnc, _⟩
      · simp [Builtin.append_, run_underlying ht, sizeOf, typeInfo, hi, Builtin.lenOf, Builtin.firstCells]
      · simp [Builtin.append_, run_underlying ht, sizeOf, typeInfo, hi, Builtin.lenOf, Builtin.firstCells, hnc, storeCells]
    have hx' : a.eval x = .slice none 0 c := hx
    unfold Oper.wp
    simp [execOp, ho, resolve, invoke, builtin, hs, hx', hrun, Result.andThen]
    exact hK _ _ (h v w (by simpa [vn] using hown) (World.grownBy.refl w _))
  · refine wpList_append_own w hgd s x t ho base e i (.int .i64 0) 1 8 ht hi hz hsize hby rfl (by decide) v n ys hs hown ad xs.length c (vn xs) hx (by rw [vn_length]; omega) ?_ (by intro u hu; simp [vn] at hu; obtain ⟨x, _, rfl⟩ := hu; rfl) (by unfold maxLen; omega) (by omega) hbase (fun v' w' h1 h2 _ => h v' w' h1 h2)
    intro j u hj
    have hjl : j < xs.length := by
      rcases Nat.lt_or_ge j xs.length with h | h
      · exact h
      · rw [List.getElem?_eq_none (by rw [vn_length]; exact h)] at hj; cases hj
    obtain ⟨b, off, e, hb, hcell⟩ := hc (by intro e; subst e; simp at hjl)
    injection e with e
    subst e
    rw [vn_get hjl] at hj
    rw [show (⟨b, off, none⟩ : Addr).add j = ⟨b, off + j, none⟩ by unfold Addr.add; split <;> simp_all, hcell j hjl, hj]

/-- Two Bigs that came in lie in boxes; two more boxes are for the results. -/
structure BQ (w W : World) (n0 n1 : Bool) (s0 s1 : Value) : Prop where
  k0 : Blk W w.heap.size 51 [.bool n0, s0]
  k1 : Blk W (w.heap.size + 1) 51 [.bool n1, s1]
  k2 : Blk W (w.heap.size + 1 + 1) 51 [.bool false, .slice none 0 0]
  k3 : Blk W (w.heap.size + 1 + 1 + 1) 51 [.bool false, .slice none 0 0]
  bel : Below w.heap.size w W
section
variable {w W W' : World} {n0 n1 : Bool} {s0 s1 : Value}
theorem BQ.new (w : World) (n0 n1 : Bool) (s0 s1 : Value) : BQ w ((((w.alloc (.cells #[.bool n0, s0] 51)).alloc (.cells #[.bool n1, s1] 51)).alloc (.cells #[.bool false, .slice none 0 0] 51)).alloc (.cells #[.bool false, .slice none 0 0] 51)) n0 n1 s0 s1 := by
  have h := BB.new w n0 n1 s0 s1
  have h3 := Blk.new (((w.alloc (.cells #[.bool n0, s0] 51)).alloc (.cells #[.bool n1, s1] 51)).alloc (.cells #[.bool false, .slice none 0 0] 51)) 51 [.bool false, .slice none 0 0]
  rw [World.size_alloc, World.size_alloc, World.size_alloc] at h3
  exact ⟨h.k0.alloc _, h.k1.alloc _, h.k2.alloc _, h3, h.bel.alloc (Nat.le_of_lt h.k0.lt) _⟩
theorem BQ.below (h : BQ w W n0 n1 s0 s1) (hb : Below W.heap.size W W') : BQ w W' n0 n1 s0 s1 :=
  ⟨h.k0.below hb, h.k1.below hb, h.k2.below hb, h.k3.below hb, h.bel.trans (hb.mono (Nat.le_of_lt h.k0.lt))⟩
theorem BQ.drewN (h : BQ w W n0 n1 s0 s1) (n : Nat) : BQ w (W.drewN n) n0 n1 s0 s1 := ⟨h.k0, h.k1, h.k2, h.k3, below_drewN h.bel n⟩
theorem BQ.drew (h : BQ w W n0 n1 s0 s1) : BQ w W.drew n0 n1 s0 s1 := ⟨h.k0, h.k1, h.k2, h.k3, h.bel.drew⟩
theorem BQ.far (h : BQ w W n0 n1 s0 s1) {p : Addr} (hp : w.heap.size + 3 < p.block) (u : Value) : BQ w (W.setCell p u) n0 n1 s0 s1 :=
  ⟨h.k0.far (by omega) u, h.k1.far (by omega) u, h.k2.far (by omega) u, h.k3.far (by omega) u, h.bel.setCell (by omega) u⟩
theorem BQ.four (h : BQ w W n0 n1 s0 s1) : FourB w W n0 n1 s0 s1 := ⟨h.k0.at_ rfl, h.k0.at_ rfl, h.k1.at_ rfl, h.k1.at_ rfl⟩
end
/-- A division under way: the limbs of the quotient that are found, and the boxes. -/
structure QW (w wr : World) (na nb : Bool) (s0 s1 : Value) (g n : Nat) (qs : List Nat) : Prop where
  len : qs.length = n
  low : Low qs
  row : Row .i64 wr g 3 qs
  bq : BQ w wr na nb s0 s1
section
variable {w wr wr' : World} {na nb : Bool} {s0 s1 : Value} {g n : Nat} {qs : List Nat}
theorem QW.below (h : QW w wr na nb s0 s1 g n qs) (hb : Below wr.heap.size wr wr') : QW w wr' na nb s0 s1 g n qs := ⟨h.len, h.low, h.row.below hb h.row.lt, h.bq.below hb⟩
theorem QW.drewN (h : QW w wr na nb s0 s1 g n qs) (m : Nat) : QW w (wr.drewN m) na nb s0 s1 g n qs := ⟨h.len, h.low, h.row, h.bq.drewN m⟩
theorem QW.step (h : QW w wr na nb s0 s1 g n qs) (hg : w.heap.size + 3 < g) (i : Nat) {x : Nat} (hx : x < 1000000000) : QW w (wr.setCell ⟨g, i, none⟩ (.int .i64 (x : Int))) na nb s0 s1 g n (qs.set i x) :=
  ⟨by simp [h.len], h.low.set i hx, h.row.set i x, h.bq.far hg _⟩
theorem QW.four (h : QW w wr na nb s0 s1 g n qs) : FourB w wr na nb s0 s1 := h.bq.four
end
/-- Numbers of one row don't change where another row is written. -/
theorem Cells.other {k : IntKind} {w : World} {A : Option Addr} {xs : List Nat} {g : Nat} (h : Cells k w A xs) (hg : ∀ b off, A = some ⟨b, off, none⟩ → b ≠ g) (i : Nat) (u : Value) : Cells k (w.setCell ⟨g, i, none⟩ u) A xs := by
  intro hne
  obtain ⟨b, off, rfl, hb, hc⟩ := h hne
  refine ⟨b, off, rfl, by simpa [World.setCell] using hb, fun j hj => ?_⟩
  exact (World.cell?_of_block (w := w) (Below.heap_setCell w ⟨g, i, none⟩ u b (hg b off rfl))).trans (hc j hj)

end Go.Proofs.YtmickdolpgjbhaaGreatDoor
