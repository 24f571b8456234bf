import Derived.Test.YtajlojhklhlljaaGreatDoorZMF
import Derived.Test.YtajlojhklhlljaaGreatDoorZMD
set_option maxHeartbeats 16000000
set_option maxRecDepth 100000
set_option linter.unusedVariables false
set_option linter.unusedSimpArgs false
set_option linter.unusedSectionVars false
namespace Go.Proofs.YtajlojhklhlljaaGreatDoor
open Go.RowKit
structure RowF where
 ad : Option Addr
 cp : Nat
 us : List FrV
def RowF.val (n : Nat) (r : RowF) : Value := .slice r.ad n r.cp
structure TabF (B : Nat) (w : World) (V : Value) (rows : List RowF) (n : Nat) (M : Nat → Nat → Rat) : Prop where
 o : w.ownsRow B 111 1 V rows.length (rows.map (RowF.val n))
 nou : NoU w V
 r : ∀ r ∈ rows, w.ownsRow B 93 4 (r.val n) n (frc r.us)
 l : ∀ r ∈ rows, r.us.length = n
 num : ∀ i, (h : i < rows.length) → ∀ k, (h2 : k < rows[i].us.length) → IsFrac w rows[i].us[k].val (M i k)
theorem Tryz.infoFrs : (Tryz.prog.info? 111).map (fun i => (i.zero, i.size, i.bytes)) = some (some (.slice none 0 0), 1, 24) := by kernel_rfl
section
variable {B x n : Nat} {w wb wr w' w6 : World} {V V2 : Value} {rows : List RowF} {M : Nat → Nat → Rat} {dv : NumV} {D : Int}
theorem NoU.far (h : NoU w V) (hl : ∀ k, V.ownBlock = some k → B ≤ k ∧ k < w.heap.size) {g : Nat} (hg : g < B) (j : Nat) (u : Value) : NoU (w.setCell ⟨g, j, none⟩ u) V := by
 refine h.kept (grown_set g j u) (fun k hk => (hl k hk).2) ?_
 rcases hv : V.ownBlock with _ | k
 ·exact .inl rfl
 ·refine .inr ?_
  have := (hl k hv).1
  intro e
  injection e with e
  omega
theorem TabF.below (h : TabF B w V rows n M) (hb : Below w.heap.size w w') : TabF B w' V rows n M := ⟨own_belowF h.o hb, h.nou.below (fun k hk => (h.o.lt k hk).2) hb, fun r hr => own_belowF (h.r r hr) hb, h.l, fun i hi k hk => (h.num i hi k hk).below hb⟩
theorem TabF.far (h : TabF B w V rows n M) {g : Nat} {t : TypeId} {cs : List Value} (hx : g < B) (hb : Blk w g t cs) (hcs : ∀ a ∈ cs, ∀ z, a ≠ .int .u64 z) (j : Nat) (u : Value) : TabF B (w.setCell ⟨g, j, none⟩ u) V rows n M :=
 ⟨ownsRow_setCell_below h.o (a := ⟨g, j, none⟩) hx u, h.nou.far (fun k hk => h.o.lt k hk) hx j u, fun r hr => ownsRow_setCell_below (h.r r hr) (a := ⟨g, j, none⟩) hx u, h.l, fun i hi k hk => (h.num i hi k hk).box hb hcs (grown_set g j u)⟩
theorem TabF.zero (B : Nat) (w : World) (n : Nat) (M : Nat → Nat → Rat) : TabF B w (.slice none 0 0) [] n M :=
 ⟨World.ownsRow_nil _ _ _ _, NoU.nil _ _ _, fun r hr => (by cases hr), fun r hr => (by cases hr), fun i hi => (by simp at hi)⟩
theorem TabF.grown (h : TabF B w V rows n M) {B' e s k : Nat} {pv : Value} {xs : List Value} (hp : w.ownsRow B' e s pv k xs) (he : 111 ≠ e ∧ 93 ≠ e) (hn : NoU w pv) (hg : w.grownBy w' pv.ownBlock) : TabF B w' V rows n M :=
 ⟨h.o.kept hg (own_ne h.o hp he.1), h.nou.kept hg (fun k hk => (h.o.lt k hk).2) (own_ne h.o hp he.1), fun r hr => (h.r r hr).kept hg (own_ne (h.r r hr) hp he.2), h.l, fun i hi k hk => (h.num i hi k hk).clean hn hg⟩
theorem TabF.push (h : TabF B w V rows n M) {r : RowF} (hr : w.ownsRow B 93 4 (r.val n) n (frc r.us)) (hl : r.us.length = n) (hnum : ∀ k, (h2 : k < r.us.length) → IsFrac w r.us[k].val (M rows.length k))
  (ho : w6.ownsRow B 111 1 V2 (rows.length + 1) (rows.map (RowF.val n) ++ [r.val n])) (hg : w.grownBy w6 V.ownBlock) (hn : NoU w6 V2) : TabF B w6 V2 (rows ++ [r]) n M := by
 refine ⟨by rw [List.length_append, List.map_append]; exact ho, hn, fun a ha => ?_, fun a ha => ?_, fun i hi k hk => ?_⟩
 ·rcases List.mem_append.1 ha with h1 | h1
  ·exact (h.r a h1).kept hg (own_ne (h.r a h1) h.o (by decide))
  ·rw [List.mem_singleton.1 h1]
   exact hr.kept hg (own_ne hr h.o (by decide))
 ·rcases List.mem_append.1 ha with h1 | h1
  ·exact h.l a h1
  ·rw [List.mem_singleton.1 h1]; exact hl
 ·by_cases e : i < rows.length
  ·have e2 : (rows ++ [r])[i] = rows[i] := List.getElem_append_left e
   simp only [e2] at hk ⊢
   exact (h.num i e k hk).clean h.nou hg
  ·obtain rfl : i = rows.length := by simp at hi; omega
   have e2 : (rows ++ [r])[rows.length] = r := by simp
   simp only [e2] at hk ⊢
   exact (hnum k hk).clean h.nou hg
structure OfA (B : Nat) (wb wr : World) (x : Nat) (V : Value) (rows : List RowF) (n : Nat) (M : Nat → Nat → Rat) (dv : NumV) (D : Int) : Prop where
 box : Blk wr x 84 [.bool dv.nb, .slice dv.ad dv.l dv.c, .slice none 0 0]
 tab : TabF B wr V rows n M
 den : IsNum wr dv.val D
 xB : x < B
 bel : Bex B x wb wr
 wB : B ≤ wb.heap.size
theorem three_no {a : Bool} {A A' : Option Addr} {l c l' c' : Nat} : ∀ y ∈ ([.bool a, .slice A l c, .slice A' l' c'] : List Value), ∀ z, y ≠ .int .u64 z := by
 intro y hy z
 simp at hy
 rcases hy with rfl | rfl | rfl <;> (intro e; cases e)
theorem OfA.below (h : OfA B wb wr x V rows n M dv D) (hb : Below wr.heap.size wr w') : OfA B wb w' x V rows n M dv D :=
 ⟨h.box.below hb, h.tab.below hb, h.den.below hb, h.xB, h.bel.below (Nat.le_trans h.wB h.bel.size) hb, h.wB⟩
theorem OfA.alloc (h : OfA B wb wr x V rows n M dv D) (o : Obj) : OfA B wb (wr.alloc o) x V rows n M dv D := h.below ((Below.refl _ _).alloc (Nat.le_refl _) o)
theorem OfA.put (h : OfA B wb wr x V rows n M dv D) {u : NumV} {z : Int} (hu : IsNum wr u.val z) : OfA B wb ((wr.setCell ⟨x, 0, none⟩ (.bool u.nb)).setCell ⟨x, 1, none⟩ (.slice u.ad u.l u.c)) x V rows n M u z := by
 have b1 : Blk (wr.setCell ⟨x, 0, none⟩ (.bool u.nb)) x 84 [.bool u.nb, .slice dv.ad dv.l dv.c, .slice none 0 0] := h.box.set 0 _
 exact ⟨b1.set 1 _, (h.tab.far h.xB h.box three_no 0 _).far h.xB b1 three_no 1 _, (hu.box h.box three_no (grown_set x 0 _)).box b1 three_no (grown_set x 1 _), h.xB, (h.bel.set (.inl rfl) _ _).set (.inl rfl) _ _, h.wB⟩
theorem OfA.push (h : OfA B wb wr x V rows n M dv D) {r : RowF} (hr : wr.ownsRow B 93 4 (r.val n) n (frc r.us)) (hl : r.us.length = n) (hnum : ∀ k, (h2 : k < r.us.length) → IsFrac wr r.us[k].val (M rows.length k))
  (ho : w6.ownsRow B 111 1 V2 (rows.length + 1) (rows.map (RowF.val n) ++ [r.val n])) (hg : wr.grownBy w6 V.ownBlock) (hn : NoU w6 V2) : OfA B wb w6 x V2 (rows ++ [r]) n M dv D :=
 ⟨h.box.grown hg (fun e => by have h1 := (h.tab.o.lt x e.symm).1; have h2 := h.xB; omega), h.tab.push hr hl hnum ho hg hn, h.den.clean h.tab.nou hg, h.xB, h.bel.grown (Nat.le_trans h.wB h.bel.size) hg (fun k hk => (h.tab.o.lt k hk).1), h.wB⟩
structure OfB (B : Nat) (wb wr : World) (x : Nat) (V : Value) (rows : List RowF) (n : Nat) (M : Nat → Nat → Rat) (dv : NumV) (D : Int) (C : Value) (outs : List RowN) (P : Nat → Nat → Int) : Prop where
 box : Blk wr x 84 [.bool dv.nb, .slice dv.ad dv.l dv.c, C]
 tab : TabF B wr V rows n M
 den : IsNum wr dv.val D
 cel : TabN B wr C outs n P
 nou : NoU wr C
 nor : ∀ r ∈ outs, NoU wr (r.val n)
 xB : x < B
 bel : Bex B x wb wr
 wB : B ≤ wb.heap.size
theorem OfA.turn (h : OfA B wb wr x V rows n M dv D) (P : Nat → Nat → Int) : OfB B wb wr x V rows n M dv D (.slice none 0 0) [] P :=
 ⟨h.box, h.tab, h.den, TabN.zero _ _ _ _, NoU.nil _ _ _, fun r hr => (by cases hr), h.xB, h.bel, h.wB⟩
variable {C C2 : Value} {outs : List RowN} {P : Nat → Nat → Int}
theorem OfB.below (h : OfB B wb wr x V rows n M dv D C outs P) (hb : Below wr.heap.size wr w') : OfB B wb w' x V rows n M dv D C outs P :=
 ⟨h.box.below hb, h.tab.below hb, h.den.below hb, h.cel.below hb, h.nou.below (fun k hk => (h.cel.o.lt k hk).2) hb, fun r hr => (h.nor r hr).below (fun k hk => ((h.cel.r r hr).lt k hk).2) hb, h.xB, h.bel.below (Nat.le_trans h.wB h.bel.size) hb, h.wB⟩
theorem OfB.alloc (h : OfB B wb wr x V rows n M dv D C outs P) (o : Obj) : OfB B wb (wr.alloc o) x V rows n M dv D C outs P := h.below ((Below.refl _ _).alloc (Nat.le_refl _) o)
theorem OfB.far (h : OfB B wb wr x V rows n M dv D C outs P) : some x ≠ C.ownBlock := fun e => by
 have h1 := (h.cel.o.lt x e.symm).1
 have h2 := h.xB
 omega
theorem OfB.no (h : OfB B wb wr x V rows n M dv D C outs P) : ∀ y ∈ ([.bool dv.nb, .slice dv.ad dv.l dv.c, C] : List Value), ∀ z, y ≠ .int .u64 z := by
 obtain ⟨A, c, rfl, -⟩ := ownForm h.cel.o
 exact three_no
theorem OfB.push (h : OfB B wb wr x V rows n M dv D C outs P) {r : RowN} (hr : wr.ownsRow B 81 2 (r.val n) n (numc r.us)) (hl : r.us.length = n) (hf : ∀ a ∈ outs, a.g ≠ r.g) (hnum : ∀ k, (h2 : k < r.us.length) → IsNum wr r.us[k].val (P outs.length k)) (hnr : NoU wr (r.val n))
  (ho : w6.ownsRow B 114 1 C2 (outs.length + 1) (outs.map (RowN.val n) ++ [r.val n])) (hg : wr.grownBy w6 C.ownBlock) (hn : NoU w6 C2) : OfB B wb (w6.setCell ⟨x, 2, none⟩ C2) x V rows n M dv D C2 (outs ++ [r]) P := by
 have hb6 := h.box.grown hg h.far
 have ht6 := h.cel.push hr hl hf hnum h.nou ho hg
 have hf6 := h.tab.grown h.cel.o (by decide) h.nou hg
 have hno := h.no
 have hnr6 : ∀ a ∈ outs ++ [r], NoU w6 (a.val n) := fun a ha => by
  rcases List.mem_append.1 ha with h1 | h1
  ·exact (h.nor a h1).kept hg (fun k hk => ((h.cel.r a h1).lt k hk).2) (own_ne (h.cel.r a h1) h.cel.o (by decide))
  ·rw [List.mem_singleton.1 h1]
   exact hnr.kept hg (fun k hk => (hr.lt k hk).2) (own_ne hr h.cel.o (by decide))
 exact ⟨hb6.set 2 C2, hf6.far h.xB hb6 hno 2 C2, (h.den.clean h.nou hg).box hb6 hno (grown_set x 2 C2), ht6.far h.xB hb6 hno 2 C2, hn.far (fun k hk => ho.lt k hk) h.xB 2 C2, fun a ha => (hnr6 a ha).far (fun k hk => (ht6.r a ha).lt k hk) h.xB 2 C2, h.xB, (h.bel.grown (Nat.le_trans h.wB h.bel.size) hg (fun k hk => (h.cel.o.lt k hk).1)).set (.inl rfl) _ _, h.wB⟩
end
theorem OfB.res {B x n : Nat} {wb wr : World} {V : Value} {rows : List RowF} {M : Nat → Nat → Rat} {dv : NumV} {D : Int} {C : Value} {outs : List RowN} {P : Nat → Nat → Int} (h : OfB B wb wr x V rows n M dv D C outs P) {g : Nat} (hg : g < B) {t : TypeId} {cs : List Value} (hb : Blk wr g t cs) (hcs : ∀ a ∈ cs, ∀ z, a ≠ .int .u64 z) {a b c : Value} (ha : ∀ z, a ≠ .int .u64 z) (hb' : ∀ z, b ≠ .int .u64 z) :
  TabN B (((wr.setCell ⟨g, 0, none⟩ a).setCell ⟨g, 1, none⟩ b).setCell ⟨g, 2, none⟩ c) C outs n P ∧ NoU (((wr.setCell ⟨g, 0, none⟩ a).setCell ⟨g, 1, none⟩ b).setCell ⟨g, 2, none⟩ c) C ∧ (∀ r ∈ outs, NoU (((wr.setCell ⟨g, 0, none⟩ a).setCell ⟨g, 1, none⟩ b).setCell ⟨g, 2, none⟩ c) (r.val n)) ∧ IsNum (((wr.setCell ⟨g, 0, none⟩ a).setCell ⟨g, 1, none⟩ b).setCell ⟨g, 2, none⟩ c) dv.val D := by
 have hb1 := hb.set 0 a
 have hb2 := hb1.set 1 b
 have hn1 := no_set (j := 0) hcs ha
 have hn2 := no_set (j := 1) hn1 hb'
 have t1 := h.cel.far hg hb hcs 0 a
 have t2 := t1.far hg hb1 hn1 1 b
 exact ⟨t2.far hg hb2 hn2 2 c, ((h.nou.far (fun k hk => h.cel.o.lt k hk) hg 0 a).far (fun k hk => t1.o.lt k hk) hg 1 b).far (fun k hk => t2.o.lt k hk) hg 2 c, fun r hr => (((h.nor r hr).far (fun k hk => (h.cel.r r hr).lt k hk) hg 0 a).far (fun k hk => (t1.r r hr).lt k hk) hg 1 b).far (fun k hk => (t2.r r hr).lt k hk) hg 2 c, ((h.den.box hb hcs (grown_set g 0 a)).box hb1 hn1 (grown_set g 1 b)).box hb2 hn2 (grown_set g 2 c)⟩
structure RowS (B : Nat) (w : World) (g n : Nat) (us : List NumV) (z : Nat → Int) (k : Nat) : Prop where
 own : w.ownsRow B 81 2 (.slice (some ⟨g, 0, none⟩) n n) n (numc us)
 len : us.length = n
 num : ∀ j, j < k → (h : j < us.length) → IsNum w us[j].val (z j)
 nou : NoU w (.slice (some ⟨g, 0, none⟩) n n)
section
variable {B g n k : Nat} {w w' : World} {us : List NumV} {z : Nat → Int}
theorem RowS.below (h : RowS B w g n us z k) (hb : Below w.heap.size w w') : RowS B w' g n us z k := ⟨own_belowF h.own hb, h.len, fun j hj h2 => (h.num j hj h2).below hb, h.nou.below (fun k hk => (h.own.lt k hk).2) hb⟩
theorem NoU.set {v : Value} (h : NoU w v) (g j : Nat) {u : Value} (hu : ∀ z, u ≠ .int .u64 z) (hl : ∀ k, v.ownBlock = some k → k < w.heap.size) : NoU (w.setCell ⟨g, j, none⟩ u) v := by
 by_cases e : v.ownBlock = some g
 ·intro g' cs t fr hg hc x hx
  rw [e] at hg
  injection hg with hg
  subst hg
  obtain ⟨o, ho⟩ : ∃ o, w.heap[g]? = some o := ⟨_, Array.getElem?_eq_getElem (hl g e)⟩
  cases o with
  | cells cs0 t0 fr0 =>
   have h2 : (w.setCell ⟨g, j, none⟩ u).heap[g]? = some (.cells (cs0.setIfInBounds j u) t0 fr0) := by
    simp [World.setCell, Array.getElem?_modify, ho]
   rw [h2] at hc
   injection hc with hc
   injection hc with hc
   subst hc
   rcases Array.mem_or_eq_of_mem_setIfInBounds hx with h3 | rfl
   ·exact h g cs0 t0 fr0 e ho x h3
   ·exact hu
  | _ =>
   have h2 : (w.setCell ⟨g, j, none⟩ u).heap[g]? = w.heap[g]? := by simp [World.setCell, Array.getElem?_modify, ho]
   rw [h2, ho] at hc
   cases hc
 ·exact h.kept (grown_set g j u) hl (.inr e)
theorem RowS.store (h : RowS B w g n us z k) (hk : k < n) {u : NumV} (hu : IsNum w u.val (z k)) : RowS B ((w.setCell ⟨g, k * 2, none⟩ (.bool u.nb)).setCell ⟨g, k * 2 + 1, none⟩ (.slice u.ad u.l u.c)) g n (us.set k u) z (k + 1) := by
 have hr1 := (h.own.stored (k * 2) (.bool u.nb)).1
 have hr2 := (hr1.stored (k * 2 + 1) (.slice u.ad u.l u.c)).1
 rw [numc_set (by have := h.len; omega) u] at hr2
 have hno1 : ∀ x ∈ (numc us).set (k * 2) (.bool u.nb), ∀ z, x ≠ .int .u64 z := fun x hx z => by
  rcases List.mem_or_eq_of_mem_set hx with h1 | rfl
  ·exact numc_no x h1 z
  ·intro e; cases e
 have hkeep : ∀ v y, IsNum w v y → IsNum ((w.setCell ⟨g, k * 2, none⟩ (.bool u.nb)).setCell ⟨g, k * 2 + 1, none⟩ (.slice u.ad u.l u.c)) v y := fun v y hv =>
  (hv.row h.own numc_no (by omega) _).row hr1 hno1 (by omega) _
 refine ⟨hr2, by rw [List.length_set]; exact h.len, fun j hj h2 => ?_, (h.nou.set g _ (fun z e => by cases e) (fun k hk => (h.own.lt k hk).2)).set g _ (fun z e => by cases e) (fun k hk => (hr1.lt k hk).2)⟩
 by_cases e : j = k
 ·subst e
  rw [List.getElem_set_self]
  exact hkeep _ _ hu
 ·rw [List.getElem_set_ne (Ne.symm e)]
  exact hkeep _ _ (h.num j (by omega) (by simpa using h2))
end
def zeroN : NumV := ⟨false, none, 0, 0⟩
theorem numc_rep (n : Nat) : numc (List.replicate n zeroN) = (madeCells #[.bool false, .slice none 0 0] (n * 2)).toList := by
 apply List.ext_getElem?
 intro j
 by_cases hj : j < n * 2
 ·have h1 : j / 2 < (List.replicate n zeroN).length := by simp; omega
  have h2 := numc_get h1
  rw [List.getElem_replicate] at h2
  have h3 : (madeCells #[.bool false, .slice none 0 0] (n * 2)).toList[j]? = some ((#[Value.bool false, .slice none 0 0])[j % 2]!) := by
   simp [madeCells, hj]
  rw [h3]
  rcases Nat.mod_two_eq_zero_or_one j with h | h
  ·rw [h, show j = j / 2 * 2 by omega]
   rw [h2.1]
   rfl
  ·rw [h, show j = j / 2 * 2 + 1 by omega]
   rw [h2.2]
   rfl
 ·rw [List.getElem?_eq_none (by rw [numc_length]; simp; omega), List.getElem?_eq_none (by simp [madeCells]; omega)]
theorem run_make_nums (n : Nat) (hn : n ≤ 1000000) (w : World) : (Instr.makeSlice 114 (.int .i64 (n : Int)) (.int .i64 (n : Int))).run Tryz.prog w = .ok (.slice (some ⟨w.heap.size, 0, none⟩) n n) (w.alloc (.cells (numc (List.replicate n zeroN)).toArray 81)) := by
 obtain ⟨i0, hi, hz0, hz1, hz2⟩ := info_parts Tryz.infoNum
 have hr := run_make (P := Tryz.prog) w 114 81 i0 (.agg #[.bool false, .slice none 0 0]) Tryz.underlying114 hi hz0 .i64 .i64 n n (by omega) (Int.le_refl _) (by rw [hz2]; omega) (by omega)
 have hm : madeCells (Value.agg #[.bool false, .slice none 0 0]).cells (n * 2) = (numc (List.replicate n zeroN)).toArray := by
  rw [numc_rep]; rfl
 simp only [Int.toNat_natCast, hz1, hm] at hr
 exact hr
theorem RowS.made (w : World) (n : Nat) (z : Nat → Int) (hn : n ≤ 1000000) : RowS w.heap.size (w.alloc (.cells (numc (List.replicate n zeroN)).toArray 81)) w.heap.size n (List.replicate n zeroN) z 0 := by
 have hb := Blk.new w 81 (numc (List.replicate n zeroN))
 refine ⟨⟨by rw [numc_length]; simp, .inr ⟨w.heap.size, n, (numc (List.replicate n zeroN)).toArray, rfl, Nat.le_refl _, hb, Nat.le_refl _, by unfold maxLen; omega, by rw [List.size_toArray, numc_length, List.length_replicate], by rw [List.toList_toArray]; exact List.take_of_length_le (by rw [numc_length, List.length_replicate]; exact Nat.le_refl _)⟩⟩, by simp, fun j hj => by omega, fun g cs t fr hg hc x hx => ?_⟩
 obtain rfl : w.heap.size = g := by simpa [Value.ownBlock] using hg
 have h2 : (w.alloc (.cells (numc (List.replicate n zeroN)).toArray 81)).heap[w.heap.size]? = _ := hb
 rw [h2] at hc
 injection hc with hc
 injection hc with hc
 subst hc
 exact numc_no x (by simpa using hx)
def RetTab (w : World) (m n : Nat) (D : Int) (P : Nat → Nat → Int) (e : Ending) (w' : World) : Prop := ∃ (R cR : Nat) (rows : List RowN) (dv : NumV), e = .returned (.agg #[.bool dv.nb, .slice dv.ad dv.l dv.c, .slice (some ⟨R, 0, none⟩) m cR]) ∧ rows.length = m ∧ TabN w.heap.size w' (.slice (some ⟨R, 0, none⟩) m cR) rows n P ∧ NoU w' (.slice (some ⟨R, 0, none⟩) m cR) ∧ (∀ r ∈ rows, NoU w' (r.val n)) ∧ IsNum w' dv.val D ∧ Below w.heap.size w w'
noncomputable def matL (rs : List RowT) : List (List Rat) := rs.map fun r => r.ss.map valS
noncomputable def matQ (rs : List RowT) (i k : Nat) : Rat := (((matL rs).getD i []).getD k 0)
noncomputable def matD (rs : List RowT) : Int := denM 1 (matL rs)
noncomputable def matP (rs : List RowT) (i k : Nat) : Int := celN (matD rs) (matQ rs i k)
theorem LL_lcm (x y : Int) : LL (lcmI x y) ≤ LL x + LL y := Nat.le_trans (LL_mul _ _) (Nat.add_le_add_right (LL_ediv _ _) _)
theorem denL_LL {b : Nat} : ∀ {l : List Rat} {d : Int}, (∀ q ∈ l, LL (q.den : Int) ≤ b) → LL (denL d l) ≤ LL d + l.length * b
 | [], _, _ => by simp [denL]
 | q :: l, d, h => by
  have h1 := denL_LL (l := l) (d := lcmI d (q.den : Int)) fun x hx => h x (by simp [hx])
  have h2 := LL_lcm d (q.den : Int)
  have h3 := h q (by simp)
  show LL (denL (lcmI d (q.den : Int)) l) ≤ _
  rw [List.length_cons, Nat.succ_mul]
  omega
theorem denM_LL {b n : Nat} : ∀ {m : List (List Rat)} {d : Int}, (∀ l ∈ m, l.length ≤ n ∧ ∀ q ∈ l, LL (q.den : Int) ≤ b) → LL (denM d m) ≤ LL d + m.length * (n * b)
 | [], _, _ => by simp [denM]
 | l :: m, d, h => by
  have h1 := denM_LL (m := m) (d := denL d l) fun x hx => h x (by simp [hx])
  obtain ⟨h2, h3⟩ := h l (by simp)
  have h4 := denL_LL (d := d) h3
  have h5 := Nat.mul_le_mul_right b h2
  show LL (denM (denL d l) m) ≤ _
  rw [List.length_cons, Nat.succ_mul]
  omega
structure RowH (B : Nat) (w : World) (V : Value) (us : List FrV) (qs : List Rat) : Prop where
 own : w.ownsRow B 93 4 V us.length (frc us)
 nou : NoU w V
 frs : IsFracs w us qs
theorem RowH.below {B : Nat} {w w' : World} {V : Value} {us : List FrV} {qs : List Rat} (h : RowH B w V us qs) (hb : Below w.heap.size w w') : RowH B w' V us qs := ⟨own_belowF h.own hb, h.nou.below (fun k hk => (h.own.lt k hk).2) hb, h.frs.below hb⟩
theorem RowH.far {B : Nat} {w : World} {V : Value} {us : List FrV} {qs : List Rat} (h : RowH B w V us qs) {g : Nat} {t : TypeId} {cs : List Value} (hx : g < B) (hb : Blk w g t cs) (hcs : ∀ a ∈ cs, ∀ z, a ≠ .int .u64 z) (j : Nat) (u : Value) : RowH B (w.setCell ⟨g, j, none⟩ u) V us qs :=
 ⟨ownsRow_setCell_below h.own (a := ⟨g, j, none⟩) hx u, h.nou.far (fun k hk => h.own.lt k hk) hx j u, h.frs.1, fun i h1 h2 => (h.frs.2 i h1 h2).box hb hcs (grown_set g j u)⟩
theorem RowH.row {B n c : Nat} {w : World} {A : Option Addr} {us : List FrV} {qs : List Rat} (h : RowH B w (.slice A us.length c) us qs) (hn : us.length = n) : w.ownsRow B 93 4 (RowF.val n ⟨A, c, us⟩) n (frc us) := by subst hn; exact h.own
theorem matQ_at {rs : List RowT} {i k : Nat} (hi : i < rs.length) (hk : k < rs[i].ss.length) : matQ rs i k = valS rs[i].ss[k] := by
 unfold matQ matL
 simp [List.getD_eq_getElem?_getD, hi, hk]
theorem den_LL (s : ByteArray) : LL ((valS s).den : Int) ≤ 45 := by
 unfold LL
 rw [Int.natAbs_natCast]
 exact (valS_sz s).2
theorem matQ_sz (rs : List RowT) (i k : Nat) : Sz 45 (matQ rs i k) := by
 unfold matQ
 rw [List.getD_eq_getElem?_getD]
 rcases h : ((matL rs).getD i [])[k]? with _ | q
 ·exact Sz.zero.mono (by decide)
 ·have h1 := List.mem_of_getElem? h
  rw [List.getD_eq_getElem?_getD] at h1
  rcases h2 : (matL rs)[i]? with _ | l
  ·rw [h2] at h1; simp at h1
  ·rw [h2] at h1
   obtain ⟨r, -, rfl⟩ := List.mem_map.1 (List.mem_of_getElem? h2)
   obtain ⟨s, -, rfl⟩ := List.mem_map.1 (show q ∈ r.ss.map valS from h1)
   exact valS_sz s
theorem matD_pos (rs : List RowT) : 0 < matD rs := denM_pos _ (by decide)
theorem TabF.num_at {B : Nat} {w : World} {V : Value} {rows : List RowF} {n : Nat} {M : Nat → Nat → Rat} (h : TabF B w V rows n M) {i : Nat} (hi : i < rows.length) {r : RowF} (hr : rows[i] = r) {k : Nat} (hk : k < r.us.length) : IsFrac w r.us[k].val (M i k) := by subst hr; exact h.num i hi k hk
theorem s6_alloc {W : World} {p1 p2 p3 p4 p5 p6 : Addr} {a b c d e f : Value} (h : W.cell? p1 = some a ∧ W.cell? p2 = some b ∧ W.cell? p3 = some c ∧ W.cell? p4 = some d ∧ W.cell? p5 = some e ∧ W.cell? p6 = some f) (o : Obj) :
  (W.alloc o).cell? p1 = some a ∧ (W.alloc o).cell? p2 = some b ∧ (W.alloc o).cell? p3 = some c ∧ (W.alloc o).cell? p4 = some d ∧ (W.alloc o).cell? p5 = some e ∧ (W.alloc o).cell? p6 = some f := by
 have hb : Below W.heap.size W (W.alloc o) := (Below.refl _ _).alloc (Nat.le_refl _) o
 obtain ⟨h1, h2, h3, h4, h5, h6⟩ := h
 exact ⟨(hb.cell (World.block_lt_of_cell? _ _ h1)).trans h1, (hb.cell (World.block_lt_of_cell? _ _ h2)).trans h2, (hb.cell (World.block_lt_of_cell? _ _ h3)).trans h3, (hb.cell (World.block_lt_of_cell? _ _ h4)).trans h4, (hb.cell (World.block_lt_of_cell? _ _ h5)).trans h5, (hb.cell (World.block_lt_of_cell? _ _ h6)).trans h6⟩
theorem box_rel {W0 w2 W : World} {a : Nat} {x2 : Bool} {X2 : Option Addr} {y2 z2 : Nat} {q : Int} (KP : Kp W0.heap.size w2 W) (c0 : W.cell? ⟨a, 0, none⟩ = some (.bool x2)) (c1 : W.cell? ⟨a, 1, none⟩ = some (.slice X2 y2 z2)) (hn : IsNum w2 (.agg #[.bool x2, .slice X2 y2 z2]) q) (hB : Below W0.heap.size W0 w2) (hge : W0.heap.size ≤ a) :
  ∃ (g : Nat) (nb : Bool) (S : Option Addr) (l c : Nat), (Value.pointer (some ⟨a, 0, none⟩)) = .pointer (some ⟨g, 0, none⟩) ∧ W0.heap.size ≤ g ∧ W.cell? ⟨g, 0, none⟩ = some (.bool nb) ∧ W.cell? ⟨g, 1, none⟩ = some (.slice S l c) ∧ IsNum W (.agg #[.bool nb, .slice S l c]) q ∧ Below W0.heap.size W0 W :=
 ⟨a, x2, X2, y2, z2, rfl, hge, c0, c1, KP.num hn, hB.trans KP.bel⟩
theorem part_LL {rs : List RowT} {n : Nat} (hf : FineM rs n) (i : Nat) {l : List Rat} (hl : l.length ≤ 12) (hq : ∀ q ∈ l, LL (q.den : Int) ≤ 45) : LL (denL (denM 1 ((matL rs).take i)) l) ≤ 7100 := by
 have h1 := denL_LL (d := denM 1 ((matL rs).take i)) hq
 have h2 : LL (denM 1 ((matL rs).take i)) ≤ LL 1 + ((matL rs).take i).length * (12 * 45) := denM_LL fun x hx => by
  obtain ⟨r, hr, rfl⟩ := List.mem_map.1 (List.mem_of_mem_take hx)
  refine ⟨by rw [List.length_map, hf.row r hr]; exact hf.n12, fun q hq => ?_⟩
  obtain ⟨s, -, rfl⟩ := List.mem_map.1 hq
  exact den_LL s
 have h3 : ((matL rs).take i).length ≤ 12 := by rw [List.length_take]; have := hf.m; unfold matL; rw [List.length_map]; omega
 have h4 := LL_one
 have h5 := Nat.mul_le_mul_right 45 hl
 have h6 := Nat.mul_le_mul_right (12 * 45) h3
 omega
theorem matD_LL {rs : List RowT} {n : Nat} (hf : FineM rs n) : LL (matD rs) ≤ 7100 := by
 have := part_LL hf rs.length (l := []) (by decide) (fun q hq => by cases hq)
 rw [List.take_of_length_le (by unfold matL; simp)] at this
 exact this
theorem part_pos (rs : List RowT) (i : Nat) (l : List Rat) : 0 < denL (denM 1 ((matL rs).take i)) l := denL_pos l (denM_pos _ (by decide))
end Go.Proofs.YtajlojhklhlljaaGreatDoor
namespace Go.Proofs.YtajlojhklhlljaaGreatDoor
open Go.RowKit
theorem Of_any (A : Option Addr) (c n : Nat) (rs : List RowT) (w : World) (h : MatIn w A rs) (hf : FineM rs n) (hm1 : 1 ≤ rs.length) (hn1 : 1 ≤ n) (henv : Env w) :
  Calls Tryz.prog 74 #[.slice A rs.length c] w (RetTab w rs.length n (matD rs) (matP rs)) := by
 generalize hQ : RetTab w rs.length n (matD rs) (matP rs) = Q
 replace hQ := Lib.hid hQ
 obtain ⟨i0, hi, hz0, hz1, hz2⟩ := info_parts Tryz.infoFrs
 obtain ⟨j0, hj, hy0, hy1, hy2⟩ := info_parts Tryz.infoNums
 obtain ⟨b, off, rfl, -⟩ := h.o (by intro e; have := rowt_length rs; rw [e] at this; simp at this; omega)
 have HM := Lib.hid h
 have HF := Lib.hid hf
 have HE := Lib.hid henv
 have hm12 := hf.m
 have hn12 := hf.n12
 clear h hf henv
 go_enter Tryz.func74, Tryz.ntmps74
 go_wp2_with fail
 refine (LOf_one _).mono ?_
 rintro e w2 ⟨v2, rfl, hv2, hb2⟩
 have HV2 := Lib.hid hv2
 have HB2 := Lib.hid (((Below.refl w.heap.size w).alloc (Nat.le_refl _) (.cells #[.bool false, .slice none 0 0, .slice none 0 0] 84)).trans (hb2.mono (by simp)))
 have HR2 := Lib.hid ((Blk.new w 84 [.bool false, .slice none 0 0, .slice none 0 0]).below hb2)
 obtain ⟨na, A1, l1, c1, rfl⟩ := hv2.slice
 clear hv2 hb2
 go_wp2_with fail
 have H0 := Lib.hid (show OfA (w2.heap.size + 1) (w2.alloc (.cells #[.bool na, .slice A1 l1 c1, .slice none 0 0] 84)) (w2.alloc (.cells #[.bool na, .slice A1 l1 c1, .slice none 0 0] 84)) w2.heap.size (.slice none 0 0) [] n (matQ rs) ⟨na, A1, l1, c1⟩ 1 from ⟨Blk.new _ _ _, TabF.zero _ _ _ _, HV2.out.below ((Below.refl _ _).alloc (Nat.le_refl _) _), Nat.lt_succ_self _, Bex.refl _ _ _, by simp⟩)
 have HBb := Lib.hid (HB2.out.alloc HB2.out.size (.cells #[.bool na, .slice A1 l1 c1, .slice none 0 0] 84))
 have HRb := Lib.hid (HR2.out.alloc (.cells #[.bool na, .slice A1 l1 c1, .slice none 0 0] 84))
 have hxw : w.heap.size < w2.heap.size := HR2.out.lt
 generalize w2.alloc (.cells #[.bool na, .slice A1 l1 c1, .slice none 0 0] 84) = wb at *
 clear HV2 HB2 HR2
 generalize w2.heap.size = x at *
 go_loopw [4, 6, 7, 9, 21] (fun v _ _ _ iv wr => ∃ (rows : List RowF) (dv : NumV), iv = .int .i64 (rows.length : Int) ∧ rows.length ≤ rs.length ∧ OfA (x + 1) wb wr x v rows n (matQ rs) dv (denM 1 ((matL rs).take rows.length))) (fun _ _ _ _ iv _ => rs.length - (intOf iv).toNat)
 case atStart => exact ⟨[], ⟨na, A1, l1, c1⟩, rfl, Nat.zero_le _, H0.out⟩
 case round =>
  obtain ⟨rows, dv, rfl, hk, hs⟩ := hrel
  obtain ⟨AV, cV, rfl, -⟩ := ownForm hs.tab.o
  obtain ⟨wi, rfl⟩ : ∃ wi : World, wi = wr := ⟨_, rfl⟩
  have HS := Lib.hid hs
  have HBr := Lib.hid (HBb.out.trans (hs.bel.toBelow (b := w.heap.size) (by omega) (by omega)))
  have hszr := Nat.le_trans hs.wB hs.bel.size
  clear hs
  by_cases hlt : rows.length < rs.length
  ·have hmi := HM.out.below HBr.out
   have hci := hmi.o.at_ (rowt_get hlt)
   have HRI := Lib.hid (hmi.i _ (List.getElem_mem hlt))
   have hrn : rs[rows.length].ss.length = n := HF.out.row _ (List.getElem_mem hlt)
   have HTX := Lib.hid (HF.out.txt _ (List.getElem_mem hlt))
   have HQA := Lib.hid (fun k (hk : k < rs[rows.length].ss.length) => matQ_at hlt hk)
   have HDS := Lib.hid (show (matL rs).take (rows.length + 1) = (matL rs).take rows.length ++ [rs[rows.length].ss.map valS] by
    rw [List.take_succ_eq_append_getElem (by unfold matL; simpa using hlt)]
    unfold matL
    simp)
   obtain ⟨D0, hD0⟩ : ∃ D0, denM 1 ((matL rs).take rows.length) = D0 := ⟨_, rfl⟩
   have HPL := Lib.hid (fun (l : List Rat) hl hq => part_LL HF.out rows.length (l := l) hl hq)
   have HPP := Lib.hid (fun (l : List Rat) => part_pos rs rows.length l)
   rw [hD0] at HS HPL HPP
   have HD0 := Lib.hid hD0
   clear hD0 hmi
   generalize rs[rows.length] = r at *
   have HSL := Lib.hid (FList_any r.ad r.ss r.cp wi HRI.out (by omega) (fun s hs => (HTX.out s hs).1) (HE.out.below HBr.out))
   have HRN := Lib.hid hrn
   have hx1 : (0 : Int) ≤ (rows.length : Int) := by omega
   have hx2 : (rows.length : Int) < (rs.length : Int) := by omega
   clear hrn
   go_wp2_with fail
   refine HSL.out.mono ?_
   rintro e w3 ⟨v3, us, rfl, hown, hno, hfr, hb⟩
   have hul : us.length = n := by have := hfr.1; rw [List.length_map, HRN.out] at this; exact this
   obtain ⟨A3, c3, rfl, -⟩ := ownForm hown
   obtain ⟨g3, rfl⟩ := ownAddr hown (by omega)
   have HUL := Lib.hid hul
   have hub : us.length ≤ 12 := by omega
   have HR3 := Lib.hid (show RowH wi.heap.size w3 (.slice (some ⟨g3, 0, none⟩) us.length c3) us (r.ss.map valS) from ⟨hown, hno, hfr⟩)
   have HS3 := Lib.hid (HS.out.below hb)
   have hs3 := hb.size
   obtain ⟨ql, hql⟩ : ∃ ql, r.ss.map valS = ql := ⟨_, rfl⟩
   rw [hql] at HR3 HDS
   have HQL := Lib.hid hql
   clear hown hno hfr hb hql hul
   go_wp2_with fail
   go_loopw [9, 29] (fun _ jv wr => ∃ (k : Nat) (dw : NumV), jv = .int .i64 (k : Int) ∧ k ≤ us.length ∧ OfA (x + 1) wb wr x (.slice AV rows.length cV) rows n (matQ rs) dw (denL D0 (ql.take k)) ∧ RowH wi.heap.size wr (.slice (some ⟨g3, 0, none⟩) us.length c3) us ql) (fun _ jv _ => us.length - (intOf jv).toNat)
   case atStart => exact ⟨0, dv, rfl, Nat.zero_le _, HS3.out, HR3.out⟩
   case round =>
    obtain ⟨k, dw, rfl, hk2, hs2, hr2⟩ := hrel
    obtain ⟨wq, rfl⟩ : ∃ wq : World, wq = wr := ⟨_, rfl⟩
    by_cases hlt2 : k < us.length
    ·have hkq : k < ql.length := by have := hr2.frs.1; omega
     have hqm : ∀ q ∈ ql, LL (q.den : Int) ≤ 45 := fun q hq => by
      rw [← HQL.out] at hq
      obtain ⟨s, -, rfl⟩ := List.mem_map.1 hq
      exact den_LL s
     have HDE := Lib.hid (show denL D0 (ql.take (k + 1)) = lcmI (denL D0 (ql.take k)) (ql[k].den : Int) by rw [List.take_succ_eq_append_getElem hkq, denL_snoc])
     have hLD := HPL.out (ql.take k) (by rw [List.length_take]; have := HUL.out; omega) (fun q hq => hqm q (List.mem_of_mem_take hq))
     have hPD := HPP.out (ql.take k)
     have hLq := hqm _ (List.getElem_mem hkq)
     have hfq : IsFrac wq us[k].val ql[k] := hr2.frs.2 k hlt2 hkq
     have e0 := (hr2.own.cellAt (k * 4) (by omega)).trans (frc_get hlt2).1
     have e1 := (hr2.own.cellAt (k * 4 + 1) (by omega)).trans (frc_get hlt2).2.1
     have e2 := (hr2.own.cellAt (k * 4 + 2) (by omega)).trans (frc_get hlt2).2.2.1
     have e3 := (hr2.own.cellAt (k * 4 + 3) (by omega)).trans (frc_get hlt2).2.2.2
     generalize us[k] = u at *
     generalize ql[k] = q at *
     obtain ⟨na4, A4, l4, c4, nb4, B4, m4, d4⟩ := u
     have HF4 := Lib.hid (show IsFrac (wq.alloc (.cells #[.bool na4, .slice A4 l4 c4, .bool nb4, .slice B4 m4 d4] 93)) (.agg #[.bool na4, .slice A4 l4 c4, .bool nb4, .slice B4 m4 d4]) q from hfq.below ((Below.refl _ _).alloc (Nat.le_refl _) _))
     have HS4 := Lib.hid (hs2.alloc (.cells #[.bool na4, .slice A4 l4 c4, .bool nb4, .slice B4 m4 d4] 93))
     have HR4 := Lib.hid (hr2.below ((Below.refl _ _).alloc (Nat.le_refl _) (.cells #[.bool na4, .slice A4 l4 c4, .bool nb4, .slice B4 m4 d4] 93)))
     have hb4 := Blk.new wq 93 [.bool na4, .slice A4 l4 c4, .bool nb4, .slice B4 m4 d4]
     have hx3 : (0 : Int) ≤ (k : Int) := by omega
     have hx4 : (k : Int) < (us.length : Int) := by omega
     have hsw : wi.heap.size ≤ (wq.alloc (.cells #[.bool na4, .slice A4 l4 c4, .bool nb4, .slice B4 m4 d4] 93)).heap.size := by have := (hr2.own.lt g3 rfl); simp; omega
     have HXI := Lib.hid (show x < wi.heap.size by omega)
     clear hs2 hr2 hfq hqm
     go_upto_region 10 with (fail)
     clear e0 e1 e2 e3
     generalize (wq.alloc (.cells #[.bool na4, .slice A4 l4 c4, .bool nb4, .slice B4 m4 d4] 93)) = W at *
     have t0 := hb4.at_ (i := 0) rfl
     have t1 := hb4.at_ (i := 1) rfl
     have t2 := hb4.at_ (i := 2) rfl
     have t3 := hb4.at_ (i := 3) rfl
     have x0 := HS4.out.box.at_ (i := 0) rfl
     have x1 := HS4.out.box.at_ (i := 1) rfl
     clear hb4
     obtain ⟨Dk, hDk⟩ : ∃ Dk, denL D0 (ql.take k) = Dk := ⟨_, rfl⟩
     rw [hDk] at hLD hPD HS4 HDE
     clear hDk
     go_region_with (first | (go_at_call 151; (with_reducible refine (Lcm_any _ _ Dk (q.den : Int) _ HD5.out HV4.out (by omega) (by omega) (by omega)).mono ?_); rintro e w5 ⟨v5, rfl, hv, hb⟩; have HW5 := Lib.hid (HW4.out.trans (hb.mono HW4.out.size)); have HS6 := Lib.hid (HS5.out.below hb); have HV5 := Lib.hid hv; obtain ⟨xb, Xb, yb, zb, rfl⟩ := hv.slice; have z0 := HS6.out.box.at_ (i := 0) rfl; have z1 := HS6.out.box.at_ (i := 1) rfl; have f0 := HS6.out.box.fr 0; have f1 := HS6.out.box.fr 1; clear hv hb) | (go_at_call 152; (with_reducible refine (FDen_any _ q _ (HF4.out.below (by first | with_reducible exact Below.refl _ _ | with_reducible exact (Below.refl _ _).drew))).mono ?_); rintro e w4 ⟨v4, rfl, hv, hb⟩; have hw : Below W.heap.size W w4 := Below.trans (by first | with_reducible exact Below.refl _ _ | with_reducible exact (Below.refl _ _).drew) (hb.mono (by first | exact Nat.le_refl _)); have HW4 := Lib.hid hw; have HS5 := Lib.hid (HS4.out.below hw); have HV4 := Lib.hid hv; have HD5 := Lib.hid (show IsNum w4 (.agg #[.bool dw.nb, .slice dw.ad dw.l dw.c]) Dk from HS5.out.den); obtain ⟨xa, Xa, ya, za, rfl⟩ := hv.slice; have y0 := HS5.out.box.at_ (i := 0) rfl; have y1 := HS5.out.box.at_ (i := 1) rfl; clear hv hb hw))
     all_goals
      go_wp2_with fail
      go_roundw
      case rel =>
       refine ⟨k + 1, ⟨xb, Xb, yb, zb⟩, by go_num, by omega, by rw [HDE.out]; exact HS6.out.put (u := ⟨xb, Xb, yb, zb⟩) HV5.out, ?_⟩
       have b1 : Blk (w5.setCell ⟨x, 0, none⟩ (.bool xb)) x 84 [.bool xb, .slice dw.ad dw.l dw.c, .slice none 0 0] := HS6.out.box.set 0 _
       exact ((HR4.out.below HW5.out).far HXI.out HS6.out.box three_no 0 _).far HXI.out b1 three_no 1 _
      case measure => simp [intOf]; omega
    ·obtain rfl : k = us.length := by omega
     have HSA := Lib.hid hs2
     have HRA := Lib.hid hr2
     clear hs2 hr2
     have HSB := Lib.hid (HSA.out.alloc (.cells #[.slice (some ⟨g3, 0, none⟩) us.length c3] 111))
     have HRB := Lib.hid (HRA.out.below ((Below.refl _ _).alloc (Nat.le_refl _) (.cells #[.slice (some ⟨g3, 0, none⟩) us.length c3] 111)))
     have hmx : rows.length ≤ 12 := by omega
     go_upto_region 12 with (fail)
     go_wp2_with (at_builtin; go_loud (refine wpList_append_clean _ rfl _ _ 146 rfl (x + 1) 111 i0 _ 1 24 Tryz.underlying146 hi hz0 hz1 hz2 rfl (by decide) _ _ _ rfl HSB.out.tab.o ⟨wq.heap.size, 0, none⟩ 1 1 [.slice (some ⟨g3, 0, none⟩) us.length c3] rfl rfl (World.news_of_block (cs := #[.slice (some ⟨g3, 0, none⟩) us.length c3]) (t := 111) (fr := (0, 0)) (heap_alloc_new wq _)) sl_one (by omega) (by unfold maxLen; omega) (by omega) (by have := HSB.out.bel.size; have := HSB.out.wB; omega) HSB.out.tab.nou slz_no sl_no ?_))
     intro g cap w7 hown7 hgrow7 hno7
     have hul := HUL.out
     rw [hul] at hown7
     have HR7 := HRB.out.row hul
     have HS7 := Lib.hid (HSB.out.push (r := ⟨some ⟨g3, 0, none⟩, c3, us⟩) (ownMono HR7 (by omega)) hul (fun j hj => by
      have hj' : j < us.length := hj
      have h1 := HRB.out.frs.2 j hj' (by have := HRB.out.frs.1; omega)
      have h2 := HQA.out j (by rw [HRN.out, ← hul]; exact hj')
      rw [h2]
      have h3 := HQL.out
      subst h3
      simpa using h1) hown7 hgrow7 hno7)
     clear hown7 hgrow7 hno7 HR7 hul
     go_wp2_with fail
     go_roundw
     case rel => exact ⟨rows ++ [⟨some ⟨g3, 0, none⟩, c3, us⟩], dw, by simp only [List.length_append, List.length_singleton]; go_num, by simp; omega, by rw [List.length_append, List.length_singleton, HDS.out, denM_snoc, HD0.out]; have h9 := HS7.out; rw [show ql.take us.length = ql from List.take_of_length_le (by have := HRA.out.frs.1; omega)] at h9; exact h9⟩
     case measure => simp [intOf]; omega
  ·-- PHASE 2
   have hk' : rows.length = rs.length := by omega
   have HK := Lib.hid hk'
   obtain ⟨R1, rfl⟩ := ownAddr HS.out.tab.o (by omega)
   have HB0 := Lib.hid (show OfB (x + 1) wb wi x (.slice (some ⟨R1, 0, none⟩) rows.length cV) rows n (matQ rs) dv (matD rs) (.slice none 0 0) [] (matP rs) from by
    have h9 := HS.out
    rw [show (matL rs).take rows.length = matL rs from List.take_of_length_le (by unfold matL; rw [List.length_map]; omega)] at h9
    exact h9.turn _)
   have hLD := matD_LL HF.out
   have hPD := matD_pos rs
   obtain ⟨D, hD⟩ : ∃ D, matD rs = D := ⟨_, rfl⟩
   have HPE := Lib.hid (fun i k => (show matP rs i k = (matQ rs i k).num * (matD rs / ((matQ rs i k).den : Int)) from rfl))
   rw [hD] at hLD hPD HB0 HPE
   have HDD := Lib.hid hD
   have hr12 : rows.length ≤ 12 := by omega
   clear hk' hD
   go_wp2_with fail
   go_loopw [47] (fun iv wr => ∃ (outs : List RowN) (C : Value), iv = .int .i64 (outs.length : Int) ∧ outs.length ≤ rows.length ∧ OfB (x + 1) wb wr x (.slice (some ⟨R1, 0, none⟩) rows.length cV) rows n (matQ rs) dv D C outs (matP rs)) (fun iv _ => rows.length - (intOf iv).toNat)
   case atStart => exact ⟨[], _, rfl, Nat.zero_le _, HB0.out⟩
   case round =>
    obtain ⟨outs, C, rfl, hk3, hs3⟩ := hrel
    obtain ⟨AC, cC, rfl, -⟩ := ownForm hs3.cel.o
    obtain ⟨wo, rfl⟩ : ∃ wo : World, wo = wr := ⟨_, rfl⟩
    have HO := Lib.hid hs3
    have hszo := Nat.le_trans hs3.wB hs3.bel.size
    have HBo := Lib.hid (HBb.out.trans (hs3.bel.toBelow (b := w.heap.size) (by omega) (by omega)))
    by_cases hlt3 : outs.length < rows.length
    ·have hci := hs3.tab.o.cellAt outs.length (by omega)
     rw [List.getElem?_map, List.getElem?_eq_getElem hlt3] at hci
     have hro := hs3.tab.r _ (List.getElem_mem hlt3)
     have HMEM := Lib.hid (List.getElem_mem hlt3)
     have HUL := Lib.hid (hs3.tab.l _ (List.getElem_mem hlt3))
     obtain ⟨r, hr⟩ : ∃ r, rows[outs.length] = r := ⟨_, rfl⟩
     have HRE := Lib.hid hr
     rw [hr] at hci hro HMEM HUL
     clear hr
     obtain ⟨ra, rc, us⟩ := r
     obtain ⟨g3, hg3⟩ := ownAddr (show wo.ownsRow (x + 1) 93 4 (.slice ra n rc) n (frc us) from hro) (by omega)
     subst hg3
     have hci2 : wo.cell? ⟨R1, outs.length, none⟩ = some (.slice (some ⟨g3, 0, none⟩) n rc) := hci
     have hmk := run_make_nums n (by omega)
     have hx1 : (0 : Int) ≤ (outs.length : Int) := by omega
     have hx2 : (outs.length : Int) < (rows.length : Int) := by omega
     have HW0 := Lib.hid ((Below.refl wo.heap.size wo).alloc (Nat.le_refl _) (.cells (numc (List.replicate n zeroN)).toArray 81))
     have HR0 := Lib.hid (RowS.made wo n (matP rs outs.length) (by omega))
     clear hci hro hs3
     go_wp2_with fail
     clear hci2 hmk
     generalize wo.alloc (.cells (numc (List.replicate n zeroN)).toArray 81) = w0 at *
     obtain ⟨go, hgo⟩ : ∃ go, wo.heap.size = go := ⟨_, rfl⟩
     rw [hgo] at HW0 HR0
     have HGO := Lib.hid hgo
     rw [hgo]
     have hszg : x + 1 ≤ go := by omega
     clear hgo
     go_loopw [56] (fun jv wr => ∃ (k : Nat) (vs : List NumV), jv = .int .i64 (k : Int) ∧ k ≤ n ∧ Below go wo wr ∧ RowS go wr go n vs (matP rs outs.length) k) (fun jv _ => n - (intOf jv).toNat)
     case atStart => exact ⟨0, _, rfl, Nat.zero_le _, HW0.out, HR0.out⟩
     case round =>
      obtain ⟨k, vs, rfl, hk4, hbo, hrs⟩ := hrel
      obtain ⟨wq, rfl⟩ : ∃ wq : World, wq = wr := ⟨_, rfl⟩
      have HWq := Lib.hid (show Below wo.heap.size wo wq by rw [HGO.out]; exact hbo)
      have hsq := HO.out.below HWq.out
      by_cases hlt4 : k < n
      ·have hro : wq.ownsRow (x + 1) 93 4 (.slice (some ⟨g3, 0, none⟩) n rc) n (frc us) := hsq.tab.r _ HMEM.out
       have hku : k < us.length := by have h9 : us.length = n := HUL.out; omega
       have e0 := (hro.cellAt (k * 4) (by omega)).trans (frc_get hku).1
       have e1 := (hro.cellAt (k * 4 + 1) (by omega)).trans (frc_get hku).2.1
       have e2 := (hro.cellAt (k * 4 + 2) (by omega)).trans (frc_get hku).2.2.1
       have e3 := (hro.cellAt (k * 4 + 3) (by omega)).trans (frc_get hku).2.2.2
       have hfq : IsFrac wq us[k].val (matQ rs outs.length k) := hsq.tab.num_at hlt3 HRE.out (k := k) hku
       have hQS := matQ_sz rs outs.length k
       have HPQ := Lib.hid (HPE.out outs.length k)
       generalize us[k] = u at *
       generalize matQ rs outs.length k = q at *
       obtain ⟨na4, A4, l4, c4, nb4, B4, m4, d4⟩ := u
       have HFW := Lib.hid (show IsFrac (wq.alloc (.cells #[.bool na4, .slice A4 l4 c4, .bool nb4, .slice B4 m4 d4] 93)) (.agg #[.bool na4, .slice A4 l4 c4, .bool nb4, .slice B4 m4 d4]) q from hfq.below ((Below.refl _ _).alloc (Nat.le_refl _) _))
       have HSW := Lib.hid (hsq.alloc (.cells #[.bool na4, .slice A4 l4 c4, .bool nb4, .slice B4 m4 d4] 93))
       have HXW := Lib.hid (show IsNum (wq.alloc (.cells #[.bool na4, .slice A4 l4 c4, .bool nb4, .slice B4 m4 d4] 93)) (.agg #[.bool dv.nb, .slice dv.ad dv.l dv.c]) D from HSW.out.den)
       have HRW := Lib.hid (hrs.below ((Below.refl _ _).alloc (Nat.le_refl _) (.cells #[.bool na4, .slice A4 l4 c4, .bool nb4, .slice B4 m4 d4] 93)))
       have HWW := Lib.hid (HWq.out.alloc HWq.out.size (.cells #[.bool na4, .slice A4 l4 c4, .bool nb4, .slice B4 m4 d4] 93))
       have hbk := Blk.new wq 93 [.bool na4, .slice A4 l4 c4, .bool nb4, .slice B4 m4 d4]
       have hx3 : (0 : Int) ≤ (k : Int) := by omega
       have hx4 : (k : Int) < (n : Int) := by omega
       have hLD2 : (limbs D.natAbs).length ≤ 7100 := hLD
       have hqd : (limbs (q.den : Int).natAbs).length ≤ 45 := by rw [Int.natAbs_natCast]; exact hQS.2
       have hqn : (limbs q.num.natAbs).length ≤ 45 := hQS.1
       have hdq : (limbs (D / (q.den : Int)).natAbs).length ≤ 7100 := Nat.le_trans (LL_ediv _ _) hLD
       have hqp := q.den_pos
       have HGY := Lib.hid (show go < wq.heap.size from (hrs.own.lt go rfl).2)
       clear hro hku hfq hQS hsq hrs hbo
       go_upto_region 21 with (fail)
       clear e0 e1 e2 e3
       generalize (wq.alloc (.cells #[.bool na4, .slice A4 l4 c4, .bool nb4, .slice B4 m4 d4] 93)) = W at *
       generalize wq.heap.size = y at *
       have t0 := hbk.at_ (i := 0) rfl
       have t1 := hbk.at_ (i := 1) rfl
       have t2 := hbk.at_ (i := 2) rfl
       have t3 := hbk.at_ (i := 3) rfl
       have x0 := HSW.out.box.at_ (i := 0) rfl
       have x1 := HSW.out.box.at_ (i := 1) rfl
       have hyW := hbk.lt
       have hxW := HSW.out.box.lt
       have KB := Lib.hid (fun W' (hW : Below W.heap.size W W') => (show W'.cell? ⟨x, 0, none⟩ = some (.bool dv.nb) ∧ W'.cell? ⟨x, 1, none⟩ = some (.slice dv.ad dv.l dv.c) ∧ W'.cell? ⟨y, 0, none⟩ = some (.bool na4) ∧ W'.cell? ⟨y, 1, none⟩ = some (.slice A4 l4 c4) ∧ W'.cell? ⟨y, 2, none⟩ = some (.bool nb4) ∧ W'.cell? ⟨y, 3, none⟩ = some (.slice B4 m4 d4) from ⟨(hW.cell (World.block_lt_of_cell? _ _ x0)).trans x0, (hW.cell (World.block_lt_of_cell? _ _ x1)).trans x1, (hW.cell (World.block_lt_of_cell? _ _ t0)).trans t0, (hW.cell (World.block_lt_of_cell? _ _ t1)).trans t1, (hW.cell (World.block_lt_of_cell? _ _ t2)).trans t2, (hW.cell (World.block_lt_of_cell? _ _ t3)).trans t3⟩))
       clear hbk
       go_cut [15, 16] from 57 to 75 (fun v u wc => ∃ (g : Nat) (nb : Bool) (S : Option Addr) (l c : Nat), v = .pointer (some ⟨g, 0, none⟩) ∧ W.heap.size ≤ g ∧ wc.cell? ⟨g, 0, none⟩ = some (.bool nb) ∧ wc.cell? ⟨g, 1, none⟩ = some (.slice S l c) ∧ IsNum wc (.agg #[.bool nb, .slice S l c]) (D / (q.den : Int)) ∧ Below W.heap.size W wc)
       case first =>
        have KS0 : Hid (W.drew.cell? ⟨x, 0, none⟩ = some (.bool dv.nb) ∧ W.drew.cell? ⟨x, 1, none⟩ = some (.slice dv.ad dv.l dv.c) ∧ W.drew.cell? ⟨y, 0, none⟩ = some (.bool na4) ∧ W.drew.cell? ⟨y, 1, none⟩ = some (.slice A4 l4 c4) ∧ W.drew.cell? ⟨y, 2, none⟩ = some (.bool nb4) ∧ W.drew.cell? ⟨y, 3, none⟩ = some (.slice B4 m4 d4)) := Lib.hid ⟨x0, x1, t0, t1, t2, t3⟩
        have nx00 : ¬ (x = W.heap.size) := (by omega); have nx01 : ¬ (W.heap.size = x) := (by omega); have nx02 : ¬ (x = W.heap.size + 1) := (by omega); have nx03 : ¬ (W.heap.size + 1 = x) := (by omega); have nx04 : ¬ (y = W.heap.size) := (by omega); have nx05 : ¬ (W.heap.size = y) := (by omega); have nx06 : ¬ (y = W.heap.size + 1) := (by omega); have nx07 : ¬ (W.heap.size + 1 = y) := (by omega); skip
        have ng0 := World.new_ne W ⟨x, 0, none⟩ x0
        have ng1 := World.new_ne W ⟨y, 0, none⟩ t0
        go_region_held3 (fun w' => w'.cell? ⟨x, 0, none⟩ = some (.bool dv.nb) ∧ w'.cell? ⟨x, 1, none⟩ = some (.slice dv.ad dv.l dv.c) ∧ w'.cell? ⟨y, 0, none⟩ = some (.bool na4) ∧ w'.cell? ⟨y, 1, none⟩ = some (.slice A4 l4 c4) ∧ w'.cell? ⟨y, 2, none⟩ = some (.bool nb4) ∧ w'.cell? ⟨y, 3, none⟩ = some (.slice B4 m4 d4)) (first | with_reducible exact KS0.out | with_reducible exact KS1.out | with_reducible exact KS2.out | (with_reducible refine s6_alloc ?_ _; assumption) | go_keep) (first | (go_at_call 152; (with_reducible refine (FDen_any _ q _ (HFW.out.below (by first | with_reducible exact Below.refl _ _ | with_reducible exact (Below.refl _ _).drew | with_reducible exact (Below.refl _ _).alloc (Nat.le_refl _) _ | with_reducible exact ((Below.refl _ _).alloc (Nat.le_refl _) _).alloc (by simp) _ | with_reducible exact ((Below.refl _ _).alloc (Nat.le_refl _) _).drew | with_reducible exact (((Below.refl _ _).alloc (Nat.le_refl _) _).alloc (by simp) _).drew))).mono ?_); rintro e w1 ⟨v1, rfl, hv, hb⟩; have HV1 := Lib.hid hv; have hbw : Below W.heap.size W w1 := Below.trans (by first | with_reducible exact Below.refl _ _ | with_reducible exact (Below.refl _ _).drew | with_reducible exact (Below.refl _ _).alloc (Nat.le_refl _) _ | with_reducible exact ((Below.refl _ _).alloc (Nat.le_refl _) _).alloc (by simp) _ | with_reducible exact ((Below.refl _ _).alloc (Nat.le_refl _) _).drew | with_reducible exact (((Below.refl _ _).alloc (Nat.le_refl _) _).alloc (by simp) _).drew) (hb.mono (by first | exact Nat.le_refl _ | (simp; done) | (simp; omega))); have HW1 := Lib.hid hbw; have HX1 := Lib.hid (HXW.out.below hbw); have KS1 := Lib.hid (KB.out w1 hbw); have sz1 := hbw.size; (first | (have za1 := ((Blk.new W 81 [.bool false, .slice none 0 0]).alloc (.cells #[.bool false, .slice none 0 0] 81)).below (Below.trans (by first | exact Below.refl _ _ | exact (Below.refl _ _).drew) (hb.mono (by first | exact Nat.le_refl _ | (simp; done) | (simp; omega)))); have zb1 := (Blk.new' (w := W.alloc (.cells #[.bool false, .slice none 0 0] 81)) (g := W.heap.size + 1) (by simp) 81 [.bool false, .slice none 0 0]).below (Below.trans (by first | exact Below.refl _ _ | exact (Below.refl _ _).drew) (hb.mono (by first | exact Nat.le_refl _ | (simp; done) | (simp; omega)))); have za10 := za1.at_ (i := 0) rfl; have za11 := za1.at_ (i := 1) rfl; have zb10 := zb1.at_ (i := 0) rfl; have zb11 := zb1.at_ (i := 1) rfl; have ya10 := za1.fr 0; have ya11 := za1.fr 1; have yb10 := zb1.fr 0; have yb11 := zb1.fr 1; have sa1 := za1.lt; have sb1 := zb1.lt; have ZA1 := Lib.hid za1; have ZB1 := Lib.hid zb1; clear za1 zb1) | (have za1 := (Blk.new W 81 [.bool false, .slice none 0 0]).below (Below.trans (by first | exact Below.refl _ _ | exact (Below.refl _ _).drew) (hb.mono (by first | exact Nat.le_refl _ | (simp; done) | (simp; omega)))); have za10 := za1.at_ (i := 0) rfl; have za11 := za1.at_ (i := 1) rfl; have ya10 := za1.fr 0; have ya11 := za1.fr 1; have sa1 := za1.lt; have ZA1 := Lib.hid za1; clear za1) | skip); obtain ⟨x1, X1, y1, z1, rfl⟩ := hv.slice; obtain ⟨q10, q11, q12, q13, q14, q15⟩ := KB.out w1 hbw; have nx10 : ¬ (x = w1.heap.size) := (by omega); have nx11 : ¬ (w1.heap.size = x) := (by omega); have nx12 : ¬ (x = w1.heap.size + 1) := (by omega); have nx13 : ¬ (w1.heap.size + 1 = x) := (by omega); have nx14 : ¬ (y = w1.heap.size) := (by omega); have nx15 : ¬ (w1.heap.size = y) := (by omega); have nx16 : ¬ (y = w1.heap.size + 1) := (by omega); have nx17 : ¬ (w1.heap.size + 1 = y) := (by omega); clear hv hb hbw) | (go_at_call 153; (with_reducible refine (Div_any _ _ D (q.den : Int) _ (HX1.out.below (by first | with_reducible exact Below.refl _ _ | with_reducible exact (Below.refl _ _).drew | with_reducible exact (Below.refl _ _).alloc (Nat.le_refl _) _ | with_reducible exact ((Below.refl _ _).alloc (Nat.le_refl _) _).alloc (by simp) _ | with_reducible exact ((Below.refl _ _).alloc (Nat.le_refl _) _).drew | with_reducible exact (((Below.refl _ _).alloc (Nat.le_refl _) _).alloc (by simp) _).drew)) (HV1.out.below (by first | with_reducible exact Below.refl _ _ | with_reducible exact (Below.refl _ _).drew | with_reducible exact (Below.refl _ _).alloc (Nat.le_refl _) _ | with_reducible exact ((Below.refl _ _).alloc (Nat.le_refl _) _).alloc (by simp) _ | with_reducible exact ((Below.refl _ _).alloc (Nat.le_refl _) _).drew | with_reducible exact (((Below.refl _ _).alloc (Nat.le_refl _) _).alloc (by simp) _).drew)) (by omega) (by omega) (by omega)).mono ?_); rintro e w2 ⟨v2, u2, rfl, hq, hr, hb⟩; have HQ2 := Lib.hid hq; have hbw : Below w1.heap.size w1 w2 := Below.trans (by first | with_reducible exact Below.refl _ _ | with_reducible exact (Below.refl _ _).drew | with_reducible exact (Below.refl _ _).alloc (Nat.le_refl _) _ | with_reducible exact ((Below.refl _ _).alloc (Nat.le_refl _) _).alloc (by simp) _ | with_reducible exact ((Below.refl _ _).alloc (Nat.le_refl _) _).drew | with_reducible exact (((Below.refl _ _).alloc (Nat.le_refl _) _).alloc (by simp) _).drew) (hb.mono (by first | exact Nat.le_refl _ | (simp; done) | (simp; omega))); have HW2 := Lib.hid (HW1.out.trans (hbw.mono HW1.out.size)); have KS2 := Lib.hid (KB.out w2 HW2.out); have sz2 := hbw.size; obtain ⟨q20, q21, q22, q23, q24, q25⟩ := KB.out w2 HW2.out; (first | (have ZA1' := Lib.hid (ZA1.out.below hbw); have zc0 := ZA1'.out.at_ (i := 0) rfl; have zc1 := ZA1'.out.at_ (i := 1) rfl; have yc0 := ZA1'.out.fr 0; have yc1 := ZA1'.out.fr 1; have sc := ZA1'.out.lt) | skip); (first | (have ZB1' := Lib.hid (ZB1.out.below hbw); have zd0 := ZB1'.out.at_ (i := 0) rfl; have zd1 := ZB1'.out.at_ (i := 1) rfl; have yd0 := ZB1'.out.fr 0; have yd1 := ZB1'.out.fr 1; have sd := ZB1'.out.lt) | skip); (first | (have za2 := ((Blk.new w1 81 [.bool false, .slice none 0 0]).alloc (.cells #[.bool false, .slice none 0 0] 81)).below (Below.trans (by first | exact Below.refl _ _ | exact (Below.refl _ _).drew) (hb.mono (by first | exact Nat.le_refl _ | (simp; done) | (simp; omega)))); have zb2 := (Blk.new' (w := w1.alloc (.cells #[.bool false, .slice none 0 0] 81)) (g := w1.heap.size + 1) (by simp) 81 [.bool false, .slice none 0 0]).below (Below.trans (by first | exact Below.refl _ _ | exact (Below.refl _ _).drew) (hb.mono (by first | exact Nat.le_refl _ | (simp; done) | (simp; omega)))); have za20 := za2.at_ (i := 0) rfl; have za21 := za2.at_ (i := 1) rfl; have zb20 := zb2.at_ (i := 0) rfl; have zb21 := zb2.at_ (i := 1) rfl; have ya20 := za2.fr 0; have ya21 := za2.fr 1; have yb20 := zb2.fr 0; have yb21 := zb2.fr 1; have sa2 := za2.lt; have sb2 := zb2.lt; have ZA2 := Lib.hid za2; have ZB2 := Lib.hid zb2; clear za2 zb2) | (have za2 := (Blk.new w1 81 [.bool false, .slice none 0 0]).below (Below.trans (by first | exact Below.refl _ _ | exact (Below.refl _ _).drew) (hb.mono (by first | exact Nat.le_refl _ | (simp; done) | (simp; omega)))); have za20 := za2.at_ (i := 0) rfl; have za21 := za2.at_ (i := 1) rfl; have ya20 := za2.fr 0; have ya21 := za2.fr 1; have sa2 := za2.lt; have ZA2 := Lib.hid za2; clear za2) | skip); obtain ⟨x2, X2, y2, z2, rfl⟩ := hq.slice; obtain ⟨x3, X3, y3, z3, rfl⟩ := hr.slice; have nx20 : ¬ (x = w2.heap.size) := (by omega); have nx21 : ¬ (w2.heap.size = x) := (by omega); have nx22 : ¬ (x = w2.heap.size + 1) := (by omega); have nx23 : ¬ (w2.heap.size + 1 = x) := (by omega); have nx24 : ¬ (y = w2.heap.size) := (by omega); have nx25 : ¬ (w2.heap.size = y) := (by omega); have nx26 : ¬ (y = w2.heap.size + 1) := (by omega); have nx27 : ¬ (w2.heap.size + 1 = y) := (by omega); clear hq hr hb hbw))
        all_goals go_wp2_with fail
        all_goals go_meet
        all_goals
         have hz1 := HW1.out.size
         have hz2 := HW2.out.size
         refine box_rel (w2 := w2) ?_ ?_ ?_ HQ2.out HW2.out (by omega)
         ·repeat' first
           | with_reducible exact Kp.refl _ _
           | (with_reducible refine Kp.set ?_ (by omega) (by first | exact .inl (by omega) | with_reducible exact .inr ZA1'.out | with_reducible exact .inr ZB1'.out | with_reducible exact .inr ZA2.out | with_reducible exact .inr ZB2.out) _ _)
           | (with_reducible refine Kp.alloc ?_ (by omega) _)
           | (with_reducible refine Kp.drew ?_)
         ·go_simp
         ·go_simp
       case rest =>
        obtain ⟨gb, nb5, S5, l5, c5, rfl, hgb, m0, m1, hq5, hbc⟩ := hcut
        have HGc := Lib.hid hq5
        have HBC := Lib.hid hbc
        have HFc := Lib.hid (HFW.out.below hbc)
        have HRc := Lib.hid (HRW.out.below hbc)
        have s0 := (hbc.cell (World.block_lt_of_cell? _ _ t0)).trans t0
        have s1 := (hbc.cell (World.block_lt_of_cell? _ _ t1)).trans t1
        have s2 := (hbc.cell (World.block_lt_of_cell? _ _ t2)).trans t2
        have s3 := (hbc.cell (World.block_lt_of_cell? _ _ t3)).trans t3
        have KC := Lib.hid (fun W' (hW : Below wc.heap.size wc W') => (show W'.cell? ⟨y, 0, none⟩ = some (.bool na4) ∧ W'.cell? ⟨y, 1, none⟩ = some (.slice A4 l4 c4) ∧ W'.cell? ⟨y, 2, none⟩ = some (.bool nb4) ∧ W'.cell? ⟨y, 3, none⟩ = some (.slice B4 m4 d4) ∧ W'.cell? ⟨gb, 0, none⟩ = some (.bool nb5) ∧ W'.cell? ⟨gb, 1, none⟩ = some (.slice S5 l5 c5) from ⟨(hW.cell (World.block_lt_of_cell? _ _ s0)).trans s0, (hW.cell (World.block_lt_of_cell? _ _ s1)).trans s1, (hW.cell (World.block_lt_of_cell? _ _ s2)).trans s2, (hW.cell (World.block_lt_of_cell? _ _ s3)).trans s3, (hW.cell (World.block_lt_of_cell? _ _ m0)).trans m0, (hW.cell (World.block_lt_of_cell? _ _ m1)).trans m1⟩))
        have KT0 : Hid (wc.drew.cell? ⟨y, 0, none⟩ = some (.bool na4) ∧ wc.drew.cell? ⟨y, 1, none⟩ = some (.slice A4 l4 c4) ∧ wc.drew.cell? ⟨y, 2, none⟩ = some (.bool nb4) ∧ wc.drew.cell? ⟨y, 3, none⟩ = some (.slice B4 m4 d4) ∧ wc.drew.cell? ⟨gb, 0, none⟩ = some (.bool nb5) ∧ wc.drew.cell? ⟨gb, 1, none⟩ = some (.slice S5 l5 c5)) := Lib.hid ⟨s0, s1, s2, s3, m0, m1⟩
        have hgl : go < W.heap.size := (HRW.out.own.lt go rfl).2
        have hgy := HGY.out
        have ny1 : ¬ (go = y) := (by omega)
        have ny2 : ¬ (y = go) := (by omega)
        have ny3 : ¬ (go = gb) := (by omega)
        have ny4 : ¬ (gb = go) := (by omega)
        clear hq5 hbc t0 t1 t2 t3 x0 x1 hyW hxW hgy
        go_wp2_with fail
        go_region_held3 (fun w' => w'.cell? ⟨y, 0, none⟩ = some (.bool na4) ∧ w'.cell? ⟨y, 1, none⟩ = some (.slice A4 l4 c4) ∧ w'.cell? ⟨y, 2, none⟩ = some (.bool nb4) ∧ w'.cell? ⟨y, 3, none⟩ = some (.slice B4 m4 d4) ∧ w'.cell? ⟨gb, 0, none⟩ = some (.bool nb5) ∧ w'.cell? ⟨gb, 1, none⟩ = some (.slice S5 l5 c5)) (first | with_reducible exact KT0.out | with_reducible exact KT6.out | with_reducible exact KT7.out | go_keep) (first | (go_at_call 154; (with_reducible refine (FNum_any _ q _ (HFc.out.below (by first | with_reducible exact Below.refl _ _ | with_reducible exact (Below.refl _ _).drew))).mono ?_); rintro e w6 ⟨v6, rfl, hv, hb⟩; have hw : Below wc.heap.size wc w6 := Below.trans (by first | with_reducible exact Below.refl _ _ | with_reducible exact (Below.refl _ _).drew) hb; have HW6 := Lib.hid hw; have HV6 := Lib.hid hv; have HG6 := Lib.hid (HGc.out.below hw); have KT6 : Hid (w6.cell? ⟨y, 0, none⟩ = some (.bool na4) ∧ w6.cell? ⟨y, 1, none⟩ = some (.slice A4 l4 c4) ∧ w6.cell? ⟨y, 2, none⟩ = some (.bool nb4) ∧ w6.cell? ⟨y, 3, none⟩ = some (.slice B4 m4 d4) ∧ w6.cell? ⟨gb, 0, none⟩ = some (.bool nb5) ∧ w6.cell? ⟨gb, 1, none⟩ = some (.slice S5 l5 c5)) := Lib.hid (KC.out w6 hw); obtain ⟨xa, Xa, ya, za, rfl⟩ := hv.slice; clear hv hb hw) | (go_at_call 77; (with_reducible refine (Mul_any _ _ q.num (D / (q.den : Int)) _ HV6.out HG6.out (by omega) (by omega)).mono ?_); rintro e w7 ⟨v7, rfl, hv, hb⟩; have HW7 := Lib.hid (HW6.out.trans (hb.mono HW6.out.size)); have HV7 := Lib.hid hv; have KT7 : Hid (w7.cell? ⟨y, 0, none⟩ = some (.bool na4) ∧ w7.cell? ⟨y, 1, none⟩ = some (.slice A4 l4 c4) ∧ w7.cell? ⟨y, 2, none⟩ = some (.bool nb4) ∧ w7.cell? ⟨y, 3, none⟩ = some (.slice B4 m4 d4) ∧ w7.cell? ⟨gb, 0, none⟩ = some (.bool nb5) ∧ w7.cell? ⟨gb, 1, none⟩ = some (.slice S5 l5 c5)) := Lib.hid (KC.out w7 HW7.out); have hrw := HRc.out.below HW7.out; have HRW := Lib.hid hrw; have p0 := (hrw.own.cellAt (k * 2) (by omega)).trans (numc_get (by have := HRc.out.len; omega)).1; have p1 := (hrw.own.cellAt (k * 2 + 1) (by omega)).trans (numc_get (by have := HRc.out.len; omega)).2; have p2 := hrw.own.frozenAt (k * 2); have p3 := hrw.own.frozenAt (k * 2 + 1); obtain ⟨xb, Xb, yb, zb, rfl⟩ := hv.slice; clear hv hb hrw))
        all_goals go_wp2_with fail
        all_goals go_roundw
        case rel =>
         refine ⟨k + 1, vs.set k ⟨xb, Xb, yb, zb⟩, by go_num, by omega, ?_, HRW.out.store (u := ⟨xb, Xb, yb, zb⟩) hlt4 (by show IsNum _ _ (matP rs outs.length k); rw [HPQ.out]; exact HV7.out)⟩
         have h9 := (HWW.out.trans ((HBC.out.trans (HW7.out.mono HBC.out.size)).mono HWW.out.size)).mono (Nat.le_of_eq HGO.out.symm)
         exact (h9.setCell (p := ⟨go, k * 2, none⟩) (Nat.le_refl _) _).setCell (p := ⟨go, k * 2 + 1, none⟩) (Nat.le_refl _) _
        case measure => simp [intOf]; omega
      ·obtain rfl : n = k := by omega
       have HSB := Lib.hid (hsq.alloc (.cells #[.slice (some ⟨go, 0, none⟩) n n] 114))
       have HRB := Lib.hid (hrs.below ((Below.refl _ _).alloc (Nat.le_refl _) (.cells #[.slice (some ⟨go, 0, none⟩) n n] 114)))
       have k2 := hsq.box.at_ (i := 2) rfl
       have hmx : outs.length ≤ 12 := by omega
       have hsz9 : x + 1 ≤ (wq.alloc (.cells #[.slice (some ⟨go, 0, none⟩) n n] 114)).heap.size := by have h8 := HSB.out.bel.size; have h9 := HSB.out.wB; omega
       have HFG := Lib.hid (fun a (ha : a ∈ outs) => (show a.g ≠ go by have h8 : a.g < wo.heap.size := ((HO.out.cel.r a ha).lt _ rfl).2; have h9 := HGO.out; omega))
       clear hsq hrs hbo
       go_wp2_with (at_builtin; go_loud (refine wpList_append_clean _ rfl _ _ 82 rfl (x + 1) 114 j0 _ 1 24 Tryz.underlying82 hj hy0 hy1 hy2 rfl (by decide) _ _ _ rfl HSB.out.cel.o ⟨wq.heap.size, 0, none⟩ 1 1 [.slice (some ⟨go, 0, none⟩) n n] rfl rfl (World.news_of_block (cs := #[.slice (some ⟨go, 0, none⟩) n n]) (t := 114) (fr := (0, 0)) (heap_alloc_new wq _)) sl_one (by omega) (by unfold maxLen; omega) (by omega) hsz9 HSB.out.nou slz_no sl_no ?_))
       intro g cap w7 hown7 hgrow7 hno7
       have HS7 := Lib.hid (HSB.out.push (r := ⟨go, n, vs⟩) (ownMono HRB.out.own hszg) HRB.out.len (fun a ha => HFG.out a ha) (fun j hj => HRB.out.num j (by have h8 := HRB.out.len; have h9 : j < vs.length := hj; omega) hj) HRB.out.nou hown7 hgrow7 hno7)
       have hb7 := HSB.out.box.grown hgrow7 HSB.out.far
       have k7 := hb7.at_ (i := 2) rfl
       have f7 := hb7.fr 2
       clear hown7 hgrow7 hno7 hb7 k2
       go_wp2_with fail
       go_roundw
       case rel => exact ⟨outs ++ [⟨go, n, vs⟩], _, by simp only [List.length_append, List.length_singleton]; go_num, by simp; omega, HS7.out⟩
       case measure => simp [intOf]; omega
    ·have hk9 : outs.length = rows.length := by omega
     obtain ⟨R2, rfl⟩ := ownAddr hs3.cel.o (by omega)
     have k0 := hs3.box.at_ (i := 0) rfl
     have k1 := hs3.box.at_ (i := 1) rfl
     have k2 := hs3.box.at_ (i := 2) rfl
     have hr := hs3.bel.blk HRb.out (by omega) (by omega)
     have HR := Lib.hid hr
     have r0 := hr.at_ (i := 0) rfl
     have r1 := hr.at_ (i := 1) rfl
     have r2 := hr.at_ (i := 2) rfl
     have f0 := hr.fr 0
     have f1 := hr.fr 1
     have f2 := hr.fr 2
     have HK9 := Lib.hid hk9
     clear hr hk9 hs3
     go_wp2_with fail
     refine bodyPost_ret (v := .agg #[.bool dv.nb, .slice dv.ad dv.l dv.c, .slice (some ⟨R2, 0, none⟩) outs.length cC]) (by simp [results, Tryz.results74, go_sem, r0, r1, r2]) rfl ?_
     have e1 : outs.length = rs.length := by rw [HK9.out, HK.out]
     obtain ⟨h1, h2, h3, h4⟩ := HO.out.res (g := w.heap.size) (by omega) HR.out three_no (a := .bool dv.nb) (b := .slice dv.ad dv.l dv.c) (c := .slice (some ⟨R2, 0, none⟩) outs.length cC) (fun z e => by cases e) (fun z e => by cases e)
     rw [← hQ.out, ← e1, HDD.out]
     exact ⟨R2, cC, outs, dv, rfl, rfl, h1.mono (by omega), h2, h3, h4, ((HBo.out.setCell (p := ⟨w.heap.size, 0, none⟩) (Nat.le_refl _) _).setCell (p := ⟨w.heap.size, 1, none⟩) (Nat.le_refl _) _).setCell (p := ⟨w.heap.size, 2, none⟩) (Nat.le_refl _) _⟩
end Go.Proofs.YtajlojhklhlljaaGreatDoor
