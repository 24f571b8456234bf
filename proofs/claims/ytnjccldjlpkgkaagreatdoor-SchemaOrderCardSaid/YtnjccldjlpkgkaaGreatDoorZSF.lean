/-
  SchemaLimits: its schemas, what lies in memory while they are made, and Check of too many attributes.
-/
import Derived.Test.YtnjccldjlpkgkaaGreatDoorZSD
namespace Go.Proofs.YtnjccldjlpkgkaaGreatDoor
open Go.RowKit

/-- The first n attributes. -/
def atL (n : Nat) : List (ByteArray × Int) := (List.range n).map fun i => (lname 97 i, 1 + ((i % 3 : Nat) : Int))
theorem atL_length (n : Nat) : (atL n).length = n := by simp [atL]
theorem atL_succ (n : Nat) : atL (n + 1) = atL n ++ [(lname 97 n, 1 + ((n % 3 : Nat) : Int))] := by unfold atL; rw [List.range_succ, List.map_append]; rfl
theorem atL_get {n i : Nat} (h : i < (atL n).length) : (atL n)[i] = (lname 97 i, 1 + ((i % 3 : Nat) : Int)) := by simp [atL]
theorem atL_mem {n : Nat} {a : ByteArray × Int} (h : a ∈ atL n) : ∃ i, i < n ∧ a = (lname 97 i, 1 + ((i % 3 : Nat) : Int)) := by
  unfold atL at h
  rw [List.mem_map] at h
  obtain ⟨i, hi, rfl⟩ := h
  exact ⟨i, List.mem_range.1 hi, rfl⟩
theorem atL_word {n : Nat} : ∀ a ∈ atL n, wordB a.1.data.toList = true ∧ 1 ≤ a.2 ∧ a.2 ≤ 3 := by
  intro a ha
  obtain ⟨i, hi, rfl⟩ := atL_mem ha
  exact ⟨lname_word 97 i (by decide), by show (1 : Int) ≤ 1 + ((i % 3 : Nat) : Int); omega, by show 1 + ((i % 3 : Nat) : Int) ≤ 3; omega⟩
theorem atL_names {n : Nat} (h : n ≤ 26) : ((atL n).map (·.1)).Nodup := by
  unfold atL
  rw [List.map_map]
  refine List.pairwise_map.2 ((List.nodup_range (n := n)).imp_of_mem ?_)
  intro a b ha hb hne e
  rw [List.mem_range] at ha hb
  exact hne (lname_inj 97 (by omega) (by omega) e)
/-- The last name is the first one, too. -/
def atT (n : Nat) : List (ByteArray × Int) := (atL n).set (n - 1) (lname 97 0, 1 + (((n - 1) % 3 : Nat) : Int))
theorem atT_length (n : Nat) : (atT n).length = n := by simp [atT, atL_length]
theorem atT_word {n : Nat} : ∀ a ∈ atT n, wordB a.1.data.toList = true ∧ 1 ≤ a.2 ∧ a.2 ≤ 3 := by
  intro a ha
  rcases List.mem_or_eq_of_mem_set ha with h | rfl
  · exact atL_word a h
  · exact ⟨lname_word 97 0 (by decide), by show (1 : Int) ≤ 1 + (((n - 1) % 3 : Nat) : Int); omega, by show 1 + (((n - 1) % 3 : Nat) : Int) ≤ 3; omega⟩
theorem atT_twice {n : Nat} (h : 2 ≤ n) : ¬ ((atT n).map (·.1)).Nodup := by
  intro hd
  have hl : ((atT n).map (·.1)).length = n := by rw [List.length_map, atT_length]
  have h2 := (List.pairwise_iff_getElem.1 hd) 0 (n - 1) (by omega) (by omega) (by omega)
  apply h2
  rw [List.getElem_map, List.getElem_map]
  unfold atT
  rw [List.getElem_set_ne (by omega), List.getElem_set_self, atL_get]
/-- The name of the relation. -/
def nmR : ByteArray := ⟨#[114]⟩
/-- The schemas. -/
def slS (at1 : List (ByteArray × Int)) (A : Option Addr) (c : Nat) (xs : List Nat) (X : Option Addr) (d : Nat) (R : Option Addr) : SchV := ⟨at1, A, c, [⟨nmR, X, d, xs⟩], R, 1, [], none, 0, -1⟩
theorem asc_range (n : Nat) : Asc (List.range n) := fun i hi => by
  rw [List.length_range] at hi
  unfold nth
  simp [hi, Nat.lt_of_succ_lt hi]
theorem rel_range {n m d : Nat} {X : Option Addr} (h1 : 1 ≤ m) (h2 : m ≤ n) (h3 : m ≤ d) (h4 : n ≤ 1000) : RelFine n ⟨nmR, X, d, List.range m⟩ where
  word := (by decide : wordB nmR.data.toList = true)
  some_ := by
    intro e
    have := congrArg List.length e
    simp at this
    omega
  lt := fun x hx => by have := List.mem_range.1 hx; omega
  asc := asc_range m
  room := by simpa using h3
  short := by simp; omega
theorem sl_fine {at1 : List (ByteArray × Int)} {A X R : Option Addr} {c m d : Nat} (a1 : 1 ≤ at1.length) (a2 : at1.length ≤ 12) (hw : ∀ a ∈ at1, wordB a.1.data.toList = true ∧ 1 ≤ a.2 ∧ a.2 ≤ 3) (h1 : 1 ≤ m) (h2 : m ≤ at1.length) (h3 : m ≤ d) : SchFine (slS at1 A c (List.range m) X d R) where
  a1 := a1
  a2 := a2
  r1 := by simp [slS]
  r2 := by simp [slS]
  f2 := by simp [slS]
  cf := by simp [slS]
  word := hw
  rel := fun r hr => by
    obtain rfl : r = ⟨nmR, X, d, List.range m⟩ := by simpa [slS] using hr
    exact rel_range h1 h2 h3 (by show at1.length ≤ 1000; omega)
  reld := by simp [slS]
  feat := fun f hf => by cases hf
  featd := by simp [slS]
  lb1 := by simp [slS]
  lb2 := by show (-1 : Int) < at1.length; omega
  lb3 := fun i hi e => by
    have e : (i : Int) = -1 := e
    omega
theorem sl_ok {k c d : Nat} {A X R : Option Addr} (h1 : 1 ≤ k) (h2 : k ≤ 12) (h3 : k ≤ d) : SchOK (slS (atL k) A c (List.range k) X d R) where
  fine := sl_fine (by rw [atL_length]; exact h1) (by rw [atL_length]; exact h2) atL_word h1 (by rw [atL_length]; exact Nat.le_refl _) h3
  names := atL_names (by omega)
  used := fun i hi => by
    have hi : i < k := by rw [← atL_length k]; exact hi
    simp [slS, usedB, hi]
theorem used_range {at1 : List (ByteArray × Int)} {A X R : Option Addr} {c m d : Nat} : (List.range at1.length).all (usedB (slS at1 A c (List.range m) X d R).rs) = decide (at1.length ≤ m) := by
  rw [Bool.eq_iff_iff, List.all_eq_true, decide_eq_true_eq]
  have hu : ∀ i, usedB (slS at1 A c (List.range m) X d R).rs i = decide (i < m) := fun i => by
    unfold slS usedB
    simp only [List.any_cons, List.any_nil, Bool.or_false]
    rw [Bool.eq_iff_iff, List.contains_iff_mem, List.mem_range, decide_eq_true_eq]
  constructor
  · intro h
    rcases Nat.lt_or_ge m at1.length with h1 | h1
    · have := h m (List.mem_range.2 h1)
      rw [hu m] at this
      simp at this
    · exact h1
  · intro h i hi
    rw [hu i, decide_eq_true_eq]
    have := List.mem_range.1 hi
    omega

set_option maxRecDepth 100000 in
set_option maxHeartbeats 4000000 in
/-- Too many attributes. -/
theorem Check_many (S : SchV) (w : World) (h : 12 < S.at1.length) : Calls Tryz.prog 16 #[.agg S.cells] w fun e w' => e = .returned (.int .i64 3) ∧ Below w.heap.size w w' := by
  unfold SchV.cells
  obtain ⟨at1, aa, ca, rs, ar, cr, fs, af, cf, lb⟩ := S
  simp only at h ⊢
  have t1 : ((at1.length : Int) == 0) = false := by rw [beq_eq_false_iff_ne]; omega
  have t2 : decide ((12 : Int) < (at1.length : Int)) = true := by simp; omega
  go_enter Tryz.func16, Tryz.ntmps16
  go_wp2_with fail
  go_ret
  exact ⟨rfl, (Below.refl _ _).alloc (Nat.le_refl _) _⟩

theorem own_addr {w : World} {B e s n c : Nat} {A : Option Addr} {xs : List Value} (h : w.ownsRow B e s (.slice A n c) n xs) (hn : 0 < n) : ∃ g, A = some ⟨g, 0, none⟩ := by
  rcases h.2 with ⟨_, h0⟩ | ⟨g, cap, cur, hv, _⟩
  · omega
  · injection hv with h1
    exact ⟨g, h1⟩
/-- A row that is to be appended. -/
theorem row_news {w : World} {B e s g n c : Nat} {xs : List Value} (h : w.ownsRow B e s (.slice (some ⟨g, 0, none⟩) n c) n xs) : ∀ j u, xs[j]? = some u → w.cell? ((⟨g, 0, none⟩ : Addr).add j) = some u := fun j u hu => by
  have hj : j < n * s := by
    rcases Nat.lt_or_ge j (n * s) with h1 | h1
    · exact h1
    · rw [List.getElem?_eq_none (by rw [h.1]; exact h1)] at hu; cases hu
  have hadd : (⟨g, 0, none⟩ : Addr).add j = ⟨g, j, none⟩ := by unfold Addr.add; split <;> simp_all
  rw [hadd, h.cellAt j hj, hu]
theorem av_one {at1 : List (ByteArray × Int)} : ∀ u ∈ av at1, u.oneCell' = true := by
  intro u hu
  unfold av at hu
  rw [List.mem_flatMap] at hu
  obtain ⟨a, -, h⟩ := hu
  simp at h
  rcases h with rfl | rfl <;> rfl
theorem av_set {at1 : List (ByteArray × Int)} : ∀ {i : Nat} (h : i < at1.length) (s : ByteArray), (av at1).set (i * 2) (.string s) = av (at1.set i (s, at1[i].2)) := by
  induction at1 with
  | nil => intro i h; simp at h
  | cons a r ih =>
    intro i h s
    match i, h with
    | 0, _ => simp [av]
    | i + 1, h =>
      have := ih (i := i) (by simpa using h) s
      rw [show (i + 1) * 2 = i * 2 + 1 + 1 by omega]
      simp only [av, List.flatMap_cons, List.cons_append, List.nil_append, List.set_cons_succ, List.getElem_cons_succ] at this ⊢
      rw [this]
/-- The relation in its block, the schema in its box behind it, k attributes made. -/
structure LS (w wr : World) (va xv : Value) (k : Nat) : Prop where
  h : Blk wr w.heap.size 48 [.string nmR, xv]
  g : Blk wr (w.heap.size + 1) 44 [va, .slice (some ⟨w.heap.size, 0, none⟩) 1 1, .slice none 0 0, .int .i64 (-1)]
  a : wr.ownsRow (w.heap.size + 1 + 1) 25 2 va k (av (atL k))
  x : wr.ownsRow (w.heap.size + 1 + 1) 3 1 xv k (vn (List.range k))
  bel : Below w.heap.size w wr
section
variable {w wr w' : World} {va xv : Value} {k : Nat}
theorem LS.below (h : LS w wr va xv k) (hb : Below wr.heap.size wr w') : LS w w' va xv k := ⟨h.h.below hb, h.g.below hb, own_below' h.a hb, own_below' h.x hb, h.bel.trans (hb.mono h.bel.size)⟩
theorem sl_inm {A X : Option Addr} {c d : Nat} (h : LS w wr (.slice A k c) (.slice X k d) k) : InMem wr (slS (atL k) A c (List.range k) X d (some ⟨w.heap.size, 0, none⟩)) where
  a := own_lies h.a
  r := fun _ => ⟨w.heap.size, 0, rfl, h.h.lt, fun i hi => by
    match i, hi with
    | 0, _ => exact h.h.at_ (i := 0) rfl
    | 1, _ => have := h.h.at_ (i := 1) rfl; simpa [relv, slS] using this
    | i + 2, hi => simp [relv, slS] at hi; omega⟩
  x := fun r hr => by
    obtain rfl : r = ⟨nmR, X, d, List.range k⟩ := by simpa [slS] using hr
    obtain ⟨A, c, e, _, hc⟩ := own_row (xs := List.range k) (v := .slice X k d) (by simpa using h.x)
    injection e with e
    show Cells .i64 wr X (List.range k)
    rw [e]
    exact hc
  f := VRow.nil _ _
theorem LS.alloc (h : LS w wr va xv k) (o : Obj) : LS w (wr.alloc o) va xv k := h.below ((Below.refl _ _).alloc (Nat.le_refl _) o)
theorem LS.drew (h : LS w wr va xv k) : LS w wr.drew va xv k := h.below (Below.refl _ _).drew
theorem below_grown2 {B : Nat} {row : Option Nat} (hg : wr.grownBy w' row) (hB : B ≤ wr.heap.size) (hr : ∀ k, row = some k → B ≤ k) : Below B wr w' :=
  ⟨hg.os, hg.tape, hg.output, hg.size, fun i hi => hg.block i (by omega) (fun e => by have := hr i e.symm; omega)⟩
/-- An attribute more, its list not yet. -/
structure LM (w wr : World) (va xv : Value) (k : Nat) : Prop where
  h : Blk wr w.heap.size 48 [.string nmR, xv]
  g : Blk wr (w.heap.size + 1) 44 [va, .slice (some ⟨w.heap.size, 0, none⟩) 1 1, .slice none 0 0, .int .i64 (-1)]
  a : wr.ownsRow (w.heap.size + 1 + 1) 25 2 va (k + 1) (av (atL (k + 1)))
  x : wr.ownsRow (w.heap.size + 1 + 1) 3 1 xv k (vn (List.range k))
  bel : Below w.heap.size w wr
theorem LM.below (h : LM w wr va xv k) (hb : Below wr.heap.size wr w') : LM w w' va xv k := ⟨h.h.below hb, h.g.below hb, own_below' h.a hb, own_below' h.x hb, h.bel.trans (hb.mono h.bel.size)⟩
theorem LM.alloc (h : LM w wr va xv k) (o : Obj) : LM w (wr.alloc o) va xv k := h.below ((Below.refl _ _).alloc (Nat.le_refl _) o)
theorem LM.drew (h : LM w wr va xv k) : LM w wr.drew va xv k := h.below (Below.refl _ _).drew
theorem LS.push (h : LS w wr va xv k) {va' : Value} (hg : wr.grownBy w' va.ownBlock) (hown : w'.ownsRow (w.heap.size + 1 + 1) 25 2 va' (k + 1) (av (atL k) ++ [.string (lname 97 k), .int .i64 (1 + ((k % 3 : Nat) : Int))])) :
    LM w (w'.setCell ⟨w.heap.size + 1, 0, none⟩ va') va' xv k := by
  have hlt := h.g.lt
  have hsz := hg.size
  have hg2 := grown_set (w := w') (w.heap.size + 1) 0 va'
  have hgt := own_gt h.a
  refine ⟨(h.h.grown hg (fun e => by have := hgt _ e.symm; omega)).far (by show w.heap.size ≠ w.heap.size + 1; omega) _, (h.g.grown hg (fun e => by have := hgt _ e.symm; omega)).set 0 va', own_set ?_ (by omega), own_set (own_other h.x h.a (by decide) hg) (by omega), ?_⟩
  · rw [atL_succ, av_snoc]; exact hown
  · exact (h.bel.trans (below_grown2 hg (by omega) (fun j hj => by have := hgt j hj; omega))).trans (below_grown2 hg2 (by omega) (fun j hj => by injection hj with hj; omega))
theorem LS.box_g (h : LS w wr va xv k) (hg : wr.grownBy w' va.ownBlock) : Blk w' (w.heap.size + 1) 44 [va, .slice (some ⟨w.heap.size, 0, none⟩) 1 1, .slice none 0 0, .int .i64 (-1)] := h.g.grown hg (fun e => by have := own_gt h.a _ e.symm; omega)
theorem LM.box_h (h : LM w wr va xv k) (hg : wr.grownBy w' xv.ownBlock) : Blk w' w.heap.size 48 [.string nmR, xv] := h.h.grown hg (fun e => by have := own_gt h.x _ e.symm; omega)
theorem LM.box_g (h : LM w wr va xv k) (hg : wr.grownBy w' xv.ownBlock) : Blk w' (w.heap.size + 1) 44 [va, .slice (some ⟨w.heap.size, 0, none⟩) 1 1, .slice none 0 0, .int .i64 (-1)] := h.g.grown hg (fun e => by have := own_gt h.x _ e.symm; omega)
theorem LM.push (h : LM w wr va xv k) {xv' : Value} (hg : wr.grownBy w' xv.ownBlock) (hown : w'.ownsRow (w.heap.size + 1 + 1) 3 1 xv' (k + 1) (vn (List.range k) ++ [.int .i64 (k : Int)])) :
    LS w (w'.setCell ⟨w.heap.size, 1, none⟩ xv') va xv' (k + 1) := by
  have hlt := h.g.lt
  have hsz := hg.size
  have hg2 := grown_set (w := w') w.heap.size 1 xv'
  have hgt := own_gt h.x
  refine ⟨(h.h.grown hg (fun e => by have := hgt _ e.symm; omega)).set 1 xv', (h.g.grown hg (fun e => by have := hgt _ e.symm; omega)).far (by show w.heap.size + 1 ≠ w.heap.size; omega) _, own_set (own_other h.a h.x (by decide) hg) (by omega), own_set ?_ (by omega), ?_⟩
  · rw [List.range_succ, vn_snoc]; exact hown
  · exact (h.bel.trans (below_grown2 hg (by omega) (fun j hj => by have := hgt j hj; omega))).trans (below_grown2 hg2 (by omega) (fun j hj => by injection hj with hj; omega))
theorem rel_row {h n d : Nat} {X : Option Addr} {xs : List Nat} (hb : Blk w h 48 [.string nmR, .slice X n d]) (hn : xs.length = n) : VRow w (some ⟨h, 0, none⟩) (relv [⟨nmR, X, d, xs⟩]) :=
  fun _ => ⟨h, 0, rfl, hb.lt, fun i hi => by
    match i, hi with
    | 0, _ => exact hb.at_ (i := 0) rfl
    | 1, _ => have := hb.at_ (i := 1) rfl; simpa [relv, hn] using this
    | i + 2, hi => simp [relv] at hi; omega⟩
theorem cells_less {X : Option Addr} {m : Nat} (h : Cells .i64 w X (List.range (m + 1))) : Cells .i64 w X (List.range m) := fun _ => by
  obtain ⟨b, off, e, hb, hc⟩ := h (by intro e; have := congrArg List.length e; simp at this)
  refine ⟨b, off, e, hb, fun j hj => ?_⟩
  rw [List.length_range] at hj
  rw [hc j (by simp; omega)]
  simp [nth, hj, Nat.lt_succ_of_lt hj]
theorem sl_y {A X : Option Addr} {c d m : Nat} {B c9 g9 : Nat} (h : LS w wr (.slice A (m + 1) c) (.slice X (m + 1) d) (m + 1)) (ho : wr.ownsRow B 25 2 (.slice (some ⟨g9, 0, none⟩) (m + 1) c9) (m + 1) (av (atT (m + 1)))) : InMem wr (slS (atT (m + 1)) (some ⟨g9, 0, none⟩) c9 (List.range (m + 1)) X d (some ⟨w.heap.size, 0, none⟩)) :=
  ⟨own_lies ho, (sl_inm h).r, (sl_inm h).x, VRow.nil _ _⟩
theorem sl_z {A X : Option Addr} {c d m hz : Nat} (h : LS w wr (.slice A (m + 1) c) (.slice X (m + 1) d) (m + 1)) (hb : Blk wr hz 48 [.string nmR, .slice X m d]) : InMem wr (slS (atL (m + 1)) A c (List.range m) X d (some ⟨hz, 0, none⟩)) :=
  ⟨(sl_inm h).a, rel_row hb (by simp), fun r hr => by
    obtain rfl : r = ⟨nmR, X, d, List.range m⟩ := by simpa [slS] using hr
    exact cells_less ((sl_inm h).x ⟨nmR, X, d, List.range (m + 1)⟩ (by simp [slS])), VRow.nil _ _⟩
end
/-- The last two checks. -/
theorem Check_y {m c9 d : Nat} {A X R : Option Addr} (h1 : 1 ≤ m) (h2 : m ≤ 11) (hd : m + 1 ≤ d) (W : World) (hin : InMem W (slS (atT (m + 1)) A c9 (List.range (m + 1)) X d R)) : Calls Tryz.prog 16 #[.agg #[.slice A (m + 1) c9, .slice R 1 1, .slice none 0 0, .int .i64 (-1)]] W fun e w' => e = .returned (.int .i64 9) ∧ Below W.heap.size W w' := by
  have := Check_of (slS (atT (m + 1)) A c9 (List.range (m + 1)) X d R) true _ W hin (sl_fine (by rw [atT_length]; omega) (by rw [atT_length]; omega) atT_word (by omega) (by rw [atT_length]; exact Nat.le_refl _) hd) ⟨fun _ => atT_twice (by omega), fun _ => rfl⟩ rfl
  unfold SchV.cells slS at this
  simp only at this
  rw [atT_length] at this
  exact this
theorem Check_z {m c d : Nat} {A X R : Option Addr} (h1 : 1 ≤ m) (h2 : m ≤ 11) (hd : m + 1 ≤ d) (W : World) (hin : InMem W (slS (atL (m + 1)) A c (List.range m) X d R)) : Calls Tryz.prog 16 #[.agg #[.slice A (m + 1) c, .slice R 1 1, .slice none 0 0, .int .i64 (-1)]] W fun e w' => e = .returned (.int .i64 7) ∧ Below W.heap.size W w' := by
  have hu := used_range (at1 := atL (m + 1)) (A := A) (X := X) (R := R) (c := c) (m := m) (d := d)
  rw [decide_eq_false (by rw [atL_length]; omega)] at hu
  have := Check_of (slS (atL (m + 1)) A c (List.range m) X d R) false false W hin (sl_fine (by rw [atL_length]; omega) (by rw [atL_length]; omega) atL_word h1 (by rw [atL_length]; omega) (by omega)) ⟨(fun e => by cases e), fun e => absurd (atL_names (by omega)) e⟩ hu
  unfold SchV.cells slS at this
  simp only at this
  rw [atL_length] at this
  exact this

end Go.Proofs.YtnjccldjlpkgkaaGreatDoor
