/-
  Package fraction: New.
-/
import Derived.Test.YtnjccldjlpkgkaaGreatDoorZO
import Derived.Test.YtnjccldjlpkgkaaGreatDoorZD
import Derived.Test.YtnjccldjlpkgkaaGreatDoorZB
import Derived.Deep.DrawnRows
namespace Go.Proofs.YtnjccldjlpkgkaaGreatDoor
open Go.RowKit

/-- Integers don't lie in a box that holds none. -/
theorem Cells.box {k : IntKind} {w W' : World} {A : Option Addr} {xs : List Nat} {g : Nat} {t : TypeId} {cs : List Value} (h : Cells k w A xs) (hg : Blk w g t cs) (hcs : ∀ x ∈ cs, ∀ z, x ≠ .int k z) (hW : w.grownBy W' (some g)) : Cells k W' A xs := by
  by_cases hne : xs = []
  · subst hne; exact Cells.nil _ _ _
  · refine h.only hW ?_
    intro b off e
    obtain ⟨b2, o2, e2, hlt, hc⟩ := h hne
    rw [e] at e2; injection e2 with e2; injection e2 with e2 e3
    subst e2 e3
    rintro rfl
    have h1 := hc 0 (by rcases xs with _ | ⟨x, xs⟩; exact absurd rfl hne; simp)
    rw [Nat.add_zero, hg.cell] at h1
    exact hcs _ (List.mem_of_getElem? h1) _ rfl
theorem grown_set {w : World} (g i : Nat) (u : Value) : w.grownBy (w.setCell ⟨g, i, none⟩ u) (some g) := only_setCell (p := ⟨g, i, none⟩) (World.grownBy.refl w (some g)) (.inl rfl) u
theorem grown_set' {a w : World} {g : Nat} (h : a.grownBy w (some g)) (i : Nat) (u : Value) : a.grownBy (w.setCell ⟨g, i, none⟩ u) (some g) := only_setCell (p := ⟨g, i, none⟩) h (.inl rfl) u
theorem IsNat.box {w W' : World} {v : Value} {n g : Nat} {t : TypeId} {cs : List Value} (h : IsNat w v n) (hg : Blk w g t cs) (hcs : ∀ x ∈ cs, ∀ z, x ≠ .int .u64 z) (hW : w.grownBy W' (some g)) : IsNat W' v n := by
  obtain ⟨A, c, e, hl, hc⟩ := h
  exact ⟨A, c, e, hl, hc.box hg hcs hW⟩
theorem IsNum.box {w W' : World} {v : Value} {z : Int} {g : Nat} {t : TypeId} {cs : List Value} (h : IsNum w v z) (hg : Blk w g t cs) (hcs : ∀ x ∈ cs, ∀ z, x ≠ .int .u64 z) (hW : w.grownBy W' (some g)) : IsNum W' v z := by
  obtain ⟨s, e, hs⟩ := h
  exact ⟨s, e, hs.box hg hcs hW⟩
theorem IsNum.slice {w : World} {v : Value} {z : Int} (h : IsNum w v z) : ∃ (nb : Bool) (A : Option Addr) (l c : Nat), v = .agg #[.bool nb, .slice A l c] := by
  obtain ⟨_, rfl, A, c, rfl, _, _⟩ := h
  exact ⟨_, A, _, c, rfl⟩
theorem IsNum.drew {w : World} {v : Value} {z : Int} (h : IsNum w v z) : IsNum w.drew v z := h
theorem IsNum.neg_eq {w : World} {nb : Bool} {s : Value} {z : Int} (h : IsNum w (.agg #[.bool nb, s]) z) : nb = decide (z < 0) := by
  obtain ⟨s', e, _⟩ := h
  injection e with e
  have := congrArg (fun a => a[0]?) e
  simpa using this
theorem IsNum.nat {w : World} {nb : Bool} {s : Value} {z : Int} (h : IsNum w (.agg #[.bool nb, s]) z) : IsNat w s z.natAbs := by
  obtain ⟨s', e, hs⟩ := h
  injection e with e
  have : s = s' := by
    have := congrArg (fun a => a[1]?) e
    simpa using this
  rwa [this]

/-- A value of the type Fraction that means q. -/
def IsFrac (w : World) (v : Value) (q : Rat) : Prop := ∃ (na nb : Bool) (A A' : Option Addr) (l c l' c' : Nat), v = .agg #[.bool na, .slice A l c, .bool nb, .slice A' l' c'] ∧ IsNum w (.agg #[.bool na, .slice A l c]) q.num ∧ IsNum w (.agg #[.bool nb, .slice A' l' c']) (q.den : Int)
theorem IsFrac.below {w w' : World} {v : Value} {q : Rat} (h : IsFrac w v q) (hb : Below w.heap.size w w') : IsFrac w' v q := by
  obtain ⟨na, nb, A, A', l, c, l', c', e, h1, h2⟩ := h
  exact ⟨na, nb, A, A', l, c, l', c', e, h1.below hb, h2.below hb⟩
theorem IsFrac.box {w W' : World} {v : Value} {q : Rat} {g : Nat} {t : TypeId} {cs : List Value} (h : IsFrac w v q) (hg : Blk w g t cs) (hcs : ∀ x ∈ cs, ∀ z, x ≠ .int .u64 z) (hW : w.grownBy W' (some g)) : IsFrac W' v q := by
  obtain ⟨na, nb, A, A', l, c, l', c', e, h1, h2⟩ := h
  exact ⟨na, nb, A, A', l, c, l', c', e, h1.box hg hcs hW, h2.box hg hcs hW⟩
theorem IsFrac.mk {w : World} {na nb : Bool} {A A' : Option Addr} {l c l' c' : Nat} {n d : Int} {q : Rat} (h1 : IsNum w (.agg #[.bool na, .slice A l c]) n) (h2 : IsNum w (.agg #[.bool nb, .slice A' l' c']) d) (e1 : n = q.num) (e2 : d = (q.den : Int)) : IsFrac w (.agg #[.bool na, .slice A l c, .bool nb, .slice A' l' c']) q := by
  subst e1 e2
  exact ⟨na, nb, A, A', l, c, l', c', rfl, h1, h2⟩
/-- The result means a fraction; nothing that was there has changed. -/
def RetFrac (w : World) (q : Rat) (e : Ending) (w' : World) : Prop := ∃ v, e = .returned v ∧ IsFrac w' v q ∧ Below w.heap.size w w'
theorem no_int2 {nb : Bool} {A : Option Addr} {l c : Nat} : ∀ x ∈ ([.bool nb, .slice A l c] : List Value), ∀ z, x ≠ .int .u64 z := by intro x hx z e; subst e; simp at hx
theorem no_int4 {na nb : Bool} {A A' : Option Addr} {l c l' c' : Nat} : ∀ x ∈ ([.bool na, .slice A l c, .bool nb, .slice A' l' c'] : List Value), ∀ z, x ≠ .int .u64 z := by intro x hx z e; subst e; simp at hx
/-- How a function ends that stores a fraction into its result's box. -/
theorem frac_end {w W : World} {g : Nat} {na nb : Bool} {A A' : Option Addr} {l c l' c' : Nat} {q p : Rat} {cs : List Value} {t : TypeId} (h : Blk W g t cs) (hcs : ∀ x ∈ cs, ∀ z, x ≠ .int .u64 z) (hb : Below w.heap.size w W) (hg : w.heap.size ≤ g) (hq : IsFrac W (.agg #[.bool na, .slice A l c, .bool nb, .slice A' l' c']) q) (e : q = p) :
    RetFrac w p (.returned (.agg #[.bool na, .slice A l c, .bool nb, .slice A' l' c'])) ((((W.setCell ⟨g, 0, none⟩ (.bool na)).setCell ⟨g, 1, none⟩ (.slice A l c)).setCell ⟨g, 2, none⟩ (.bool nb)).setCell ⟨g, 3, none⟩ (.slice A' l' c')) := by
  subst e
  exact ⟨_, rfl, hq.box h hcs (grown_set' (grown_set' (grown_set' (grown_set g 0 _) 1 _) 2 _) 3 _), (((hb.setCell (p := ⟨g, 0, none⟩) hg _).setCell (p := ⟨g, 1, none⟩) hg _).setCell (p := ⟨g, 2, none⟩) hg _).setCell (p := ⟨g, 3, none⟩) hg _⟩
/-- Stores into one box leave another one as it is. -/
theorem Blk.four_far {W : World} {g h : Nat} {t : TypeId} {cs : List Value} (k : Blk W g t cs) (hne : g ≠ h) (x0 x1 x2 x3 : Value) : Blk ((((W.setCell ⟨h, 0, none⟩ x0).setCell ⟨h, 1, none⟩ x1).setCell ⟨h, 2, none⟩ x2).setCell ⟨h, 3, none⟩ x3) g t cs :=
  (((k.far (p := ⟨h, 0, none⟩) hne x0).far (p := ⟨h, 1, none⟩) hne x1).far (p := ⟨h, 2, none⟩) hne x2).far (p := ⟨h, 3, none⟩) hne x3
theorem Blk.two_far {W : World} {g h : Nat} {t : TypeId} {cs : List Value} (k : Blk W g t cs) (hne : g ≠ h) (x0 x1 : Value) : Blk ((W.setCell ⟨h, 0, none⟩ x0).setCell ⟨h, 1, none⟩ x1) g t cs :=
  (k.far (p := ⟨h, 0, none⟩) hne x0).far (p := ⟨h, 1, none⟩) hne x1
/-- What a box holds, cell by cell. -/
abbrev C2 (W : World) (g : Nat) (x0 x1 : Value) : Prop := W.cell? ⟨g, 0, none⟩ = some x0 ∧ W.cell? ⟨g, 1, none⟩ = some x1
abbrev C4 (W : World) (g : Nat) (x0 x1 x2 x3 : Value) : Prop := W.cell? ⟨g, 0, none⟩ = some x0 ∧ W.cell? ⟨g, 1, none⟩ = some x1 ∧ W.cell? ⟨g, 2, none⟩ = some x2 ∧ W.cell? ⟨g, 3, none⟩ = some x3
abbrev C44 (W : World) (g h : Nat) (x0 x1 x2 x3 y0 y1 y2 y3 : Value) : Prop := (W.cell? ⟨g, 0, none⟩ = some x0 ∧ W.cell? ⟨g, 1, none⟩ = some x1 ∧ W.cell? ⟨g, 2, none⟩ = some x2 ∧ W.cell? ⟨g, 3, none⟩ = some x3) ∧ W.cell? ⟨h, 0, none⟩ = some y0 ∧ W.cell? ⟨h, 1, none⟩ = some y1 ∧ W.cell? ⟨h, 2, none⟩ = some y2 ∧ W.cell? ⟨h, 3, none⟩ = some y3
section
variable {W : World} {g h : Nat} {t t' : TypeId} {x0 x1 x2 x3 y0 y1 y2 y3 : Value}
theorem Blk.c2 (k : Blk W g t [x0, x1]) : C2 W g x0 x1 := ⟨k.at_ rfl, k.at_ rfl⟩
theorem Blk.c4 (k : Blk W g t [x0, x1, x2, x3]) : C4 W g x0 x1 x2 x3 := ⟨k.at_ rfl, k.at_ rfl, k.at_ rfl, k.at_ rfl⟩
theorem Blk.c44 (k : Blk W g t [x0, x1, x2, x3]) (l : Blk W h t' [y0, y1, y2, y3]) : C44 W g h x0 x1 x2 x3 y0 y1 y2 y3 := ⟨k.c4, l.c4⟩
theorem Blk.c2_4 {r : Nat} (k : Blk W g t [x0, x1]) (hne : g ≠ r) (z0 z1 z2 z3 : Value) : C2 ((((W.setCell ⟨r, 0, none⟩ z0).setCell ⟨r, 1, none⟩ z1).setCell ⟨r, 2, none⟩ z2).setCell ⟨r, 3, none⟩ z3) g x0 x1 := (k.four_far hne z0 z1 z2 z3).c2
theorem Blk.c4_4 {r : Nat} (k : Blk W g t [x0, x1, x2, x3]) (hne : g ≠ r) (z0 z1 z2 z3 : Value) : C4 ((((W.setCell ⟨r, 0, none⟩ z0).setCell ⟨r, 1, none⟩ z1).setCell ⟨r, 2, none⟩ z2).setCell ⟨r, 3, none⟩ z3) g x0 x1 x2 x3 := (k.four_far hne z0 z1 z2 z3).c4
theorem Blk.c44_4 {r : Nat} (k : Blk W g t [x0, x1, x2, x3]) (l : Blk W h t' [y0, y1, y2, y3]) (hne : g ≠ r) (hne' : h ≠ r) (z0 z1 z2 z3 : Value) : C44 ((((W.setCell ⟨r, 0, none⟩ z0).setCell ⟨r, 1, none⟩ z1).setCell ⟨r, 2, none⟩ z2).setCell ⟨r, 3, none⟩ z3) g h x0 x1 x2 x3 y0 y1 y2 y3 := ⟨(k.four_far hne z0 z1 z2 z3).c4, (l.four_far hne' z0 z1 z2 z3).c4⟩
end

end Go.Proofs.YtnjccldjlpkgkaaGreatDoor

namespace Go.Proofs.YtnjccldjlpkgkaaGreatDoor
open Go.RowKit

theorem of_limbs {n : Nat} (hn : n < 9223372036854775808) : trimL [n % 1000000000, n / 1000000000 % 1000000000, n / 1000000000 / 1000000000] = limbs n := by
  have hlow : Low [n % 1000000000, n / 1000000000 % 1000000000, n / 1000000000 / 1000000000] := Low.cons (by omega) (Low.cons (by omega) (Low.cons (by omega) Low.nil))
  rw [← limbs_val hlow]
  congr 1
  simp only [val_cons, val_nil]
  omega
theorem of_cells {w : World} {g n : Nat} (h : Blk w g 117 [.int .u64 ((n : Int) % 1000000000), .int .u64 ((n : Int) / 1000000000 % 1000000000), .int .u64 ((n : Int) / 1000000000 / 1000000000)]) :
    Cells .u64 w (some ⟨g, 0, none⟩) [n % 1000000000, n / 1000000000 % 1000000000, n / 1000000000 / 1000000000] := fun _ => ⟨g, 0, rfl, h.lt, fun i hi => by
  rw [Nat.zero_add, h.cell]
  match i, hi with
  | 0, _ => rfl
  | 1, _ => rfl
  | 2, _ => rfl⟩

set_option maxRecDepth 100000 in
set_option maxHeartbeats 1000000 in
theorem LOf_any (n : Nat) (w : World) (hn : n < 9223372036854775808) : Calls Tryz.prog 74 #[.int .i64 (n : Int)] w (RetNum w (n : Int)) := by
  have HTR : Hid (∀ W : World, Blk W (w.heap.size + 1) 117 [.int .u64 ((n : Int) % 1000000000), .int .u64 ((n : Int) / 1000000000 % 1000000000), .int .u64 ((n : Int) / 1000000000 / 1000000000)] → Calls Tryz.prog 86 #[.slice (some ⟨w.heap.size + 1, 0, none⟩) 3 3] W fun e w' => e = .returned (.slice (some ⟨w.heap.size + 1, 0, none⟩) (limbs n).length 3) ∧ W = w') := fun W hW => by
    have := trim_any (some ⟨w.heap.size + 1, 0, none⟩) [n % 1000000000, n / 1000000000 % 1000000000, n / 1000000000 / 1000000000] 3 W (of_cells hW) (by simp) (by simp)
    rw [of_limbs hn] at this
    exact this
  have HCE : Hid (∀ W : World, Blk W (w.heap.size + 1) 117 [.int .u64 ((n : Int) % 1000000000), .int .u64 ((n : Int) / 1000000000 % 1000000000), .int .u64 ((n : Int) / 1000000000 / 1000000000)] → IsNat W (.slice (some ⟨w.heap.size + 1, 0, none⟩) (limbs n).length 3) n) := fun W hW => by
    have h1 := (of_cells hW).take (limbs n).length
    have h2 := trimL_take [n % 1000000000, n / 1000000000 % 1000000000, n / 1000000000 / 1000000000]
    have h3 := trimL_length_le [n % 1000000000, n / 1000000000 % 1000000000, n / 1000000000 / 1000000000]
    rw [of_limbs hn] at h2 h3
    rw [← h2] at h1
    exact IsNat.mk h3 h1
  have hl3 : (limbs n).length ≤ 3 := limbs_length_le (by omega)
  have hd : decide ((n : Int) < 0) = false := decide_eq_false (by omega)
  go_enter Tryz.func74, Tryz.ntmps74
  go_wp2_with fail
  have hk := Blk.new (w.alloc (.cells #[.bool false, .slice none 0 0] 98)) 117 [.int .u64 ((n : Int) % 1000000000), .int .u64 ((n : Int) / 1000000000 % 1000000000), .int .u64 ((n : Int) / 1000000000 / 1000000000)]
  have hr := (Blk.new w 98 [.bool false, .slice none 0 0]).alloc (.cells #[.int .u64 ((n : Int) % 1000000000), .int .u64 ((n : Int) / 1000000000 % 1000000000), .int .u64 ((n : Int) / 1000000000 / 1000000000)] 117)
  have hb : Below w.heap.size w ((w.alloc (.cells #[.bool false, .slice none 0 0] 98)).alloc (.cells #[.int .u64 ((n : Int) % 1000000000), .int .u64 ((n : Int) / 1000000000 % 1000000000), .int .u64 ((n : Int) / 1000000000 / 1000000000)] 117)) := ((Below.refl _ _).alloc (Nat.le_refl _) _).alloc (by simp) _
  rw [World.size_alloc] at hk
  generalize (w.alloc (.cells #[.bool false, .slice none 0 0] 98)).alloc (.cells #[.int .u64 ((n : Int) % 1000000000), .int .u64 ((n : Int) / 1000000000 % 1000000000), .int .u64 ((n : Int) / 1000000000 / 1000000000)] 117) = W at *
  have HK := Lib.hid hk
  have HR := Lib.hid hr
  have HB := Lib.hid hb
  clear hk hr hb
  refine (HTR.out W HK.out).mono ?_
  rintro e w1 ⟨rfl, rfl⟩
  go_wp2_with fail
  refine (number_num false _ n W (HCE.out W HK.out) (by omega)).mono ?_
  intro e w2 hret
  obtain ⟨A3, c3, rfl, hl3', hc3, hb3⟩ := hret.num
  have HC3 := Lib.hid hc3
  have HR3 := Lib.hid (HR.out.below hb3)
  have HB3 := Lib.hid (HB.out.trans (hb3.mono HB.out.size))
  have hr0 : w2.cell? ⟨w.heap.size, 0, none⟩ = some (.bool false) := HR3.out.at_ rfl
  have hr1 : w2.cell? ⟨w.heap.size, 1, none⟩ = some (.slice none 0 0) := HR3.out.at_ rfl
  have hf0 := HR3.out.fr 0
  have hf1 := HR3.out.fr 1
  clear hret hc3 hb3 HTR HCE hd
  go_wp2_with fail
  refine bodyPost_ret (v := .agg #[.bool (decide (sgn false n < 0)), .slice A3 (limbs (sgn false n).natAbs).length c3]) (by simp [results, Tryz.results74, go_sem, hr0, hr1]) rfl ?_
  exact Res.end_ ⟨HR3.out⟩ HB3.out (Nat.le_refl _) HC3.out hl3' rfl

theorem len_one : (limbs (1 : Int).natAbs).length ≤ 100 := Nat.le_trans (limbs_small (n := 1) (by decide)) (by decide)
theorem LOf_one (w : World) : Calls Tryz.prog 74 #[.int .i64 1] w (RetNum w 1) := LOf_any 1 w (by decide)

/-- Whether a fraction is an integer. -/
def wholeB (q : Rat) : Bool := decide (q.den = 1)
theorem whole_sg (q : Rat) : (sg ((q.den : Int) - 1) == 0) = wholeB q := by
  have := q.den_pos
  unfold wholeB sg
  by_cases h : q.den = 1
  · simp [h]
  · rw [if_neg (by omega), if_pos (by omega)]
    simp [h]

end Go.Proofs.YtnjccldjlpkgkaaGreatDoor

namespace Go.Proofs.YtnjccldjlpkgkaaGreatDoor
open Go.RowKit

theorem IsNum.set2 {W : World} {v : Value} {z : Int} {g : Nat} {t : TypeId} {nb : Bool} {A : Option Addr} {l c : Nat} (h : IsNum W v z) (k : Blk W g t [.bool nb, .slice A l c]) (x y : Value) : IsNum ((W.setCell ⟨g, 0, none⟩ x).setCell ⟨g, 1, none⟩ y) v z := h.box k no_int2 (grown_set' (grown_set g 0 _) 1 _)
theorem Blk.set2 {W : World} {g : Nat} {t : TypeId} {x0 x1 : Value} (k : Blk W g t [x0, x1]) (x y : Value) : Blk ((W.setCell ⟨g, 0, none⟩ x).setCell ⟨g, 1, none⟩ y) g t [x, y] := (k.set 0 x).set 1 y
theorem bel_set2 {W w : World} {g : Nat} (h : Below w.heap.size w W) (hg : w.heap.size ≤ g) (x y : Value) : Below w.heap.size w ((W.setCell ⟨g, 0, none⟩ x).setCell ⟨g, 1, none⟩ y) := (h.setCell (p := ⟨g, 0, none⟩) hg x).setCell (p := ⟨g, 1, none⟩) hg y
attribute [local go_sem ↓] Go.wp_at_zero Go.wp_at_succ
end Go.Proofs.YtnjccldjlpkgkaaGreatDoor
