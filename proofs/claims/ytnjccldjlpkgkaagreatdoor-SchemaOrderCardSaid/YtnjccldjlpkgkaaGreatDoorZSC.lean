/-
  Plain facts for SchemaValues.
-/
import Derived.Test.YtnjccldjlpkgkaaGreatDoorZSB
import Derived.Test.YtnjccldjlpkgkaaGreatDoorZV
import Derived.Test.YtnjccldjlpkgkaaGreatDoorZU
import Derived.Test.YtnjccldjlpkgkaaGreatDoorZO
namespace Go.Proofs.YtnjccldjlpkgkaaGreatDoor
open Go.RowKit

/-- The example of the chapter. -/
def exS (n : Nat) : SchV := { at1 := [(⟨#[97]⟩, 1), (⟨#[98]⟩, 2)], aa := some ⟨n, 0, none⟩, ca := 2, rs := [⟨⟨#[114]⟩, some ⟨n + 1, 0, none⟩, 2, [0, 1]⟩, ⟨⟨#[113]⟩, some ⟨n + 2, 0, none⟩, 1, [0]⟩], ar := some ⟨n + 3, 0, none⟩, cr := 2, fs := [⟨1, 1, 0⟩], af := some ⟨n + 4, 0, none⟩, cf := 1, lb := -1 }
theorem asc_01 : Asc [0, 1] := by
  intro i hi
  simp at hi
  obtain rfl : i = 0 := by omega
  decide
theorem exS_ok (n : Nat) : SchOK (exS n) where
  fine := {
    a1 := by simp [exS]
    a2 := by simp [exS]
    r1 := by simp [exS]
    r2 := by simp [exS]
    f2 := by simp [exS]
    cf := by simp [exS]
    word := by intro a ha; simp only [exS, List.mem_cons, List.not_mem_nil, or_false] at ha; rcases ha with rfl | rfl <;> exact ⟨rfl, by decide, by decide⟩
    rel := by
      intro r hr
      simp only [exS, List.mem_cons, List.not_mem_nil, or_false] at hr
      rcases hr with rfl | rfl
      · exact ⟨rfl, by simp, by simp [exS], asc_01, by simp, by simp⟩
      · exact ⟨rfl, by simp, by simp [exS], by intro i hi; simp at hi, by simp, by simp⟩
    reld := by simp [exS]
    feat := by
      intro f hf
      simp only [exS, List.mem_singleton] at hf
      subst hf
      exact ⟨by simp [exS], .inl ⟨rfl, rfl, .inl rfl⟩, by simp [exS]⟩
    featd := by simp [exS]
    lb1 := by simp [exS]
    lb2 := by simp [exS]
    lb3 := by intro i hi e; simp [exS] at e }
  names := by simp [exS]
  used := by
    intro i hi
    simp [exS] at hi
    match i, hi with
    | 0, _ => rfl
    | 1, _ => rfl
/-- A literal list of cells is a row. -/
theorem Blk.vrow {w : World} {g : Nat} {t : TypeId} {cs : List Value} (h : Blk w g t cs) : VRow w (some ⟨g, 0, none⟩) cs := fun _ => ⟨g, 0, rfl, h.lt, fun i hi => by rw [Nat.zero_add, h.cell i, List.getElem?_eq_getElem hi]⟩
theorem Blk.cells {w : World} {g : Nat} {t : TypeId} {xs : List Nat} (h : Blk w g t (vn xs)) : Cells .i64 w (some ⟨g, 0, none⟩) xs := fun _ => ⟨g, 0, rfl, h.lt, fun i hi => by rw [Nat.zero_add, h.cell i, vn_get hi]⟩
theorem Blk.new' {w : World} {g : Nat} (hg : w.heap.size = g) (t : TypeId) (cs : List Value) : Blk (w.alloc (.cells cs.toArray t)) g t cs := hg ▸ Blk.new w t cs
/-- The memory of the example. -/
def exW (w : World) : World := (((((w.alloc (.cells #[.string ⟨#[97]⟩, .int .i64 1, .string ⟨#[98]⟩, .int .i64 2] 25)).alloc (.cells #[.int .i64 0, .int .i64 1] 3)).alloc (.cells #[.int .i64 0] 3)).alloc (.cells #[.string ⟨#[114]⟩, .slice (some ⟨w.heap.size + 1, 0, none⟩) 2 2, .string ⟨#[113]⟩, .slice (some ⟨w.heap.size + 2, 0, none⟩) 1 1] 48)).alloc (.cells #[.int .i64 1, .int .i64 1, .int .i64 0] 73)).alloc (.cells (exS w.heap.size).cells 44)
theorem exW_size (w : World) : (exW w).heap.size = w.heap.size + 6 := by simp [exW]
theorem exW_in (w : World) : InMem (exW w) (exS w.heap.size) := by
  unfold exW
  refine ⟨?_, ?_, ?_, ?_⟩
  · exact ((((((Blk.new' (w := w) rfl 25 [.string ⟨#[97]⟩, .int .i64 1, .string ⟨#[98]⟩, .int .i64 2]).alloc _).alloc _).alloc _).alloc _).alloc _).vrow
  · exact (((Blk.new' (g := w.heap.size + 3) (by simp) 48 [.string ⟨#[114]⟩, .slice (some ⟨w.heap.size + 1, 0, none⟩) 2 2, .string ⟨#[113]⟩, .slice (some ⟨w.heap.size + 2, 0, none⟩) 1 1]).alloc _).alloc _).vrow
  · intro r hr
    simp only [exS, List.mem_cons, List.not_mem_nil, or_false] at hr
    rcases hr with rfl | rfl
    · exact (((((Blk.new' (g := w.heap.size + 1) (by simp) 3 (vn [0, 1])).alloc _).alloc _).alloc _).alloc _).cells
    · exact ((((Blk.new' (g := w.heap.size + 2) (by simp) 3 (vn [0])).alloc _).alloc _).alloc _).cells
  · exact ((Blk.new' (g := w.heap.size + 4) (by simp) 73 [.int .i64 1, .int .i64 1, .int .i64 0]).alloc _).vrow
theorem exW_below (w : World) : Below w.heap.size w (exW w) := by
  unfold exW
  exact (((((((Below.refl _ _).alloc (Nat.le_refl _) _).alloc (by simp) _).alloc (by simp; omega) _).alloc (by simp; omega) _).alloc (by simp; omega) _).alloc (by simp; omega) _)
theorem exW_cells (w : World) : Blk (exW w) (w.heap.size + 5) 44 (exS w.heap.size).cells.toList := Blk.new' (by simp) _ _

/-- Is a fraction a value? -/
def valQ (q : Rat) : Bool := bndB q.num && decide (1 ≤ smallV (q.den : Int) ∧ smallV (q.den : Int) ≤ 12)
theorem itoa_some (x : Int) : Lib.itoa x ≠ [] := by
  by_cases h : x < 0
  · rw [show x = -((x.natAbs : Nat) : Int) by omega, itoa_negNat _ (by omega)]
    simp
  · rw [show x = ((x.natAbs : Nat) : Int) by omega, itoa_pos]
    exact decDigits_ne_nil _
theorem rstr_some (q : Rat) : (rstr q).toList ≠ [] := by
  rw [Lib.toList_data, rstr_list]
  intro h
  by_cases hd : q.den = 1
  · rw [rtext_whole hd] at h
    exact absurd h (itoa_some _)
  · rw [rtext_parts hd] at h
    simp at h
theorem ValNum_q (nm : ByteArray) (q : Rat) (w : World) (hf : FitsR q) (henv : Env w) : Calls Tryz.prog 11 #[.agg #[.string nm, .int .i64 2], .string (rstr q)] w fun e w' => e = .returned (.bool (valQ q)) ∧ Below w.heap.size w w' := by
  have h := ValNum_of nm (rstr q) (str q.num) (str (q.den : Int)) true (smallB (q.den : Int)) (bndB q.num) (smallV (q.den : Int)) w (rstr_some q) (fun W hE => RatParts_ok q W hf hE) (fun W => ISmall_ok _ W hf.2) (fun W => bounded_ok _ W hf.1) henv
  exact h
theorem itoa_12 : Lib.itoa ((12 : Nat) : Int) = [49, 50] := by decide +kernel
theorem itoa_13 : Lib.itoa ((13 : Nat) : Int) = [49, 51] := by decide +kernel
theorem t_712 : rstr (Rat.divInt 7 12) = ⟨#[55, 47, 49, 50]⟩ := rstr_lit (n := 7) (d := 12) (by decide +kernel) (by decide +kernel) (by decide) (itoa_d (n := 7) (by decide)) itoa_12
theorem t_713 : rstr (Rat.divInt 7 13) = ⟨#[55, 47, 49, 51]⟩ := rstr_lit (n := 7) (d := 13) (by decide +kernel) (by decide +kernel) (by decide) (itoa_d (n := 7) (by decide)) itoa_13
theorem v_712 : valQ (Rat.divInt 7 12) = true := by decide +kernel
theorem v_713 : valQ (Rat.divInt 7 13) = false := by decide +kernel

theorem ex_cells {w wi : World} (hb : Below (w.heap.size + 6) (exW w) wi) : wi.cell? ⟨w.heap.size + 5, 0, none⟩ = some (.slice (some ⟨w.heap.size, 0, none⟩) 2 2) ∧ wi.cell? ⟨w.heap.size + 5, 1, none⟩ = some (.slice (some ⟨w.heap.size + 3, 0, none⟩) 2 2) ∧ wi.cell? ⟨w.heap.size + 5, 2, none⟩ = some (.slice (some ⟨w.heap.size + 4, 0, none⟩) 1 1) ∧ wi.cell? ⟨w.heap.size + 5, 3, none⟩ = some (.int .i64 (-1)) ∧ wi.cell? ⟨w.heap.size, 2, none⟩ = some (.string ⟨#[98]⟩) ∧ wi.cell? ⟨w.heap.size, 3, none⟩ = some (.int .i64 2) := by
  have h := (exW_cells w).under hb (by omega)
  have h2 := VRow.under (exW_in w).a (by rw [exW_size]; omega) hb
  exact ⟨h.at_ (i := 0) rfl, h.at_ (i := 1) rfl, h.at_ (i := 2) rfl, h.at_ (i := 3) rfl, by have := VRow.at_ h2 (i := 2) rfl; rwa [Nat.zero_add] at this, by have := VRow.at_ h2 (i := 3) rfl; rwa [Nat.zero_add] at this⟩
theorem ex_joined (n : Nat) : joinedN (exS n).rs (exS n).at1.length = [0] := rfl
theorem ex_uses (n : Nat) : usesN (exS n).rs 0 (exS n).rs.length = [0, 1] := rfl
theorem ex_nums (n : Nat) : numsN (exS n).fs (exS n).fs.length = [0] := rfl
theorem ex_link (n : Nat) : (exS n).rs.any (bothB 0 1) = true := rfl
theorem ex_find (n : Nat) : idxP (nmB ⟨#[98]⟩) (exS n).at1 = 1 := by
  refine idxP_at (k := 1) (by simp [exS]) ?_ ?_
  · simp [nmB, exS]
  · intro j _ hj
    obtain rfl : j = 0 := by omega
    unfold nmB
    rw [Lib.toList_data, Lib.toList_data]
    rfl
theorem RetL.row {w w' : World} {us : List Nat} {e : Ending} (h : RetL w us e w') : ∃ A c, e = .returned (.slice A us.length c) ∧ Cells .i64 w' A us ∧ Below w.heap.size w w' := by
  obtain ⟨v, rfl, ho, hb⟩ := h
  obtain ⟨A, c, rfl, _, hc⟩ := own_row ho
  exact ⟨A, c, rfl, hc, hb⟩
theorem Val712 (w : World) (henv : Env w) : Calls Tryz.prog 11 #[.agg #[.string ⟨#[98]⟩, .int .i64 2], .string ⟨#[55, 47, 49, 50]⟩] w fun e w' => e = .returned (.bool true) ∧ Below w.heap.size w w' := by
  have := ValNum_q ⟨#[98]⟩ (Rat.divInt 7 12) w (fitsR_small (by decide +kernel) (by decide +kernel)) henv
  rw [t_712, v_712] at this
  exact this
theorem Val713 (w : World) (henv : Env w) : Calls Tryz.prog 11 #[.agg #[.string ⟨#[98]⟩, .int .i64 2], .string ⟨#[55, 47, 49, 51]⟩] w fun e w' => e = .returned (.bool false) ∧ Below w.heap.size w w' := by
  have := ValNum_q ⟨#[98]⟩ (Rat.divInt 7 13) w (fitsR_small (by decide +kernel) (by decide +kernel)) henv
  rw [t_713, v_713] at this
  exact this
theorem Ints_lit (A : Option Addr) (xs : List Nat) (c n : Nat) (w : World) (cs : Array Value) (hcs : cs = (vn xs).toArray) (hn : n = xs.length) (h : Cells .i64 w A xs) (hl : xs.length ≤ 1000) : Calls Tryz.prog 17 #[.slice A n c, .slice (some ⟨w.heap.size, 0, none⟩) n n] (w.alloc (.cells cs 3)) fun e w' => e = .returned (.bool true) ∧ Below w.heap.size w w' := by
  subst hcs hn
  refine (Ints_of A (some ⟨w.heap.size, 0, none⟩) xs xs c xs.length _ (h.alloc _) (Blk.new w 3 (vn xs)).cells hl).mono ?_
  rintro e w' ⟨rfl, hb⟩
  exact ⟨by simp, ((Below.refl _ _).alloc (Nat.le_refl _) _).trans (hb.mono (by simp))⟩
theorem WordA1 (w : World) : Calls Tryz.prog 36 #[.string ⟨#[97, 45, 49]⟩] w fun e w' => e = .returned (.bool true) ∧ Below w.heap.size w w' := Word_any ⟨#[97, 45, 49]⟩ w (by decide)

set_option maxRecDepth 100000 in
set_option maxHeartbeats 8000000 in
theorem SSane (w : World) (henv : Env w) : Calls Tryz.prog 12 #[] w fun e w' => e = .returned (.bool true) ∧ Below w.heap.size w w' := by
  have HE := Lib.hid henv
  have HIN := Lib.hid (fun W (h : Below (w.heap.size + 6) (exW w) W) => (exW_in w).below (by rw [exW_size]; exact h))
  have HOK := Lib.hid (exS_ok w.heap.size)
  have HB0 := Lib.hid (exW_below w)
  have hsz0 := exW_size w
  have HSZ := Lib.hid hsz0
  have HJ := Lib.hid (fun W h => ex_joined w.heap.size ▸ Joined_of (exS w.heap.size) W (HIN.out W h) HOK.out)
  have HU := Lib.hid (fun W h => ex_uses w.heap.size ▸ Uses_of (exS w.heap.size) 0 W (HIN.out W h) HOK.out)
  have HNU := Lib.hid (fun W h => ex_nums w.heap.size ▸ Numbers_of (exS w.heap.size) W (HIN.out W h) HOK.out)
  have HLI := Lib.hid (fun W h => ex_link w.heap.size ▸ Linked_of (exS w.heap.size) 0 1 W (HIN.out W h) HOK.out)
  have HFI := Lib.hid (fun W h => ex_find w.heap.size ▸ Find_of (exS w.heap.size) ⟨#[98]⟩ W (HIN.out W h) HOK.out)
  clear henv hsz0
  go_enter Tryz.func12, Tryz.ntmps12
  go_wp2_with fail
  change Calls Tryz.prog 16 #[.agg (exS w.heap.size).cells] (exW w) _
  refine (Check_ok _ _ (exW_in w) HOK.out).mono ?_
  rintro e w1 ⟨rfl, hb⟩
  have HB1 := Lib.hid (show Below (w.heap.size + 6) (exW w) w1 from HSZ.out ▸ hb)
  have HZ1 : Hid (w.heap.size + 6 ≤ w1.heap.size) := Lib.hid (by have := HB1.out.size; rw [HSZ.out] at this; exact this)
  clear hb
  obtain ⟨c0, c1, c2, c3, d0, d1⟩ := ex_cells HB1.out
  go_wp2_with fail
  clear c0 c1 c2 c3 d0 d1
  refine (Val712 _ (HE.out.below (HB0.out.trans (HB1.out.mono (by omega))))).mono ?_
  rintro e w2 ⟨rfl, hb⟩
  have HB2 := Lib.hid (HB1.out.trans (hb.mono HZ1.out))
  have HZ2 : Hid (w.heap.size + 6 ≤ w2.heap.size) := Lib.hid (by have := HB2.out.size; rw [HSZ.out] at this; exact this)
  clear hb
  obtain ⟨c0, c1, c2, c3, d0, d1⟩ := ex_cells HB2.out
  go_wp2_with fail
  clear c0 c1 c2 c3 d0 d1
  refine (Val713 _ (HE.out.below (HB0.out.trans (HB2.out.mono (by omega))))).mono ?_
  rintro e w3 ⟨rfl, hb⟩
  have HB3 := Lib.hid (HB2.out.trans (hb.mono HZ2.out))
  have HZ3 : Hid (w.heap.size + 6 ≤ w3.heap.size) := Lib.hid (by have := HB3.out.size; rw [HSZ.out] at this; exact this)
  clear hb
  obtain ⟨c0, c1, c2, c3, d0, d1⟩ := ex_cells HB3.out
  go_wp2_with fail
  clear c0 c1 c2 c3 d0 d1
  refine (HJ.out _ HB3.out).mono ?_
  intro e w4 hr
  obtain ⟨A4, cc4, rfl, hcl, hb⟩ := hr.row
  clear hr
  have HC4 := Lib.hid hcl
  clear hcl
  have HB4 := Lib.hid (HB3.out.trans (hb.mono HZ3.out))
  have HZ4 : Hid (w.heap.size + 6 ≤ w4.heap.size) := Lib.hid (by have := HB4.out.size; rw [HSZ.out] at this; exact this)
  clear hb
  obtain ⟨c0, c1, c2, c3, d0, d1⟩ := ex_cells HB4.out
  go_wp2_with fail
  clear c0 c1 c2 c3 d0 d1
  refine (Ints_lit A4 [0] cc4 1 w4 _ rfl rfl HC4.out (by decide)).mono ?_
  rintro e w5 ⟨rfl, hb⟩
  have HB5 := Lib.hid (HB4.out.trans (hb.mono HZ4.out))
  have HZ5 : Hid (w.heap.size + 6 ≤ w5.heap.size) := Lib.hid (by have := HB5.out.size; rw [HSZ.out] at this; exact this)
  clear hb
  obtain ⟨c0, c1, c2, c3, d0, d1⟩ := ex_cells HB5.out
  go_wp2_with fail
  clear c0 c1 c2 c3 d0 d1
  refine (HLI.out _ HB5.out).mono ?_
  rintro e w6 ⟨rfl, hb⟩
  have HB6 := Lib.hid (HB5.out.trans (hb.mono HZ5.out))
  have HZ6 : Hid (w.heap.size + 6 ≤ w6.heap.size) := Lib.hid (by have := HB6.out.size; rw [HSZ.out] at this; exact this)
  clear hb
  obtain ⟨c0, c1, c2, c3, d0, d1⟩ := ex_cells HB6.out
  go_wp2_with fail
  clear c0 c1 c2 c3 d0 d1
  refine (HFI.out _ HB6.out).mono ?_
  rintro e w7 ⟨rfl, hb⟩
  have HB7 := Lib.hid (HB6.out.trans (hb.mono HZ6.out))
  have HZ7 : Hid (w.heap.size + 6 ≤ w7.heap.size) := Lib.hid (by have := HB7.out.size; rw [HSZ.out] at this; exact this)
  clear hb
  obtain ⟨c0, c1, c2, c3, d0, d1⟩ := ex_cells HB7.out
  go_wp2_with fail
  clear c0 c1 c2 c3 d0 d1
  refine (HU.out _ HB7.out).mono ?_
  intro e w8 hr
  obtain ⟨A8, cc8, rfl, hcl, hb⟩ := hr.row
  clear hr
  have HC8 := Lib.hid hcl
  clear hcl
  have HB8 := Lib.hid (HB7.out.trans (hb.mono HZ7.out))
  have HZ8 : Hid (w.heap.size + 6 ≤ w8.heap.size) := Lib.hid (by have := HB8.out.size; rw [HSZ.out] at this; exact this)
  clear hb
  obtain ⟨c0, c1, c2, c3, d0, d1⟩ := ex_cells HB8.out
  go_wp2_with fail
  clear c0 c1 c2 c3 d0 d1
  refine (Ints_lit A8 [0, 1] cc8 2 w8 _ rfl rfl HC8.out (by decide)).mono ?_
  rintro e w9 ⟨rfl, hb⟩
  have HB9 := Lib.hid (HB8.out.trans (hb.mono HZ8.out))
  have HZ9 : Hid (w.heap.size + 6 ≤ w9.heap.size) := Lib.hid (by have := HB9.out.size; rw [HSZ.out] at this; exact this)
  clear hb
  obtain ⟨c0, c1, c2, c3, d0, d1⟩ := ex_cells HB9.out
  go_wp2_with fail
  clear c0 c1 c2 c3 d0 d1
  refine (WordA1 _).mono ?_
  rintro e w10 ⟨rfl, hb⟩
  have HB10 := Lib.hid (HB9.out.trans (hb.mono HZ9.out))
  have HZ10 : Hid (w.heap.size + 6 ≤ w10.heap.size) := Lib.hid (by have := HB10.out.size; rw [HSZ.out] at this; exact this)
  clear hb
  obtain ⟨c0, c1, c2, c3, d0, d1⟩ := ex_cells HB10.out
  go_wp2_with fail
  clear c0 c1 c2 c3 d0 d1
  refine (HNU.out _ HB10.out).mono ?_
  intro e w11 hr
  obtain ⟨A11, cc11, rfl, hcl, hb⟩ := hr.row
  clear hr
  have HC11 := Lib.hid hcl
  clear hcl
  have HB11 := Lib.hid (HB10.out.trans (hb.mono HZ10.out))
  have HZ11 : Hid (w.heap.size + 6 ≤ w11.heap.size) := Lib.hid (by have := HB11.out.size; rw [HSZ.out] at this; exact this)
  clear hb
  obtain ⟨c0, c1, c2, c3, d0, d1⟩ := ex_cells HB11.out
  go_wp2_with fail
  clear c0 c1 c2 c3 d0 d1
  refine (Ints_lit A11 [0] cc11 1 w11 _ rfl rfl HC11.out (by decide)).mono ?_
  rintro e w12 ⟨rfl, hb⟩
  have HB12 := Lib.hid (HB11.out.trans (hb.mono HZ11.out))
  have HZ12 : Hid (w.heap.size + 6 ≤ w12.heap.size) := Lib.hid (by have := HB12.out.size; rw [HSZ.out] at this; exact this)
  clear hb
  obtain ⟨c0, c1, c2, c3, d0, d1⟩ := ex_cells HB12.out
  go_wp2_with fail
  clear c0 c1 c2 c3 d0 d1
  go_ret
  exact ⟨rfl, HB0.out.trans (HB12.out.mono (by omega))⟩

end Go.Proofs.YtnjccldjlpkgkaaGreatDoor

namespace Go.Proofs.YtnjccldjlpkgkaaGreatDoor
open Go.RowKit

theorem bndB_eq (x : Int) : bndB x = (decide (-1000000000 ≤ x) && decide (x ≤ 1000000000)) := by
  unfold bndB smallB smallV
  by_cases h : x.natAbs ≤ 4611686018427387904
  · rw [if_pos h, decide_eq_true h, Bool.true_and]
  · rw [if_neg h, decide_eq_false h, Bool.false_and]
    by_cases h1 : -1000000000 ≤ x
    · rw [decide_eq_true h1, Bool.true_and, decide_eq_false (by omega)]
    · rw [decide_eq_false h1, Bool.false_and]
theorem fits_i64' {n : Int} (h : n.natAbs ≤ 9223372036854775808) : Fits n := by
  have := decDigits_length_le (r := n.natAbs) (k := 19) (by omega) (by omega)
  unfold Fits; omega
theorem fits_i64 {n : Int} (h0 : -9223372036854775808 ≤ n) (h1 : n ≤ 9223372036854775807) : Fits n := by
  have := decDigits_length_le (r := n.natAbs) (k := 19) (by omega) (by omega)
  unfold Fits; omega
theorem not_word (x : Int) : wordB (str x).data.toList = false := by
  have e : (str x).data.toList = Lib.itoa x := by rw [← Lib.toList_data, str_toList]
  rw [e]
  have hd : ∀ c ∈ (Lib.itoa x).head?, letB c = false := by
    intro c hc
    by_cases h : x < 0
    · rw [show x = -((x.natAbs : Nat) : Int) by omega, itoa_negNat _ (by omega)] at hc
      simp at hc
      subst hc; rfl
    · rw [show x = ((x.natAbs : Nat) : Int) by omega, itoa_pos] at hc
      have := decDigits_digs x.natAbs c (List.mem_of_mem_head? hc)
      unfold IsDig at this
      unfold letB
      exact decide_eq_false (by omega)
  cases hl : Lib.itoa x with
  | nil => exact absurd hl (itoa_some x)
  | cons c r =>
    rw [hl] at hd
    show ((letB c && r.all tailB) && _) = false
    rw [hd c (by simp)]
    rfl
theorem not_valid {q : Rat} (h : q.den ≠ 1) : validB (rtext q) = false := by
  cases hv : validB (rtext q) with
  | false => rfl
  | true =>
    obtain ⟨x, e, _⟩ := valid_ex hv
    have := slash_itoa x
    rw [← e, rtext_parts h] at this
    exact absurd (by simp) this
theorem str_some (x : Int) : (str x).toList ≠ [] := by rw [str_toList]; exact itoa_some x
/-- A key that is a number. -/
theorem ValKey_n (nm : ByteArray) (n : Int) (w : World) (hf : Fits n) : Calls Tryz.prog 11 #[.agg #[.string nm, .int .i64 1], .string (str n)] w fun e w' => e = .returned (.bool (bndB n)) ∧ Below w.heap.size w w' :=
  ValKey_of nm (str n) (bndB n) w (str_some n) (fun W => bounded_ok n W hf)
theorem ValKey_q (nm : ByteArray) (q : Rat) (w : World) (h : q.den ≠ 1) (hf : FitsR q) : Calls Tryz.prog 11 #[.agg #[.string nm, .int .i64 1], .string (rstr q)] w fun e w' => e = .returned (.bool false) ∧ Below w.heap.size w w' :=
  ValKey_of nm (rstr q) false w (rstr_some q) (fun W => bounded_bad (rtext q) W (by have := rtext_len hf; omega) (not_valid h))
theorem ValWord_n (nm : ByteArray) (n : Int) (w : World) (hf : Fits n) : Calls Tryz.prog 11 #[.agg #[.string nm, .int .i64 3], .string (str n)] w fun e w' => e = .returned (.bool false) ∧ Below w.heap.size w w' := by
  have h := ValWord_of nm (str n) w (str_some n) (by have := itoa_len hf; have e := str_size n; rw [e]; omega)
  rw [not_word] at h
  exact h
theorem ValWord_red (nm : ByteArray) (w : World) : Calls Tryz.prog 11 #[.agg #[.string nm, .int .i64 3], .string ⟨#[114, 101, 100]⟩] w fun e w' => e = .returned (.bool true) ∧ Below w.heap.size w w' :=
  ValWord_of nm ⟨#[114, 101, 100]⟩ w (by rw [Lib.toList_data]; simp) (by decide)
theorem ValNum_red (nm : ByteArray) (w : World) (henv : Env w) : Calls Tryz.prog 11 #[.agg #[.string nm, .int .i64 2], .string ⟨#[114, 101, 100]⟩] w fun e w' => e = .returned (.bool false) ∧ Below w.heap.size w w' :=
  ValNum_of nm ⟨#[114, 101, 100]⟩ ⟨#[]⟩ ⟨#[]⟩ false false false 0 w (by rw [Lib.toList_data]; simp) (fun W hE => RatParts_bad [114, 101, 100] W (by decide) hE (validR_badnum (by decide))) (fun W => ISmall_bad [] W (by decide) (by decide)) (fun W => bounded_bad [] W (by decide) (by decide)) henv
theorem den_fit {n m : Int} (h0 : -9223372036854775808 ≤ n) (h1 : n ≤ 9223372036854775807) (h2 : 1 ≤ m) (h3 : m ≤ 20) : FitsR (Rat.divInt n m) ∧ (Rat.divInt n m).den ≤ 20 ∧ 1 ≤ (Rat.divInt n m).den := by
  obtain ⟨a, b⟩ := divInt_le (n := n) (d := m) (by omega)
  refine ⟨⟨?_, fits_small (by rw [Int.natAbs_natCast]; omega)⟩, by omega, (Rat.divInt n m).den_pos⟩
  exact fits_i64' (by omega)
theorem small_den {d : Nat} (h : d ≤ 20) : smallB (d : Int) = true ∧ smallV (d : Int) = d := by
  unfold smallB smallV
  rw [if_pos (by omega)]
  exact ⟨decide_eq_true (by omega), rfl⟩

end Go.Proofs.YtnjccldjlpkgkaaGreatDoor
