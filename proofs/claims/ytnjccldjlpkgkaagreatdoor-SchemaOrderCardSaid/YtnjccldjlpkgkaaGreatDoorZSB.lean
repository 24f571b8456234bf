/-
  Package schema: Find. Package joinlearnref05: Ints, In.
-/
import Derived.Test.YtnjccldjlpkgkaaGreatDoorZSA
namespace Go.Proofs.YtnjccldjlpkgkaaGreatDoor
open Go.RowKit

/-- A schema and where its lists lie. -/
structure SchV where
  at1 : List (ByteArray × Int)
  aa : Option Addr
  ca : Nat
  rs : List RelV
  ar : Option Addr
  cr : Nat
  fs : List FeatV
  af : Option Addr
  cf : Nat
  lb : Int
/-- The cells of a schema. -/
def SchV.cells (S : SchV) : Array Value := #[.slice S.aa S.at1.length S.ca, .slice S.ar S.rs.length S.cr, .slice S.af S.fs.length S.cf, .int .i64 S.lb]
/-- It lies in memory. -/
structure InMem (w : World) (S : SchV) : Prop where
  a : VRow w S.aa (av S.at1)
  r : VRow w S.ar (relv S.rs)
  x : ∀ r ∈ S.rs, Cells .i64 w r.ad r.xs
  f : VRow w S.af (fv S.fs)
theorem InMem.below {w w' : World} {S : SchV} (h : InMem w S) (hb : Below w.heap.size w w') : InMem w' S := ⟨h.a.below hb, h.r.below hb, fun r hr => (h.x r hr).below hb, h.f.below hb⟩
/-- A schema without faults, but that a name may occur twice and an attribute may have no relation. -/
structure SchFine (S : SchV) : Prop where
  a1 : 1 ≤ S.at1.length
  a2 : S.at1.length ≤ 12
  r1 : 1 ≤ S.rs.length
  r2 : S.rs.length ≤ 6
  f2 : S.fs.length ≤ 8
  cf : S.fs.length ≤ S.cf
  word : ∀ a ∈ S.at1, wordB a.1.data.toList = true ∧ 1 ≤ a.2 ∧ a.2 ≤ 3
  rel : ∀ r ∈ S.rs, RelFine S.at1.length r
  reld : (S.rs.map (·.nm)).Nodup
  feat : ∀ f ∈ S.fs, FeatFine S.at1 S.lb f
  featd : (S.fs.map (·.a)).Nodup
  lb1 : -1 ≤ S.lb
  lb2 : S.lb < S.at1.length
  lb3 : ∀ i, (hi : i < S.at1.length) → (i : Int) = S.lb → S.at1[i].2 = 2
/-- What Check says. -/
def chk (r1 r2 : Bool) : Int := if r1 then 9 else if r2 then 0 else 7

set_option maxRecDepth 100000 in
set_option maxHeartbeats 8000000 in
theorem Check_of (S : SchV) (r1 r2 : Bool) (w : World) (hin : InMem w S) (hf : SchFine S) (hr1 : r1 = true ↔ ¬ (S.at1.map (·.1)).Nodup) (hr2 : (List.range S.at1.length).all (usedB S.rs) = r2) :
    Calls Tryz.prog 16 #[.agg S.cells] w fun e w' => e = .returned (.int .i64 (chk r1 r2)) ∧ Below w.heap.size w w' := by
  have HAT := Lib.hid (fun W (hW : Below w.heap.size w W) => attributes_of S.aa S.at1 S.ca (.slice S.ar S.rs.length S.cr) (.slice S.af S.fs.length S.cf) (.int .i64 S.lb) r1 W (hin.below hW).a (by have := hf.a2; omega) hf.word hr1)
  have HRE := Lib.hid (fun W (hW : Below w.heap.size w W) => relations_of S.aa S.ar S.at1.length S.ca S.rs S.cr (.slice S.af S.fs.length S.cf) (.int .i64 S.lb) W (hin.below hW).r (by have := hf.a2; omega) (by have := hf.r2; omega) (fun r hr => ⟨hf.rel r hr, (hin.below hW).x r hr⟩) hf.reld)
  have HFE := Lib.hid (fun W (hW : Below w.heap.size w W) => features_of S.at1 S.fs S.aa S.af S.ca S.cf (.slice S.ar S.rs.length S.cr) S.lb W (hin.below hW).a (hin.below hW).f (by have := hf.a2; omega) (by have := hf.f2; omega) hf.cf hf.feat hf.featd)
  rw [hr2] at HRE
  have HIN := Lib.hid hin
  have HF := Lib.hid hf
  obtain ⟨q1, q2, q3, q4, q5, -, -, -, -, -, -, q6, q7, -⟩ := hf
  unfold SchV.cells
  obtain ⟨at1, aa, ca, rs, ar, cr, fs, af, cf, lb⟩ := S
  simp only at q1 q2 q3 q4 q5 q6 q7 HAT HRE HFE ⊢
  clear hin hr1 hr2
  have t1 : ((at1.length : Int) == 0) = false := by rw [beq_eq_false_iff_ne]; omega
  have t2 : decide ((12 : Int) < (at1.length : Int)) = false := by simp; omega
  have t3 : ((rs.length : Int) == 0) = false := by rw [beq_eq_false_iff_ne]; omega
  have t4 : decide ((6 : Int) < (rs.length : Int)) = false := by simp; omega
  have t5 : decide ((8 : Int) < (fs.length : Int)) = false := by simp; omega
  go_enter Tryz.func16, Tryz.ntmps16
  go_wp2_with fail
  clear t1 t2 t3 t4 t5
  go_loopw [36] (fun iv wr => ∃ k : Nat, iv = .int .i64 (k : Int) ∧ k ≤ 3 ∧ (1 ≤ k → r1 = false) ∧ (2 ≤ k → r2 = true) ∧ Below (w.heap.size + 2) ((w.alloc (.cells #[.slice aa at1.length ca, .slice ar rs.length cr, .slice af fs.length cf, .int .i64 lb] 44)).alloc (.cells #[.func (.func 41) #[] #[], .func (.func 42) #[] #[], .func (.func 43) #[] #[]] 49)) wr) (fun iv _ => 3 - (intOf iv).toNat)
  case atStart => exact ⟨0, rfl, by omega, fun h => absurd h (by omega), fun h => absurd h (by omega), Below.refl _ _⟩
  case round =>
    obtain ⟨k, rfl, hk, hk1, hk2, hbel⟩ := hrel
    have HBEL := Lib.hid hbel
    have HB := Lib.hid ((((Below.refl w.heap.size w).alloc (Nat.le_refl _) (.cells #[.slice aa at1.length ca, .slice ar rs.length cr, .slice af fs.length cf, .int .i64 lb] 44)).alloc (by simp) (.cells #[.func (.func 41) #[] #[], .func (.func 42) #[] #[], .func (.func 43) #[] #[]] 49)).trans (hbel.mono (by omega)))
    have hs0 : wr.cell? ⟨w.heap.size, 0, none⟩ = some (.slice aa at1.length ca) := (hbel.cell (p := ⟨w.heap.size, 0, none⟩) (by simp)).trans (by simp)
    have hs1 : wr.cell? ⟨w.heap.size, 1, none⟩ = some (.slice ar rs.length cr) := (hbel.cell (p := ⟨w.heap.size, 1, none⟩) (by simp)).trans (by simp)
    have hs2 : wr.cell? ⟨w.heap.size, 2, none⟩ = some (.slice af fs.length cf) := (hbel.cell (p := ⟨w.heap.size, 2, none⟩) (by simp)).trans (by simp)
    have hs3 : wr.cell? ⟨w.heap.size, 3, none⟩ = some (.int .i64 lb) := (hbel.cell (p := ⟨w.heap.size, 3, none⟩) (by simp)).trans (by simp)
    have hf0 : wr.cell? ⟨w.heap.size + 1, 0, none⟩ = some (.func (.func 41) #[] #[]) := (hbel.cell (p := ⟨w.heap.size + 1, 0, none⟩) (by simp)).trans (by simp)
    have hf1 : wr.cell? ⟨w.heap.size + 1, 1, none⟩ = some (.func (.func 42) #[] #[]) := (hbel.cell (p := ⟨w.heap.size + 1, 1, none⟩) (by simp)).trans (by simp)
    have hf2 : wr.cell? ⟨w.heap.size + 1, 2, none⟩ = some (.func (.func 43) #[] #[]) := (hbel.cell (p := ⟨w.heap.size + 1, 2, none⟩) (by simp)).trans (by simp)
    have HK1 := Lib.hid hk1
    have HK2 := Lib.hid hk2
    have hsz := hbel.size
    simp only [World.size_alloc] at hsz
    clear hbel hk1 hk2
    have hkc : k = 0 ∨ k = 1 ∨ k = 2 ∨ k = 3 := by omega
    clear hk
    rcases hkc with rfl | rfl | rfl | rfl
    · cases r1
      all_goals
        go_wp2_with fail
        refine (HAT.out _ HB.out).mono ?_
        rintro e w2 ⟨rfl, hb2⟩
        have HB2 := Lib.hid (HBEL.out.trans (hb2.mono hsz))
        have HBB := Lib.hid (HB.out.trans (hb2.mono (by omega)))
        clear hb2
        simp only [twc] 
        go_wp2_with fail
      · go_roundw
        case rel => exact ⟨1, by go_num, by omega, by simp, by simp, HB2.out⟩
        case measure => simp [intOf]
      · go_ret
        exact ⟨rfl, HBB.out⟩
    · obtain rfl := HK1.out (by omega)
      cases r2
      all_goals
        go_wp2_with fail
        refine (HRE.out _ HB.out).mono ?_
        rintro e w2 ⟨rfl, hb2⟩
        have HB2 := Lib.hid (HBEL.out.trans (hb2.mono hsz))
        have HBB := Lib.hid (HB.out.trans (hb2.mono (by omega)))
        clear hb2
        simp only [unu] 
        go_wp2_with fail
      · go_ret
        exact ⟨rfl, HBB.out⟩
      · go_roundw
        case rel => exact ⟨2, by go_num, by omega, by simp, by simp, HB2.out⟩
        case measure => simp [intOf]
    · obtain rfl := HK1.out (by omega)
      obtain rfl := HK2.out (by omega)
      go_wp2_with fail
      refine (HFE.out _ HB.out).mono ?_
      rintro e w2 ⟨rfl, hb2⟩
      have HB2 := Lib.hid (HBEL.out.trans (hb2.mono hsz))
      clear hb2
      go_wp2_with fail
      go_roundw
      case rel => exact ⟨3, by go_num, by omega, by simp, by simp, HB2.out⟩
      case measure => simp [intOf]
    · obtain rfl := HK1.out (by omega)
      obtain rfl := HK2.out (by omega)
      by_cases hl0 : 0 ≤ lb
      · obtain ⟨l, rfl⟩ : ∃ l : Nat, lb = l := ⟨lb.toNat, by omega⟩
        have hll : l < at1.length := by omega
        obtain ⟨b1, off1, rfl, hb1, hrow1⟩ := (HIN.out.below HB.out).a.some (av_nil (by intro e; simp only at e; subst e; simp at hll))
        have hcl : wr.cell? ⟨b1, off1 + l * 2 + 1, none⟩ = _ := hrow1.at_ (av_get hll).2
        rw [HF.out.lb3 l hll rfl] at hcl
        clear hrow1
        go_wp2_with fail
        go_ret
        exact ⟨rfl, HB.out⟩
      · have hl1 : lb = -1 := by omega
        go_wp2_with fail
        go_ret
        exact ⟨rfl, HB.out⟩

end Go.Proofs.YtnjccldjlpkgkaaGreatDoor

namespace Go.Proofs.YtnjccldjlpkgkaaGreatDoor
open Go.RowKit

/-- A schema without faults. -/
structure SchOK (S : SchV) : Prop where
  fine : SchFine S
  names : (S.at1.map (·.1)).Nodup
  used : ∀ i, i < S.at1.length → usedB S.rs i = true
theorem Check_ok (S : SchV) (w : World) (hin : InMem w S) (h : SchOK S) : Calls Tryz.prog 16 #[.agg S.cells] w fun e w' => e = .returned (.int .i64 0) ∧ Below w.heap.size w w' :=
  Check_of S false true w hin h.fine ⟨(fun e => by cases e), fun e => absurd h.names e⟩ (List.all_eq_true.2 fun i hi => h.used i (List.mem_range.1 hi))
theorem ints_of (xs : List Nat) (i : Nat) (h : i < xs.length) : (xs.map fun x : Nat => (x : Int)).getD i 0 = ((nth xs i : Nat) : Int) := by
  simp [nth, h]
theorem contains_ints (xs : List Nat) (a : Nat) : (xs.map fun x : Nat => (x : Int)).contains (a : Int) = xs.contains a := by
  rw [Bool.eq_iff_iff, List.contains_iff_mem, List.contains_iff_mem, List.mem_map]
  constructor
  · rintro ⟨x, hx, e⟩; rwa [← Int.ofNat_inj.1 e]
  · exact fun h => ⟨a, h, rfl⟩
/-- An attribute's number, be it too great or not, in a list. -/
theorem ContainsI (A : Option Addr) (xs : List Nat) (c a : Nat) (w : World) (h : Cells .i64 w A xs) (hl : xs.length ≤ 1000) : Calls Tryz.prog 65 #[.slice A xs.length c, .int .i64 (a : Int)] w fun e w' => e = .returned (.bool (xs.contains a)) ∧ w = w' := by
  by_cases hx : xs = []
  · subst hx
    exact (Tryz.slices_Contains_int_empty A c a w).mono fun e w' ⟨h1, h2⟩ => ⟨h1, h2.symm⟩
  · obtain ⟨b, off, rfl, hb, hc⟩ := h hx
    have := Tryz.slices_Contains_int b off xs.length c (xs.map fun x : Nat => (x : Int)) a w (by simp) (by omega) (fun j hj => by
      rw [List.length_map] at hj
      rw [hc j hj, ints_of xs j hj])
    rw [List.take_of_length_le (by simp), contains_ints] at this
    exact this.mono fun e w' ⟨h1, h2⟩ => ⟨h1, h2.symm⟩
set_option maxRecDepth 100000 in
theorem has_of (r : RelV) (a : Nat) (w : World) (h : Cells .i64 w r.ad r.xs) (hl : r.xs.length ≤ 1000) : Calls Tryz.prog 44 #[.agg #[.string r.nm, .slice r.ad r.xs.length r.cp], .int .i64 (a : Int)] w fun e w' => e = .returned (.bool (r.xs.contains a)) ∧ Below w.heap.size w w' := by
  obtain ⟨nm, ad, cp, xs⟩ := r
  have HC := Lib.hid (ContainsI ad xs cp a (w.alloc (.cells #[.string nm, .slice ad xs.length cp] 48)) (h.alloc _) hl)
  simp only
  generalize xs.contains a = b at *
  clear h
  go_enter Tryz.func44, Tryz.ntmps44
  go_wp2_with fail
  refine HC.out.mono ?_
  rintro e w' ⟨rfl, rfl⟩
  go_wp2_with fail
  go_ret
  exact ⟨rfl, (Below.refl _ _).alloc (Nat.le_refl _) _⟩

/-- The result is a new list of numbers; nothing that was there has changed. -/
def RetL (w : World) (us : List Nat) (e : Ending) (w' : World) : Prop := ∃ v, e = .returned v ∧ w'.ownsRow w.heap.size 3 1 v us.length (vn us) ∧ Below w.heap.size w w'
/-- Which relations have an attribute. -/
def hasAt (rs : List RelV) (a i : Nat) : Bool := match rs[i]? with | some r => r.xs.contains a | none => false
def usesN (rs : List RelV) (a k : Nat) : List Nat := (List.range k).filter (hasAt rs a)
theorem usesN_succ (rs : List RelV) (a k : Nat) : usesN rs a (k + 1) = usesN rs a k ++ if hasAt rs a k then [k] else [] := by
  unfold usesN
  rw [List.range_succ, List.filter_append]
  simp only [List.filter_cons, List.filter_nil]
theorem filter_range_le (p : Nat → Bool) (k : Nat) : ((List.range k).filter p).length ≤ k := by
  have := List.length_filter_le p (List.range k)
  rw [List.length_range] at this
  exact this
theorem own_low {w : World} {B B' e n : Nat} {v : Value} {xs : List Value} (h : w.ownsRow B e 1 v n xs) (hB : B' ≤ B) : w.ownsRow B' e 1 v n xs := by
  refine ⟨h.1, ?_⟩
  rcases h.2 with h2 | ⟨g, cap, cur, hv, h3, h4⟩
  · exact .inl h2
  · exact .inr ⟨g, cap, cur, hv, Nat.le_trans hB h3, h4⟩
/-- Behind an append to a row of one's own. -/
theorem app1 {B : Nat} {wr w3 : World} {e : TypeId} {v : Value} {n : Nat} {xs : List Value} {o : Obj} (h : wr.ownsRow B e 1 v n xs) (hs : B ≤ wr.heap.size) (hg : (wr.alloc o).grownBy w3 v.ownBlock) : Below B wr w3 := by
  have hsz := hg.size
  rw [World.size_alloc] at hsz
  have hne : ∀ g, some g = v.ownBlock → B ≤ g ∧ g < wr.heap.size := fun g e => h.lt g e.symm
  refine ⟨hg.os, hg.tape, hg.output, by omega, fun i hi => ?_⟩
  rw [hg.block i (by simp; omega) (fun e => by have := hne _ e; omega)]
  exact Below.heap_alloc wr _ i (by omega)

set_option maxRecDepth 100000 in
set_option maxHeartbeats 4000000 in
theorem Uses_of (S : SchV) (a : Nat) (w : World) (hin : InMem w S) (hok : SchOK S) : Calls Tryz.prog 20 #[.agg S.cells, .int .i64 (a : Int)] w (RetL w (usesN S.rs a S.rs.length)) := by
  obtain ⟨i0, hi, hz0, hz1, hz2⟩ := info_parts Tryz.infoInt
  have HCH := Lib.hid (Check_ok S (w.alloc (.cells S.cells 44)) (hin.below ((Below.refl _ _).alloc (Nat.le_refl _) _)) hok)
  have HIN := Lib.hid hin
  have HF := Lib.hid hok.fine
  have q2 := hok.fine.r2
  unfold SchV.cells at HCH ⊢
  obtain ⟨at1, aa, ca, rs, ar, cr, fs, af, cf, lb⟩ := S
  simp only at q2 HCH ⊢
  clear hin hok
  go_enter Tryz.func20, Tryz.ntmps20
  go_wp2_with fail
  refine HCH.out.mono ?_
  rintro e w1 ⟨rfl, hb1⟩
  rw [World.size_alloc] at hb1
  have hs1 : w1.cell? ⟨w.heap.size, 1, none⟩ = some (.slice ar rs.length cr) := (hb1.cell (p := ⟨w.heap.size, 1, none⟩) (by simp)).trans (by simp)
  have HB1 := Lib.hid hb1
  clear hb1
  go_wp2_with fail
  go_loopw [5, 14] (fun v iv wr => ∃ k : Nat, iv = .int .i64 (k : Int) ∧ k ≤ rs.length ∧ wr.ownsRow (w.heap.size + 1) 3 1 v (usesN rs a k).length (vn (usesN rs a k)) ∧ Below (w.heap.size + 1) (w.alloc (.cells #[.slice aa at1.length ca, .slice ar rs.length cr, .slice af fs.length cf, .int .i64 lb] 44)) wr) (fun _ iv _ => rs.length - (intOf iv).toNat)
  case atStart => exact ⟨0, rfl, Nat.zero_le _, World.ownsRow_nil _ _ _ _, HB1.out⟩
  case round =>
    obtain ⟨k, rfl, hk, hown, hbel⟩ := hrel
    have HOWN := Lib.hid hown
    have HBEL := Lib.hid hbel
    have hsz := hbel.size
    rw [World.size_alloc] at hsz
    have HB := Lib.hid (((Below.refl w.heap.size w).alloc (Nat.le_refl _) (.cells #[.slice aa at1.length ca, .slice ar rs.length cr, .slice af fs.length cf, .int .i64 lb] 44)).trans (hbel.mono (by omega)))
    clear hown hbel
    by_cases hlt : k < rs.length
    · obtain ⟨b, off, rfl, hb, hrow⟩ := HIN.out.r.some (relv_nil (by intro e; simp only at e; subst e; simp at hlt))
      obtain ⟨hg1, hg2⟩ := relv_get hlt
      have hc1 := (HB.out.cell (p := ⟨b, off + k * 2, none⟩) hb).trans (hrow.at_ hg1)
      have hc2 : wr.cell? ⟨b, off + k * 2 + 1, none⟩ = _ := (HB.out.cell (p := ⟨b, off + (k * 2 + 1), none⟩) hb).trans (hrow.at_ hg2)
      have hmem := List.getElem_mem hlt
      have HH := Lib.hid (has_of rs[k] a (wr.alloc (.cells #[.string rs[k].nm, .slice rs[k].ad rs[k].xs.length rs[k].cp] 48)) (((HIN.out.x _ hmem).below HB.out).alloc _) (HF.out.rel _ hmem).short)
      have HUS := Lib.hid (usesN_succ rs a k)
      have hha : hasAt rs a k = rs[k].xs.contains a := by unfold hasAt; rw [List.getElem?_eq_getElem hlt]
      rw [hha] at HUS
      have hul : (usesN rs a k).length ≤ k := filter_range_le _ _
      generalize rs[k].xs.contains a = bb at *
      generalize rs[k].nm = nm at *
      generalize rs[k].ad = ad at *
      generalize rs[k].cp = cp at *
      generalize rs[k].xs.length = xl at *
      clear hrow hg1 hg2 hmem hha
      cases bb
      · go_wp2_with fail
        refine HH.out.mono ?_
        rintro e w2 ⟨rfl, hb2⟩
        have HO2 := Lib.hid (own_below (HOWN.out.alloc _) hb2)
        have HB2 := Lib.hid (HBEL.out.trans (((Below.refl (w.heap.size + 1) wr).alloc (by omega) _).trans (hb2.mono (by simp; omega))))
        clear hb2
        go_wp2_with fail
        go_roundw
        case rel => exact ⟨k + 1, by go_num, by omega, by rw [HUS.out]; simp only [Bool.false_eq_true, if_false, List.append_nil]; exact HO2.out, HB2.out⟩
        case measure => simp [intOf]; omega
      · go_wp2_with fail
        refine HH.out.mono ?_
        rintro e w2 ⟨rfl, hb2⟩
        have HO2 := Lib.hid (own_below (HOWN.out.alloc _) hb2)
        have HB2 := Lib.hid (HBEL.out.trans (((Below.refl (w.heap.size + 1) wr).alloc (by omega) _).trans (hb2.mono (by simp; omega))))
        have hsz2 := HB2.out.size
        rw [World.size_alloc] at hsz2
        clear hb2
        go_wp2_with (at_builtin; refine wpList_append_own _ rfl _ _ 37 rfl (w.heap.size + 1) 3 i0 (.int .i64 0) 1 8 Tryz.underlying37 hi hz0 hz1 hz2 rfl (by decide) _ _ _ rfl (HO2.out.alloc _) ⟨w2.heap.size, 0, none⟩ 1 1 [_] rfl rfl one_new one_cell (by unfold maxLen; omega) (by omega) (by simp; omega) ?_)
        intro v' w3 hown3 hgrow3 _
        have HO3 := Lib.hid hown3
        have HB3 := Lib.hid (HB2.out.trans (app1 HO2.out hsz2 hgrow3))
        clear hown3 hgrow3
        go_wp2_with fail
        go_roundw
        case rel => exact ⟨k + 1, by go_num, by omega, by rw [HUS.out]; simp only [if_true]; rw [vn_snoc, List.length_append]; exact HO3.out, HB3.out⟩
        case measure => simp [intOf]; omega
    · obtain rfl : k = rs.length := by omega
      go_wp2_with fail
      go_ret
      exact ⟨_, rfl, own_low HOWN.out (by omega), HB.out⟩

end Go.Proofs.YtnjccldjlpkgkaaGreatDoor

namespace Go.Proofs.YtnjccldjlpkgkaaGreatDoor
open Go.RowKit

theorem fltN_succ (p : Nat → Bool) (k : Nat) : (List.range (k + 1)).filter p = (List.range k).filter p ++ if p k then [k] else [] := by
  rw [List.range_succ, List.filter_append]
  simp only [List.filter_cons, List.filter_nil]
/-- Is an attribute in several relations? -/
def joinB (rs : List RelV) (a : Nat) : Bool := decide (1 < (usesN rs a rs.length).length)
def joinedN (rs : List RelV) (k : Nat) : List Nat := (List.range k).filter (joinB rs)
def isNum (fs : List FeatV) (i : Nat) : Bool := match fs[i]? with | some f => f.k == 1 | none => false
def numsN (fs : List FeatV) (k : Nat) : List Nat := (List.range k).filter (isNum fs)

set_option maxRecDepth 100000 in
set_option maxHeartbeats 4000000 in
theorem Joined_of (S : SchV) (w : World) (hin : InMem w S) (hok : SchOK S) : Calls Tryz.prog 18 #[.agg S.cells] w (RetL w (joinedN S.rs S.at1.length)) := by
  obtain ⟨i0, hi, hz0, hz1, hz2⟩ := info_parts Tryz.infoInt
  have HU := Lib.hid (fun a W (hW : Below w.heap.size w W) => Uses_of S a W (hin.below hW) hok)
  have q2 := hok.fine.a2
  unfold SchV.cells at HU ⊢
  obtain ⟨at1, aa, ca, rs, ar, cr, fs, af, cf, lb⟩ := S
  simp only at q2 HU ⊢
  clear hin hok
  go_enter Tryz.func18, Tryz.ntmps18
  go_wp2_with fail
  go_loopw [3, 8] (fun v iv wr => ∃ k : Nat, iv = .int .i64 (k : Int) ∧ k ≤ at1.length ∧ wr.ownsRow (w.heap.size + 1) 3 1 v (joinedN rs k).length (vn (joinedN rs k)) ∧ Below (w.heap.size + 1) (w.alloc (.cells #[.slice aa at1.length ca, .slice ar rs.length cr, .slice af fs.length cf, .int .i64 lb] 44)) wr) (fun _ iv _ => at1.length - (intOf iv).toNat)
  case atStart => exact ⟨0, rfl, Nat.zero_le _, World.ownsRow_nil _ _ _ _, Below.refl _ _⟩
  case round =>
    obtain ⟨k, rfl, hk, hown, hbel⟩ := hrel
    have HOWN := Lib.hid hown
    have HBEL := Lib.hid hbel
    have hsz := hbel.size
    rw [World.size_alloc] at hsz
    have HB := Lib.hid (((Below.refl w.heap.size w).alloc (Nat.le_refl _) (.cells #[.slice aa at1.length ca, .slice ar rs.length cr, .slice af fs.length cf, .int .i64 lb] 44)).trans (hbel.mono (by omega)))
    have hs0 : wr.cell? ⟨w.heap.size, 0, none⟩ = some (.slice aa at1.length ca) := (hbel.cell (p := ⟨w.heap.size, 0, none⟩) (by simp)).trans (by simp)
    have hs1 : wr.cell? ⟨w.heap.size, 1, none⟩ = some (.slice ar rs.length cr) := (hbel.cell (p := ⟨w.heap.size, 1, none⟩) (by simp)).trans (by simp)
    have hs2 : wr.cell? ⟨w.heap.size, 2, none⟩ = some (.slice af fs.length cf) := (hbel.cell (p := ⟨w.heap.size, 2, none⟩) (by simp)).trans (by simp)
    have hs3 : wr.cell? ⟨w.heap.size, 3, none⟩ = some (.int .i64 lb) := (hbel.cell (p := ⟨w.heap.size, 3, none⟩) (by simp)).trans (by simp)
    clear hown hbel
    by_cases hlt : k < at1.length
    · have HUS : Hid (joinedN rs (k + 1) = joinedN rs k ++ if joinB rs k then [k] else []) := Lib.hid (fltN_succ _ k)
      have hul : (joinedN rs k).length ≤ k := filter_range_le _ _
      have hjd : joinB rs k = decide (1 < (usesN rs k rs.length).length) := rfl
      rw [hjd] at HUS
      clear hjd
      go_wp2_with fail
      refine (HU.out k wr HB.out).mono ?_
      rintro e w2 ⟨v2, rfl, ho2, hb2⟩
      obtain ⟨A2, c2, rfl, -, -, -⟩ := own_vrow ho2 (by rw [vn_length])
      have HO2 := Lib.hid (own_below HOWN.out hb2)
      have HB2 := Lib.hid (HBEL.out.trans (hb2.mono hsz))
      have hsz2 := HB2.out.size
      rw [World.size_alloc] at hsz2
      generalize (usesN rs k rs.length).length = ul at *
      clear hb2 ho2
      by_cases hu : 1 < ul
      · have HUS2 := Lib.hid (show joinedN rs (k + 1) = joinedN rs k ++ [k] by rw [HUS.out, decide_eq_true hu]; rfl)
        clear HUS
        go_wp2_with (at_builtin; refine wpList_append_own _ rfl _ _ 37 rfl (w.heap.size + 1) 3 i0 (.int .i64 0) 1 8 Tryz.underlying37 hi hz0 hz1 hz2 rfl (by decide) _ _ _ rfl (HO2.out.alloc _) ⟨w2.heap.size, 0, none⟩ 1 1 [_] rfl rfl one_new one_cell (by unfold maxLen; omega) (by omega) (by simp; omega) ?_)
        intro v' w3 hown3 hgrow3 _
        have HO3 := Lib.hid hown3
        have HB3 := Lib.hid (HB2.out.trans (app1 HO2.out hsz2 hgrow3))
        clear hown3 hgrow3
        go_wp2_with fail
        go_roundw
        case rel => exact ⟨k + 1, by go_num, by omega, by rw [HUS2.out, vn_snoc, List.length_append]; exact HO3.out, HB3.out⟩
        case measure => simp [intOf]; omega
      · have HUS2 := Lib.hid (show joinedN rs (k + 1) = joinedN rs k by rw [HUS.out, decide_eq_false hu]; simp)
        clear HUS
        go_wp2_with fail
        go_roundw
        case rel => exact ⟨k + 1, by go_num, by omega, by rw [HUS2.out]; exact HO2.out, HB2.out⟩
        case measure => simp [intOf]; omega
    · obtain rfl : k = at1.length := by omega
      go_wp2_with fail
      go_ret
      exact ⟨_, rfl, own_low HOWN.out (by omega), HB.out⟩

set_option maxRecDepth 100000 in
set_option maxHeartbeats 4000000 in
theorem Numbers_of (S : SchV) (w : World) (hin : InMem w S) (hok : SchOK S) : Calls Tryz.prog 19 #[.agg S.cells] w (RetL w (numsN S.fs S.fs.length)) := by
  obtain ⟨i0, hi, hz0, hz1, hz2⟩ := info_parts Tryz.infoInt
  have HCH := Lib.hid (Check_ok S (w.alloc (.cells S.cells 44)) (hin.below ((Below.refl _ _).alloc (Nat.le_refl _) _)) hok)
  have HIN := Lib.hid hin
  have q2 := hok.fine.f2
  unfold SchV.cells at HCH ⊢
  obtain ⟨at1, aa, ca, rs, ar, cr, fs, af, cf, lb⟩ := S
  simp only at q2 HCH ⊢
  clear hin hok
  go_enter Tryz.func19, Tryz.ntmps19
  go_wp2_with fail
  refine HCH.out.mono ?_
  rintro e w1 ⟨rfl, hb1⟩
  rw [World.size_alloc] at hb1
  have hs1 : w1.cell? ⟨w.heap.size, 2, none⟩ = some (.slice af fs.length cf) := (hb1.cell (p := ⟨w.heap.size, 2, none⟩) (by simp)).trans (by simp)
  have HB1 := Lib.hid hb1
  clear hb1
  go_wp2_with fail
  go_loopw [3, 12] (fun v iv wr => ∃ k : Nat, iv = .int .i64 (k : Int) ∧ k ≤ fs.length ∧ wr.ownsRow (w.heap.size + 1) 3 1 v (numsN fs k).length (vn (numsN fs k)) ∧ Below (w.heap.size + 1) (w.alloc (.cells #[.slice aa at1.length ca, .slice ar rs.length cr, .slice af fs.length cf, .int .i64 lb] 44)) wr) (fun _ iv _ => fs.length - (intOf iv).toNat)
  case atStart => exact ⟨0, rfl, Nat.zero_le _, World.ownsRow_nil _ _ _ _, HB1.out⟩
  case round =>
    obtain ⟨k, rfl, hk, hown, hbel⟩ := hrel
    have HOWN := Lib.hid hown
    have HBEL := Lib.hid hbel
    have hsz := hbel.size
    rw [World.size_alloc] at hsz
    have HB := Lib.hid (((Below.refl w.heap.size w).alloc (Nat.le_refl _) (.cells #[.slice aa at1.length ca, .slice ar rs.length cr, .slice af fs.length cf, .int .i64 lb] 44)).trans (hbel.mono (by omega)))
    clear hown hbel
    by_cases hlt : k < fs.length
    · obtain ⟨b, off, rfl, hb, hrow⟩ := HIN.out.f.some (fv_nil (by intro e; simp only at e; subst e; simp at hlt))
      obtain ⟨hg1, hg2, hg3⟩ := fv_get hlt
      have hc1 := (HB.out.cell (p := ⟨b, off + k * 3, none⟩) hb).trans (hrow.at_ hg1)
      have hc2 : wr.cell? ⟨b, off + k * 3 + 1, none⟩ = _ := (HB.out.cell (p := ⟨b, off + (k * 3 + 1), none⟩) hb).trans (hrow.at_ hg2)
      have hc3 : wr.cell? ⟨b, off + k * 3 + 2, none⟩ = _ := (HB.out.cell (p := ⟨b, off + (k * 3 + 2), none⟩) hb).trans (hrow.at_ hg3)
      have HUS : Hid (numsN fs (k + 1) = numsN fs k ++ if isNum fs k then [k] else []) := Lib.hid (fltN_succ _ k)
      have hul : (numsN fs k).length ≤ k := filter_range_le _ _
      have hjd : isNum fs k = (fs[k].k == 1) := by unfold isNum; rw [List.getElem?_eq_getElem hlt]
      rw [hjd] at HUS
      generalize fs[k].k = kk at *
      generalize fs[k].m = mm at *
      generalize fs[k].a = aaa at *
      clear hjd hrow hg1 hg2 hg3
      have HO1 := Lib.hid (HOWN.out.alloc (.cells #[.int .i64 (aaa : Int), .int .i64 kk, .int .i64 mm] 73))
      have HB2 := Lib.hid (HBEL.out.trans ((Below.refl (w.heap.size + 1) wr).alloc (by omega) (.cells #[.int .i64 (aaa : Int), .int .i64 kk, .int .i64 mm] 73)))
      cases hkk : (kk == 1)
      · rw [hkk] at HUS
        go_wp2_with fail
        go_roundw
        case rel => exact ⟨k + 1, by go_num, by omega, by rw [HUS.out]; simp only [Bool.false_eq_true, if_false, List.append_nil]; exact HO1.out, HB2.out⟩
        case measure => simp [intOf]; omega
      · rw [hkk] at HUS
        go_wp2_with (at_builtin; refine wpList_append_own _ rfl _ _ 37 rfl (w.heap.size + 1) 3 i0 (.int .i64 0) 1 8 Tryz.underlying37 hi hz0 hz1 hz2 rfl (by decide) _ _ _ rfl (HO1.out.alloc _) ⟨wr.heap.size + 1, 0, none⟩ 1 1 [_] rfl rfl (one_new' (by simp)) one_cell (by unfold maxLen; omega) (by omega) (by simp; omega) ?_)
        intro v' w3 hown3 hgrow3 _
        have HO3 := Lib.hid hown3
        have HB3 := Lib.hid (HB2.out.trans (app1 HO1.out (by simp; omega) hgrow3))
        clear hown3 hgrow3
        go_wp2_with fail
        go_roundw
        case rel => exact ⟨k + 1, by go_num, by omega, by rw [HUS.out]; simp only [if_true]; rw [vn_snoc, List.length_append]; exact HO3.out, HB3.out⟩
        case measure => simp [intOf]; omega
    · obtain rfl : k = fs.length := by omega
      go_wp2_with fail
      go_ret
      exact ⟨_, rfl, own_low HOWN.out (by omega), HB.out⟩

end Go.Proofs.YtnjccldjlpkgkaaGreatDoor

namespace Go.Proofs.YtnjccldjlpkgkaaGreatDoor
open Go.RowKit

/-- Where the first one stands. -/
def idxP {α : Type} (p : α → Bool) (l : List α) : Int := match l.findIdx? p with | some i => (i : Int) | none => -1
theorem idxP_at {α : Type} {p : α → Bool} {l : List α} {k : Nat} (hk : k < l.length) (h : p l[k] = true) (hb : ∀ j, (hj : j < l.length) → j < k → p l[j] = false) : idxP p l = k := by
  unfold idxP
  rw [show l.findIdx? p = some k from List.findIdx?_eq_some_iff_getElem.2 ⟨hk, h, fun j hj => by simp [hb j (by omega) hj]⟩]
theorem idxP_no {α : Type} {p : α → Bool} {l : List α} (hb : ∀ j, (hj : j < l.length) → p l[j] = false) : idxP p l = -1 := by
  unfold idxP
  rw [show l.findIdx? p = none from List.findIdx?_eq_none_iff.2 fun x hx => by
    obtain ⟨j, hj, e⟩ := List.getElem_of_mem hx
    rw [← e, hb j hj]]
theorem idxP_has {α : Type} (p : α → Bool) (l : List α) : decide (0 ≤ idxP p l) = l.any p := by
  rw [Bool.eq_iff_iff, decide_eq_true_eq, List.any_eq_true]
  unfold idxP
  constructor
  · intro h
    split at h
    · rename_i i e
      obtain ⟨hi, he, _⟩ := List.findIdx?_eq_some_iff_getElem.1 e
      exact ⟨_, List.getElem_mem hi, he⟩
    · omega
  · rintro ⟨x, hx, he⟩
    split
    · omega
    · rename_i e
      rw [List.findIdx?_eq_none_iff.1 e x hx] at he
      cases he

/-- Has a relation both attributes? -/
def bothB (a b : Nat) (r : RelV) : Bool := r.xs.contains a && r.xs.contains b
set_option maxRecDepth 100000 in
set_option maxHeartbeats 2000000 in
theorem link1 (r : RelV) (a b ga gb : Nat) (w : World) (h : Cells .i64 w r.ad r.xs) (hl : r.xs.length ≤ 1000) (ha : w.cell? ⟨ga, 0, none⟩ = some (.int .i64 (a : Int))) (hb : w.cell? ⟨gb, 0, none⟩ = some (.int .i64 (b : Int))) (hga : ga < w.heap.size) (hgb : gb < w.heap.size) :
    Calls Tryz.prog 46 #[.agg #[.string r.nm, .slice r.ad r.xs.length r.cp], .pointer (some ⟨ga, 0, none⟩), .pointer (some ⟨gb, 0, none⟩)] w fun e w' => e = .returned (.bool (bothB a b r)) ∧ Below w.heap.size w w' := by
  have HB0 := Lib.hid ((Below.refl w.heap.size w).alloc (Nat.le_refl _) (.cells #[.string r.nm, .slice r.ad r.xs.length r.cp] 48))
  have HA := Lib.hid (fun x W (hW : Below w.heap.size w W) => has_of r x W (h.below hW) hl)
  have E : Hid (bothB a b r = (r.xs.contains a && r.xs.contains b)) := Lib.hid rfl
  have HX := Lib.hid (HA.out a)
  have HY := Lib.hid (HA.out b)
  clear HA h
  obtain ⟨nm, ad, cp, xs⟩ := r
  simp only at HB0 HX HY E ⊢
  generalize bothB a b _ = res at *
  generalize xs.contains a = b1 at *
  generalize xs.contains b = b2 at *
  obtain rfl := E.out
  clear E
  cases b1
  · go_enter Tryz.func46, Tryz.ntmps46
    go_wp2_with fail
    refine (HX.out _ HB0.out).mono ?_
    rintro e w2 ⟨rfl, hb2⟩
    have HB2 := Lib.hid (HB0.out.trans (hb2.mono HB0.out.size))
    clear hb2
    go_wp2_with fail
    go_ret
    exact ⟨rfl, HB2.out⟩
  · go_enter Tryz.func46, Tryz.ntmps46
    go_wp2_with fail
    refine (HX.out _ HB0.out).mono ?_
    rintro e w2 ⟨rfl, hb2⟩
    have hd1 : w2.cell? ⟨w.heap.size, 0, none⟩ = some (.string nm) := (hb2.cell (p := ⟨w.heap.size, 0, none⟩) (by simp)).trans (by simp)
    have hd2 : w2.cell? ⟨w.heap.size, 1, none⟩ = some (.slice ad xs.length cp) := (hb2.cell (p := ⟨w.heap.size, 1, none⟩) (by simp)).trans (by simp)
    have HB2 := Lib.hid (HB0.out.trans (hb2.mono HB0.out.size))
    have hcb := (HB2.out.cell (p := ⟨gb, 0, none⟩) hgb).trans hb
    clear hb2
    go_wp2_with fail
    refine (HY.out _ HB2.out).mono ?_
    rintro e w3 ⟨rfl, hb3⟩
    have HB3 := Lib.hid (HB2.out.trans (hb3.mono HB2.out.size))
    clear hb3
    go_wp2_with fail
    go_ret
    exact ⟨rfl, HB3.out⟩

set_option maxRecDepth 100000 in
set_option maxHeartbeats 4000000 in
theorem IdxRel (bk off a b ga gb c : Nat) (rs : List RelV) (w : World) (h : VRow w (some ⟨bk, off, none⟩) (relv rs)) (hbk : bk < w.heap.size) (hl : rs.length ≤ 1000) (hx : ∀ r ∈ rs, Cells .i64 w r.ad r.xs ∧ r.xs.length ≤ 1000) (ha : w.cell? ⟨ga, 0, none⟩ = some (.int .i64 (a : Int))) (hb : w.cell? ⟨gb, 0, none⟩ = some (.int .i64 (b : Int))) (hga : ga < w.heap.size) (hgb : gb < w.heap.size) :
    Calls Tryz.prog 66 #[.slice (some ⟨bk, off, none⟩) rs.length c, .func (.func 46) #[] #[.pointer (some ⟨ga, 0, none⟩), .pointer (some ⟨gb, 0, none⟩)]] w fun e w' => e = .returned (.int .i64 (idxP (bothB a b) rs)) ∧ Below w.heap.size w w' := by
  have HROW := Lib.hid h
  have HX := Lib.hid hx
  have HA := Lib.hid ha
  have HBB := Lib.hid hb
  clear h hx ha hb
  go_enter Tryz.func66, Tryz.ntmps66
  go_wp2_with fail
  go_loopw [8] (fun iv wr => ∃ k : Nat, iv = .int .i64 (k : Int) ∧ k ≤ rs.length ∧ (∀ j, (hj : j < rs.length) → j < k → bothB a b rs[j] = false) ∧ Below w.heap.size w wr) (fun iv _ => rs.length - (intOf iv).toNat)
  case atStart => exact ⟨0, rfl, Nat.zero_le _, fun j _ h => absurd h (by omega), Below.refl _ _⟩
  case round =>
    obtain ⟨k, rfl, hk, hall, hbel⟩ := hrel
    have HB := Lib.hid hbel
    have HALL := Lib.hid hall
    clear hbel hall
    by_cases hlt : k < rs.length
    · obtain ⟨hg1, hg2⟩ := relv_get hlt
      have hc1 := (HB.out.cell (p := ⟨bk, off + k * 2, none⟩) hbk).trans (HROW.out.at_ hg1)
      have hc2' : wr.cell? ⟨bk, off + k * 2 + 1, none⟩ = _ := (HB.out.cell (p := ⟨bk, off + (k * 2 + 1), none⟩) hbk).trans (HROW.out.at_ hg2)
      obtain ⟨hx1, hx2⟩ := HX.out _ (List.getElem_mem hlt)
      have HP := Lib.hid (link1 rs[k] a b ga gb wr (hx1.below HB.out) hx2 ((HB.out.cell (p := ⟨ga, 0, none⟩) hga).trans HA.out) ((HB.out.cell (p := ⟨gb, 0, none⟩) hgb).trans HBB.out) (by have := HB.out.size; omega) (by have := HB.out.size; omega))
      have HN := Lib.hid (fun (h : bothB a b rs[k] = true) => idxP_at hlt h HALL.out)
      have HS := Lib.hid (fun (h : bothB a b rs[k] = false) j (hj : j < rs.length) (hjk : j < k + 1) => show bothB a b rs[j] = false by
        rcases Nat.lt_or_ge j k with h1 | h1
        · exact HALL.out j hj h1
        · obtain rfl : j = k := by omega
          exact h)
      generalize bothB a b rs[k] = bb at *
      generalize rs[k].nm = nm at *
      generalize rs[k].ad = ad at *
      generalize rs[k].cp = cp at *
      generalize rs[k].xs.length = xl at *
      clear hg1 hg2 hx1 hx2
      cases bb
      · have E := Lib.hid (HS.out rfl)
        clear HS HN
        go_wp2_with fail
        refine HP.out.mono ?_
        rintro e w2 ⟨rfl, hb2⟩
        have HB2 := Lib.hid (HB.out.trans (hb2.mono HB.out.size))
        clear hb2
        go_wp2_with fail
        go_roundw
        case rel => exact ⟨k + 1, by go_num, by omega, E.out, HB2.out⟩
        case measure => simp [intOf]; omega
      · have E := Lib.hid (HN.out rfl)
        go_wp2_with fail
        refine HP.out.mono ?_
        rintro e w2 ⟨rfl, hb2⟩
        have HB2 := Lib.hid (HB.out.trans (hb2.mono HB.out.size))
        clear hb2
        go_wp2_with fail
        go_ret
        exact ⟨by rw [E.out]; rfl, HB2.out⟩
    · obtain rfl : k = rs.length := by omega
      have E := Lib.hid (idxP_no (p := bothB a b) (l := rs) fun j hj => HALL.out j hj hj)
      go_wp2_with fail
      go_ret
      exact ⟨by rw [E.out]; rfl, HB.out⟩
set_option maxRecDepth 100000 in
theorem ConRel (bk off a b ga gb c : Nat) (rs : List RelV) (w : World) (h : VRow w (some ⟨bk, off, none⟩) (relv rs)) (hbk : bk < w.heap.size) (hl : rs.length ≤ 1000) (hx : ∀ r ∈ rs, Cells .i64 w r.ad r.xs ∧ r.xs.length ≤ 1000) (ha : w.cell? ⟨ga, 0, none⟩ = some (.int .i64 (a : Int))) (hb : w.cell? ⟨gb, 0, none⟩ = some (.int .i64 (b : Int))) (hga : ga < w.heap.size) (hgb : gb < w.heap.size) :
    Calls Tryz.prog 45 #[.slice (some ⟨bk, off, none⟩) rs.length c, .func (.func 46) #[] #[.pointer (some ⟨ga, 0, none⟩), .pointer (some ⟨gb, 0, none⟩)]] w fun e w' => e = .returned (.bool (rs.any (bothB a b))) ∧ Below w.heap.size w w' := by
  have H := Lib.hid (IdxRel bk off a b ga gb c rs w h hbk hl hx ha hb hga hgb)
  have E := Lib.hid (idxP_has (bothB a b) rs)
  generalize rs.any (bothB a b) = r at *
  generalize idxP (bothB a b) rs = z at *
  clear h hx ha hb
  go_enter Tryz.func45, Tryz.ntmps45
  go_wp2_with fail
  refine H.out.mono ?_
  rintro e w' ⟨rfl, hb2⟩
  have HB2 := Lib.hid hb2
  clear hb2
  go_wp2_with fail
  go_ret
  exact ⟨by rw [← E.out]; rfl, HB2.out⟩
set_option maxRecDepth 100000 in
set_option maxHeartbeats 2000000 in
theorem Linked_of (S : SchV) (a b : Nat) (w : World) (hin : InMem w S) (hok : SchOK S) : Calls Tryz.prog 21 #[.agg S.cells, .int .i64 (a : Int), .int .i64 (b : Int)] w fun e w' => e = .returned (.bool (S.rs.any (bothB a b))) ∧ Below w.heap.size w w' := by
  have HB0 := Lib.hid ((((Below.refl w.heap.size w).alloc (Nat.le_refl _) (.cells S.cells 44)).alloc (by simp) (.cells #[.int .i64 (a : Int)] 3)).alloc (by simp; omega) (.cells #[.int .i64 (b : Int)] 3))
  have HCH := Lib.hid (Check_ok S (((w.alloc (.cells S.cells 44)).alloc (.cells #[.int .i64 (a : Int)] 3)).alloc (.cells #[.int .i64 (b : Int)] 3)) (hin.below HB0.out) hok)
  have HIN := Lib.hid hin
  have HF := Lib.hid hok.fine
  have q1 := hok.fine.r1
  have q2 := hok.fine.r2
  unfold SchV.cells at HCH HB0 ⊢
  obtain ⟨at1, aa, ca, rs, ar, cr, fs, af, cf, lb⟩ := S
  simp only at q1 q2 HCH HB0 ⊢
  obtain ⟨bk, off, rfl, hbk, hrow⟩ := hin.r.some (relv_nil (by intro e; simp only at e; subst e; simp at q1))
  clear hin hok hrow
  go_enter Tryz.func21, Tryz.ntmps21
  go_wp2_with fail
  refine HCH.out.mono ?_
  rintro e w1 ⟨rfl, hb1⟩
  have HB1 := Lib.hid (HB0.out.trans (hb1.mono HB0.out.size))
  have hsz := hb1.size
  simp only [World.size_alloc] at hsz
  have hs1 : w1.cell? ⟨w.heap.size, 1, none⟩ = some (.slice (some ⟨bk, off, none⟩) rs.length cr) := by rw [hb1.cell (p := ⟨w.heap.size, 1, none⟩) (by simp only [World.size_alloc]; omega)]; go_simp
  have hca : w1.cell? ⟨w.heap.size + 1, 0, none⟩ = some (.int .i64 (a : Int)) := by rw [hb1.cell (p := ⟨w.heap.size + 1, 0, none⟩) (by simp only [World.size_alloc]; omega)]; go_simp
  have hcb : w1.cell? ⟨w.heap.size + 2, 0, none⟩ = some (.int .i64 (b : Int)) := by rw [hb1.cell (p := ⟨w.heap.size + 2, 0, none⟩) (by simp only [World.size_alloc]; omega)]; go_simp
  have HC := Lib.hid (ConRel bk off a b (w.heap.size + 1) (w.heap.size + 2) cr rs w1 (HIN.out.below HB1.out).r (by omega) (by omega) (fun r hr => ⟨(HIN.out.below HB1.out).x r hr, (HF.out.rel r hr).short⟩) hca hcb (by omega) (by omega))
  clear hb1 hca hcb
  go_wp2_with fail
  refine HC.out.mono ?_
  rintro e w2 ⟨rfl, hb2⟩
  have HB2 := Lib.hid (HB1.out.trans (hb2.mono HB1.out.size))
  clear hb2
  go_wp2_with fail
  go_ret
  exact ⟨rfl, HB2.out⟩

end Go.Proofs.YtnjccldjlpkgkaaGreatDoor

namespace Go.Proofs.YtnjccldjlpkgkaaGreatDoor
open Go.RowKit

/-- Has an attribute this name? -/
def nmB (nm : ByteArray) (a : ByteArray × Int) : Bool := a.1.toList == nm.toList
set_option maxRecDepth 100000 in
set_option maxHeartbeats 2000000 in
theorem find1 (s nm : ByteArray) (z : Int) (g : Nat) (w : World) (h : w.cell? ⟨g, 0, none⟩ = some (.string nm)) (hg : g < w.heap.size) :
    Calls Tryz.prog 49 #[.agg #[.string s, .int .i64 z], .pointer (some ⟨g, 0, none⟩)] w fun e w' => e = .returned (.bool (nmB nm (s, z))) ∧ Below w.heap.size w w' := by
  go_enter Tryz.func49, Tryz.ntmps49
  go_wp2_with fail
  go_ret
  exact ⟨rfl, (Below.refl _ _).alloc (Nat.le_refl _) _⟩
set_option maxRecDepth 100000 in
set_option maxHeartbeats 4000000 in
theorem IdxAt (bk off g c : Nat) (nm : ByteArray) (at1 : List (ByteArray × Int)) (w : World) (h : VRow w (some ⟨bk, off, none⟩) (av at1)) (hbk : bk < w.heap.size) (hl : at1.length ≤ 1000) (hg : w.cell? ⟨g, 0, none⟩ = some (.string nm)) (hgl : g < w.heap.size) :
    Calls Tryz.prog 48 #[.slice (some ⟨bk, off, none⟩) at1.length c, .func (.func 49) #[] #[.pointer (some ⟨g, 0, none⟩)]] w fun e w' => e = .returned (.int .i64 (idxP (nmB nm) at1)) ∧ Below w.heap.size w w' := by
  have HROW := Lib.hid h
  have HA := Lib.hid hg
  clear h hg
  go_enter Tryz.func48, Tryz.ntmps48
  go_wp2_with fail
  go_loopw [8] (fun iv wr => ∃ k : Nat, iv = .int .i64 (k : Int) ∧ k ≤ at1.length ∧ (∀ j, (hj : j < at1.length) → j < k → nmB nm at1[j] = false) ∧ Below w.heap.size w wr) (fun iv _ => at1.length - (intOf iv).toNat)
  case atStart => exact ⟨0, rfl, Nat.zero_le _, fun j _ h => absurd h (by omega), Below.refl _ _⟩
  case round =>
    obtain ⟨k, rfl, hk, hall, hbel⟩ := hrel
    have HB := Lib.hid hbel
    have HALL := Lib.hid hall
    clear hbel hall
    by_cases hlt : k < at1.length
    · obtain ⟨hg1, hg2⟩ := av_get hlt
      have hc1 := (HB.out.cell (p := ⟨bk, off + k * 2, none⟩) hbk).trans (HROW.out.at_ hg1)
      have hc2' : wr.cell? ⟨bk, off + k * 2 + 1, none⟩ = _ := (HB.out.cell (p := ⟨bk, off + (k * 2 + 1), none⟩) hbk).trans (HROW.out.at_ hg2)
      have HP := Lib.hid (find1 at1[k].1 nm at1[k].2 g wr ((HB.out.cell (p := ⟨g, 0, none⟩) hgl).trans HA.out) (by have := HB.out.size; omega))
      have HN := Lib.hid (fun (h : nmB nm at1[k] = true) => idxP_at hlt h HALL.out)
      have HS := Lib.hid (fun (h : nmB nm at1[k] = false) j (hj : j < at1.length) (hjk : j < k + 1) => show nmB nm at1[j] = false by
        rcases Nat.lt_or_ge j k with h1 | h1
        · exact HALL.out j hj h1
        · obtain rfl : j = k := by omega
          exact h)
      rw [show (at1[k].1, at1[k].2) = at1[k] from rfl] at HP
      generalize nmB nm at1[k] = bb at *
      generalize at1[k].1 = s at *
      generalize at1[k].2 = z at *
      clear hg1 hg2
      cases bb
      · have E := Lib.hid (HS.out rfl)
        clear HS HN
        go_wp2_with fail
        refine HP.out.mono ?_
        rintro e w2 ⟨rfl, hb2⟩
        have HB2 := Lib.hid (HB.out.trans (hb2.mono HB.out.size))
        clear hb2
        go_wp2_with fail
        go_roundw
        case rel => exact ⟨k + 1, by go_num, by omega, E.out, HB2.out⟩
        case measure => simp [intOf]; omega
      · have E := Lib.hid (HN.out rfl)
        clear HS HN
        go_wp2_with fail
        refine HP.out.mono ?_
        rintro e w2 ⟨rfl, hb2⟩
        have HB2 := Lib.hid (HB.out.trans (hb2.mono HB.out.size))
        clear hb2
        go_wp2_with fail
        go_ret
        exact ⟨by rw [E.out]; rfl, HB2.out⟩
    · obtain rfl : k = at1.length := by omega
      have E := Lib.hid (idxP_no (p := nmB nm) (l := at1) fun j hj => HALL.out j hj hj)
      go_wp2_with fail
      go_ret
      exact ⟨by rw [E.out]; rfl, HB.out⟩
set_option maxRecDepth 100000 in
set_option maxHeartbeats 2000000 in
theorem Find_of (S : SchV) (nm : ByteArray) (w : World) (hin : InMem w S) (hok : SchOK S) : Calls Tryz.prog 23 #[.agg S.cells, .string nm] w fun e w' => e = .returned (.int .i64 (idxP (nmB nm) S.at1)) ∧ Below w.heap.size w w' := by
  have HB0 := Lib.hid (((Below.refl w.heap.size w).alloc (Nat.le_refl _) (.cells S.cells 44)).alloc (by simp) (.cells #[.string nm] 9))
  have HCH := Lib.hid (Check_ok S ((w.alloc (.cells S.cells 44)).alloc (.cells #[.string nm] 9)) (hin.below HB0.out) hok)
  have HIN := Lib.hid hin
  have q1 := hok.fine.a1
  have q2 := hok.fine.a2
  unfold SchV.cells at HCH HB0 ⊢
  obtain ⟨at1, aa, ca, rs, ar, cr, fs, af, cf, lb⟩ := S
  simp only at q1 q2 HCH HB0 ⊢
  obtain ⟨bk, off, rfl, hbk, hrow⟩ := hin.a.some (av_nil (by intro e; simp only at e; subst e; simp at q1))
  clear hin hok hrow
  go_enter Tryz.func23, Tryz.ntmps23
  go_wp2_with fail
  refine HCH.out.mono ?_
  rintro e w1 ⟨rfl, hb1⟩
  have HB1 := Lib.hid (HB0.out.trans (hb1.mono HB0.out.size))
  have hsz := hb1.size
  simp only [World.size_alloc] at hsz
  have hs1 : w1.cell? ⟨w.heap.size, 0, none⟩ = some (.slice (some ⟨bk, off, none⟩) at1.length ca) := by rw [hb1.cell (p := ⟨w.heap.size, 0, none⟩) (by simp only [World.size_alloc]; omega)]; go_simp
  have hca : w1.cell? ⟨w.heap.size + 1, 0, none⟩ = some (.string nm) := by rw [hb1.cell (p := ⟨w.heap.size + 1, 0, none⟩) (by simp only [World.size_alloc]; omega)]; go_simp
  have HC := Lib.hid (IdxAt bk off (w.heap.size + 1) ca nm at1 w1 (HIN.out.below HB1.out).a (by omega) (by omega) hca (by omega))
  clear hb1 hca
  go_wp2_with fail
  refine HC.out.mono ?_
  rintro e w2 ⟨rfl, hb2⟩
  have HB2 := Lib.hid (HB1.out.trans (hb2.mono HB1.out.size))
  clear hb2
  go_wp2_with fail
  go_ret
  exact ⟨rfl, HB2.out⟩

set_option maxRecDepth 100000 in
set_option maxHeartbeats 2000000 in
theorem RIn_of (A : Option Addr) (xs : List Nat) (c x : Nat) (w : World) (h : Cells .i64 w A xs) (hl : xs.length ≤ 1000) : Calls Tryz.prog 47 #[.slice A xs.length c, .int .i64 (x : Int)] w fun e w' => e = .returned (.bool (xs.contains x)) ∧ w = w' := by
  have HC := Lib.hid h
  obtain ⟨res, hres⟩ : ∃ res, xs.contains x = res := ⟨_, rfl⟩
  have HRES := Lib.hid hres
  rw [hres]
  clear h hres
  go_enter Tryz.func47, Tryz.ntmps47
  go_wp2_with fail
  go_loop [9] (fun iv => ∃ k : Nat, iv = .int .i64 (k : Int) ∧ k ≤ xs.length ∧ (xs.take k).contains x = false) (fun iv => xs.length - (intOf iv).toNat)
  case atStart => exact ⟨0, rfl, Nat.zero_le _, rfl⟩
  case round =>
    obtain ⟨k, rfl, hk, hall⟩ := hrel
    have HALL := Lib.hid hall
    clear hall
    by_cases hlt : k < xs.length
    · obtain ⟨b, off, rfl, hb, hc⟩ := HC.out (by intro e; subst e; simp at hlt)
      have hck := hc k hlt
      have HT := Lib.hid (show (xs.take (k + 1)).contains x = ((xs.take k).contains x || x == nth xs k) by
        rw [List.take_succ_eq_append_getElem hlt, show nth xs k = xs[k] by simp [nth, hlt], Bool.eq_iff_iff, List.contains_iff_mem, List.mem_append, List.mem_singleton, Bool.or_eq_true, List.contains_iff_mem, beq_iff_eq])
      generalize nth xs k = y at *
      clear hc
      by_cases hxy : y = x
      · subst hxy
        have E := Lib.hid (show res = true by
          have h1 := HT.out
          rw [← HRES.out]
          rw [beq_self_eq_true, Bool.or_true, List.contains_iff_mem] at h1
          rw [List.contains_iff_mem]
          exact List.mem_of_mem_take h1)
        go_wp2_with fail
        go_ret
        exact ⟨by rw [E.out]; rfl, rfl⟩
      · have hne : ((y : Int) == (x : Int)) = false := by rw [beq_eq_false_iff_ne]; omega
        have E := Lib.hid (show (xs.take (k + 1)).contains x = false by rw [HT.out, HALL.out, Bool.false_or, beq_eq_false_iff_ne]; exact fun e => hxy e.symm)
        clear hxy
        go_wp2_with fail
        go_round
        case rel => exact ⟨k + 1, by go_num, by omega, E.out⟩
        case measure => simp [intOf]; omega
    · have E := Lib.hid (show res = false by rw [← HRES.out]; have h1 := HALL.out; rw [List.take_of_length_le (by omega)] at h1; exact h1)
      go_wp2_with fail
      go_ret
      exact ⟨by rw [E.out]; rfl, rfl⟩
set_option maxRecDepth 100000 in
theorem MIn_of (A : Option Addr) (xs : List Nat) (c x : Nat) (w : World) (h : Cells .i64 w A xs) (hl : xs.length ≤ 1000) : Calls Tryz.prog 22 #[.slice A xs.length c, .int .i64 (x : Int)] w fun e w' => e = .returned (.bool (xs.contains x)) ∧ w = w' := by
  have H := Lib.hid (RIn_of A xs c x w h hl)
  generalize xs.contains x = r at *
  clear h
  go_enter Tryz.func22, Tryz.ntmps22
  go_wp2_with fail
  refine H.out.mono ?_
  rintro e w' ⟨rfl, rfl⟩
  go_wp2_with fail
  go_ret
  exact ⟨rfl, rfl⟩
set_option maxRecDepth 100000 in
set_option maxHeartbeats 2000000 in
theorem Ints_of (A B : Option Addr) (xs ys : List Nat) (c d : Nat) (w : World) (h : Cells .i64 w A xs) (h2 : Cells .i64 w B ys) (hl : xs.length ≤ 1000) : Calls Tryz.prog 17 #[.slice A xs.length c, .slice B ys.length d] w fun e w' => e = .returned (.bool (decide (xs = ys))) ∧ Below w.heap.size w w' := by
  have HC := Lib.hid h
  have HD := Lib.hid h2
  clear h h2
  by_cases hll : xs.length = ys.length
  · have HLL := Lib.hid hll
    have hn : ((xs.length : Int) != (ys.length : Int)) = false := by rw [hll]; simp
    have hll2 : xs.length ≤ ys.length := by omega
    clear hll
    go_enter Tryz.func17, Tryz.ntmps17
    go_wp2_with fail
    clear hn
    go_loopw [13] (fun iv wr => ∃ k m : Nat, iv = .int .i64 (k : Int) ∧ k ≤ xs.length ∧ (∀ i, i < k → nth xs i = nth ys i) ∧ wr = w.drewN m) (fun iv _ => xs.length - (intOf iv).toNat)
    case atStart => exact ⟨0, 0, rfl, Nat.zero_le _, fun i hi => absurd hi (by omega), rfl⟩
    case round =>
      obtain ⟨k, m, rfl, hk, hall, rfl⟩ := hrel
      have HALL := Lib.hid hall
      clear hall
      by_cases hlt : k < xs.length
      · obtain ⟨b, off, rfl, hb, hc⟩ := HC.out (by intro e; subst e; simp at hlt)
        obtain ⟨b', off', rfl, hb', hc'⟩ := HD.out (by intro e; rw [e] at hll2; simp only [List.length_nil] at hll2; omega)
        have hck := hc k hlt
        have hck' := hc' k (by omega)
        have hky : k < ys.length := by omega
        have HN := Lib.hid (fun (h : nth xs k ≠ nth ys k) => show decide (xs = ys) = false from decide_eq_false fun e => h (by rw [e]))
        have HS := Lib.hid (fun (h : nth xs k = nth ys k) i (hi : i < k + 1) => show nth xs i = nth ys i by
          rcases Nat.lt_or_ge i k with h1 | h1
          · exact HALL.out i h1
          · obtain rfl : i = k := by omega
            exact h)
        generalize nth xs k = x at *
        generalize nth ys k = y at *
        clear hc hc'
        by_cases hxy : x = y
        · have E := Lib.hid (HS.out hxy)
          subst hxy
          clear HS HN
          go_wp2_with fail
          go_quiet (fail)
          go_wp2_with fail
          go_roundw
          case rel => exact ⟨k + 1, _, by go_num, by omega, E.out, rfl⟩
          case measure => simp [intOf]; omega
        · have E := Lib.hid (HN.out hxy)
          have hne : ((x : Int) != (y : Int)) = true := by rw [bne, Bool.not_eq_true', beq_eq_false_iff_ne]; omega
          clear HS HN hxy
          go_wp2_with fail
          go_quiet (fail)
          go_wp2_with fail
          go_ret
          exact ⟨by rw [E.out]; rfl, below_drewN (below_drewN (Below.refl _ _) _) _⟩
      · have E := Lib.hid (show decide (xs = ys) = true from decide_eq_true (by
          apply List.ext_getElem HLL.out
          intro i h1 h2
          have h3 := HALL.out i (by omega)
          simpa [nth, h1, h2] using h3))
        go_wp2_with fail
        go_ret
        exact ⟨by rw [E.out]; rfl, below_drewN (Below.refl _ _) _⟩
  · have E := Lib.hid (show decide (xs = ys) = false from decide_eq_false fun e => hll (by rw [e]))
    have hn : ((xs.length : Int) != (ys.length : Int)) = true := by rw [bne, Bool.not_eq_true', beq_eq_false_iff_ne]; omega
    clear hll
    go_enter Tryz.func17, Tryz.ntmps17
    go_wp2_with fail
    go_ret
    exact ⟨by rw [E.out]; rfl, Below.refl _ _⟩

end Go.Proofs.YtnjccldjlpkgkaaGreatDoor
