/-
  The walk of SchemaOrder.
-/
import Derived.Test.YtnjccldjlpkgkaaGreatDoorZSI
namespace Go.Proofs.YtnjccldjlpkgkaaGreatDoor
open Go.RowKit

/-- Both schemas lie in their boxes, and their lists in memory. -/
structure UO (w wr : World) (g : Nat) (S T : SchV) : Prop where
  s : US w wr g S
  t : US w wr (g + 1) T
theorem UO.below {w wr w' : World} {g : Nat} {S T : SchV} (h : UO w wr g S T) (hb : Below wr.heap.size wr w') : UO w w' g S T := ⟨h.s.below hb, h.t.below hb⟩
theorem UO.drew {w wr : World} {g : Nat} {S T : SchV} (h : UO w wr g S T) : UO w wr.drew g S T := h.below (Below.refl _ _).drew

theorem UO.k8 {w w' : World} {g : Nat} {at1 : List (ByteArray × Int)} {aa ar Ar af : Option Addr} {ca cr ac cf : Nat} {rs qs : List RelV} {fs : List FeatV} {lb : Int} (h : UO w w' g ⟨at1, aa, ca, rs, ar, cr, fs, af, cf, lb⟩ ⟨at1, aa, ca, qs, Ar, ac, fs, af, cf, lb⟩) :
    w'.cell? ⟨g, 0, none⟩ = some (.slice aa at1.length ca) ∧ w'.cell? ⟨g, 1, none⟩ = some (.slice ar rs.length cr) ∧ w'.cell? ⟨g, 2, none⟩ = some (.slice af fs.length cf) ∧ w'.cell? ⟨g, 3, none⟩ = some (.int .i64 lb) ∧ w'.cell? ⟨g + 1, 0, none⟩ = some (.slice aa at1.length ca) ∧ w'.cell? ⟨g + 1, 1, none⟩ = some (.slice Ar qs.length ac) ∧ w'.cell? ⟨g + 1, 2, none⟩ = some (.slice af fs.length cf) ∧ w'.cell? ⟨g + 1, 3, none⟩ = some (.int .i64 lb) :=
  ⟨h.s.box.at_ (i := 0) rfl, h.s.box.at_ (i := 1) rfl, h.s.box.at_ (i := 2) rfl, h.s.box.at_ (i := 3) rfl, h.t.box.at_ (i := 0) rfl, h.t.box.at_ (i := 1) rfl, h.t.box.at_ (i := 2) rfl, h.t.box.at_ (i := 3) rfl⟩
theorem ints_same (A B : Option Addr) (xs : List Nat) (c d : Nat) (w : World) (h : Cells .i64 w A xs) (h2 : Cells .i64 w B xs) (hl : xs.length ≤ 1000) : Calls Tryz.prog 17 #[.slice A xs.length c, .slice B xs.length d] w fun e w' => e = .returned (.bool true) ∧ Below w.heap.size w w' := by
  have := Ints_of A B xs xs c d w h h2 hl
  rw [decide_eq_true rfl] at this
  exact this

theorem ret_len {w w' : World} {us : List Nat} {n : Nat} {e : Ending} (h : RetL w us e w') (hn : us.length = n) : ∃ A c, e = .returned (.slice A n c) ∧ Below w.heap.size w w' := by
  obtain ⟨A, c, e1, _, hb⟩ := h.row
  exact ⟨A, c, by rw [← hn]; exact e1, hb⟩

set_option maxRecDepth 100000 in
set_option maxHeartbeats 8000000 in
theorem SchemaOrder_any (A : Option Addr) (l cp : Nat) (w : World) (h : Ints w A l) (hlc : l ≤ cp) (hl : l ≤ 9223372036854775807) (henv : Env w) : Calls Tryz.prog 4 #[.slice A l cp] w fun e w' => e = .returned (.bool true) ∧ Below w.heap.size w w' := by
  have HE := Lib.hid henv
  have HI := Lib.hid h
  clear henv h
  by_cases h300 : 300 < l
  · go_enter Tryz.func4, Tryz.ntmps4
    go_wp2_with fail
    refine (SSane w HE.out).mono ?_
    rintro e w1 ⟨rfl, hb⟩
    have HB := Lib.hid hb
    clear hb
    go_wp2_with fail
    go_ret
    exact ⟨rfl, HB.out⟩
  · have h3 : decide ((300 : Int) < (l : Int)) = false := by simp; omega
    obtain ⟨i2, hi2, hzr0, hzr1, hzr2⟩ := info_parts Tryz.infoRel
    go_enter Tryz.func4, Tryz.ntmps4
    go_wp2_with fail
    clear h3
    refine (New_any A l cp w HI.out hlc hl).mono ?_
    rintro e w0 ⟨rfl, hs, hb⟩
    have HS := Lib.hid hs
    have HB := Lib.hid hb
    clear hs hb HI
    go_wp2_with fail
    refine (Schema_any w.heap.size 6 w0 HS.out (by decide) (by decide)).mono ?_
    rintro e w1 ⟨S, rfl, hok, hat, hrs, hga, hgr, hin, hs, hg, hinm⟩
    have HOK := Lib.hid hok
    have HINM := Lib.hid hinm
    have HB1 := Lib.hid (below_grown HB.out HB.out.size hg)
    have HS1 := Lib.hid hs
    have hbw := hs.lt
    have HW := Lib.hid (show w.heap.size < w1.heap.size from hbw)
    clear hok hga hgr hin hs hg HB HS hinm
    unfold SchV.cells
    obtain ⟨at1, aa, ca, rs, ar, cr, fs, af, cf, lb⟩ := S
    simp only at hat hrs ⊢
    go_wp2_with fail
    have HS2 := Lib.hid ((HS1.out.below ((Below.refl _ _).alloc (Nat.le_refl _) (.cells #[.slice aa at1.length ca, .slice ar rs.length cr, .slice af fs.length cf, .int .i64 lb] 44))).below ((Below.refl _ _).alloc (Nat.le_refl _) (.cells #[.slice aa at1.length ca, .slice none 0 0, .slice af fs.length cf, .int .i64 lb] 44)))
    refine (Shuffle_any w.heap.size rs.length _ HS2.out (by omega)).mono ?_
    rintro e w4 ⟨pv, ps, rfl, hperm, hown, hsr, hgr⟩
    have HPM := Lib.hid hperm
    have hpl : ps.length = rs.length := by have := hperm.length_eq; rwa [List.length_range] at this
    obtain ⟨Ap, cp', rfl, hcp⟩ := own_form hown
    have HSO : Hid (SO w1 w4 w.heap.size ⟨at1, aa, ca, rs, ar, cr, fs, af, cf, lb⟩ (.slice none 0 0) (.slice Ap ps.length cp') ps 0) := Lib.hid
      ⟨((Blk.new w1 _ [.slice aa at1.length ca, .slice ar rs.length cr, .slice af fs.length cf, .int .i64 lb]).alloc _).grown hgr (fun e => by injection e with e; omega), (Blk.new' (by simp) _ [.slice aa at1.length ca, .slice none 0 0, .slice af fs.length cf, .int .i64 lb]).grown hgr (fun e => by injection e with e; omega), World.ownsRow_nil _ _ _ _, by simpa using hown, hsr, grown_trans (below_gb (((Below.refl w1.heap.size w1).alloc (Nat.le_refl _) _).alloc (by simp) _)) hgr⟩
    clear hperm hown hsr hgr HS2
    rw [hpl]
    go_wp2_with fail
    go_loopw [26] (fun iv wr => ∃ (k : Nat) (vr : Value), iv = .int .i64 (k : Int) ∧ k ≤ ps.length ∧ SO w1 wr w.heap.size ⟨at1, aa, ca, rs, ar, cr, fs, af, cf, lb⟩ vr (.slice Ap ps.length cp') ps k) (fun iv _ => ps.length - (intOf iv).toNat)
    case atStart => exact ⟨0, _, rfl, Nat.zero_le _, HSO.out⟩
    case round =>
      obtain ⟨k, vr, rfl, hk, hso⟩ := hrel
      obtain ⟨Ar, ac, rfl, hac⟩ := own_form hso.own
      have HSK := Lib.hid hso
      have kx1 := hso.x.at_ (i := 1) rfl
      have ky1 := hso.y.at_ (i := 1) rfl
      have fy1 := hso.y.fr 1
      have s0 := hso.y.lt
      clear hso HSO
      by_cases hlt : k < rs.length
      · have hkp : k < ps.length := by omega
        have hpk : nth ps k < rs.length := by
          have : nth ps k ∈ ps := by rw [nth_lt hkp]; exact List.getElem_mem hkp
          exact List.mem_range.1 (HPM.out.mem_iff.1 this)
        obtain ⟨gp, hgp⟩ : ∃ gp, Ap = some ⟨gp, 0, none⟩ := own_addr HSK.out.ps (by omega)
        subst hgp
        have cp0 : wr.cell? ⟨gp, k, none⟩ = some (.int .i64 ((nth ps k : Nat) : Int)) := by rw [HSK.out.ps.cellAt k (by omega), vn_get hkp]
        go_wp2_with fail
        obtain ⟨gr', hgr'⟩ : ∃ (b : Nat), ∃ (off : Nat), ar = some ⟨b, off, none⟩ := by
          have := HINM.out wr HSK.out.gr HSK.out.src
          obtain ⟨b, off, e, -, -⟩ := this.r.some (relv_nil (by intro e; simp only at e; subst e; simp at hlt))
          exact ⟨b, off, e⟩
        obtain ⟨go, rfl⟩ := hgr'
        have hrr := (HINM.out wr HSK.out.gr HSK.out.src).r
        simp only at hrr
        have hg1 : wr.cell? ⟨gr', go + nth ps k * 2, none⟩ = _ := hrr.at_ (relv_get hpk).1
        have hg2 : wr.cell? ⟨gr', go + nth ps k * 2 + 1, none⟩ = _ := hrr.at_ (relv_get hpk).2
        have x1 : (0 : Int) ≤ (nth ps k : Int) := by omega
        have x2 : (nth ps k : Int) < (rs.length : Int) := by omega
        obtain ⟨R, hR⟩ : ∃ R : RelV, R = rs[nth ps k] := ⟨_, rfl⟩
        have E6 := Lib.hid (show relAt rs ps[k] = R by rw [hR, ← nth_lt hkp]; exact relAt_lt hpk)
        rw [← hR] at hg1 hg2
        clear hR hrr
        obtain ⟨nm, ad, rc, xx⟩ := R
        simp only at hg1 hg2 E6
        obtain ⟨xl, hxl⟩ : ∃ xl : Nat, xl = xx.length := ⟨_, rfl⟩
        have HXL := Lib.hid hxl
        rw [← hxl] at hg2
        clear hxl
        generalize nth ps k = pk at *
        go_region_law
          (refine step_append_lies _ (by rfl) _ _ _ (by rfl) (w1.heap.size + 1 + 1) 48 i2 _ 2 40 Tryz.underlying41 hi2 hzr0 hzr1 hzr2 rfl (by omega) (.slice Ar k ac) k _ (by go_simp) (HSK.out.alloc (.cells #[.string nm, .slice ad xl rc] 48)).drew.own ⟨wr.heap.size, 0, none⟩ 1 1 [.string nm, .slice ad xl rc] (by go_simp) rfl (World.news_of_block (cs := #[.string nm, .slice ad xl rc]) (t := 48) (fr := (0, 0)) (heap_alloc_new wr _)) two_cell' (by omega) (by unfold maxLen; omega) (by omega) (by simp; omega) _ rfl ?_; intro gg cap w5 hown5 hgrow5 hat5 hlt5; (first | (have HB5 := Lib.hid ((HSK.out.alloc (.cells #[.string nm, .slice ad xl rc] 48)).box_y hgrow5); have k5 := HB5.out.at_ (i := 1) rfl; have f5 := HB5.out.fr 1; have HL6 := Lib.hid ((HSK.out.alloc (.cells #[.string nm, .slice ad xl rc] 48)).push HW.out hkp hgrow5 (by simp only; rw [E6.out]; simp only; rw [← HXL.out]; exact hown5)); clear hown5 hgrow5 hat5 hlt5 HB5) | (have HB5 := Lib.hid ((HSK.out.alloc (.cells #[.string nm, .slice ad xl rc] 48)).drew.box_y hgrow5); have k5 := HB5.out.at_ (i := 1) rfl; have f5 := HB5.out.fr 1; have HL6 := Lib.hid ((HSK.out.alloc (.cells #[.string nm, .slice ad xl rc] 48)).drew.push HW.out hkp hgrow5 (by simp only; rw [E6.out]; simp only; rw [← HXL.out]; exact hown5)); clear hown5 hgrow5 hat5 hlt5 HB5)))
        all_goals
          go_wp2_with fail
          go_roundw
          case rel => exact ⟨k + 1, _, by go_num, by omega, HL6.out⟩
          case measure => simp [intOf]; omega
      · obtain rfl : k = rs.length := by omega -- REST
        obtain ⟨qs, hqs⟩ : ∃ qs : List RelV, qs = ps.map (relAt rs) := ⟨_, rfl⟩
        have hqp : qs.Perm rs := by rw [hqs]; exact rel_perm HPM.out
        have hql : rs.length = qs.length := hqp.length_eq.symm
        have hown : wr.ownsRow (w1.heap.size + 1 + 1) 48 2 (.slice Ar qs.length ac) qs.length (relv qs) := by
          have := HSK.out.own
          simp only at this
          rw [List.take_of_length_le (by omega), ← hqs, hql] at this
          exact this
        have hin := HINM.out wr HSK.out.gr HSK.out.src
        have hbel := below_grown HB1.out HB1.out.size HSK.out.gr
        have hy := HSK.out.y
        simp only at hy
        rw [hql] at hy
        have HOT := Lib.hid (ok_perm (ar' := Ar) (cr' := ac) hqp HOK.out)
        have HUO : Hid (UO w wr w1.heap.size ⟨at1, aa, ca, rs, ar, cr, fs, af, cf, lb⟩ ⟨at1, aa, ca, qs, Ar, ac, fs, af, cf, lb⟩) := Lib.hid ⟨⟨HSK.out.x, hin, hbel⟩, ⟨hy, inm_perm hqp hin (own_lies hown), hbel⟩⟩
        have HCX := Lib.hid (fun W (hW : UO w W w1.heap.size ⟨at1, aa, ca, rs, ar, cr, fs, af, cf, lb⟩ ⟨at1, aa, ca, qs, Ar, ac, fs, af, cf, lb⟩) => Check_ok ⟨at1, aa, ca, rs, ar, cr, fs, af, cf, lb⟩ W hW.s.inm HOK.out)
        have HCY := Lib.hid (fun W (hW : UO w W w1.heap.size ⟨at1, aa, ca, rs, ar, cr, fs, af, cf, lb⟩ ⟨at1, aa, ca, qs, Ar, ac, fs, af, cf, lb⟩) => Check_ok ⟨at1, aa, ca, qs, Ar, ac, fs, af, cf, lb⟩ W hW.t.inm HOT.out)
        have HJX := Lib.hid (fun W (hW : UO w W w1.heap.size ⟨at1, aa, ca, rs, ar, cr, fs, af, cf, lb⟩ ⟨at1, aa, ca, qs, Ar, ac, fs, af, cf, lb⟩) => Joined_of ⟨at1, aa, ca, rs, ar, cr, fs, af, cf, lb⟩ W hW.s.inm HOK.out)
        have HJY := Lib.hid (fun W (hW : UO w W w1.heap.size ⟨at1, aa, ca, rs, ar, cr, fs, af, cf, lb⟩ ⟨at1, aa, ca, qs, Ar, ac, fs, af, cf, lb⟩) => Joined_of ⟨at1, aa, ca, qs, Ar, ac, fs, af, cf, lb⟩ W hW.t.inm HOT.out)
        have HNX := Lib.hid (fun W (hW : UO w W w1.heap.size ⟨at1, aa, ca, rs, ar, cr, fs, af, cf, lb⟩ ⟨at1, aa, ca, qs, Ar, ac, fs, af, cf, lb⟩) => Numbers_of ⟨at1, aa, ca, rs, ar, cr, fs, af, cf, lb⟩ W hW.s.inm HOK.out)
        have HNY := Lib.hid (fun W (hW : UO w W w1.heap.size ⟨at1, aa, ca, rs, ar, cr, fs, af, cf, lb⟩ ⟨at1, aa, ca, qs, Ar, ac, fs, af, cf, lb⟩) => Numbers_of ⟨at1, aa, ca, qs, Ar, ac, fs, af, cf, lb⟩ W hW.t.inm HOT.out)
        have HUX := Lib.hid (fun a W (hW : UO w W w1.heap.size ⟨at1, aa, ca, rs, ar, cr, fs, af, cf, lb⟩ ⟨at1, aa, ca, qs, Ar, ac, fs, af, cf, lb⟩) => Uses_of ⟨at1, aa, ca, rs, ar, cr, fs, af, cf, lb⟩ a W hW.s.inm HOK.out)
        have HUY := Lib.hid (fun a W (hW : UO w W w1.heap.size ⟨at1, aa, ca, rs, ar, cr, fs, af, cf, lb⟩ ⟨at1, aa, ca, qs, Ar, ac, fs, af, cf, lb⟩) => Uses_of ⟨at1, aa, ca, qs, Ar, ac, fs, af, cf, lb⟩ a W hW.t.inm HOT.out)
        have HLX := Lib.hid (fun a b W (hW : UO w W w1.heap.size ⟨at1, aa, ca, rs, ar, cr, fs, af, cf, lb⟩ ⟨at1, aa, ca, qs, Ar, ac, fs, af, cf, lb⟩) => Linked_of ⟨at1, aa, ca, rs, ar, cr, fs, af, cf, lb⟩ a b W hW.s.inm HOK.out)
        have HLY := Lib.hid (fun a b W (hW : UO w W w1.heap.size ⟨at1, aa, ca, rs, ar, cr, fs, af, cf, lb⟩ ⟨at1, aa, ca, qs, Ar, ac, fs, af, cf, lb⟩) => Linked_of ⟨at1, aa, ca, qs, Ar, ac, fs, af, cf, lb⟩ a b W hW.t.inm HOT.out)
        unfold SchV.cells at HCX HCY HJX HJY HNX HNY HUX HUY HLX HLY
        simp only at HCX HCY HJX HJY HNX HNY HUX HUY HLX HLY
        rw [joined_perm hqp] at HJY
        have HUP := Lib.hid (fun a => uses_perm hqp a)
        have HLP := Lib.hid (fun a b => linked_perm hqp a b)
        have hj1 : (joinedN rs at1.length).length ≤ 1000 := by have := filter_range_le (joinB rs) at1.length; show (List.filter _ _).length ≤ _; omega
        have hn1 : (numsN fs fs.length).length ≤ 1000 := by have := filter_range_le (isNum fs) fs.length; have := HOK.out.fine.f2; show (List.filter _ _).length ≤ _; simp only at this; omega
        have HIJ := Lib.hid (fun A B c d W h h2 => ints_same A B (joinedN rs at1.length) c d W h h2 hj1)
        have HIN := Lib.hid (fun A B c d W h h2 => ints_same A B (numsN fs fs.length) c d W h h2 hn1)
        generalize joinedN rs at1.length = JJ at *
        generalize numsN fs fs.length = NN at *
        have HQL := Lib.hid hql
        clear hql hpl
        clear hqs hqp hown hin hbel hy hj1 hn1 kx1 ky1 fy1 s0 HOK HOT HINM HB1 HS1 HSK
        go_upto_region 12 with (fail)
        go_cut [64] (fun v wc => v = .bool false ∧ UO w wc w1.heap.size ⟨at1, aa, ca, rs, ar, cr, fs, af, cf, lb⟩ ⟨at1, aa, ca, qs, Ar, ac, fs, af, cf, lb⟩)
        case first =>
          have KK0 := Lib.hid HUO.out.k8
          obtain ⟨k0, k1, k2, k3, k4, k5, k6, k7⟩ := HUO.out.k8
          go_region_held3 (fun w' => w'.cell? ⟨w1.heap.size, 0, none⟩ = some (.slice aa at1.length ca) ∧ w'.cell? ⟨w1.heap.size, 1, none⟩ = some (.slice ar rs.length cr) ∧ w'.cell? ⟨w1.heap.size, 2, none⟩ = some (.slice af fs.length cf) ∧ w'.cell? ⟨w1.heap.size, 3, none⟩ = some (.int .i64 lb) ∧ w'.cell? ⟨w1.heap.size + 1, 0, none⟩ = some (.slice aa at1.length ca) ∧ w'.cell? ⟨w1.heap.size + 1, 1, none⟩ = some (.slice Ar qs.length ac) ∧ w'.cell? ⟨w1.heap.size + 1, 2, none⟩ = some (.slice af fs.length cf) ∧ w'.cell? ⟨w1.heap.size + 1, 3, none⟩ = some (.int .i64 lb))
            (first | go_keep | with_reducible exact KK0.out | with_reducible exact KKC1.out | with_reducible exact KKC2.out | with_reducible exact KKJ1.out | with_reducible exact KKJ2.out | with_reducible exact KKI1.out | with_reducible exact KKN1.out | with_reducible exact KKN2.out | with_reducible exact KKI2.out)
            (first
              | (go_at_call 16; (with_reducible refine (HCX.out _ (by first | exact HUO.out | exact HUO.out.drew)).mono ?_); rintro e wC1 ⟨rfl, hbC1⟩; have HUC1 : Hid (UO w wC1 w1.heap.size ⟨at1, aa, ca, rs, ar, cr, fs, af, cf, lb⟩ ⟨at1, aa, ca, qs, Ar, ac, fs, af, cf, lb⟩) := Lib.hid (by first | exact HUO.out.below hbC1 | exact HUO.out.drew.below hbC1); have KKC1 := Lib.hid HUC1.out.k8; clear hbC1)
              | (go_at_call 16; (with_reducible refine (HCY.out _ (by first | exact HUC1.out | exact HUC1.out.drew)).mono ?_); rintro e wC2 ⟨rfl, hbC2⟩; have HUC2 : Hid (UO w wC2 w1.heap.size ⟨at1, aa, ca, rs, ar, cr, fs, af, cf, lb⟩ ⟨at1, aa, ca, qs, Ar, ac, fs, af, cf, lb⟩) := Lib.hid (by first | exact HUC1.out.below hbC2 | exact HUC1.out.drew.below hbC2); have KKC2 := Lib.hid HUC2.out.k8; clear hbC2)
              | (go_at_call 18; (with_reducible refine (HJX.out _ (by first | exact HUC2.out | exact HUC2.out.drew | exact HUJ2.out | exact HUJ2.out.drew)).mono ?_); intro e wJ1 hr; obtain ⟨AJ1, cJ1, rfl, hcl, hbJ1⟩ := hr.row; have HCJ1 := Lib.hid hcl; have HUJ1 : Hid (UO w wJ1 w1.heap.size ⟨at1, aa, ca, rs, ar, cr, fs, af, cf, lb⟩ ⟨at1, aa, ca, qs, Ar, ac, fs, af, cf, lb⟩) := Lib.hid (by first | exact HUC2.out.below hbJ1 | exact HUC2.out.drew.below hbJ1 | exact HUJ2.out.below hbJ1 | exact HUJ2.out.drew.below hbJ1); (first | (have HKJ2 := Lib.hid (by first | exact HCJ2.out.below hbJ1 | exact HCJ2.out.drew.below hbJ1 : Cells .i64 wJ1 AJ2 JJ)) | skip); have KKJ1 := Lib.hid HUJ1.out.k8; clear hr hcl hbJ1)
              | (go_at_call 18; (with_reducible refine (HJY.out _ (by first | exact HUC2.out | exact HUC2.out.drew | exact HUJ1.out | exact HUJ1.out.drew)).mono ?_); intro e wJ2 hr; obtain ⟨AJ2, cJ2, rfl, hcl, hbJ2⟩ := hr.row; have HCJ2 := Lib.hid hcl; have HUJ2 : Hid (UO w wJ2 w1.heap.size ⟨at1, aa, ca, rs, ar, cr, fs, af, cf, lb⟩ ⟨at1, aa, ca, qs, Ar, ac, fs, af, cf, lb⟩) := Lib.hid (by first | exact HUC2.out.below hbJ2 | exact HUC2.out.drew.below hbJ2 | exact HUJ1.out.below hbJ2 | exact HUJ1.out.drew.below hbJ2); (first | (have HKJ1 := Lib.hid (by first | exact HCJ1.out.below hbJ2 | exact HCJ1.out.drew.below hbJ2 : Cells .i64 wJ2 AJ1 JJ)) | skip); have KKJ2 := Lib.hid HUJ2.out.k8; clear hr hcl hbJ2)
              | (go_at_call 17; (with_reducible refine (HIJ.out _ _ _ _ _ (by first | exact HKJ1.out | exact HKJ1.out.drew | exact HCJ1.out | exact HCJ1.out.drew) (by first | exact HCJ2.out | exact HCJ2.out.drew | exact HKJ2.out | exact HKJ2.out.drew)).mono ?_); rintro e wI1 ⟨rfl, hbI1⟩; have HUI1 : Hid (UO w wI1 w1.heap.size ⟨at1, aa, ca, rs, ar, cr, fs, af, cf, lb⟩ ⟨at1, aa, ca, qs, Ar, ac, fs, af, cf, lb⟩) := Lib.hid (by first | exact HUJ1.out.below hbI1 | exact HUJ1.out.drew.below hbI1 | exact HUJ2.out.below hbI1 | exact HUJ2.out.drew.below hbI1); have KKI1 := Lib.hid HUI1.out.k8; clear hbI1)
              | (go_at_call 19; (with_reducible refine (HNX.out _ (by first | exact HUI1.out | exact HUI1.out.drew | exact HUN2.out | exact HUN2.out.drew)).mono ?_); intro e wN1 hr; obtain ⟨AN1, cN1, rfl, hcl, hbN1⟩ := hr.row; have HCN1 := Lib.hid hcl; have HUN1 : Hid (UO w wN1 w1.heap.size ⟨at1, aa, ca, rs, ar, cr, fs, af, cf, lb⟩ ⟨at1, aa, ca, qs, Ar, ac, fs, af, cf, lb⟩) := Lib.hid (by first | exact HUI1.out.below hbN1 | exact HUI1.out.drew.below hbN1 | exact HUN2.out.below hbN1 | exact HUN2.out.drew.below hbN1); (first | (have HKN2 := Lib.hid (by first | exact HCN2.out.below hbN1 | exact HCN2.out.drew.below hbN1 : Cells .i64 wN1 AN2 NN)) | skip); have KKN1 := Lib.hid HUN1.out.k8; clear hr hcl hbN1)
              | (go_at_call 19; (with_reducible refine (HNY.out _ (by first | exact HUI1.out | exact HUI1.out.drew | exact HUN1.out | exact HUN1.out.drew)).mono ?_); intro e wN2 hr; obtain ⟨AN2, cN2, rfl, hcl, hbN2⟩ := hr.row; have HCN2 := Lib.hid hcl; have HUN2 : Hid (UO w wN2 w1.heap.size ⟨at1, aa, ca, rs, ar, cr, fs, af, cf, lb⟩ ⟨at1, aa, ca, qs, Ar, ac, fs, af, cf, lb⟩) := Lib.hid (by first | exact HUI1.out.below hbN2 | exact HUI1.out.drew.below hbN2 | exact HUN1.out.below hbN2 | exact HUN1.out.drew.below hbN2); (first | (have HKN1 := Lib.hid (by first | exact HCN1.out.below hbN2 | exact HCN1.out.drew.below hbN2 : Cells .i64 wN2 AN1 NN)) | skip); have KKN2 := Lib.hid HUN2.out.k8; clear hr hcl hbN2)
              | (go_at_call 17; (with_reducible refine (HIN.out _ _ _ _ _ (by first | exact HKN1.out | exact HKN1.out.drew | exact HCN1.out | exact HCN1.out.drew) (by first | exact HCN2.out | exact HCN2.out.drew | exact HKN2.out | exact HKN2.out.drew)).mono ?_); rintro e wI2 ⟨rfl, hbI2⟩; have HUI2 : Hid (UO w wI2 w1.heap.size ⟨at1, aa, ca, rs, ar, cr, fs, af, cf, lb⟩ ⟨at1, aa, ca, qs, Ar, ac, fs, af, cf, lb⟩) := Lib.hid (by first | exact HUN1.out.below hbI2 | exact HUN1.out.drew.below hbI2 | exact HUN2.out.below hbI2 | exact HUN2.out.drew.below hbI2); have KKI2 := Lib.hid HUI2.out.k8; clear hbI2))
          all_goals
            go_wp2_with fail
            go_meet
            exact ⟨rfl, HUI2.out⟩
        case rest =>
          obtain ⟨rfl, huo⟩ := hcut
          have HU0 := Lib.hid huo
          obtain ⟨k0, -⟩ := huo.k8
          clear huo HUO HCX HCY HJX HJY HNX HNY HIJ HIN
          go_wp2_with fail
          clear k0
          go_loopw [68] (fun iv wr => ∃ a : Nat, iv = .int .i64 (a : Int) ∧ a ≤ at1.length ∧ UO w wr w1.heap.size ⟨at1, aa, ca, rs, ar, cr, fs, af, cf, lb⟩ ⟨at1, aa, ca, qs, Ar, ac, fs, af, cf, lb⟩) (fun iv _ => at1.length - (intOf iv).toNat)
          case atStart => exact ⟨0, rfl, Nat.zero_le _, HU0.out⟩
          case round =>
            obtain ⟨a, rfl, ha, huo⟩ := hrel
            obtain ⟨wa, rfl⟩ : ∃ wa : World, wa = wr := ⟨_, rfl⟩
            have HUA := Lib.hid huo
            clear huo HU0
            by_cases hla : a < at1.length
            · have hll := HUP.out a
              have HX := Lib.hid (fun W hW => (HUX.out a W hW).mono fun e w' h => ret_len h rfl)
              have HY := Lib.hid (fun W hW => (HUY.out a W hW).mono fun e w' h => ret_len h hll)
              generalize (usesN rs a rs.length).length = LL at *
              clear hll
              go_upto_region 17 with (fail)
              go_cut [79] (fun v wc => v = .bool false ∧ UO w wc w1.heap.size ⟨at1, aa, ca, rs, ar, cr, fs, af, cf, lb⟩ ⟨at1, aa, ca, qs, Ar, ac, fs, af, cf, lb⟩)
              case first =>
                have KK0 := Lib.hid HUA.out.k8
                obtain ⟨k0, k1, k2, k3, k4, k5, k6, k7⟩ := HUA.out.k8
                go_region_held3 (fun w' => w'.cell? ⟨w1.heap.size, 0, none⟩ = some (.slice aa at1.length ca) ∧ w'.cell? ⟨w1.heap.size, 1, none⟩ = some (.slice ar rs.length cr) ∧ w'.cell? ⟨w1.heap.size, 2, none⟩ = some (.slice af fs.length cf) ∧ w'.cell? ⟨w1.heap.size, 3, none⟩ = some (.int .i64 lb) ∧ w'.cell? ⟨w1.heap.size + 1, 0, none⟩ = some (.slice aa at1.length ca) ∧ w'.cell? ⟨w1.heap.size + 1, 1, none⟩ = some (.slice Ar qs.length ac) ∧ w'.cell? ⟨w1.heap.size + 1, 2, none⟩ = some (.slice af fs.length cf) ∧ w'.cell? ⟨w1.heap.size + 1, 3, none⟩ = some (.int .i64 lb))
                  (first | go_keep | with_reducible exact KK0.out | with_reducible exact KKU1.out | with_reducible exact KKU2.out)
                  (first
                    | (go_at_call 20; (with_reducible refine (HX.out _ (by first | exact HUA.out | exact HUA.out.drew | exact HUU2.out | exact HUU2.out.drew)).mono ?_); rintro e wU1 ⟨AU1, cU1, rfl, hbU1⟩; have HUU1 : Hid (UO w wU1 w1.heap.size ⟨at1, aa, ca, rs, ar, cr, fs, af, cf, lb⟩ ⟨at1, aa, ca, qs, Ar, ac, fs, af, cf, lb⟩) := Lib.hid (by first | exact HUA.out.below hbU1 | exact HUA.out.drew.below hbU1 | exact HUU2.out.below hbU1 | exact HUU2.out.drew.below hbU1); have KKU1 := Lib.hid HUU1.out.k8; clear hbU1)
                    | (go_at_call 20; (with_reducible refine (HY.out _ (by first | exact HUA.out | exact HUA.out.drew | exact HUU1.out | exact HUU1.out.drew)).mono ?_); rintro e wU2 ⟨AU2, cU2, rfl, hbU2⟩; have HUU2 : Hid (UO w wU2 w1.heap.size ⟨at1, aa, ca, rs, ar, cr, fs, af, cf, lb⟩ ⟨at1, aa, ca, qs, Ar, ac, fs, af, cf, lb⟩) := Lib.hid (by first | exact HUA.out.below hbU2 | exact HUA.out.drew.below hbU2 | exact HUU1.out.below hbU2 | exact HUU1.out.drew.below hbU2); have KKU2 := Lib.hid HUU2.out.k8; clear hbU2))
                all_goals
                  go_wp2_with fail
                  go_meet
                  first | exact ⟨rfl, HUU1.out⟩ | exact ⟨rfl, HUU2.out⟩ | exact ⟨rfl, HUU1.out.drew⟩ | exact ⟨rfl, HUU2.out.drew⟩
              case rest =>
                obtain ⟨rfl, huo⟩ := hcut
                have HUB := Lib.hid huo
                obtain ⟨k0, -⟩ := huo.k8
                clear huo HX HY HUA
                go_wp2_with fail
                clear k0
                go_loopw [83] (fun iv wr => ∃ b : Nat, iv = .int .i64 (b : Int) ∧ b ≤ at1.length ∧ UO w wr w1.heap.size ⟨at1, aa, ca, rs, ar, cr, fs, af, cf, lb⟩ ⟨at1, aa, ca, qs, Ar, ac, fs, af, cf, lb⟩) (fun iv _ => at1.length - (intOf iv).toNat)
                case atStart => exact ⟨0, rfl, Nat.zero_le _, HUB.out⟩
                case round =>
                  obtain ⟨b, rfl, hb, huo⟩ := hrel
                  obtain ⟨wb, rfl⟩ : ∃ wb : World, wb = wr := ⟨_, rfl⟩
                  have HUC := Lib.hid huo
                  clear huo HUB
                  by_cases hlb : b < at1.length
                  · have HX := Lib.hid (fun W hW => HLX.out a b W hW)
                    have HY := Lib.hid (fun W hW => HLY.out a b W hW)
                    rw [HLP.out a b] at HY
                    generalize rs.any (bothB a b) = LB at *
                    go_upto_region 22 with (fail)
                    go_cut [94] (fun v wc => v = .bool false ∧ UO w wc w1.heap.size ⟨at1, aa, ca, rs, ar, cr, fs, af, cf, lb⟩ ⟨at1, aa, ca, qs, Ar, ac, fs, af, cf, lb⟩)
                    case first =>
                      have KK0 := Lib.hid HUC.out.k8
                      obtain ⟨k0, k1, k2, k3, k4, k5, k6, k7⟩ := HUC.out.k8
                      go_region_held3 (fun w' => w'.cell? ⟨w1.heap.size, 0, none⟩ = some (.slice aa at1.length ca) ∧ w'.cell? ⟨w1.heap.size, 1, none⟩ = some (.slice ar rs.length cr) ∧ w'.cell? ⟨w1.heap.size, 2, none⟩ = some (.slice af fs.length cf) ∧ w'.cell? ⟨w1.heap.size, 3, none⟩ = some (.int .i64 lb) ∧ w'.cell? ⟨w1.heap.size + 1, 0, none⟩ = some (.slice aa at1.length ca) ∧ w'.cell? ⟨w1.heap.size + 1, 1, none⟩ = some (.slice Ar qs.length ac) ∧ w'.cell? ⟨w1.heap.size + 1, 2, none⟩ = some (.slice af fs.length cf) ∧ w'.cell? ⟨w1.heap.size + 1, 3, none⟩ = some (.int .i64 lb))
                        (first | go_keep | with_reducible exact KK0.out | with_reducible exact KKL1.out | with_reducible exact KKL2.out)
                        (first
                          | (go_at_call 21; (with_reducible refine (HX.out _ (by first | exact HUC.out | exact HUC.out.drew | exact HUL2.out | exact HUL2.out.drew)).mono ?_); rintro e wL1 ⟨rfl, hbL1⟩; have HUL1 : Hid (UO w wL1 w1.heap.size ⟨at1, aa, ca, rs, ar, cr, fs, af, cf, lb⟩ ⟨at1, aa, ca, qs, Ar, ac, fs, af, cf, lb⟩) := Lib.hid (by first | exact HUC.out.below hbL1 | exact HUC.out.drew.below hbL1 | exact HUL2.out.below hbL1 | exact HUL2.out.drew.below hbL1); have KKL1 := Lib.hid HUL1.out.k8; clear hbL1)
                          | (go_at_call 21; (with_reducible refine (HY.out _ (by first | exact HUC.out | exact HUC.out.drew | exact HUL1.out | exact HUL1.out.drew)).mono ?_); rintro e wL2 ⟨rfl, hbL2⟩; have HUL2 : Hid (UO w wL2 w1.heap.size ⟨at1, aa, ca, rs, ar, cr, fs, af, cf, lb⟩ ⟨at1, aa, ca, qs, Ar, ac, fs, af, cf, lb⟩) := Lib.hid (by first | exact HUC.out.below hbL2 | exact HUC.out.drew.below hbL2 | exact HUL1.out.below hbL2 | exact HUL1.out.drew.below hbL2); have KKL2 := Lib.hid HUL2.out.k8; clear hbL2))
                      all_goals
                        go_wp2_with fail
                        go_meet
                        first | exact ⟨rfl, HUL1.out⟩ | exact ⟨rfl, HUL2.out⟩ | exact ⟨rfl, HUL1.out.drew⟩ | exact ⟨rfl, HUL2.out.drew⟩
                    case rest =>
                      obtain ⟨rfl, huo⟩ := hcut
                      have HUD := Lib.hid huo
                      clear huo HX HY HUC
                      go_wp2_with fail
                      go_roundw
                      case rel => exact ⟨b + 1, by go_num, by omega, HUD.out⟩
                      case measure => simp [intOf]; omega
                  · go_wp2_with fail
                    go_roundw
                    case rel => exact ⟨a + 1, by go_num, by omega, HUC.out⟩
                    case measure => simp [intOf]; omega
            · go_wp2_with fail
              refine (SSane _ (HE.out.below HUA.out.s.bel)).mono ?_
              rintro e w9 ⟨rfl, hb9⟩
              have HB9 := Lib.hid (HUA.out.s.bel.trans (hb9.mono HUA.out.s.bel.size))
              clear hb9
              go_wp2_with fail
              go_ret
              exact ⟨rfl, HB9.out⟩

end Go.Proofs.YtnjccldjlpkgkaaGreatDoor
