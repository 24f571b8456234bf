/-
  SchemaOrder: what lies in memory while the relations are put in another order.
-/
import Derived.Test.YtnjccldjlpkgkaaGreatDoorZSE
import Derived.Test.YtnjccldjlpkgkaaGreatDoorZM
import Derived.Test.YtnjccldjlpkgkaaGreatDoorZSF
namespace Go.Proofs.YtnjccldjlpkgkaaGreatDoor
open Go.RowKit

/-- The schema lies in its box, and its lists in memory. -/
structure US (w wr : World) (g : Nat) (S : SchV) : Prop where
  box : Blk wr g 44 S.cells.toList
  inm : InMem wr S
  bel : Below w.heap.size w wr
theorem US.below {w wr w' : World} {g : Nat} {S : SchV} (h : US w wr g S) (hb : Below wr.heap.size wr w') : US w w' g S := ⟨h.box.below hb, h.inm.below hb, h.bel.trans (hb.mono h.bel.size)⟩
theorem US.drew {w wr : World} {g : Nat} {S : SchV} (h : US w wr g S) : US w wr.drew g S := h.below (Below.refl _ _).drew
theorem US.drewN {w wr : World} {g : Nat} {S : SchV} (h : US w wr g S) (n : Nat) : US w (wr.drewN n) g S := h.below (below_drewN (Below.refl _ _) n)

set_option maxRecDepth 100000 in
set_option maxHeartbeats 8000000 in
theorem SchemaUses_any (A : Option Addr) (l cp : Nat) (w : World) (h : Ints w A l) (hlc : l ≤ cp) (hl : l ≤ 9223372036854775807) (henv : Env w) : Calls Tryz.prog 5 #[.slice A l cp] w fun e w' => e = .returned (.bool true) ∧ Below w.heap.size w w' := by
  have HE := Lib.hid henv
  have HI := Lib.hid h
  clear henv h
  by_cases h300 : 300 < l
  · go_enter Tryz.func5, Tryz.ntmps5
    go_wp2_with fail
    refine (SSane w HE.out).mono ?_
    rintro e w1 ⟨rfl, hb⟩
    have HB := Lib.hid hb
    clear hb
    go_wp2_with fail
    go_ret
    exact ⟨rfl, HB.out⟩
  · have h3 : decide ((300 : Int) < (l : Int)) = false := by simp; omega
    go_enter Tryz.func5, Tryz.ntmps5
    go_wp2_with fail
    clear h3
    refine (New_any A l cp w HI.out hlc hl).mono ?_
    rintro e w0 ⟨rfl, hs, hb⟩
    have HS := Lib.hid hs
    have HB := Lib.hid hb
    clear hs hb HI
    go_wp2_with fail
    refine (Schema_any w.heap.size 6 w0 HS.out (by decide) (by decide)).mono ?_
    rintro e w1 ⟨S, rfl, hok, hat, hrs, hga, hgr, hin, hs, hg, -⟩
    have HOK := Lib.hid hok
    have HUS := Lib.hid (show US w (w1.alloc (.cells S.cells 44)) w1.heap.size S from ⟨Blk.new w1 _ S.cells.toList, hin.below ((Below.refl _ _).alloc (Nat.le_refl _) _), (below_grown HB.out HB.out.size hg).alloc (by have := (below_grown HB.out HB.out.size hg).size; omega) _⟩)
    have HJ := Lib.hid (fun W (hW : US w W w1.heap.size S) => Joined_of S W hW.inm HOK.out)
    have HU := Lib.hid (fun a W (hW : US w W w1.heap.size S) => Uses_of S a W hW.inm HOK.out)
    have HF := Lib.hid (fun nm W (hW : US w W w1.heap.size S) => Find_of S nm W hW.inm HOK.out)
    have HL := Lib.hid (fun a b W (hW : US w W w1.heap.size S) => Linked_of S a b W hW.inm HOK.out)
    clear hok hga hgr hin hs hg HB HS
    unfold SchV.cells at HUS HJ HU HF HL ⊢
    obtain ⟨at1, aa, ca, rs, ar, cr, fs, af, cf, lb⟩ := S
    simp only at HUS HJ HU HF HL hat hrs ⊢
    go_wp2_with fail
    refine (HJ.out _ HUS.out).mono ?_
    intro e w2 hr
    obtain ⟨A2, c2, rfl, hcl, hb2⟩ := hr.row
    have HCJ := Lib.hid hcl
    have HU2 := Lib.hid (HUS.out.below hb2)
    clear hr hcl hb2 HUS HJ
    have k0 := HU2.out.box.at_ (i := 0) rfl
    go_wp2_with fail
    clear k0
    go_loopw [25] (fun iv wr => ∃ a : Nat, iv = .int .i64 (a : Int) ∧ a ≤ at1.length ∧ US w wr w1.heap.size ⟨at1, aa, ca, rs, ar, cr, fs, af, cf, lb⟩ ∧ Cells .i64 wr A2 (joinedN rs at1.length)) (fun iv _ => at1.length - (intOf iv).toNat)
    case atStart => exact ⟨0, rfl, Nat.zero_le _, HU2.out, HCJ.out⟩
    case round =>
      obtain ⟨a, rfl, ha, hus, hcj⟩ := hrel
      obtain ⟨wa, rfl⟩ : ∃ wa : World, wa = wr := ⟨_, rfl⟩
      have HUA := Lib.hid hus
      have HCA := Lib.hid hcj
      have k0 := hus.box.at_ (i := 0) rfl
      have k1 := hus.box.at_ (i := 1) rfl
      have k2 := hus.box.at_ (i := 2) rfl
      have k3 := hus.box.at_ (i := 3) rfl
      clear hus hcj HU2 HCJ
      by_cases hla : a < at1.length
      · go_wp2_with fail
        refine (HU.out a wa HUA.out).mono ?_
        intro e w3 hr
        obtain ⟨A3, c3, rfl, hcl, hb3⟩ := hr.row
        have HC3 := Lib.hid hcl
        have HU3 := Lib.hid (HUA.out.below hb3)
        have HJ3 := Lib.hid (HCA.out.below hb3)
        clear hr hcl hb3 k0 k1 k2 k3
        go_upto_region 10 with (fail)
        go_cut [54] (fun v wc => v = .bool false ∧ US w wc w1.heap.size ⟨at1, aa, ca, rs, ar, cr, fs, af, cf, lb⟩ ∧ Cells .i64 wc A2 (joinedN rs at1.length) ∧ Cells .i64 wc A3 (usesN rs a rs.length))
        case first =>
          have k0 := HU3.out.box.at_ (i := 0) rfl
          have k1 := HU3.out.box.at_ (i := 1) rfl
          have k2 := HU3.out.box.at_ (i := 2) rfl
          have k3 := HU3.out.box.at_ (i := 3) rfl
          obtain ⟨ab, ao, rfl, hab, hrow⟩ := HU3.out.inm.a.some (av_nil (by intro e; simp only at e; subst e; simp at hla))
          have ka := hrow.at_ (av_get hla).1
          have HFI := Lib.hid (find_at HOK.out.names hla)
          have hjh := joined_has (rs := rs) hla
          have hjl : (joinedN rs at1.length).length ≤ 1000 := by have := filter_range_le (joinB rs) at1.length; show (List.filter _ _).length ≤ _; omega
          have HIN := Lib.hid (fun W h => MIn_of A2 (joinedN rs at1.length) c2 a W h hjl)
          rw [hjh] at HIN
          have hne : (((usesN rs a rs.length).length : Int) == 0) = false := by
            have hu : usesN rs a rs.length ≠ [] := uses_some (HOK.out.used a hla)
            have hu2 : (usesN rs a rs.length).length ≠ 0 := fun e => hu (List.eq_nil_of_length_eq_zero e)
            rw [beq_eq_false_iff_ne]
            omega
          simp only at HFI
          generalize at1[a].1 = nm at *
          clear hrow hjh
          have hab1 : (0 : Int) ≤ (a : Int) := by omega
          have hab2 : (a : Int) < (at1.length : Int) := by omega
          have HF2 := Lib.hid (fun W (hW : US w W w1.heap.size ⟨at1, some ⟨ab, ao, none⟩, ca, rs, ar, cr, fs, af, cf, lb⟩) => show Calls Tryz.prog 23 #[.agg #[.slice (some ⟨ab, ao, none⟩) at1.length ca, .slice ar rs.length cr, .slice af fs.length cf, .int .i64 lb], .string nm] W fun e w' => e = .returned (.int .i64 (a : Int)) ∧ Below W.heap.size W w' from HFI.out ▸ HF.out nm W hW)
          by_cases hu1 : 1 < (usesN rs a rs.length).length
          · rw [decide_eq_true hu1] at HIN
            have hj : decide ((1 : Int) < ((usesN rs a rs.length).length : Int)) = true := by simp; omega
            generalize hul : (usesN rs a rs.length).length = ul at *
            clear hu1 hul
            go_region_held3 (fun w' => w'.cell? ⟨w1.heap.size, 0, none⟩ = some (.slice (some ⟨ab, ao, none⟩) at1.length ca) ∧ w'.cell? ⟨w1.heap.size, 1, none⟩ = some (.slice ar rs.length cr) ∧ w'.cell? ⟨w1.heap.size, 2, none⟩ = some (.slice af fs.length cf) ∧ w'.cell? ⟨w1.heap.size, 3, none⟩ = some (.int .i64 lb) ∧ w'.cell? ⟨ab, ao + a * 2, none⟩ = some (.string nm))
              (first | go_keep | exact KF.out)
              (first
                | (go_at_call 22; (with_reducible refine (HIN.out _ (by first | exact HJ3.out | exact HJ3.out.drew)).mono ?_); rintro e w' ⟨rfl, rfl⟩)
                | (go_at_call 23; (with_reducible refine (HF2.out _ (by first | exact HU3.out | exact HU3.out.drew)).mono ?_); rintro e wF ⟨rfl, hbF⟩; have HUF : Hid (US w wF w1.heap.size ⟨at1, some ⟨ab, ao, none⟩, ca, rs, ar, cr, fs, af, cf, lb⟩) := Lib.hid (by first | exact HU3.out.below hbF | exact HU3.out.drew.below hbF); have HJF := Lib.hid (show Cells .i64 wF A2 (joinedN rs at1.length) by first | exact HJ3.out.below hbF | exact HJ3.out.drew.below hbF); have HCF := Lib.hid (show Cells .i64 wF A3 (usesN rs a rs.length) by first | exact HC3.out.below hbF | exact HC3.out.drew.below hbF); have KF : Hid (wF.cell? ⟨w1.heap.size, 0, none⟩ = some (.slice (some ⟨ab, ao, none⟩) at1.length ca) ∧ wF.cell? ⟨w1.heap.size, 1, none⟩ = some (.slice ar rs.length cr) ∧ wF.cell? ⟨w1.heap.size, 2, none⟩ = some (.slice af fs.length cf) ∧ wF.cell? ⟨w1.heap.size, 3, none⟩ = some (.int .i64 lb) ∧ wF.cell? ⟨ab, ao + a * 2, none⟩ = some (.string nm)) := Lib.hid ⟨HUF.out.box.at_ (i := 0) rfl, HUF.out.box.at_ (i := 1) rfl, HUF.out.box.at_ (i := 2) rfl, HUF.out.box.at_ (i := 3) rfl, by first | exact (hbF.cell (p := ⟨ab, ao + a * 2, none⟩) hab).trans ka⟩; clear hbF))
            all_goals
              go_wp2_with fail
              go_meet
              exact ⟨rfl, HUF.out, HJF.out, HCF.out⟩
          · rw [decide_eq_false hu1] at HIN
            have hj : decide ((1 : Int) < ((usesN rs a rs.length).length : Int)) = false := by simp; omega
            generalize hul : (usesN rs a rs.length).length = ul at *
            clear hu1 hul
            go_region_held3 (fun w' => w'.cell? ⟨w1.heap.size, 0, none⟩ = some (.slice (some ⟨ab, ao, none⟩) at1.length ca) ∧ w'.cell? ⟨w1.heap.size, 1, none⟩ = some (.slice ar rs.length cr) ∧ w'.cell? ⟨w1.heap.size, 2, none⟩ = some (.slice af fs.length cf) ∧ w'.cell? ⟨w1.heap.size, 3, none⟩ = some (.int .i64 lb) ∧ w'.cell? ⟨ab, ao + a * 2, none⟩ = some (.string nm))
              (first | go_keep | exact KF.out)
              (first
                | (go_at_call 22; (with_reducible refine (HIN.out _ (by first | exact HJ3.out | exact HJ3.out.drew)).mono ?_); rintro e w' ⟨rfl, rfl⟩)
                | (go_at_call 23; (with_reducible refine (HF2.out _ (by first | exact HU3.out | exact HU3.out.drew)).mono ?_); rintro e wF ⟨rfl, hbF⟩; have HUF : Hid (US w wF w1.heap.size ⟨at1, some ⟨ab, ao, none⟩, ca, rs, ar, cr, fs, af, cf, lb⟩) := Lib.hid (by first | exact HU3.out.below hbF | exact HU3.out.drew.below hbF); have HJF := Lib.hid (show Cells .i64 wF A2 (joinedN rs at1.length) by first | exact HJ3.out.below hbF | exact HJ3.out.drew.below hbF); have HCF := Lib.hid (show Cells .i64 wF A3 (usesN rs a rs.length) by first | exact HC3.out.below hbF | exact HC3.out.drew.below hbF); have KF : Hid (wF.cell? ⟨w1.heap.size, 0, none⟩ = some (.slice (some ⟨ab, ao, none⟩) at1.length ca) ∧ wF.cell? ⟨w1.heap.size, 1, none⟩ = some (.slice ar rs.length cr) ∧ wF.cell? ⟨w1.heap.size, 2, none⟩ = some (.slice af fs.length cf) ∧ wF.cell? ⟨w1.heap.size, 3, none⟩ = some (.int .i64 lb) ∧ wF.cell? ⟨ab, ao + a * 2, none⟩ = some (.string nm)) := Lib.hid ⟨HUF.out.box.at_ (i := 0) rfl, HUF.out.box.at_ (i := 1) rfl, HUF.out.box.at_ (i := 2) rfl, HUF.out.box.at_ (i := 3) rfl, by first | exact (hbF.cell (p := ⟨ab, ao + a * 2, none⟩) hab).trans ka⟩; clear hbF))
            all_goals
              go_wp2_with fail
              go_meet
              exact ⟨rfl, HUF.out, HJF.out, HCF.out⟩
        case rest =>
          obtain ⟨rfl, hus, hcj, hcu⟩ := hcut
          have HUB := Lib.hid hus
          have HJB := Lib.hid hcj
          have HCB := Lib.hid hcu
          have k0 := hus.box.at_ (i := 0) rfl
          clear hus hcj hcu HU3 HJ3 HC3
          go_wp2_with fail
          clear k0
          go_loopw [58] (fun iv wr => ∃ b : Nat, iv = .int .i64 (b : Int) ∧ b ≤ at1.length ∧ US w wr w1.heap.size ⟨at1, aa, ca, rs, ar, cr, fs, af, cf, lb⟩ ∧ Cells .i64 wr A2 (joinedN rs at1.length) ∧ Cells .i64 wr A3 (usesN rs a rs.length)) (fun iv _ => at1.length - (intOf iv).toNat)
          case atStart => exact ⟨0, rfl, Nat.zero_le _, HUB.out, HJB.out, HCB.out⟩
          case round =>
            obtain ⟨b, rfl, hb, hus, hcj, hcu⟩ := hrel
            obtain ⟨wb, rfl⟩ : ∃ wb : World, wb = wr := ⟨_, rfl⟩
            have HUC := Lib.hid hus
            have HJC := Lib.hid hcj
            have HCC := Lib.hid hcu
            have k0 := hus.box.at_ (i := 0) rfl
            have k1 := hus.box.at_ (i := 1) rfl
            have k2 := hus.box.at_ (i := 2) rfl
            have k3 := hus.box.at_ (i := 3) rfl
            clear hus hcj hcu HUB HJB HCB
            by_cases hlb : b < at1.length
            · go_wp2_with fail
              refine (HU.out b wb HUC.out).mono ?_
              intro e w4 hr
              obtain ⟨A4, c4, rfl, hcl, hb4⟩ := hr.row
              have HC4 := Lib.hid hcl
              have HU4 := Lib.hid (HUC.out.below hb4)
              have HJ4 := Lib.hid (HJC.out.below hb4)
              have HA4 := Lib.hid (HCC.out.below hb4)
              have hubl : (usesN rs b rs.length).length ≤ 3 := Nat.le_trans (uses_le rs b) hrs
              have hual : (usesN rs a rs.length).length ≤ 3 := Nat.le_trans (uses_le rs a) hrs
              have HBU := Lib.hid (both_uses rs a b)
              have HCM := Lib.hid (both_comm rs a b)
              have HL1 := Lib.hid (HL.out a b)
              have HL2 := Lib.hid (HL.out b a)
              have HIN := Lib.hid (fun x => MIn_of A3 (usesN rs a rs.length) c3 x w4 HA4.out (by omega))
              clear hr hcl hb4 k0 k1 k2 k3 HUC HJC HCC
              generalize usesN rs b rs.length = ub at *
              go_wp2_with fail
              go_loop [9, 65] (fun bv iv => ∃ k : Nat, iv = .int .i64 (k : Int) ∧ k ≤ ub.length ∧ bv = .bool ((ub.take k).any fun i => (usesN rs a rs.length).contains i)) (fun _ iv => ub.length - (intOf iv).toNat)
              case atStart => exact ⟨0, rfl, Nat.zero_le _, rfl⟩
              case round =>
                obtain ⟨k, rfl, hk, rfl⟩ := hrel
                by_cases hlk : k < ub.length
                · obtain ⟨b4, o4, rfl, hb4, hc4⟩ := HC4.out (by intro e; subst e; simp at hlk)
                  have hck := hc4 k hlk
                  have HT := Lib.hid (show ((ub.take (k + 1)).any fun i => (usesN rs a rs.length).contains i) = (((ub.take k).any fun i => (usesN rs a rs.length).contains i) || (usesN rs a rs.length).contains (nth ub k)) by
                    rw [List.take_succ_eq_append_getElem hlk, List.any_append, show nth ub k = ub[k] by simp [nth, hlk]]
                    simp)
                  have HI2 := Lib.hid (HIN.out (nth ub k))
                  generalize nth ub k = x at *
                  clear hc4
                  generalize ((ub.take k).any fun i => (usesN rs a rs.length).contains i) = bo at *
                  cases bo
                  · go_wp2_with fail
                    refine HI2.out.mono ?_
                    rintro e w' ⟨rfl, rfl⟩
                    have E := Lib.hid (show ((ub.take (k + 1)).any fun i => (usesN rs a rs.length).contains i) = (usesN rs a rs.length).contains x by rw [HT.out, Bool.false_or])
                    generalize (usesN rs a rs.length).contains x = bx at *
                    go_wp2_with fail
                    go_round
                    case rel => exact ⟨k + 1, by go_num, by omega, by rw [E.out]⟩
                    case measure => simp [intOf]; omega
                  · have E := Lib.hid (show ((ub.take (k + 1)).any fun i => (usesN rs a rs.length).contains i) = true by rw [HT.out, Bool.true_or])
                    go_wp2_with fail
                    go_round
                    case rel => exact ⟨k + 1, by go_num, by omega, by rw [E.out]⟩
                    case measure => simp [intOf]; omega
                · obtain rfl : k = ub.length := by omega
                  have E1 : Hid (((ub.take ub.length).any fun i => (usesN rs a rs.length).contains i) = rs.any (bothB a b)) := Lib.hid (by rw [List.take_length]; exact HBU.out)
                  rw [E1.out]
                  have E2 := Lib.hid HCM.out.symm
                  rw [E2.out] at HL2
                  clear E1 E2 HBU HCM HIN
                  generalize rs.any (bothB a b) = lk at *
                  have k0 := HU4.out.box.at_ (i := 0) rfl
                  have k1 := HU4.out.box.at_ (i := 1) rfl
                  have k2 := HU4.out.box.at_ (i := 2) rfl
                  have k3 := HU4.out.box.at_ (i := 3) rfl
                  go_wp2_with fail
                  refine (HL1.out _ HU4.out).mono ?_
                  rintro e w5 ⟨rfl, hb5⟩
                  have HU5 := Lib.hid (HU4.out.below hb5)
                  have HJ5 := Lib.hid (HJ4.out.below hb5)
                  have HA5 := Lib.hid (HA4.out.below hb5)
                  clear hb5 k0 k1 k2 k3
                  have k0 := HU5.out.box.at_ (i := 0) rfl
                  have k1 := HU5.out.box.at_ (i := 1) rfl
                  have k2 := HU5.out.box.at_ (i := 2) rfl
                  have k3 := HU5.out.box.at_ (i := 3) rfl
                  go_wp2_with fail
                  refine (HL2.out _ HU5.out).mono ?_
                  rintro e w6 ⟨rfl, hb6⟩
                  have HU6 := Lib.hid (HU5.out.below hb6)
                  have HJ6 := Lib.hid (HJ5.out.below hb6)
                  have HA6 := Lib.hid (HA5.out.below hb6)
                  clear hb6 k0 k1 k2 k3
                  go_wp2_with fail
                  go_roundw
                  case rel => first | exact ⟨b + 1, by go_num, by omega, HU6.out, HJ6.out, HA6.out⟩ | ((repeat apply Exists.intro); exact ⟨⟨b + 1, by go_num, by omega, HU6.out, HJ6.out, HA6.out⟩, rfl⟩)
                  case measure => simp [intOf]; omega
            · go_wp2_with fail
              go_roundw
              case rel => exact ⟨a + 1, by go_num, by omega, HUC.out, HJC.out⟩
              case measure => simp [intOf]; omega
      · go_wp2_with fail
        refine (SSane _ (HE.out.below HUA.out.bel)).mono ?_
        rintro e w9 ⟨rfl, hb9⟩
        have HB9 := Lib.hid (HUA.out.bel.trans (hb9.mono HUA.out.bel.size))
        clear hb9
        go_wp2_with fail
        go_ret
        exact ⟨rfl, HB9.out⟩

end Go.Proofs.YtnjccldjlpkgkaaGreatDoor

namespace Go.Proofs.YtnjccldjlpkgkaaGreatDoor
open Go.RowKit

/-- The schema's box, the other one's behind it with the first k relations in the order of ps. -/
structure SO (w1 wr : World) (b : Nat) (S : SchV) (vr pv : Value) (ps : List Nat) (k : Nat) : Prop where
  x : Blk wr w1.heap.size 44 S.cells.toList
  y : Blk wr (w1.heap.size + 1) 44 [.slice S.aa S.at1.length S.ca, vr, .slice S.af S.fs.length S.cf, .int .i64 S.lb]
  own : wr.ownsRow (w1.heap.size + 1 + 1) 48 2 vr k (relv ((ps.take k).map (relAt S.rs)))
  ps : wr.ownsRow (w1.heap.size + 1 + 1) 3 1 pv ps.length (vn ps)
  src : Src wr b
  gr : w1.grownBy wr (some b)
theorem below_gb {w w' : World} {row : Option Nat} (hb : Below w.heap.size w w') : w.grownBy w' row := ⟨hb.os, hb.tape, hb.output, hb.size, fun k hk _ => hb.block k hk⟩
section
variable {w1 wr w' : World} {b : Nat} {S : SchV} {vr pv : Value} {ps : List Nat} {k : Nat}
theorem SO.below (h : SO w1 wr b S vr pv ps k) (hb : Below wr.heap.size wr w') : SO w1 w' b S vr pv ps k where
  x := h.x.below hb
  y := h.y.below hb
  own := own_below' h.own hb
  ps := own_below' h.ps hb
  src := h.src.below hb
  gr := grown_trans h.gr ⟨hb.os, hb.tape, hb.output, hb.size, fun k hk _ => hb.block k hk⟩
theorem SO.alloc (h : SO w1 wr b S vr pv ps k) (o : Obj) : SO w1 (wr.alloc o) b S vr pv ps k := h.below ((Below.refl _ _).alloc (Nat.le_refl _) o)
theorem SO.drew (h : SO w1 wr b S vr pv ps k) : SO w1 wr.drew b S vr pv ps k := h.below (Below.refl _ _).drew
theorem SO.box_y (h : SO w1 wr b S vr pv ps k) (hg : wr.grownBy w' vr.ownBlock) : Blk w' (w1.heap.size + 1) 44 [.slice S.aa S.at1.length S.ca, vr, .slice S.af S.fs.length S.cf, .int .i64 S.lb] := h.y.grown hg (fun e => by have := own_gt h.own _ e.symm; omega)
theorem SO.push (h : SO w1 wr b S vr pv ps k) {vr' : Value} (hbw : b < w1.heap.size) (hk : k < ps.length) (hg : wr.grownBy w' vr.ownBlock) (hown : w'.ownsRow (w1.heap.size + 1 + 1) 48 2 vr' (k + 1) (relv ((ps.take k).map (relAt S.rs)) ++ [.string (relAt S.rs ps[k]).nm, .slice (relAt S.rs ps[k]).ad (relAt S.rs ps[k]).xs.length (relAt S.rs ps[k]).cp])) :
    SO w1 (w'.setCell ⟨w1.heap.size + 1, 1, none⟩ vr') b S vr' pv ps (k + 1) := by
  have hy := h.box_y hg
  have hlt := h.y.lt
  have hsz := hg.size
  have hg2 := grown_set (w := w') (w1.heap.size + 1) 1 vr'
  refine ⟨(h.x.grown hg (fun e => by have := own_gt h.own _ e.symm; omega)).far (by show w1.heap.size ≠ w1.heap.size + 1; omega) _, hy.set 1 vr', own_set ?_ (by omega), own_set (own_other h.ps h.own (by decide) hg) (by omega), ?_, ?_⟩
  · rw [List.take_succ_eq_append_getElem hk, List.map_append, List.map_cons, List.map_nil, relv_snoc]
    exact hown
  · exact (h.src.above hg.size (fun i hi => hg.block i (by omega) (fun e => by have := own_gt h.own i e.symm; omega))).above hg2.size (fun i hi => hg2.block i (by omega) (fun e => by injection e with e; omega))
  · exact grown_new (grown_new h.gr hg (fun j hj => by have := own_gt h.own j hj; omega)) hg2 (fun j hj => by injection hj with hj; omega)
end

end Go.Proofs.YtnjccldjlpkgkaaGreatDoor
