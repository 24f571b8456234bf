/-
  The walk of RationalExact.
-/
import Derived.Test.YtecklmdlmldpgaaGreatDoorZW
namespace Go.Proofs.YtecklmdlmldpgaaGreatDoor
open Go.RowKit

/-- The texts of a list that lies in memory are not too long. -/
def TextsR (cs : List Value) : Prop := ∀ k, k < cs.length → ∃ s : ByteArray, cs[k]? = some (.string s) ∧ s.size ≤ 4000000000
theorem texts6R {a b c d e f : ByteArray} (ha : a.size ≤ 1000) (hb : b.size ≤ 1000) (hc : c.size ≤ 1000) (hd : d.size ≤ 1000) (he : e.size ≤ 1000) (hf : f.size ≤ 1000) : TextsR [.string a, .string b, .string c, .string d, .string e, .string f] := by
  intro k hk
  match k, hk with
  | 0, _ => exact ⟨a, rfl, by omega⟩
  | 1, _ => exact ⟨b, rfl, by omega⟩
  | 2, _ => exact ⟨c, rfl, by omega⟩
  | 3, _ => exact ⟨d, rfl, by omega⟩
  | 4, _ => exact ⟨e, rfl, by omega⟩
  | 5, _ => exact ⟨f, rfl, by omega⟩
theorem pairs_ixR (a b c d e f : ByteArray) (ha : a.size ≤ 1000) (hb : b.size ≤ 1000) (hc : c.size ≤ 1000) (hd : d.size ≤ 1000) (he : e.size ≤ 1000) (hf : f.size ≤ 1000) : ∀ n : Nat, n < 3 → ∃ s t : ByteArray,
    (∀ W : World, (Instr.index 74 (.agg #[.string a, .string b, .string c, .string d, .string e, .string f]) (.int .i64 (n : Int))).run Tryz.prog W = .ok (.agg #[.string s, .string t]) W) ∧ s.size ≤ 4000000000 ∧ t.size ≤ 4000000000 := by
  intro n hn3
  match n, hn3 with
  | 0, _ => exact ⟨a, b, fun W => by kernel_rfl, by omega, by omega⟩
  | 1, _ => exact ⟨c, d, fun W => by kernel_rfl, by omega, by omega⟩
  | 2, _ => exact ⟨e, f, fun W => by kernel_rfl, by omega, by omega⟩
theorem src_no_row {w : World} {b : Nat} {t : TypeId} {a : ByteArray} {cs : List Value} (h : Src w b) : ¬ Blk w b t (.string a :: cs) := by
  intro hk
  obtain ⟨A, l, c, k, hb, _⟩ := h
  unfold Blk at hk
  rw [hb] at hk
  injection hk with hk
  injection hk with hk
  have := congrArg (fun a => a[0]?) hk
  simp at this
theorem int_fitsR {n : Int} (h0 : -9223372036854775808 ≤ n) (h1 : n ≤ 9223372036854775807) : Fits n := Dig.fits (d := 19) (show n.natAbs < 10 ^ 19 by omega) (by decide) (by decide)
theorem rstr_len {q : Rat} (h : FitsR q) : (rstr q).size ≤ 803 := by rw [rstr_size]; exact rtext_len h

set_option maxRecDepth 100000 in
set_option maxHeartbeats 16000000 in
theorem RationalExact_any (A : Option Addr) (l cp : Nat) (w : World) (h : Ints w A l) (hlc : l ≤ cp) (hl : l ≤ 9223372036854775807) (henv : Env w) (sa sb sm sk : ByteArray) (hsa : sa.size ≤ 9223372036854775807) (hsb : sb.size ≤ 9223372036854775807) (hsm : sm.size ≤ 9223372036854775807) (hsk : sk.size ≤ 9223372036854775807) (n : Int) (hn0 : -9223372036854775808 ≤ n) (hn1 : n ≤ 9223372036854775807) :
    Calls Tryz.prog 12 #[.slice A l cp, .string sa, .string sb, .string sm, .string sk, .int .i64 n] w fun e w' => e = .returned (.bool true) ∧ Below w.heap.size w w' := by
  have HE := Lib.hid henv
  have HI := Lib.hid h
  have HN0 := Lib.hid (And.intro hn0 hn1)
  have HFN := Lib.hid (int_fitsR hn0 hn1)
  clear henv h hn0 hn1
  by_cases h0 : 400 < l
  · have h0' : decide (400 < (l : Int)) = true := decide_eq_true (by omega)
    go_enter Tryz.func12, Tryz.ntmps12
    go_wp2_with fail
    refine (RSane w HE.out).mono ?_
    rintro e w1 ⟨rfl, hb⟩
    have HB := Lib.hid hb
    clear hb
    go_wp2_with fail
    go_ret
    exact ⟨rfl, HB.out⟩
  · have h0' : decide (400 < (l : Int)) = false := decide_eq_false (by omega)
    by_cases h1 : 120 < sa.size
    · have h1' : decide (120 < (sa.size : Int)) = true := decide_eq_true (by omega)
      go_enter Tryz.func12, Tryz.ntmps12
      go_wp2_with fail
      refine (RSane w HE.out).mono ?_
      rintro e w1 ⟨rfl, hb⟩
      have HB := Lib.hid hb
      clear hb
      go_wp2_with fail
      go_ret
      exact ⟨rfl, HB.out⟩
    · have h1' : decide (120 < (sa.size : Int)) = false := decide_eq_false (by omega)
      by_cases h2 : 120 < sb.size
      · have h2' : decide (120 < (sb.size : Int)) = true := decide_eq_true (by omega)
        go_enter Tryz.func12, Tryz.ntmps12
        go_wp2_with fail
        refine (RSane w HE.out).mono ?_
        rintro e w1 ⟨rfl, hb⟩
        have HB := Lib.hid hb
        clear hb
        go_wp2_with fail
        go_ret
        exact ⟨rfl, HB.out⟩
      · have h2' : decide (120 < (sb.size : Int)) = false := decide_eq_false (by omega)
        by_cases h3 : 200 < sm.size
        · have h3' : decide (200 < (sm.size : Int)) = true := decide_eq_true (by omega)
          go_enter Tryz.func12, Tryz.ntmps12
          go_wp2_with fail
          refine (RSane w HE.out).mono ?_
          rintro e w1 ⟨rfl, hb⟩
          have HB := Lib.hid hb
          clear hb
          go_wp2_with fail
          go_ret
          exact ⟨rfl, HB.out⟩
        · have h3' : decide (200 < (sm.size : Int)) = false := decide_eq_false (by omega)
          by_cases h4 : 200 < sk.size
          · have h4' : decide (200 < (sk.size : Int)) = true := decide_eq_true (by omega)
            go_enter Tryz.func12, Tryz.ntmps12
            go_wp2_with fail
            refine (RSane w HE.out).mono ?_
            rintro e w1 ⟨rfl, hb⟩
            have HB := Lib.hid hb
            clear hb
            go_wp2_with fail
            go_ret
            exact ⟨rfl, HB.out⟩
          · have h4' : decide (200 < (sk.size : Int)) = false := decide_eq_false (by omega)
            go_enter Tryz.func12, Tryz.ntmps12
            go_wp2_with fail
            refine (New_any A l cp w HI.out hlc hl).mono ?_
            rintro e w0 ⟨rfl, hs, hb⟩
            have HS := Lib.hid hs
            have HB := Lib.hid hb
            clear hs hb HI
            go_wp2_with fail
            refine (Long_any w.heap.size 12 w0 HS.out (by decide) (by decide)).mono ?_
            rintro e w1 ⟨q2, rfl, hq, hs, hg⟩
            replace HS := Lib.hid hs
            replace HB := Lib.hid (below_grown HB.out HB.out.size hg)
            clear hs hg
            have Dq2 := Lib.hid hq
            have Fq2 := Lib.hid (hq.fits (by decide) (by decide))
            clear hq
            go_wp2_with fail
            refine (MRat_any w.heap.size w1 HS.out).mono ?_
            rintro e w2 ⟨q3, rfl, hq, hs, hg⟩
            replace HS := Lib.hid hs
            replace HB := Lib.hid (below_grown HB.out HB.out.size hg)
            clear hs hg
            have F3 := Lib.hid hq.fits
            clear hq
            go_wp2_with fail
            refine (OddRat_any w.heap.size w2 HS.out).mono ?_
            rintro e w3 ⟨so, rfl, hso, hs, hg⟩
            replace HS := Lib.hid hs
            replace HB := Lib.hid (below_grown HB.out HB.out.size hg)
            clear hs hg
            clear h0' h1' h2' h3' h4'
            go_wp2_with fail
            refine (RatWhole_ok n w3 HN0.out.1 HN0.out.2 (HE.out.below HB.out)).mono ?_
            rintro e w4 ⟨rfl, hb⟩
            replace HS := Lib.hid (HS.out.below hb)
            replace HB := Lib.hid (HB.out.trans (hb.mono HB.out.size))
            clear hb
            have z2 := rstr_len Fq2.out
            have z3 := rstr_len F3.out
            have z5 := str_len HFN.out
            have HTX := Lib.hid (texts6R (a := sa) (b := sb) (c := rstr q2) (d := rstr q3) (e := so) (f := str n) (by omega) (by omega) (by omega) (by omega) (by omega) (by omega))
            have HMK := Lib.hid (fun W => RFWhole_ok n W HN0.out.1 HN0.out.2)
            clear Dq2 Fq2 F3 HFN
            generalize rstr q2 = s2 at *
            generalize rstr q3 = s3 at *
            generalize str n = s5 at *
            clear z2 z3 z5
            go_upto_region 5 with (fail)
            have hHK := (Blk.new w4 26 [.string sa, .string sb, .string s2, .string s3, .string so, .string s5])
            have hb : Below w4.heap.size w4 (w4.alloc (.cells #[.string sa, .string sb, .string s2, .string s3, .string so, .string s5] 26)) := (Below.refl _ _).alloc (Nat.le_refl _) _
            generalize w4.alloc (.cells #[.string sa, .string sb, .string s2, .string s3, .string so, .string s5] 26) = W5 at *
            have HK := Lib.hid hHK
            replace HS := Lib.hid (HS.out.below hb)
            replace HB := Lib.hid (HB.out.trans (hb.mono HB.out.size))
            clear hb hHK
            obtain ⟨g, hg⟩ : ∃ g, w4.heap.size = g := ⟨_, rfl⟩
            rw [hg] at HK ⊢
            clear hg
            have hc5 : W5.cell? ⟨g, 5, none⟩ = some (.string s5) := HK.out.at_ rfl
            have P0 : Hid (W5.drew.cell? ⟨g, 5, none⟩ = some (.string s5)) := hc5
            go_region_held3 (fun w' => w'.cell? ⟨g, 5, none⟩ = some (.string s5)) (first | with_reducible exact P0.out | with_reducible exact P6.out | go_keep) (first | (go_at_call 52; (with_reducible refine (HMK.out _).mono ?_); rintro e w6 ⟨rfl, hb⟩; have HK6 := Lib.hid (HK.out.drew.below hb); have P6 : Hid (w6.cell? ⟨g, 5, none⟩ = some (.string s5)) := HK6.out.at_ rfl; have HS6 := Lib.hid ((show Src W5.drew w.heap.size from HS.out).below hb); have HB6 := Lib.hid (HB.out.drew.trans (hb.mono HB.out.size)); clear hb))
            clear hc5 P0 P6 HK HS HB
            have HK := HK6
            have HS := HS6
            have HB := HB6
            have hgb : g ≠ w.heap.size := fun e => by subst e; exact absurd HK.out (src_no_row HS.out)
            clear HK6 HS6 HB6
            go_wp2_with fail
            refine (Big_any w.heap.size 9 w6 HS.out (by decide) (by decide)).mono ?_
            rintro e w7 ⟨y1, rfl, hz, hs, hg⟩
            replace HS := Lib.hid hs
            replace HK := Lib.hid (HK.out.grown hg (fun e => hgb (by injection e)))
            replace HB := Lib.hid (below_grown HB.out HB.out.size hg)
            clear hs hg
            have ly1 := str_len ((show Dig 9 y1 from Dig.of_len hz).fits (by decide) (by decide))
            clear hz
            go_wp2_with fail
            refine (Big_any w.heap.size 9 w7 HS.out (by decide) (by decide)).mono ?_
            rintro e w8 ⟨y2, rfl, hz, hs, hg⟩
            replace HS := Lib.hid hs
            replace HK := Lib.hid (HK.out.grown hg (fun e => hgb (by injection e)))
            replace HB := Lib.hid (below_grown HB.out HB.out.size hg)
            clear hs hg
            have ly2 := str_len ((show Dig 9 y2 from Dig.of_len hz).fits (by decide) (by decide))
            clear hz
            go_wp2_with fail
            refine (Big_any w.heap.size 5 w8 HS.out (by decide) (by decide)).mono ?_
            rintro e w9 ⟨y3, rfl, hz, hs, hg⟩
            replace HS := Lib.hid hs
            replace HK := Lib.hid (HK.out.grown hg (fun e => hgb (by injection e)))
            replace HB := Lib.hid (below_grown HB.out HB.out.size hg)
            clear hs hg
            have ly3 := str_len ((show Dig 5 y3 from Dig.of_len hz).fits (by decide) (by decide))
            clear hz
            go_wp2_with fail
            refine (OddInt_any w.heap.size w9 HS.out).mono ?_
            rintro e w10 ⟨sp, rfl, hsp, hs, hg⟩
            replace HS := Lib.hid hs
            replace HK := Lib.hid (HK.out.grown hg (fun e => hgb (by injection e)))
            replace HB := Lib.hid (below_grown HB.out HB.out.size hg)
            clear hs hg
            clear HS
            have HIX := Lib.hid (pairs_ixR sm sk (str y1) (str y2) (str y3) sp (by omega) (by omega) (by omega) (by omega) (by omega) (by omega))
            generalize str y1 = t1 at *
            generalize str y2 = t2 at *
            generalize str y3 = t3 at *
            clear ly1 ly2 ly3
            go_wp2_with fail
            go_loopw [96] (fun kv wr => ∃ k : Nat, kv = .int .i64 (k : Int) ∧ k ≤ 3 ∧ Blk wr g 26 [.string sa, .string sb, .string s2, .string s3, .string so, .string s5] ∧ Below w.heap.size w wr) (fun kv _ => 3 - (intOf kv).toNat)
            case atStart => exact ⟨0, rfl, by omega, HK.out, HB.out⟩
            case round =>
              clear HK HB
              obtain ⟨k, rfl, hk3, hkb, hbw⟩ := hrel
              have HK := Lib.hid hkb
              have HB := Lib.hid hbw
              clear hkb hbw
              by_cases hlt : k < 3
              · obtain ⟨s, t, hix, hs, ht⟩ := HIX.out k hlt
                obtain ⟨r1, c1, hM1, hM2⟩ := agRMake s t hs ht
                have M1 := Lib.hid hM1
                have M2 := Lib.hid hM2
                clear hM1 hM2 hs ht
                go_wp2_with fail
                clear hix
                have hHP := (Blk.new wr 72 [.string s, .string t])
                have hb : Below wr.heap.size wr (wr.alloc (.cells #[.string s, .string t] 72)) := (Below.refl _ _).alloc (Nat.le_refl _) _
                generalize wr.alloc (.cells #[.string s, .string t] 72) = W6 at *
                have HP := Lib.hid hHP
                replace HK := Lib.hid (HK.out.below hb)
                replace HB := Lib.hid (HB.out.trans (hb.mono HB.out.size))
                clear hb hHP
                have hne : g ≠ 0 ∨ True := .inr trivial
                clear hne
                refine (M1.out W6 (HE.out.below HB.out)).mono ?_
                rintro e w11 ⟨rfl, hb⟩
                replace HK := Lib.hid (HK.out.below hb)
                replace HP := Lib.hid (HP.out.below hb)
                replace HB := Lib.hid (HB.out.trans (hb.mono HB.out.size))
                clear hb
                have p0 := HP.out.at_ (i := 0) rfl
                have p1 := HP.out.at_ (i := 1) rfl
                go_wp2_with fail
                refine (M2.out w11).mono ?_
                rintro e w12 ⟨rfl, hb⟩
                replace HK := Lib.hid (HK.out.below hb)
                replace HP := Lib.hid (HP.out.below hb)
                replace HB := Lib.hid (HB.out.trans (hb.mono HB.out.size))
                clear hb p0 p1
                have p0 := HP.out.at_ (i := 0) rfl
                have p1 := HP.out.at_ (i := 1) rfl
                go_wp2_with fail
                go_roundw
                case rel => exact ⟨k + 1, by go_num, by omega, HK.out, HB.out⟩
                case measure => simp [intOf]; omega
              · clear HIX
                go_wp2_with fail
                go_loopw [126] (fun kv wr => ∃ k : Nat, kv = .int .i64 (k : Int) ∧ k ≤ 6 ∧ Blk wr g 26 [.string sa, .string sb, .string s2, .string s3, .string so, .string s5] ∧ Below w.heap.size w wr) (fun kv _ => 6 - (intOf kv).toNat)
                case atStart => exact ⟨0, rfl, by omega, HK.out, HB.out⟩
                case round =>
                  clear HK HB hlt
                  obtain ⟨i, rfl, hi6, hkb, hbw⟩ := hrel
                  have HK := Lib.hid hkb
                  have HB := Lib.hid hbw
                  clear hkb hbw
                  by_cases hlt : i < 6
                  · obtain ⟨s, hcs, hss⟩ := HTX.out i hlt
                    have hcell : wr.cell? ⟨g, i, none⟩ = some (.string s) := HK.out.at_ hcs
                    obtain ⟨p1, p2, p3, hP1, hP2⟩ := agRParts s hss
                    obtain ⟨f1, f2, hF1, hF2⟩ := agRFloor s hss
                    obtain ⟨g1, hG1, hG2⟩ := agRDigits s hss
                    obtain ⟨j1, hJ1, hJ2⟩ := agRSign s hss
                    have P1 := Lib.hid hP1
                    have P2 := Lib.hid hP2
                    have F1 := Lib.hid hF1
                    have F2 := Lib.hid hF2
                    have G1 := Lib.hid hG1
                    have G2 := Lib.hid hG2
                    have J1 := Lib.hid hJ1
                    have J2 := Lib.hid hJ2
                    have V1 := Lib.hid (fun W hE => RatValidS s W hss hE)
                    have V2 := Lib.hid (fun W => RFValid s W hss)
                    generalize vR s = vb at *
                    clear hcs hP1 hP2 hF1 hF2 hG1 hG2 hJ1 hJ2
                    obtain ⟨wq, rfl⟩ : ∃ wq : World, wq = wr := ⟨_, rfl⟩
                    go_wp2_with fail
                    refine (P1.out wq (HE.out.below HB.out)).mono ?_
                    rintro e w21 ⟨rfl, hb⟩
                    replace HK := Lib.hid (HK.out.below hb)
                    replace HB := Lib.hid (HB.out.trans (hb.mono HB.out.size))
                    clear hb
                    clear hcell
                    go_wp2_with fail
                    refine (P2.out w21).mono ?_
                    rintro e w22 ⟨rfl, hb⟩
                    replace HK := Lib.hid (HK.out.below hb)
                    replace HB := Lib.hid (HB.out.trans (hb.mono HB.out.size))
                    clear hb
                    go_wp2_with fail
                    refine (F1.out w22 (HE.out.below HB.out)).mono ?_
                    rintro e w23 ⟨rfl, hb⟩
                    replace HK := Lib.hid (HK.out.below hb)
                    replace HB := Lib.hid (HB.out.trans (hb.mono HB.out.size))
                    clear hb
                    go_wp2_with fail
                    refine (F2.out w23).mono ?_
                    rintro e w24 ⟨rfl, hb⟩
                    replace HK := Lib.hid (HK.out.below hb)
                    replace HB := Lib.hid (HB.out.trans (hb.mono HB.out.size))
                    clear hb
                    go_wp2_with fail
                    refine (V1.out w24 (HE.out.below HB.out)).mono ?_
                    rintro e w25 ⟨rfl, hb⟩
                    replace HK := Lib.hid (HK.out.below hb)
                    replace HB := Lib.hid (HB.out.trans (hb.mono HB.out.size))
                    clear hb
                    go_wp2_with fail
                    refine (V2.out w25).mono ?_
                    rintro e w26 ⟨rfl, hb⟩
                    replace HK := Lib.hid (HK.out.below hb)
                    replace HB := Lib.hid (HB.out.trans (hb.mono HB.out.size))
                    clear hb
                    go_wp2_with fail
                    refine (G1.out w26 (HE.out.below HB.out)).mono ?_
                    rintro e w27 ⟨rfl, hb⟩
                    replace HK := Lib.hid (HK.out.below hb)
                    replace HB := Lib.hid (HB.out.trans (hb.mono HB.out.size))
                    clear hb
                    go_wp2_with fail
                    refine (G2.out w27).mono ?_
                    rintro e w28 ⟨rfl, hb⟩
                    replace HK := Lib.hid (HK.out.below hb)
                    replace HB := Lib.hid (HB.out.trans (hb.mono HB.out.size))
                    clear hb
                    go_wp2_with fail
                    refine (J1.out w28 (HE.out.below HB.out)).mono ?_
                    rintro e w29 ⟨rfl, hb⟩
                    replace HK := Lib.hid (HK.out.below hb)
                    replace HB := Lib.hid (HB.out.trans (hb.mono HB.out.size))
                    clear hb
                    go_wp2_with fail
                    refine (J2.out w29).mono ?_
                    rintro e w30 ⟨rfl, hb⟩
                    replace HK := Lib.hid (HK.out.below hb)
                    replace HB := Lib.hid (HB.out.trans (hb.mono HB.out.size))
                    clear hb
                    clear P1 P2 F1 F2 G1 G2 J1 J2 V1 V2
                    go_wp2_with fail
                    go_loopw [199] (fun kv wr => ∃ j : Nat, kv = .int .i64 (j : Int) ∧ j ≤ 5 ∧ Blk wr g 26 [.string sa, .string sb, .string s2, .string s3, .string so, .string s5] ∧ Below w.heap.size w wr) (fun kv _ => 5 - (intOf kv).toNat)
                    case atStart => exact ⟨0, rfl, by omega, HK.out, HB.out⟩
                    case round =>
                      clear HK HB
                      obtain ⟨j, rfl, hj5, hkb, hbw⟩ := hrel
                      have HK := Lib.hid hkb
                      have HB := Lib.hid hbw
                      clear hkb hbw
                      by_cases hltj : j < 5
                      · obtain ⟨t, hct, hts⟩ := HTX.out (1 + j) (by show 1 + j < 6; omega)
                        have hcell : wr.cell? ⟨g, 1 + j, none⟩ = some (.string t) := HK.out.at_ hct
                        obtain ⟨cc, hC1, hC2⟩ := agRCompare s t hss hts
                        obtain ⟨r0, c0, hAdd1, hAdd2⟩ := agRAdd s t hss hts
                        have Add1 := Lib.hid hAdd1
                        have Add2 := Lib.hid hAdd2
                        clear hAdd1 hAdd2
                        obtain ⟨r1, c1, hSub1, hSub2⟩ := agRSub s t hss hts
                        have Sub1 := Lib.hid hSub1
                        have Sub2 := Lib.hid hSub2
                        clear hSub1 hSub2
                        obtain ⟨r2, c2, hMul1, hMul2⟩ := agRMul s t hss hts
                        have Mul1 := Lib.hid hMul1
                        have Mul2 := Lib.hid hMul2
                        clear hMul1 hMul2
                        obtain ⟨r3, c3, hDiv1, hDiv2⟩ := agRDiv s t hss hts
                        have Div1 := Lib.hid hDiv1
                        have Div2 := Lib.hid hDiv2
                        clear hDiv1 hDiv2
                        have C1 := Lib.hid hC1
                        have C2 := Lib.hid hC2
                        clear hct hC1 hC2
                        obtain ⟨wq, rfl⟩ : ∃ wq : World, wq = wr := ⟨_, rfl⟩
                        go_wp2_with fail
                        refine (C1.out wq (HE.out.below HB.out)).mono ?_
                        rintro e w41 ⟨rfl, hb⟩
                        replace HK := Lib.hid (HK.out.below hb)
                        replace HB := Lib.hid (HB.out.trans (hb.mono HB.out.size))
                        clear hb
                        clear hcell
                        go_wp2_with fail
                        refine (C2.out w41).mono ?_
                        rintro e w42 ⟨rfl, hb⟩
                        replace HK := Lib.hid (HK.out.below hb)
                        replace HB := Lib.hid (HB.out.trans (hb.mono HB.out.size))
                        clear hb
                        go_wp2_with fail
                        refine (Add1.out w42 (HE.out.below HB.out)).mono ?_
                        rintro e w43 ⟨rfl, hb⟩
                        replace HK := Lib.hid (HK.out.below hb)
                        replace HB := Lib.hid (HB.out.trans (hb.mono HB.out.size))
                        clear hb
                        go_wp2_with fail
                        refine (Add2.out w43).mono ?_
                        rintro e w44 ⟨rfl, hb⟩
                        replace HK := Lib.hid (HK.out.below hb)
                        replace HB := Lib.hid (HB.out.trans (hb.mono HB.out.size))
                        clear hb
                        go_wp2_with fail
                        refine (Sub1.out w44 (HE.out.below HB.out)).mono ?_
                        rintro e w45 ⟨rfl, hb⟩
                        replace HK := Lib.hid (HK.out.below hb)
                        replace HB := Lib.hid (HB.out.trans (hb.mono HB.out.size))
                        clear hb
                        go_wp2_with fail
                        refine (Sub2.out w45).mono ?_
                        rintro e w46 ⟨rfl, hb⟩
                        replace HK := Lib.hid (HK.out.below hb)
                        replace HB := Lib.hid (HB.out.trans (hb.mono HB.out.size))
                        clear hb
                        go_wp2_with fail
                        refine (Mul1.out w46 (HE.out.below HB.out)).mono ?_
                        rintro e w47 ⟨rfl, hb⟩
                        replace HK := Lib.hid (HK.out.below hb)
                        replace HB := Lib.hid (HB.out.trans (hb.mono HB.out.size))
                        clear hb
                        go_wp2_with fail
                        refine (Mul2.out w47).mono ?_
                        rintro e w48 ⟨rfl, hb⟩
                        replace HK := Lib.hid (HK.out.below hb)
                        replace HB := Lib.hid (HB.out.trans (hb.mono HB.out.size))
                        clear hb
                        go_wp2_with fail
                        refine (Div1.out w48 (HE.out.below HB.out)).mono ?_
                        rintro e w49 ⟨rfl, hb⟩
                        replace HK := Lib.hid (HK.out.below hb)
                        replace HB := Lib.hid (HB.out.trans (hb.mono HB.out.size))
                        clear hb
                        go_wp2_with fail
                        refine (Div2.out w49).mono ?_
                        rintro e w50 ⟨rfl, hb⟩
                        replace HK := Lib.hid (HK.out.below hb)
                        replace HB := Lib.hid (HB.out.trans (hb.mono HB.out.size))
                        clear hb
                        go_wp2_with fail
                        go_roundw
                        case rel => exact ⟨j + 1, by go_num, by omega, HK.out, HB.out⟩
                        case measure => simp [intOf]; omega
                      · go_wp2_with fail
                        go_roundw
                        case rel => exact ⟨i + 1, by go_num, by omega, HK.out, HB.out⟩
                        case measure => simp [intOf]; omega
                  · clear HTX
                    go_wp2_with fail
                    refine (RSane wr (HE.out.below HB.out)).mono ?_
                    rintro e w21 ⟨rfl, hb⟩
                    replace HB := Lib.hid (HB.out.trans (hb.mono HB.out.size))
                    clear hb
                    go_wp2_with fail
                    go_ret
                    exact ⟨rfl, HB.out⟩

end Go.Proofs.YtecklmdlmldpgaaGreatDoor
