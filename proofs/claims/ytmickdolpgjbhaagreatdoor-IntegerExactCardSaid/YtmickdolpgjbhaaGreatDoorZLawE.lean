/-
  The walk of IntegerExact.
-/
import Derived.Test.YtmickdolpgjbhaaGreatDoorZLawL
import Derived.Test.YtmickdolpgjbhaaGreatDoorZL
namespace Go.Proofs.YtmickdolpgjbhaaGreatDoor
open Go.RowKit

/-- The texts of a list that lies in memory are not too long. -/
def Texts (cs : List Value) : Prop := ∀ k, k < cs.length → ∃ s : ByteArray, cs[k]? = some (.string s) ∧ s.size ≤ 140737488355328
theorem texts6 {a b c d e f : ByteArray} (ha : a.size ≤ 1000) (hb : b.size ≤ 1000) (hc : c.size ≤ 1000) (hd : d.size ≤ 1000) (he : e.size ≤ 1000) (hf : f.size ≤ 1000) : Texts [.string a, .string b, .string c, .string d, .string e, .string f] := by
  intro k hk
  match k, hk with
  | 0, _ => exact ⟨a, rfl, by omega⟩
  | 1, _ => exact ⟨b, rfl, by omega⟩
  | 2, _ => exact ⟨c, rfl, by omega⟩
  | 3, _ => exact ⟨d, rfl, by omega⟩
  | 4, _ => exact ⟨e, rfl, by omega⟩
  | 5, _ => exact ⟨f, rfl, by omega⟩
theorem int_fitsE {n : Int} (h0 : -9223372036854775808 ≤ n) (h1 : n ≤ 9223372036854775807) : Fits n := Dig.fits (d := 19) (show n.natAbs < 10 ^ 19 by omega) (by decide) (by decide)

theorem Blk.drew' {w : World} {g : Nat} {t : TypeId} {cs : List Value} (h : Blk w g t cs) : Blk w.drew g t cs := h
set_option maxRecDepth 100000 in
set_option maxHeartbeats 16000000 in
theorem IntegerExact_any (A : Option Addr) (l c : Nat) (w : World) (h : Ints w A l) (hlc : l ≤ c) (hl : l ≤ 9223372036854775807) (htab : Tab w) (sa sb : ByteArray) (hsa : sa.size ≤ 9223372036854775807) (hsb : sb.size ≤ 9223372036854775807) (n : Int) (hn0 : -9223372036854775808 ≤ n) (hn1 : n ≤ 9223372036854775807) : Calls Tryz.prog 5 #[.slice A l c, .string sa, .string sb, .int .i64 n] w fun e w' => e = .returned (.bool true) ∧ Below w.heap.size w w' := by
  have HT := Lib.hid htab
  have HI := Lib.hid h
  have HN0 := Lib.hid (And.intro hn0 hn1)
  have HFN := Lib.hid (int_fitsE hn0 hn1)
  clear htab h hn0 hn1
  by_cases h1 : 400 < l
  · have h1' : decide (400 < (l : Int)) = true := decide_eq_true (by omega)
    go_enter Tryz.func5, Tryz.ntmps5
    go_wp2_with fail
    refine (sane_any w HT.out).mono ?_
    rintro e w1 ⟨rfl, hb⟩
    have HB1 := Lib.hid hb
    clear hb
    go_wp2_with fail
    go_ret
    exact ⟨rfl, HB1.out⟩
  · have h1' : decide (400 < (l : Int)) = false := decide_eq_false (by omega)
    by_cases h2 : 500 < sa.size
    · have h2' : decide (500 < (sa.size : Int)) = true := decide_eq_true (by omega)
      go_enter Tryz.func5, Tryz.ntmps5
      go_wp2_with fail
      refine (sane_any w HT.out).mono ?_
      rintro e w1 ⟨rfl, hb⟩
      have HB1 := Lib.hid hb
      clear hb
      go_wp2_with fail
      go_ret
      exact ⟨rfl, HB1.out⟩
    · have h2' : decide (500 < (sa.size : Int)) = false := decide_eq_false (by omega)
      by_cases h3 : 500 < sb.size
      · have h3' : decide (500 < (sb.size : Int)) = true := decide_eq_true (by omega)
        go_enter Tryz.func5, Tryz.ntmps5
        go_wp2_with fail
        refine (sane_any w HT.out).mono ?_
        rintro e w1 ⟨rfl, hb⟩
        have HB1 := Lib.hid hb
        clear hb
        go_wp2_with fail
        go_ret
        exact ⟨rfl, HB1.out⟩
      · have h3' : decide (500 < (sb.size : Int)) = false := decide_eq_false (by omega)
        go_enter Tryz.func5, Tryz.ntmps5
        go_wp2_with fail
        refine (New_any A l c w HI.out hlc hl).mono ?_
        rintro e w0 ⟨rfl, hs, hb⟩
        have HS0 := Lib.hid hs
        have HB0 := Lib.hid hb
        clear hs hb
        go_wp2_with fail
        refine (Big_any w.heap.size 30 w0 HS0.out (by decide) (by decide)).mono ?_
        rintro e w1 ⟨z1, rfl, hz, hs, hg⟩
        have HS1 := Lib.hid hs
        have HB1 := Lib.hid (below_grown HB0.out HB0.out.size hg)
        have Dz1 := Lib.hid (show Dig 30 z1 from Dig.of_len hz)
        clear hz hs hg
        go_wp2_with fail
        refine (Big_any w.heap.size 12 w1 HS1.out (by decide) (by decide)).mono ?_
        rintro e w2 ⟨z2, rfl, hz, hs, hg⟩
        have HS2 := Lib.hid hs
        have HB2 := Lib.hid (below_grown HB1.out HB1.out.size hg)
        have Dz2 := Lib.hid (show Dig 12 z2 from Dig.of_len hz)
        clear hz hs hg
        go_wp2_with fail
        refine (OddInt_any w.heap.size w2 HS2.out).mono ?_
        rintro e w3 ⟨so, rfl, hso, hs, hg⟩
        have HB3 := Lib.hid (below_grown HB2.out HB2.out.size hg)
        clear hs hg h1' h2' h3' 
        go_wp2_with fail
        refine (IMake_ok n w3 HN0.out.1 HN0.out.2 (HT.out.below HB3.out)).mono ?_
        rintro e w4 ⟨rfl, hb⟩
        have HB4 := Lib.hid (HB3.out.trans (hb.mono HB3.out.size))
        clear hb
        have hz1s := str_small z1 (Dz1.out.fits (by decide) (by decide))
        have hz2s := str_small z2 (Dz2.out.fits (by decide) (by decide))
        have hns := str_small n HFN.out
        have HTX := Lib.hid (texts6 (a := sa) (b := sb) (c := str z1) (d := str z2) (e := so) (f := str n) (by omega) (by omega) (by omega) (by omega) (by omega) (by omega))
        have HMK := Lib.hid (fun W => RMake_ok n W HN0.out.1 HN0.out.2)
        clear HS0 HS1 HS2 HB0 HB1 HB2 HB3 HI Dz1 Dz2 HFN
        generalize str z1 = s2 at *
        generalize str z2 = s3 at *
        generalize str n = s5 at *
        go_upto_region 5 with (fail)
        have HK := Lib.hid (Blk.new w4 25 [.string sa, .string sb, .string s2, .string s3, .string so, .string s5])
        have HBA := Lib.hid (HB4.out.alloc HB4.out.size (.cells #[.string sa, .string sb, .string s2, .string s3, .string so, .string s5] 25))
        generalize w4.alloc (.cells #[.string sa, .string sb, .string s2, .string s3, .string so, .string s5] 25) = W5 at *
        generalize w4.heap.size = g at *
        have hc5 : W5.cell? ⟨g, 5, none⟩ = some (.string s5) := HK.out.at_ rfl
        go_region_held3 (fun w' => w'.cell? ⟨g, 5, none⟩ = some (.string s5))
          (first | (with_reducible exact HK6.out.at_ rfl) | go_keep)
          (first | (go_at_call 22; refine (HMK.out _).mono ?_; rintro e w6 ⟨rfl, hb6⟩; have HK6 := Lib.hid ((HK.out.drew).below hb6); have HB6 := Lib.hid (HBA.out.drew.trans (hb6.mono HBA.out.size)); clear hb6))
        clear hc5
        go_wp2_with fail
        go_loopw [60] (fun kv wr => ∃ k : Nat, kv = .int .i64 (k : Int) ∧ k ≤ 6 ∧ Blk wr g 25 [.string sa, .string sb, .string s2, .string s3, .string so, .string s5] ∧ Below w.heap.size w wr) (fun kv _ => 6 - (intOf kv).toNat)
        case atStart => exact ⟨0, rfl, by omega, HK6.out, HB6.out⟩
        case round =>
          obtain ⟨k, rfl, hk6, hkb, hbw⟩ := hrel
          have HKR := Lib.hid hkb
          have HB10 := Lib.hid hbw
          clear hkb hbw HK6 HB6 HK HBA
          by_cases hlt : k < 6
          · obtain ⟨s, hcs, hss⟩ := HTX.out k hlt
            have hcell : wr.cell? ⟨g, k, none⟩ = some (.string s) := HKR.out.at_ hcs
            obtain ⟨sv, sb1, hsm1, hsm2⟩ := agSmall s hss
            obtain ⟨vb, hv1, hv2⟩ := agValid s hss
            obtain ⟨sc, hsi1, hsi2, hsc1, hsc2⟩ := agSign s hss
            have SM1 := Lib.hid hsm1
            have SM2 := Lib.hid hsm2
            have V1 := Lib.hid hv1
            have V2 := Lib.hid hv2
            have SI1 := Lib.hid hsi1
            have SI2 := Lib.hid hsi2
            clear hcs hsm1 hsm2 hv1 hv2 hsi1 hsi2
            obtain ⟨w10, rfl⟩ : ∃ w10 : World, w10 = wr := ⟨_, rfl⟩
            go_wp2_with fail
            refine (SM1.out w10).mono ?_
            rintro e w11 ⟨rfl, hb⟩
            have HB11 := Lib.hid (HB10.out.trans (hb.mono HB10.out.size))
            have HKR11 := Lib.hid (HKR.out.below hb)
            clear hb
            go_wp2_with fail
            refine (SM2.out w11).mono ?_
            rintro e w12 ⟨rfl, hb⟩
            have HB12 := Lib.hid (HB11.out.trans (hb.mono HB11.out.size))
            have HKR12 := Lib.hid (HKR11.out.below hb)
            clear hb
            go_wp2_with fail
            refine (V1.out w12).mono ?_
            rintro e w13 ⟨rfl, hb⟩
            have HB13 := Lib.hid (HB12.out.trans (hb.mono HB12.out.size))
            have HKR13 := Lib.hid (HKR12.out.below hb)
            clear hb
            go_wp2_with fail
            refine (V2.out w13).mono ?_
            rintro e w14 ⟨rfl, hb⟩
            have HB14 := Lib.hid (HB13.out.trans (hb.mono HB13.out.size))
            have HKR14 := Lib.hid (HKR13.out.below hb)
            clear hb
            go_wp2_with fail
            refine (SI1.out w14).mono ?_
            rintro e w15 ⟨rfl, hb⟩
            have HB15 := Lib.hid (HB14.out.trans (hb.mono HB14.out.size))
            have HKR15 := Lib.hid (HKR14.out.below hb)
            clear hb
            go_wp2_with fail
            refine (SI2.out w15).mono ?_
            rintro e w16 ⟨rfl, hb⟩
            have HB16 := Lib.hid (HB15.out.trans (hb.mono HB15.out.size))
            have HKR16 := Lib.hid (HKR15.out.below hb)
            clear hb
            clear SM1 SM2 V1 V2 SI1 SI2 hcell
            go_wp2_with fail
            go_loopw [99] (fun kv wr => ∃ j : Nat, kv = .int .i64 (j : Int) ∧ j ≤ 5 ∧ Blk wr g 25 [.string sa, .string sb, .string s2, .string s3, .string so, .string s5] ∧ Below w.heap.size w wr) (fun kv _ => 5 - (intOf kv).toNat)
            case atStart => exact ⟨0, rfl, by omega, HKR16.out, HB16.out⟩
            case round =>
              obtain ⟨j, rfl, hj5, hkb, hbw⟩ := hrel
              clear HKR16 HB16 HKR HB10 HKR11 HKR12 HKR13 HKR14 HKR15 HB11 HB12 HB13 HB14 HB15
              have HKR := Lib.hid hkb
              have HB20 := Lib.hid hbw
              clear hkb hbw
              by_cases hltj : j < 5
              · obtain ⟨t, hct, hts⟩ := HTX.out (1 + j) (by show 1 + j < 6; omega)
                have hcell : wr.cell? ⟨g, 1 + j, none⟩ = some (.string t) := HKR.out.at_ hct
                obtain ⟨cc, hcp1, hcp2⟩ := agCompare s t hss hts
                obtain ⟨r1, c1, hA1, hA2⟩ := agAdd s t hss hts
                obtain ⟨r2, c2, hS1, hS2⟩ := agSub s t hss hts
                obtain ⟨r3, c3, hM1, hM2⟩ := agMul s t hss hts
                obtain ⟨r4, r5, c4, hD1, hD2⟩ := agDiv s t hss hts
                obtain ⟨r6, c6, hG1, hG2⟩ := agGcd s t hss hts
                have CP1 := Lib.hid hcp1
                have CP2 := Lib.hid hcp2
                have A1 := Lib.hid hA1
                have A2 := Lib.hid hA2
                have S1 := Lib.hid hS1
                have S2 := Lib.hid hS2
                have M1 := Lib.hid hM1
                have M2 := Lib.hid hM2
                have D1 := Lib.hid hD1
                have D2 := Lib.hid hD2
                have G1 := Lib.hid hG1
                have G2 := Lib.hid hG2
                clear hct hcp1 hcp2 hA1 hA2 hS1 hS2 hM1 hM2 hD1 hD2 hG1 hG2
                obtain ⟨w20, rfl⟩ : ∃ w20 : World, w20 = wr := ⟨_, rfl⟩
                go_wp2_with fail
                refine (CP1.out w20).mono ?_
                rintro e w21 ⟨rfl, hb⟩
                have HB21 := Lib.hid (HB20.out.trans (hb.mono HB20.out.size))
                have HKR21 := Lib.hid (HKR.out.below hb)
                clear hb
                go_wp2_with fail
                refine (CP2.out w21).mono ?_
                rintro e w22 ⟨rfl, hb⟩
                have HB22 := Lib.hid (HB21.out.trans (hb.mono HB21.out.size))
                have HKR22 := Lib.hid (HKR21.out.below hb)
                clear hb
                go_wp2_with fail
                refine (A1.out w22 (HT.out.below HB22.out)).mono ?_
                rintro e w23 ⟨rfl, hb⟩
                have HB23 := Lib.hid (HB22.out.trans (hb.mono HB22.out.size))
                have HKR23 := Lib.hid (HKR22.out.below hb)
                clear hb
                go_wp2_with fail
                refine (A2.out w23).mono ?_
                rintro e w24 ⟨rfl, hb⟩
                have HB24 := Lib.hid (HB23.out.trans (hb.mono HB23.out.size))
                have HKR24 := Lib.hid (HKR23.out.below hb)
                clear hb
                go_wp2_with fail
                refine (S1.out w24 (HT.out.below HB24.out)).mono ?_
                rintro e w25 ⟨rfl, hb⟩
                have HB25 := Lib.hid (HB24.out.trans (hb.mono HB24.out.size))
                have HKR25 := Lib.hid (HKR24.out.below hb)
                clear hb
                go_wp2_with fail
                refine (S2.out w25).mono ?_
                rintro e w26 ⟨rfl, hb⟩
                have HB26 := Lib.hid (HB25.out.trans (hb.mono HB25.out.size))
                have HKR26 := Lib.hid (HKR25.out.below hb)
                clear hb
                go_wp2_with fail
                refine (M1.out w26 (HT.out.below HB26.out)).mono ?_
                rintro e w27 ⟨rfl, hb⟩
                have HB27 := Lib.hid (HB26.out.trans (hb.mono HB26.out.size))
                have HKR27 := Lib.hid (HKR26.out.below hb)
                clear hb
                go_wp2_with fail
                refine (M2.out w27).mono ?_
                rintro e w28 ⟨rfl, hb⟩
                have HB28 := Lib.hid (HB27.out.trans (hb.mono HB27.out.size))
                have HKR28 := Lib.hid (HKR27.out.below hb)
                clear hb
                go_wp2_with fail
                refine (D1.out w28 (HT.out.below HB28.out)).mono ?_
                rintro e w29 ⟨rfl, hb⟩
                have HB29 := Lib.hid (HB28.out.trans (hb.mono HB28.out.size))
                have HKR29 := Lib.hid (HKR28.out.below hb)
                clear hb
                go_wp2_with fail
                refine (D2.out w29).mono ?_
                rintro e w30 ⟨rfl, hb⟩
                have HB30 := Lib.hid (HB29.out.trans (hb.mono HB29.out.size))
                have HKR30 := Lib.hid (HKR29.out.below hb)
                clear hb
                go_wp2_with fail
                refine (G1.out w30 (HT.out.below HB30.out)).mono ?_
                rintro e w31 ⟨rfl, hb⟩
                have HB31 := Lib.hid (HB30.out.trans (hb.mono HB30.out.size))
                have HKR31 := Lib.hid (HKR30.out.below hb)
                clear hb
                go_wp2_with fail
                refine (G2.out w31).mono ?_
                rintro e w32 ⟨rfl, hb⟩
                have HB32 := Lib.hid (HB31.out.trans (hb.mono HB31.out.size))
                have HKR32 := Lib.hid (HKR31.out.below hb)
                clear hb
                go_wp2_with fail
                go_roundw
                case rel => exact ⟨j + 1, by go_num, by omega, HKR32.out, HB32.out⟩
                case measure => simp [intOf]; omega
              · go_wp2_with fail
                go_roundw
                case rel => exact ⟨k + 1, by go_num, by omega, HKR.out, HB20.out⟩
                case measure => simp [intOf]; omega
          · go_wp2_with fail
            refine (sane_any wr (HT.out.below HB10.out)).mono ?_
            rintro e w11 ⟨rfl, hb⟩
            have HB11 := Lib.hid (HB10.out.trans (hb.mono HB10.out.size))
            clear hb
            go_wp2_with fail
            go_ret
            exact ⟨rfl, HB11.out⟩

end Go.Proofs.YtmickdolpgjbhaaGreatDoor
