/-
  The walk of RationalFloors.
-/
import Derived.Test.YtecklmdlmldpgaaGreatDoorZLawRo
namespace Go.Proofs.YtecklmdlmldpgaaGreatDoor
open Go.RowKit

theorem floor_fits {q : Rat} (h : FitsR q) : Fits q.floor := Fits.mono (floor_le_num q) h.1
theorem str_m1 : str (-1) = ⟨#[45, 49]⟩ := str_neg1 (n := 1) (by decide) (by decide)
set_option maxRecDepth 100000 in
set_option maxHeartbeats 4000000 in
theorem RationalFloors_any (A : Option Addr) (l cp : Nat) (n : Int) (w : World) (h : Ints w A l) (hlc : l ≤ cp) (hl : l ≤ 9223372036854775807) (hn0 : -32768 ≤ n) (hn1 : n ≤ 32767) (henv : Env w) : Calls Tryz.prog 8 #[.slice A l cp, .int .i16 n] w fun e w' => e = .returned (.bool true) ∧ Below w.heap.size w w' := by
  have HE := Lib.hid henv
  have HI := Lib.hid h
  clear henv h
  go_enter Tryz.func8, Tryz.ntmps8
  go_wp2_with fail
  refine (New_any A l cp w HI.out hlc hl).mono ?_
  rintro e w0 ⟨rfl, hs, hb⟩
  have HS := Lib.hid hs
  have HB := Lib.hid hb
  clear hs hb HI
  go_wp2_with fail
  refine (Long_any w.heap.size 8 w0 HS.out (by decide) (by decide)).mono ?_
  rintro e w1 ⟨a, rfl, hq, hs, hg⟩
  replace HS := Lib.hid hs
  replace HB := Lib.hid (below_grown HB.out HB.out.size hg)
  clear hs hg
  have Da := Lib.hid hq
  have Fa := Lib.hid (hq.fits (by decide) (by decide))
  clear hq
  clear HS
  have Dn : Hid (Dig 5 n) := by show Dig 5 n; unfold Dig; omega
  have HW := Lib.hid (fun W hE => RatWhole_ok n W (by omega) (by omega) hE)
  have DN := Lib.hid (DigR.ofInt Dn.out (by decide))
  have FN := Lib.hid (DN.out.fits (by decide) (by decide))
  go_wp2_with fail
  refine (RatFloor_ok a w1 Fa.out (HE.out.below HB.out)).mono ?_
  rintro e w2 ⟨rfl, hb⟩
  replace HB := Lib.hid (HB.out.trans (hb.mono HB.out.size))
  clear hb
  go_wp2_with fail
  refine (HW.out w2 (HE.out.below HB.out)).mono ?_
  rintro e w3 ⟨rfl, hb⟩
  replace HB := Lib.hid (HB.out.trans (hb.mono HB.out.size))
  clear hb
  have HA := Lib.hid (fun b h fb W hE => RatAdd_fit a (n : Rat) b W h Fa.out FN.out fb hE)
  rw [rstr_int] at HA
  obtain ⟨b, hz⟩ : ∃ z : Rat, a + (n : Rat) = z := ⟨_, rfl⟩
  have Eb := Lib.hid hz
  have Db := Lib.hid (show DigR 14 b from Da.out.add DN.out Eb.out rfl)
  have Fb := Lib.hid (Db.out.fits (by decide) (by decide))
  clear hz
  go_wp2_with fail
  refine (HA.out b Eb.out Fb.out w3 (HE.out.below HB.out)).mono ?_
  rintro e w4 ⟨rfl, hb⟩
  replace HB := Lib.hid (HB.out.trans (hb.mono HB.out.size))
  clear hb
  go_wp2_with fail
  refine (RatFloor_ok b w4 Fb.out (HE.out.below HB.out)).mono ?_
  rintro e w5 ⟨rfl, hb⟩
  replace HB := Lib.hid (HB.out.trans (hb.mono HB.out.size))
  clear hb
  have Ffl := Lib.hid (floor_fits Fa.out)
  have Dfl : Hid (Dig 8 a.floor) := by have := floor_le_num a; have h1 := Da.out.1; show Dig 8 a.floor; unfold Dig at *; omega
  have EFB : Hid (b.floor = a.floor + n) := Lib.hid (by rw [← Eb.out]; exact floor_add_int a n)
  have HMK := Lib.hid (fun W => RMake_ok n W (by omega) (by omega))
  have Fnn := Lib.hid (Dn.out.fits (by decide) (by decide))
  have HAD := Lib.hid (fun W => RAddT_ok a.floor n W Ffl.out Fnn.out)
  have DS := Lib.hid ((Dfl.out.add (Dn.out.mono (b := 8) (by decide)) (z := a.floor + n) rfl (c := 9) rfl).fits (by decide) (by decide))
  rw [outS_fits DS.out, outE_fits DS.out, ← EFB.out] at HAD
  go_wp2_with fail
  refine (HMK.out w5).mono ?_
  rintro e w6 ⟨rfl, hb⟩
  replace HB := Lib.hid (HB.out.trans (hb.mono HB.out.size))
  clear hb
  go_wp2_with fail
  refine (HAD.out w6).mono ?_
  rintro e w7 ⟨rfl, hb⟩
  replace HB := Lib.hid (HB.out.trans (hb.mono HB.out.size))
  clear hb
  obtain ⟨m, hm⟩ : ∃ m : Rat, (0 : Rat) - a = m := ⟨_, rfl⟩
  have Em := Lib.hid hm
  have Dm := Lib.hid (show DigR 8 m by rw [← hm, show (0 : Rat) - a = -a by grind]; exact ⟨by rw [Rat.neg_num]; have := Da.out.1; unfold Dig at *; rw [Int.natAbs_neg]; exact this, by rw [Rat.neg_den]; exact Da.out.2⟩)
  have Fm := Lib.hid (Dm.out.fits (by decide) (by decide))
  have HSB := Lib.hid (fun W hE => RatSub_fit 0 a m W Em.out zero_fits Fa.out Fm.out hE)
  rw [rstr_zero] at HSB
  clear hm
  go_wp2_with fail
  refine (HSB.out w7 (HE.out.below HB.out)).mono ?_
  rintro e w8 ⟨rfl, hb⟩
  replace HB := Lib.hid (HB.out.trans (hb.mono HB.out.size))
  clear hb
  go_wp2_with fail
  refine (RatFloor_ok m w8 Fm.out (HE.out.below HB.out)).mono ?_
  rintro e w9 ⟨rfl, hb⟩
  replace HB := Lib.hid (HB.out.trans (hb.mono HB.out.size))
  clear hb
  go_wp2_with fail
  refine (RatParts_ok a w9 Fa.out (HE.out.below HB.out)).mono ?_
  rintro e w10 ⟨rfl, hb⟩
  replace HB := Lib.hid (HB.out.trans (hb.mono HB.out.size))
  clear hb
  have Fml := Lib.hid (floor_fits Fm.out)
  have HSM := Lib.hid (fun W => RAddT_ok a.floor m.floor W Ffl.out Fml.out)
  have hd1 := str_is1 (a.den : Int)
  have EM : Hid (m = -a) := Lib.hid (by rw [← Em.out]; grind)
  by_cases h1 : a.den = 1
  · rw [decide_eq_true (show (a.den : Int) = 1 by omega)] at hd1
    rw [show a.floor + m.floor = 0 by rw [EM.out]; exact floor_neg_whole h1, outS_fits (fits_small (by decide)), outE_fits (fits_small (by decide)), str_zero] at HSM
    clear h1
    go_wp2_with fail
    refine (HSM.out w10).mono ?_
    rintro e w11 ⟨rfl, hb⟩
    replace HB := Lib.hid (HB.out.trans (hb.mono HB.out.size))
    clear hb
    go_wp2_with fail
    refine (RSane w11 (HE.out.below HB.out)).mono ?_
    rintro e w12 ⟨rfl, hb⟩
    replace HB := Lib.hid (HB.out.trans (hb.mono HB.out.size))
    clear hb
    go_wp2_with fail
    go_ret
    exact ⟨rfl, HB.out⟩
  · rw [decide_eq_false (show ¬ (a.den : Int) = 1 by omega)] at hd1
    rw [show a.floor + m.floor = -1 by rw [EM.out]; exact floor_neg_part h1, outS_fits (fits_small (by decide)), outE_fits (fits_small (by decide)), str_m1] at HSM
    clear h1
    go_wp2_with fail
    refine (HSM.out w10).mono ?_
    rintro e w11 ⟨rfl, hb⟩
    replace HB := Lib.hid (HB.out.trans (hb.mono HB.out.size))
    clear hb
    go_wp2_with fail
    refine (RSane w11 (HE.out.below HB.out)).mono ?_
    rintro e w12 ⟨rfl, hb⟩
    replace HB := Lib.hid (HB.out.trans (hb.mono HB.out.size))
    clear hb
    go_wp2_with fail
    go_ret
    exact ⟨rfl, HB.out⟩

end Go.Proofs.YtecklmdlmldpgaaGreatDoor
