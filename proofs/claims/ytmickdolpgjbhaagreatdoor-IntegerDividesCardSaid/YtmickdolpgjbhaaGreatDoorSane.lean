/-
  Package joinlearnlaw01: sane.
-/
import Derived.Test.YtmickdolpgjbhaaGreatDoorIntD
import Derived.Test.YtmickdolpgjbhaaGreatDoorMkB
namespace Go.Proofs.YtmickdolpgjbhaaGreatDoor
open Go.RowKit

theorem str_pos1 {n : Nat} (h : n < 10) : str (n : Int) = ⟨#[UInt8.ofNat (48 + n)]⟩ := by unfold str; rw [itoa_pos, Lib.decDigits_one h]
theorem str_neg1 {n : Nat} (h : n < 10) (h0 : 0 < n) : str (-(n : Int)) = ⟨#[45, UInt8.ofNat (48 + n)]⟩ := by unfold str; rw [itoa_negNat _ h0, Lib.decDigits_one h]
theorem str_1 : str 1 = ⟨#[49]⟩ := str_pos1 (n := 1) (by decide)
theorem str_2 : str 2 = ⟨#[50]⟩ := str_pos1 (n := 2) (by decide)
theorem str_4 : str 4 = ⟨#[52]⟩ := str_pos1 (n := 4) (by decide)
theorem str_6 : str 6 = ⟨#[54]⟩ := str_pos1 (n := 6) (by decide)
theorem str_m2 : str (-2) = ⟨#[45, 50]⟩ := str_neg1 (n := 2) (by decide) (by decide)
theorem str_m4 : str (-4) = ⟨#[45, 52]⟩ := str_neg1 (n := 4) (by decide) (by decide)
theorem str_m5 : str (-5) = ⟨#[45, 53]⟩ := str_neg1 (n := 5) (by decide) (by decide)
theorem str_m7 : str (-7) = ⟨#[45, 55]⟩ := str_neg1 (n := 7) (by decide) (by decide)
theorem str_10 : str 10 = ⟨#[49, 48]⟩ := by
  unfold str; rw [show (10 : Int) = ((10 : Nat) : Int) from rfl, itoa_pos, Lib.decDigits_two (by decide) (by decide)]; rfl
theorem str_18 : str 18 = ⟨#[49, 56]⟩ := by
  unfold str; rw [show (18 : Int) = ((18 : Nat) : Int) from rfl, itoa_pos, Lib.decDigits_two (by decide) (by decide)]; rfl
theorem str_m12 : str (-12) = ⟨#[45, 49, 50]⟩ := by
  unfold str; rw [show (-12 : Int) = -((12 : Nat) : Int) from rfl, itoa_negNat _ (by decide), Lib.decDigits_two (by decide) (by decide)]; rfl
theorem fits_small {x : Int} (h : x.natAbs < 1000000000) : Fits x := by
  have := decDigits_length_le (r := x.natAbs) (k := 9) (by omega) (by simpa using h)
  unfold Fits; omega

set_option maxRecDepth 100000 in
set_option maxHeartbeats 2000000 in
theorem sane_any (w : World) (htab : Tab w) : Calls Tryz.prog 14 #[] w fun e w' => e = .returned (.bool true) ∧ Below w.heap.size w w' := by
  have HT := Lib.hid htab
  clear htab
  have H1 := Lib.hid (fun W hW => IDiv_ok (-7) 2 W (fits_small (by decide)) (fits_small (by decide)) (by decide) hW)
  rw [show (-7 : Int) / 2 = -4 by decide, show (-7 : Int) % 2 = 1 by decide, str_m7, str_2, str_m4, str_1] at H1
  have H2 := Lib.hid (fun W hW => IDiv_ok (-7) (-2) W (fits_small (by decide)) (fits_small (by decide)) (by decide) hW)
  rw [show (-7 : Int) / (-2) = 4 by decide, show (-7 : Int) % (-2) = 1 by decide, str_m7, str_m2, str_4, str_1] at H2
  have H3 := Lib.hid (fun W hW => IGcd_ok (-12) 18 W (fits_small (by decide)) (fits_small (by decide)) hW)
  rw [show ((Nat.gcd (-12 : Int).natAbs (18 : Int).natAbs : Nat) : Int) = 6 by decide, outS_fits (fits_small (by decide)), outE_fits (fits_small (by decide)), str_m12, str_18, str_6] at H3
  have H4 := Lib.hid (fun W => Valid_any [45, 49, 50, 48] W (by decide))
  rw [show validB [45, 49, 50, 48] = true by decide] at H4
  have H5 := Lib.hid (fun W hW => IMake_ok (-5) W (by decide) (by decide) hW)
  rw [str_m5] at H5
  go_enter Tryz.func14, Tryz.ntmps14
  go_wp2_with fail
  refine (H1.out w HT.out).mono ?_
  rintro e w1 ⟨rfl, hb1⟩
  have HB1 := Lib.hid hb1
  clear hb1
  go_wp2_with fail
  refine (H2.out w1 (HT.out.below HB1.out)).mono ?_
  rintro e w2 ⟨rfl, hb2⟩
  have HB2 := Lib.hid (HB1.out.trans (hb2.mono HB1.out.size))
  clear hb2
  go_wp2_with fail
  refine (H3.out w2 (HT.out.below HB2.out)).mono ?_
  rintro e w3 ⟨rfl, hb3⟩
  have HB3 := Lib.hid (HB2.out.trans (hb3.mono HB2.out.size))
  clear hb3
  go_wp2_with fail
  refine (H4.out w3).mono ?_
  rintro e w4 ⟨rfl, hb4⟩
  have HB4 := Lib.hid (HB3.out.trans (hb4.mono HB3.out.size))
  clear hb4
  go_wp2_with fail
  refine (H5.out w4 (HT.out.below HB4.out)).mono ?_
  rintro e w5 ⟨rfl, hb5⟩
  have HB5 := Lib.hid (HB4.out.trans (hb5.mono HB4.out.size))
  clear hb5
  go_wp2_with fail
  go_ret
  exact ⟨rfl, HB5.out⟩

end Go.Proofs.YtmickdolpgjbhaaGreatDoor
