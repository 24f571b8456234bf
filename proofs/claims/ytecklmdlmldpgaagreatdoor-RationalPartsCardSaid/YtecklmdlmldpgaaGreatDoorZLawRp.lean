/-
  The walk of RationalParts.
-/
import Derived.Test.YtecklmdlmldpgaaGreatDoorZV
namespace Go.Proofs.YtecklmdlmldpgaaGreatDoor
open Go.RowKit

theorem outS_dig {d : Nat} {x : Int} (h : Dig d x) (h1 : 1 ≤ d) (h2 : d ≤ 400) : outS x = str x := outS_fits (h.fits h1 h2)
set_option maxRecDepth 100000 in
set_option maxHeartbeats 4000000 in
theorem RationalParts_any (A : Option Addr) (l cp : Nat) (w : World) (h : Ints w A l) (hlc : l ≤ cp) (hl : l ≤ 9223372036854775807) (henv : Env w) : Calls Tryz.prog 7 #[.slice A l cp] w fun e w' => e = .returned (.bool true) ∧ Below w.heap.size w w' := by
  have HE := Lib.hid henv
  have HI := Lib.hid h
  clear henv h
  go_enter Tryz.func7, Tryz.ntmps7
  go_wp2_with fail
  refine (New_any A l cp w HI.out hlc hl).mono ?_
  rintro e w0 ⟨rfl, hs, hb⟩
  have HS := Lib.hid hs
  have HB := Lib.hid hb
  clear hs hb HI
  go_wp2_with fail
  refine (Long_any w.heap.size 12 w0 HS.out (by decide) (by decide)).mono ?_
  rintro e w1 ⟨a, rfl, hq, hs, hg⟩
  replace HS := Lib.hid hs
  replace HB := Lib.hid (below_grown HB.out HB.out.size hg)
  clear hs hg
  have Da := Lib.hid hq
  have Fa := Lib.hid (hq.fits (by decide) (by decide))
  clear hq
  go_wp2_with fail
  refine (Big_any w.heap.size 6 w1 HS.out (by decide) (by decide)).mono ?_
  rintro e w2 ⟨k, rfl, hz, hs, hg⟩
  replace HS := Lib.hid hs
  replace HB := Lib.hid (below_grown HB.out HB.out.size hg)
  clear hs hg
  have Dk := Lib.hid (show Dig 6 k from Dig.of_len hz)
  have Fk := Lib.hid (Dk.out.fits (by decide) (by decide))
  clear hz
  clear HS
  go_wp2_with fail
  refine (RatParts_ok a w2 Fa.out (HE.out.below HB.out)).mono ?_
  rintro e w3 ⟨rfl, hb⟩
  replace HB := Lib.hid (HB.out.trans (hb.mono HB.out.size))
  clear hb
  have hsg : sg (a.den : Int) = 1 := by unfold sg; have := a.den_pos; rw [if_neg (by omega), if_pos (by omega)]
  have HSG := Lib.hid (fun W => RSign_ok (a.den : Int) W Fa.out.2)
  rw [hsg] at HSG
  clear hsg
  go_wp2_with fail
  refine (HSG.out w3).mono ?_
  rintro e w4 ⟨rfl, hb⟩
  replace HB := Lib.hid (HB.out.trans (hb.mono HB.out.size))
  clear hb
  go_wp2_with fail
  refine (RatMake_fit a.num (a.den : Int) a w4 (Rat.num_divInt_den a) Fa.out.1 Fa.out.2 Fa.out (den_ne a) (HE.out.below HB.out)).mono ?_
  rintro e w5 ⟨rfl, hb⟩
  replace HB := Lib.hid (HB.out.trans (hb.mono HB.out.size))
  clear hb
  have hk0 := str_is0 k
  by_cases h0 : k = 0
  · rw [decide_eq_true h0] at hk0
    clear h0
    go_wp2_with fail
    refine (RSane w5 (HE.out.below HB.out)).mono ?_
    rintro e w6 ⟨rfl, hb⟩
    replace HB := Lib.hid (HB.out.trans (hb.mono HB.out.size))
    clear hb
    go_wp2_with fail
    go_ret
    exact ⟨rfl, HB.out⟩
  · rw [decide_eq_false h0] at hk0
    have D1 := Lib.hid (Da.out.1.mul Dk.out (z := a.num * k) rfl (c := 18) rfl)
    have D2 := Lib.hid (Da.out.2.mul Dk.out (z := (a.den : Int) * k) rfl (c := 18) rfl)
    have HM1 := Lib.hid (fun W => RMulT_ok a.num k W Fa.out.1 Fk.out)
    have HM2 := Lib.hid (fun W => RMulT_ok (a.den : Int) k W Fa.out.2 Fk.out)
    rw [outS_dig D1.out (by decide) (by decide)] at HM1
    rw [outS_dig D2.out (by decide) (by decide)] at HM2
    have hne : (a.den : Int) * k ≠ 0 := Int.mul_ne_zero (den_ne a) h0
    have HMK := Lib.hid (fun W hE => RatMake_fit (a.num * k) ((a.den : Int) * k) a W (by rw [Rat.divInt_mul_right h0]; exact Rat.num_divInt_den a) (D1.out.fits (by decide) (by decide)) (D2.out.fits (by decide) (by decide)) Fa.out hne hE)
    have HG := Lib.hid (fun W => RGcdT_ok a.num (a.den : Int) W Fa.out.1 Fa.out.2)
    rw [show ((Nat.gcd a.num.natAbs ((a.den : Int)).natAbs : Nat) : Int) = 1 by rw [Int.natAbs_natCast, a.reduced]; rfl, outS_fits one_fits, str_1] at HG
    clear h0 hne
    generalize outE (a.num * k) = e1 at *
    generalize outE ((a.den : Int) * k) = e2 at *
    go_wp2_with fail
    refine (HM1.out w5).mono ?_
    rintro e w6 ⟨rfl, hb⟩
    replace HB := Lib.hid (HB.out.trans (hb.mono HB.out.size))
    clear hb
    go_wp2_with fail
    refine (HM2.out w6).mono ?_
    rintro e w7 ⟨rfl, hb⟩
    replace HB := Lib.hid (HB.out.trans (hb.mono HB.out.size))
    clear hb
    go_wp2_with fail
    refine (HMK.out w7 (HE.out.below HB.out)).mono ?_
    rintro e w8 ⟨rfl, hb⟩
    replace HB := Lib.hid (HB.out.trans (hb.mono HB.out.size))
    clear hb
    go_wp2_with fail
    refine (HG.out w8).mono ?_
    rintro e w9 ⟨rfl, hb⟩
    replace HB := Lib.hid (HB.out.trans (hb.mono HB.out.size))
    clear hb
    go_wp2_with fail
    refine (RSane w9 (HE.out.below HB.out)).mono ?_
    rintro e w10 ⟨rfl, hb⟩
    replace HB := Lib.hid (HB.out.trans (hb.mono HB.out.size))
    clear hb
    go_wp2_with fail
    go_ret
    exact ⟨rfl, HB.out⟩

end Go.Proofs.YtecklmdlmldpgaaGreatDoor
