/-
  The walk of RationalField.
-/
import Derived.Test.YtecklmdlmldpgaaGreatDoorZV
namespace Go.Proofs.YtecklmdlmldpgaaGreatDoor
open Go.RowKit

set_option maxRecDepth 100000 in
set_option maxHeartbeats 4000000 in
theorem RationalField_any (A : Option Addr) (l cp : Nat) (w : World) (h : Ints w A l) (hlc : l ≤ cp) (hl : l ≤ 9223372036854775807) (henv : Env w) : Calls Tryz.prog 9 #[.slice A l cp] w fun e w' => e = .returned (.bool true) ∧ Below w.heap.size w w' := by
  have HE := Lib.hid henv
  have HI := Lib.hid h
  clear henv h
  go_enter Tryz.func9, Tryz.ntmps9
  go_wp2_with fail
  refine (New_any A l cp w HI.out hlc hl).mono ?_
  rintro e w0 ⟨rfl, hs, hb⟩
  have HS := Lib.hid hs
  have HB := Lib.hid hb
  clear hs hb HI
  go_wp2_with fail
  refine (Long_any w.heap.size 10 w0 HS.out (by decide) (by decide)).mono ?_
  rintro e w1 ⟨a, rfl, hq, hs, hg⟩
  replace HS := Lib.hid hs
  replace HB := Lib.hid (below_grown HB.out HB.out.size hg)
  clear hs hg
  have Da := Lib.hid hq
  have Fa := Lib.hid (hq.fits (by decide) (by decide))
  clear hq
  go_wp2_with fail
  refine (Long_any w.heap.size 10 w1 HS.out (by decide) (by decide)).mono ?_
  rintro e w2 ⟨b, rfl, hq, hs, hg⟩
  replace HS := Lib.hid hs
  replace HB := Lib.hid (below_grown HB.out HB.out.size hg)
  clear hs hg
  have Db := Lib.hid hq
  have Fb := Lib.hid (hq.fits (by decide) (by decide))
  clear hq
  go_wp2_with fail
  refine (Long_any w.heap.size 10 w2 HS.out (by decide) (by decide)).mono ?_
  rintro e w3 ⟨c, rfl, hq, hs, hg⟩
  replace HS := Lib.hid hs
  replace HB := Lib.hid (below_grown HB.out HB.out.size hg)
  clear hs hg
  have Dc := Lib.hid hq
  have Fc := Lib.hid (hq.fits (by decide) (by decide))
  clear hq
  clear HS
  obtain ⟨ab, hz⟩ : ∃ z : Rat, a + b = z := ⟨_, rfl⟩
  have Eab := Lib.hid hz
  have Dab := Lib.hid (show DigR 21 ab from Da.out.add Db.out Eab.out rfl)
  have Fab := Lib.hid (Dab.out.fits (by decide) (by decide))
  clear hz
  go_wp2_with fail
  refine (RatAdd_fit a b ab w3 Eab.out Fa.out Fb.out Fab.out (HE.out.below HB.out)).mono ?_
  rintro e w4 ⟨rfl, hb⟩
  replace HB := Lib.hid (HB.out.trans (hb.mono HB.out.size))
  clear hb
  obtain ⟨p, hz⟩ : ∃ z : Rat, ab * c = z := ⟨_, rfl⟩
  have Ep := Lib.hid hz
  have Dp := Lib.hid (show DigR 31 p from Dab.out.mul Dc.out Ep.out rfl)
  have Fp := Lib.hid (Dp.out.fits (by decide) (by decide))
  clear hz
  go_wp2_with fail
  refine (RatMul_fit ab c p w4 Ep.out Fab.out Fc.out Fp.out (HE.out.below HB.out)).mono ?_
  rintro e w5 ⟨rfl, hb⟩
  replace HB := Lib.hid (HB.out.trans (hb.mono HB.out.size))
  clear hb
  obtain ⟨q, hz⟩ : ∃ z : Rat, a * c = z := ⟨_, rfl⟩
  have Eq := Lib.hid hz
  have Dq := Lib.hid (show DigR 20 q from Da.out.mul Dc.out Eq.out rfl)
  have Fq := Lib.hid (Dq.out.fits (by decide) (by decide))
  clear hz
  go_wp2_with fail
  refine (RatMul_fit a c q w5 Eq.out Fa.out Fc.out Fq.out (HE.out.below HB.out)).mono ?_
  rintro e w6 ⟨rfl, hb⟩
  replace HB := Lib.hid (HB.out.trans (hb.mono HB.out.size))
  clear hb
  obtain ⟨r, hz⟩ : ∃ z : Rat, b * c = z := ⟨_, rfl⟩
  have Er := Lib.hid hz
  have Dr := Lib.hid (show DigR 20 r from Db.out.mul Dc.out Er.out rfl)
  have Fr := Lib.hid (Dr.out.fits (by decide) (by decide))
  clear hz
  go_wp2_with fail
  refine (RatMul_fit b c r w6 Er.out Fb.out Fc.out Fr.out (HE.out.below HB.out)).mono ?_
  rintro e w7 ⟨rfl, hb⟩
  replace HB := Lib.hid (HB.out.trans (hb.mono HB.out.size))
  clear hb
  go_wp2_with fail
  refine (RatAdd_fit q r p w7 (by rw [← Eq.out, ← Er.out, ← Ep.out, ← Eab.out]; grind) Fq.out Fr.out Fp.out (HE.out.below HB.out)).mono ?_
  rintro e w8 ⟨rfl, hb⟩
  replace HB := Lib.hid (HB.out.trans (hb.mono HB.out.size))
  clear hb
  go_wp2_with fail
  refine (RatSub_fit ab b a w8 (by rw [← Eab.out]; grind) Fab.out Fb.out Fa.out (HE.out.below HB.out)).mono ?_
  rintro e w9 ⟨rfl, hb⟩
  replace HB := Lib.hid (HB.out.trans (hb.mono HB.out.size))
  clear hb
  go_wp2_with fail
  refine (RatValid_ok p w9 Fp.out (HE.out.below HB.out)).mono ?_
  rintro e w10 ⟨rfl, hb⟩
  replace HB := Lib.hid (HB.out.trans (hb.mono HB.out.size))
  clear hb
  have hb0 := rstr_is0 b
  by_cases h0 : b = 0
  · rw [decide_eq_true h0] at hb0
    have HD := Lib.hid (fun W hE => RatDiv_zero a W Fa.out hE)
    rw [← h0] at HD
    clear h0
    go_wp2_with fail
    refine (HD.out w10 (HE.out.below HB.out)).mono ?_
    rintro e w11 ⟨rfl, hb⟩
    replace HB := Lib.hid (HB.out.trans (hb.mono HB.out.size))
    clear hb
    go_wp2_with fail
    refine (RSane w11 (HE.out.below HB.out)).mono ?_
    rintro e w12 ⟨rfl, hb⟩
    replace HB := Lib.hid (HB.out.trans (hb.mono HB.out.size))
    clear hb
    go_wp2_with fail
    go_ret
    exact ⟨rfl, HB.out⟩
  · rw [decide_eq_false h0] at hb0
    obtain ⟨x, hz⟩ : ∃ z : Rat, a / b = z := ⟨_, rfl⟩
    have Ex := Lib.hid hz
    have Dx := Lib.hid (show DigR 20 x from Da.out.div Db.out h0 Ex.out rfl)
    have Fx := Lib.hid (Dx.out.fits (by decide) (by decide))
    clear hz
    have HD := Lib.hid (fun W hE => RatDiv_fit a b x W Ex.out Fa.out Fb.out Fx.out h0 hE)
    have HX := Lib.hid (show x * b = a by rw [← Ex.out]; exact Rat.div_mul_cancel h0)
    clear h0
    go_wp2_with fail
    refine (HD.out w10 (HE.out.below HB.out)).mono ?_
    rintro e w11 ⟨rfl, hb⟩
    replace HB := Lib.hid (HB.out.trans (hb.mono HB.out.size))
    clear hb
    go_wp2_with fail
    refine (RatMul_fit x b a w11 HX.out Fx.out Fb.out Fa.out (HE.out.below HB.out)).mono ?_
    rintro e w12 ⟨rfl, hb⟩
    replace HB := Lib.hid (HB.out.trans (hb.mono HB.out.size))
    clear hb
    go_wp2_with fail
    refine (RSane w12 (HE.out.below HB.out)).mono ?_
    rintro e w13 ⟨rfl, hb⟩
    replace HB := Lib.hid (HB.out.trans (hb.mono HB.out.size))
    clear hb
    go_wp2_with fail
    go_ret
    exact ⟨rfl, HB.out⟩

end Go.Proofs.YtecklmdlmldpgaaGreatDoor
