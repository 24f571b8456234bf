/-
  The walk of RationalTurns.
-/
import Derived.Test.YtecklmdlmldpgaaGreatDoorZLawRo
namespace Go.Proofs.YtecklmdlmldpgaaGreatDoor
open Go.RowKit

theorem two_fitsR : FitsR 2 := fitsR_small (by decide +kernel) (by decide +kernel)
theorem rstr_2 : rstr 2 = ⟨#[50]⟩ := by rw [rstr_whole (show (2 : Rat).den = 1 from rfl)]; exact str_2
theorem DigR.two : DigR 1 2 := ⟨by unfold Dig; decide, by unfold Dig; decide⟩
theorem sgR_bd (q : Rat) : -1 ≤ sgR q ∧ sgR q ≤ 1 := by rcases sgR_cases q with ⟨_, h⟩ | ⟨_, h⟩ | ⟨_, h⟩ <;> rw [h] <;> decide
theorem sg_prod (a b : Rat) : -1 ≤ sgR a * sgR b ∧ sgR a * sgR b ≤ 1 := by rw [← sgR_mul]; exact sgR_bd _
theorem turn_turn {a r : Rat} (h : a ≠ 0) (hr : 1 / a = r) : r ≠ 0 ∧ 1 / r = a := by
  subst hr
  constructor
  · intro e
    have : (1 / a) * a = 1 := Rat.div_mul_cancel h
    rw [e] at this
    simp at this
  · rw [Rat.div_def, Rat.div_def, Rat.one_mul, Rat.one_mul, Rat.inv_inv]
set_option maxRecDepth 100000 in
set_option maxHeartbeats 4000000 in
theorem RationalTurns_any (A : Option Addr) (l cp : Nat) (w : World) (h : Ints w A l) (hlc : l ≤ cp) (hl : l ≤ 9223372036854775807) (henv : Env w) : Calls Tryz.prog 11 #[.slice A l cp] w fun e w' => e = .returned (.bool true) ∧ Below w.heap.size w w' := by
  have HE := Lib.hid henv
  have HI := Lib.hid h
  clear henv h
  go_enter Tryz.func11, Tryz.ntmps11
  go_wp2_with fail
  refine (New_any A l cp w HI.out hlc hl).mono ?_
  rintro e w0 ⟨rfl, hs, hb⟩
  have HS := Lib.hid hs
  have HB := Lib.hid hb
  clear hs hb HI
  go_wp2_with fail
  refine (Long_any w.heap.size 8 w0 HS.out (by decide) (by decide)).mono ?_
  rintro e w1 ⟨a, rfl, hq, hs, hg⟩
  replace HS := Lib.hid hs
  replace HB := Lib.hid (below_grown HB.out HB.out.size hg)
  clear hs hg
  have Da := Lib.hid hq
  have Fa := Lib.hid (hq.fits (by decide) (by decide))
  clear hq
  go_wp2_with fail
  refine (Long_any w.heap.size 8 w1 HS.out (by decide) (by decide)).mono ?_
  rintro e w2 ⟨b, rfl, hq, hs, hg⟩
  replace HS := Lib.hid hs
  replace HB := Lib.hid (below_grown HB.out HB.out.size hg)
  clear hs hg
  have Db := Lib.hid hq
  have Fb := Lib.hid (hq.fits (by decide) (by decide))
  clear hq
  clear HS
  obtain ⟨p, hz⟩ : ∃ z : Rat, a * b = z := ⟨_, rfl⟩
  have Ep := Lib.hid hz
  have Dp := Lib.hid (show DigR 16 p from Da.out.mul Db.out Ep.out rfl)
  have Fp := Lib.hid (Dp.out.fits (by decide) (by decide))
  clear hz
  go_wp2_with fail
  refine (RatMul_fit a b p w2 Ep.out Fa.out Fb.out Fp.out (HE.out.below HB.out)).mono ?_
  rintro e w3 ⟨rfl, hb⟩
  replace HB := Lib.hid (HB.out.trans (hb.mono HB.out.size))
  clear hb
  obtain ⟨s, hz⟩ : ∃ z : Rat, a + b = z := ⟨_, rfl⟩
  have Es := Lib.hid hz
  have Ds := Lib.hid (show DigR 17 s from Da.out.add Db.out Es.out rfl)
  have Fs := Lib.hid (Ds.out.fits (by decide) (by decide))
  clear hz
  go_wp2_with fail
  refine (RatAdd_fit a b s w3 Es.out Fa.out Fb.out Fs.out (HE.out.below HB.out)).mono ?_
  rintro e w4 ⟨rfl, hb⟩
  replace HB := Lib.hid (HB.out.trans (hb.mono HB.out.size))
  clear hb
  obtain ⟨m, hz⟩ : ∃ z : Rat, s / 2 = z := ⟨_, rfl⟩
  have Em := Lib.hid hz
  have Dm := Lib.hid (show DigR 18 m from Ds.out.div DigR.two (by decide +kernel) Em.out rfl)
  have Fm := Lib.hid (Dm.out.fits (by decide) (by decide))
  clear hz
  have HD := Lib.hid (fun W hE => RatDiv_fit s 2 m W Em.out Fs.out two_fitsR Fm.out (by decide +kernel) hE)
  rw [rstr_2] at HD
  go_wp2_with fail
  refine (HD.out w4 (HE.out.below HB.out)).mono ?_
  rintro e w5 ⟨rfl, hb⟩
  replace HB := Lib.hid (HB.out.trans (hb.mono HB.out.size))
  clear hb
  have HSP := Lib.hid (fun W hE => RatSign_ok p W Fp.out hE)
  rw [← Ep.out, sgR_mul, Ep.out] at HSP
  obtain ⟨g1, g2⟩ := sg_prod a b
  obtain ⟨g3, g4⟩ := sgR_bd a
  obtain ⟨g5, g6⟩ := sgR_bd b
  go_wp2_with fail
  refine (HSP.out w5 (HE.out.below HB.out)).mono ?_
  rintro e w6 ⟨rfl, hb⟩
  replace HB := Lib.hid (HB.out.trans (hb.mono HB.out.size))
  clear hb
  go_wp2_with fail
  refine (RatSign_ok a w6 Fa.out (HE.out.below HB.out)).mono ?_
  rintro e w7 ⟨rfl, hb⟩
  replace HB := Lib.hid (HB.out.trans (hb.mono HB.out.size))
  clear hb
  go_wp2_with fail
  refine (RatSign_ok b w7 Fb.out (HE.out.below HB.out)).mono ?_
  rintro e w8 ⟨rfl, hb⟩
  replace HB := Lib.hid (HB.out.trans (hb.mono HB.out.size))
  clear hb
  have ha0 := rstr_is0 a
  have HTT := Lib.hid (fun r h hr => turn_turn (a := a) (r := r) h hr)
  by_cases hc : b < a
  · have c1 : 0 < sgR (a - b) := sgR_pos.2 (by grind)
    have c2 : sgR (b - m) ≤ 0 := by rw [← Em.out, ← Es.out, Rat.add_comm]; exact mean_lo (by grind)
    have c3 : sgR (m - a) ≤ 0 := by rw [← Em.out, ← Es.out, Rat.add_comm]; exact mean_hi (by grind)
    clear hc
    go_wp2_with fail
    refine (RatCompare_ok a b w8 Fa.out Fb.out (HE.out.below HB.out)).mono ?_
    rintro e w9 ⟨rfl, hb⟩
    replace HB := Lib.hid (HB.out.trans (hb.mono HB.out.size))
    clear hb
    go_wp2_with fail
    refine (RatCompare_ok b m w9 Fb.out Fm.out (HE.out.below HB.out)).mono ?_
    rintro e w10 ⟨rfl, hb⟩
    replace HB := Lib.hid (HB.out.trans (hb.mono HB.out.size))
    clear hb
    go_wp2_with fail
    refine (RatCompare_ok m a w10 Fm.out Fa.out (HE.out.below HB.out)).mono ?_
    rintro e w11 ⟨rfl, hb⟩
    replace HB := Lib.hid (HB.out.trans (hb.mono HB.out.size))
    clear hb
    by_cases h0 : a = 0
    · rw [decide_eq_true h0] at ha0
      clear h0
      go_wp2_with fail
      refine (RSane w11 (HE.out.below HB.out)).mono ?_
      rintro e w12 ⟨rfl, hb⟩
      replace HB := Lib.hid (HB.out.trans (hb.mono HB.out.size))
      clear hb
      go_wp2_with fail
      go_ret
      exact ⟨rfl, HB.out⟩
    · rw [decide_eq_false h0] at ha0
      obtain ⟨r, hz⟩ : ∃ z : Rat, 1 / a = z := ⟨_, rfl⟩
      have Er := Lib.hid hz
      have Dr := Lib.hid (show DigR 9 r from DigR.one.div Da.out h0 Er.out rfl)
      have Fr := Lib.hid (Dr.out.fits (by decide) (by decide))
      clear hz
      obtain ⟨hr0, hr1⟩ := HTT.out r h0 Er.out
      have H1 := Lib.hid (fun W hE => RatDiv_fit 1 a r W Er.out one_fitsR Fa.out Fr.out h0 hE)
      have H2 := Lib.hid (fun W hE => RatDiv_fit 1 r a W hr1 one_fitsR Fr.out Fa.out hr0 hE)
      rw [rstr_1] at H1 H2
      clear h0 hr0 hr1
      go_wp2_with fail
      refine (H1.out w11 (HE.out.below HB.out)).mono ?_
      rintro e w12 ⟨rfl, hb⟩
      replace HB := Lib.hid (HB.out.trans (hb.mono HB.out.size))
      clear hb
      go_wp2_with fail
      refine (H2.out w12 (HE.out.below HB.out)).mono ?_
      rintro e w13 ⟨rfl, hb⟩
      replace HB := Lib.hid (HB.out.trans (hb.mono HB.out.size))
      clear hb
      go_wp2_with fail
      refine (RSane w13 (HE.out.below HB.out)).mono ?_
      rintro e w14 ⟨rfl, hb⟩
      replace HB := Lib.hid (HB.out.trans (hb.mono HB.out.size))
      clear hb
      go_wp2_with fail
      go_ret
      exact ⟨rfl, HB.out⟩
  · have c1 : sgR (a - b) ≤ 0 := sgR_nonpos.2 (by grind)
    have c2 : sgR (a - m) ≤ 0 := by rw [← Em.out, ← Es.out]; exact mean_lo (by grind)
    have c3 : sgR (m - b) ≤ 0 := by rw [← Em.out, ← Es.out]; exact mean_hi (by grind)
    clear hc
    go_wp2_with fail
    refine (RatCompare_ok a b w8 Fa.out Fb.out (HE.out.below HB.out)).mono ?_
    rintro e w9 ⟨rfl, hb⟩
    replace HB := Lib.hid (HB.out.trans (hb.mono HB.out.size))
    clear hb
    go_wp2_with fail
    refine (RatCompare_ok a m w9 Fa.out Fm.out (HE.out.below HB.out)).mono ?_
    rintro e w10 ⟨rfl, hb⟩
    replace HB := Lib.hid (HB.out.trans (hb.mono HB.out.size))
    clear hb
    go_wp2_with fail
    refine (RatCompare_ok m b w10 Fm.out Fb.out (HE.out.below HB.out)).mono ?_
    rintro e w11 ⟨rfl, hb⟩
    replace HB := Lib.hid (HB.out.trans (hb.mono HB.out.size))
    clear hb
    by_cases h0 : a = 0
    · rw [decide_eq_true h0] at ha0
      clear h0
      go_wp2_with fail
      refine (RSane w11 (HE.out.below HB.out)).mono ?_
      rintro e w12 ⟨rfl, hb⟩
      replace HB := Lib.hid (HB.out.trans (hb.mono HB.out.size))
      clear hb
      go_wp2_with fail
      go_ret
      exact ⟨rfl, HB.out⟩
    · rw [decide_eq_false h0] at ha0
      obtain ⟨r, hz⟩ : ∃ z : Rat, 1 / a = z := ⟨_, rfl⟩
      have Er := Lib.hid hz
      have Dr := Lib.hid (show DigR 9 r from DigR.one.div Da.out h0 Er.out rfl)
      have Fr := Lib.hid (Dr.out.fits (by decide) (by decide))
      clear hz
      obtain ⟨hr0, hr1⟩ := HTT.out r h0 Er.out
      have H1 := Lib.hid (fun W hE => RatDiv_fit 1 a r W Er.out one_fitsR Fa.out Fr.out h0 hE)
      have H2 := Lib.hid (fun W hE => RatDiv_fit 1 r a W hr1 one_fitsR Fr.out Fa.out hr0 hE)
      rw [rstr_1] at H1 H2
      clear h0 hr0 hr1
      go_wp2_with fail
      refine (H1.out w11 (HE.out.below HB.out)).mono ?_
      rintro e w12 ⟨rfl, hb⟩
      replace HB := Lib.hid (HB.out.trans (hb.mono HB.out.size))
      clear hb
      go_wp2_with fail
      refine (H2.out w12 (HE.out.below HB.out)).mono ?_
      rintro e w13 ⟨rfl, hb⟩
      replace HB := Lib.hid (HB.out.trans (hb.mono HB.out.size))
      clear hb
      go_wp2_with fail
      refine (RSane w13 (HE.out.below HB.out)).mono ?_
      rintro e w14 ⟨rfl, hb⟩
      replace HB := Lib.hid (HB.out.trans (hb.mono HB.out.size))
      clear hb
      go_wp2_with fail
      go_ret
      exact ⟨rfl, HB.out⟩

end Go.Proofs.YtecklmdlmldpgaaGreatDoor
