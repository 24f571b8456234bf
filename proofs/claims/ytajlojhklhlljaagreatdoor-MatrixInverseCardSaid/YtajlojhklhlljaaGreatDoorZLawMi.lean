import Derived.Test.YtajlojhklhlljaaGreatDoorZMW
set_option maxHeartbeats 16000000
set_option maxRecDepth 100000
set_option linter.unusedVariables false
set_option linter.unusedSimpArgs false
set_option linter.unusedSectionVars false
namespace Go.Proofs.YtajlojhklhlljaaGreatDoor
open Go.RowKit
theorem det3_leI (q : Nat) (h : q ≤ 3) : detDig 1 q ≤ 400 :=
 match q, h with
 | 0, _ => by decide
 | 1, _ => by decide
 | 2, _ => by decide
 | 3, _ => by decide
theorem MatrixInverse_any (A : Option Addr) (l cp : Nat) (w : World) (h : Ints w A l) (hlc : l ≤ cp) (hl : l ≤ 9223372036854775807) (henv : Env w) :
  Calls Tryz.prog 9 #[.slice A l cp] w fun e w' => e = .returned (.bool true) ∧ Below w.heap.size w w' := by
 have HE := Lib.hid henv
 have HI := Lib.hid h
 clear henv h
 go_enter Tryz.func9, Tryz.ntmps9
 go_wp2_with fail
 refine (New_any A l cp w HI.out hlc hl).mono ?_
 rintro e w0 ⟨rfl, hs, hb⟩
 obtain ⟨b, hbe⟩ : ∃ b, w.heap.size = b := ⟨_, rfl⟩
 have hsz2 : w.heap.size ≤ b := by omega
 have HS : Hid (Src w0 b) := by rw [← hbe]; exact Lib.hid hs
 have HB := Lib.hid hb
 clear hs hb HI
 rw [hbe]
 have HUP := Lib.hid (fun (W W' : World) (hW : Below w.heap.size w W) (hg : W.grownBy W' (some b)) => srcBelow hW hsz2 hg)
 clear hbe hsz2
 go_wp2_with fail
 refine (N_any b 4 w0 HS.out (by decide) (by decide)).mono ?_
 rintro e w1 ⟨n', rfl, hn, hs, hg⟩
 replace HB := Lib.hid (HUP.out _ _ HB.out hg)
 obtain ⟨n, hn2⟩ : ∃ n : Nat, 1 + n' = n := ⟨_, rfl⟩
 have hnl : 1 ≤ n := by omega
 have hnu : n ≤ 4 := by omega
 have hne : (1 : Int) + (n' : Int) = (n : Int) := by omega
 clear hn hn2
 replace HS := Lib.hid hs
 clear hs hg
 go_wp2_with fail
 refine (mxThin b n n w1 HS.out (by omega) (by omega) (Or.inl (by omega))).mono ?_
 rintro e w2 ⟨Aa, ca, a, rfl, hm, hd, hs, hg⟩
 replace HB := Lib.hid (HUP.out _ _ HB.out hg)
 have Oa := Lib.hid hm
 have Ta := Lib.hid hd
 obtain ⟨Ba, hBa⟩ : ∃ B, w1.heap.size = B := ⟨_, rfl⟩
 rw [hBa] at Oa
 have hba : b < Ba := by have := HS.out.lt; omega
 clear hm hd hBa
 have Da := Lib.hid Ta.out.dig
 replace HS := Lib.hid hs
 clear hs hg
 go_wp2_with fail
 refine (vcRats b n w2 HS.out (by omega)).mono ?_
 rintro e w3 ⟨Ab, cb, bb, rfl, hm, hd, hs, hg⟩
 replace Oa := Lib.hid (Oa.out.grown hg hba)
 replace HB := Lib.hid (HUP.out _ _ HB.out hg)
 have Ob := Lib.hid hm
 have Sb := Lib.hid hd
 obtain ⟨Bb, hBb⟩ : ∃ B, w2.heap.size = B := ⟨_, rfl⟩
 rw [hBb] at Ob
 have hbb : b < Bb := by have := HS.out.lt; omega
 clear hm hd hBb
 replace HS := Lib.hid hs
 clear hs hg
 replace Oa := Lib.hid Oa.out.mxIn
 replace Ob := Lib.hid Ob.out.mxIn
 clear HS HUP hba hbb
 have Dd := Lib.hid (det_thin4 (by omega) Ta.out)
 have Fd := Lib.hid (Dd.out.fits (by decide) (by decide))
 have Fb := Lib.hid (fun i (hi : i < n) => (Sb.out i hi).fits)
 go_wp2_with fail
 refine (mxDet Oa.out (by omega) (by omega) (show 1 ≤ 1 by decide) (by decide) Da.out rfl Fd.out (HE.out.below HB.out)).mono ?_
 rintro e w4 ⟨rfl, hb⟩
 replace Oa := Lib.hid (Oa.out.below hb)
 replace Ob := Lib.hid (Ob.out.below hb)
 replace HB := Lib.hid (HB.out.trans (hb.mono HB.out.size))
 clear hb
 go_wp2_with fail
 refine (mxSol Oa.out Ob.out (by omega) (by omega) Ta.out Sb.out (HE.out.below HB.out)).mono ?_
 rintro e ws ⟨rk, hrk, hh⟩
 have KR := Lib.hid hrk
 have KD := Lib.hid (rk_det Ta.out.int hrk)
 have h0 := rstr_is0 (det n a)
 clear hrk
 rcases hh with ⟨hlt, rfl, hb⟩ | ⟨he, x, hx, hfx, Ax, cx, rfl, hv, hb⟩
 ·have hd0 : det n a = 0 := by
   by_cases h : det n a = 0
   ·exact h
   ·exact absurd (KD.out.2 h) (by omega)
  rw [show decide (det n a = 0) = true by simpa using hd0] at h0
  replace Oa := Lib.hid (Oa.out.below hb)
  replace HB := Lib.hid (HB.out.trans (hb.mono HB.out.size))
  generalize rstr (det n a) = sd at *
  clear hd0 Dd Fd Fb KD Ob Sb hb
  go_wp2_with fail
  refine (mxInv Oa.out (by omega) (by omega) Ta.out (HE.out.below HB.out)).mono ?_
  rintro e wi ⟨ri, hri, hh⟩
  obtain rfl : rk = ri := KR.out.same hri
  rcases hh with ⟨-, rfl, hb⟩ | ⟨he, -⟩
  rotate_left
  ·exact absurd he (by omega)
  replace Oa := Lib.hid (Oa.out.below hb)
  replace HB := Lib.hid (HB.out.trans (hb.mono HB.out.size))
  clear hri hb
  go_wp2_with fail
  refine (mxRank 5 (k0 := 1) (by decide) Oa.out (by omega) (by omega) (by omega) (by omega) (by decide) (by decide) Da.out (HE.out.below HB.out)).mono ?_
  rintro e wr ⟨rr, rfl, hrr, hb⟩
  obtain rfl : rk = rr := KR.out.same hrr
  replace Oa := Lib.hid (Oa.out.below hb)
  replace HB := Lib.hid (HB.out.trans (hb.mono HB.out.size))
  have k1 : (rk : Int) < (n : Int) := by omega
  clear hrr hb
  go_wp2_with fail
  refine (mxKernel 5 (k0 := 1) (by decide) Oa.out (by omega) (by omega) (by omega) (by omega) (by decide) (by decide) Da.out Ta.out.int (fun q h1 h2 => det3_leI q (by omega)) (HE.out.below HB.out)).mono ?_
  rintro e wk ⟨rq, hk, hh⟩
  obtain rfl : rk = rq := KR.out.same hk
  rcases hh with ⟨he, -⟩ | ⟨-, xk, ak, hak, hx1, hz, hfx, A0, c0, rfl, hv, hb⟩
  ·exact absurd he (by omega)
  replace HB := Lib.hid (HB.out.trans (hb.mono HB.out.size))
  have Oa' := Lib.hid (Oa.out.below hb)
  have Ok := Lib.hid hv
  have HZ0 := Lib.hid hz
  clear hb hv hx1 hz Oa hk
  go_wp2_with fail
  refine (mxApp Oa'.out Ok.out (by omega) (by omega) (by omega) (by omega) (fun i hi => by rw [HZ0.out i hi]; exact fits0) (HE.out.below HB.out)).mono ?_
  rintro e wm ⟨Az, cz, rfl, hm, hb⟩
  have Oz := Lib.hid (hm.congr (y := fun _ => 0) HZ0.out)
  replace HB := Lib.hid (HB.out.trans (hb.mono HB.out.size))
  clear hm hb Oa' HZ0 Ok
  obtain ⟨gz, oz, ez⟩ := Oz.out.addr (by omega)
  subst ez
  go_wp2_with fail
  go_loopw [107] (fun iv wr => ∃ j : Nat, iv = .int .i64 (j : Int) ∧ j ≤ n ∧ Below wm.heap.size wm wr) (fun iv _ => n - (intOf iv).toNat)
  case atStart => exact ⟨0, rfl, Nat.zero_le _, Below.refl _ _⟩
  case round =>
   obtain ⟨j, rfl, hj, hbw⟩ := hrel
   obtain ⟨wp, rfl⟩ : ∃ wp : World, wp = wr := ⟨_, rfl⟩
   have HBQ := Lib.hid hbw
   clear hbw
   by_cases hlt3 : j < n
   ·have cz := (Oz.out.below HBQ.out).at_ hlt3
    have h0 := rstr_is0 0
    rw [show decide ((0 : Rat) = 0) = true by decide] at h0
    generalize rstr 0 = s0 at *
    have k1 : (0 : Int) ≤ (j : Int) := by omega
    have k2 : (j : Int) < (n : Int) := by omega
    go_wp2_with fail
    go_roundw
    case rel => exact ⟨j + 1, by go_num, by omega, HBQ.out⟩
    case measure => simp [intOf]; omega
   ·have k6 : ¬ (j : Int) < (n : Int) := by omega
    have HBY := Lib.hid (HB.out.trans (HBQ.out.mono HB.out.size))
    go_wp2_with fail
    refine (Sane3 _ (HE.out.below HBY.out)).mono ?_
    rintro e wz ⟨rfl, hb⟩
    have HBZ := Lib.hid (HBY.out.trans (hb.mono HBY.out.size))
    clear hb
    go_wp2_with fail
    go_ret
    exact ⟨rfl, HBZ.out⟩
 ·have he' := he.symm
  subst he'
  have hd0 : det n a ≠ 0 := KD.out.1 rfl
  rw [show decide (det n a = 0) = false by simpa using hd0] at h0
  have ND := Lib.hid hd0
  have EX := Lib.hid hx
  have FX := Lib.hid hfx
  replace Oa := Lib.hid (Oa.out.below hb)
  replace Ob := Lib.hid (Ob.out.below hb)
  have Ox := Lib.hid hv
  replace HB := Lib.hid (HB.out.trans (hb.mono HB.out.size))
  generalize hsd : rstr (det n a) = sd at *
  have ESD := Lib.hid hsd
  clear hd0 KD hb hv hx hfx hsd
  go_wp2_with fail
  refine (mxInv Oa.out (by omega) (by omega) Ta.out (HE.out.below HB.out)).mono ?_
  rintro e wi ⟨ri, hri, hh⟩
  obtain rfl : n = ri := KR.out.same hri
  rcases hh with ⟨he2, -⟩ | ⟨-, X, hX, hdX, Ai, ci, rfl, hm, hb⟩
  ·exact absurd he2 (by omega)
  have IX := Lib.hid hX
  have DX := Lib.hid hdX
  have Oi := Lib.hid hm
  replace Oa := Lib.hid (Oa.out.below hb)
  replace Ob := Lib.hid (Ob.out.below hb)
  replace Ox := Lib.hid (Ox.out.below hb)
  replace HB := Lib.hid (HB.out.trans (hb.mono HB.out.size))
  clear hri hb hm hX hdX
  go_wp2_with fail
  refine (mxRank 5 (k0 := 1) (by decide) Oa.out (by omega) (by omega) (by omega) (by omega) (by decide) (by decide) Da.out (HE.out.below HB.out)).mono ?_
  rintro e wr ⟨rr, rfl, hrr, hb⟩
  obtain rfl : n = rr := KR.out.same hrr
  replace Oa := Lib.hid (Oa.out.below hb)
  replace Ob := Lib.hid (Ob.out.below hb)
  replace Ox := Lib.hid (Ox.out.below hb)
  replace Oi := Lib.hid (Oi.out.below hb)
  replace HB := Lib.hid (HB.out.trans (hb.mono HB.out.size))
  have k1 : ¬ (n : Int) < (n : Int) := by omega
  have LX := Lib.hid (IntM.left Ta.out.int ND.out IX.out)
  have EY := Lib.hid (appQ_inv LX.out EX.out)
  have DW := Lib.hid (det_inv4 (by omega) Ta.out ND.out IX.out)
  have EW := Lib.hid (det_inv IX.out)
  have FI := Lib.hid (show ∀ i k, i < n → k < n → FitsR (mulM n a X i k) from fun i k hi hk => by rw [IX.out i k hi hk]; exact (show FitsR (idn i k) by unfold idn; split; exact small_fits (z := 1) (by decide); exact small_fits (z := 0) (by decide)))
  clear hrr hb
  go_wp2_with fail
  refine (mxApp Oa.out Ox.out (by omega) (by omega) (by omega) (by omega) (fun i hi => by rw [EX.out i hi]; exact Fb.out i hi) (HE.out.below HB.out)).mono ?_
  rintro e w21 ⟨Ay, cy, rfl, hm, hb⟩
  replace Oa := Lib.hid (Oa.out.below hb)
  replace Ob := Lib.hid (Ob.out.below hb)
  replace Ox := Lib.hid (Ox.out.below hb)
  replace Oi := Lib.hid (Oi.out.below hb)
  replace HB := Lib.hid (HB.out.trans (hb.mono HB.out.size))
  clear hb
  have Oy := Lib.hid (hm.congr EX.out)
  clear hm
  go_wp2_with fail
  refine (mxMul Oa.out Oi.out (by omega) (by omega) (by omega) (by omega) (by omega) (by omega) FI.out (HE.out.below HB.out)).mono ?_
  rintro e w22 ⟨Ao, co, rfl, hm, hb⟩
  replace Oa := Lib.hid (Oa.out.below hb)
  replace Ob := Lib.hid (Ob.out.below hb)
  replace Ox := Lib.hid (Ox.out.below hb)
  replace Oi := Lib.hid (Oi.out.below hb)
  replace Oy := Lib.hid (Oy.out.below hb)
  replace HB := Lib.hid (HB.out.trans (hb.mono HB.out.size))
  clear hb
  have Oo := Lib.hid hm
  clear hm
  go_wp2_with fail
  refine (mxIdn n w22 (by omega) (HE.out.below HB.out)).mono ?_
  rintro e w23 ⟨Au, cu, rfl, hm, hb⟩
  replace Oa := Lib.hid (Oa.out.below hb)
  replace Ob := Lib.hid (Ob.out.below hb)
  replace Ox := Lib.hid (Ox.out.below hb)
  replace Oi := Lib.hid (Oi.out.below hb)
  replace Oy := Lib.hid (Oy.out.below hb)
  replace Oo := Lib.hid (Oo.out.below hb)
  replace HB := Lib.hid (HB.out.trans (hb.mono HB.out.size))
  clear hb
  have Ou := Lib.hid hm
  clear hm
  go_wp2_with fail
  refine (mxApp Oi.out Ob.out (by omega) (by omega) (by omega) (by omega) (fun i hi => by rw [EY.out i hi]; exact FX.out i hi) (HE.out.below HB.out)).mono ?_
  rintro e w24 ⟨Av, cv, rfl, hm, hb⟩
  replace Oa := Lib.hid (Oa.out.below hb)
  replace Ob := Lib.hid (Ob.out.below hb)
  replace Ox := Lib.hid (Ox.out.below hb)
  replace Oi := Lib.hid (Oi.out.below hb)
  replace Oy := Lib.hid (Oy.out.below hb)
  replace Oo := Lib.hid (Oo.out.below hb)
  replace Ou := Lib.hid (Ou.out.below hb)
  replace HB := Lib.hid (HB.out.trans (hb.mono HB.out.size))
  clear hb
  have Ov := Lib.hid (hm.congr EY.out)
  clear hm
  go_wp2_with fail
  refine (mxDet Oi.out (by omega) (by omega) (show 1 ≤ 4 by decide) (by decide) DX.out rfl (DW.out.fits (by decide) (by decide)) (HE.out.below HB.out)).mono ?_
  rintro e w25 ⟨rfl, hb⟩
  replace Oa := Lib.hid (Oa.out.below hb)
  replace Ob := Lib.hid (Ob.out.below hb)
  replace Ox := Lib.hid (Ox.out.below hb)
  replace Oi := Lib.hid (Oi.out.below hb)
  replace Oy := Lib.hid (Oy.out.below hb)
  replace Oo := Lib.hid (Oo.out.below hb)
  replace Ou := Lib.hid (Ou.out.below hb)
  replace Ov := Lib.hid (Ov.out.below hb)
  replace HB := Lib.hid (HB.out.trans (hb.mono HB.out.size))
  clear hb
  go_wp2_with fail
  rw [← ESD.out]
  refine (mul_fit_call (det n X) (det n a) w25 (DW.out.fits (by decide) (by decide)) Fd.out (by rw [EW.out]; exact small_fits (z := 1) (by decide))).mono ?_
  rintro e w26 ⟨rfl, hb⟩
  replace Oa := Lib.hid (Oa.out.below hb)
  replace Ob := Lib.hid (Ob.out.below hb)
  replace Ox := Lib.hid (Ox.out.below hb)
  replace Oi := Lib.hid (Oi.out.below hb)
  replace Oy := Lib.hid (Oy.out.below hb)
  replace Oo := Lib.hid (Oo.out.below hb)
  replace Ou := Lib.hid (Ou.out.below hb)
  replace Ov := Lib.hid (Ov.out.below hb)
  replace HB := Lib.hid (HB.out.trans (hb.mono HB.out.size))
  clear hb
  rw [EW.out, rstr_i1]
  generalize rstr (det n X) = sw at *
  rw [ESD.out]
  go_wp2_with fail
  refine (vcSame Oy.out Ob.out (by omega)).mono ?_
  rintro e w27 ⟨rfl, hb⟩
  replace Oa := Lib.hid (Oa.out.below hb)
  replace Ob := Lib.hid (Ob.out.below hb)
  replace Ox := Lib.hid (Ox.out.below hb)
  replace Oi := Lib.hid (Oi.out.below hb)
  replace Oy := Lib.hid (Oy.out.below hb)
  replace Oo := Lib.hid (Oo.out.below hb)
  replace Ou := Lib.hid (Ou.out.below hb)
  replace Ov := Lib.hid (Ov.out.below hb)
  replace HB := Lib.hid (HB.out.trans (hb.mono HB.out.size))
  clear hb
  go_wp2_with fail
  refine (mxSame Oo.out (Ou.out.congr fun i k hi hk => (IX.out i k hi hk).symm) (by omega) (by omega) (by omega) (by omega) (HE.out.below HB.out)).mono ?_
  rintro e w28 ⟨rfl, hb⟩
  replace Oa := Lib.hid (Oa.out.below hb)
  replace Ob := Lib.hid (Ob.out.below hb)
  replace Ox := Lib.hid (Ox.out.below hb)
  replace Oi := Lib.hid (Oi.out.below hb)
  replace Oy := Lib.hid (Oy.out.below hb)
  replace Oo := Lib.hid (Oo.out.below hb)
  replace Ou := Lib.hid (Ou.out.below hb)
  replace Ov := Lib.hid (Ov.out.below hb)
  replace HB := Lib.hid (HB.out.trans (hb.mono HB.out.size))
  clear hb
  go_wp2_with fail
  refine (vcSame Ox.out Ov.out (by omega)).mono ?_
  rintro e w29 ⟨rfl, hb⟩
  replace Oa := Lib.hid (Oa.out.below hb)
  replace Ob := Lib.hid (Ob.out.below hb)
  replace Ox := Lib.hid (Ox.out.below hb)
  replace Oi := Lib.hid (Oi.out.below hb)
  replace Oy := Lib.hid (Oy.out.below hb)
  replace Oo := Lib.hid (Oo.out.below hb)
  replace Ou := Lib.hid (Ou.out.below hb)
  replace Ov := Lib.hid (Ov.out.below hb)
  replace HB := Lib.hid (HB.out.trans (hb.mono HB.out.size))
  clear hb
  go_wp2_with fail
  refine (Sane3 w29 (HE.out.below HB.out)).mono ?_
  rintro e w30 ⟨rfl, hb⟩
  replace Oa := Lib.hid (Oa.out.below hb)
  replace Ob := Lib.hid (Ob.out.below hb)
  replace Ox := Lib.hid (Ox.out.below hb)
  replace Oi := Lib.hid (Oi.out.below hb)
  replace Oy := Lib.hid (Oy.out.below hb)
  replace Oo := Lib.hid (Oo.out.below hb)
  replace Ou := Lib.hid (Ou.out.below hb)
  replace Ov := Lib.hid (Ov.out.below hb)
  replace HB := Lib.hid (HB.out.trans (hb.mono HB.out.size))
  clear hb
  go_wp2_with fail
  go_ret
  exact ⟨rfl, HB.out⟩
end Go.Proofs.YtajlojhklhlljaaGreatDoor
