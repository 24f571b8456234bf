import Derived.Test.YtajlojhklhlljaaGreatDoorZMT
import Derived.Test.YtajlojhklhlljaaGreatDoorZMP
set_option maxHeartbeats 16000000
set_option maxRecDepth 100000
set_option linter.unusedVariables false
set_option linter.unusedSimpArgs false
set_option linter.unusedSectionVars false
namespace Go.Proofs.YtajlojhklhlljaaGreatDoor
open Go.RowKit
theorem MatrixLinear_any (A : Option Addr) (l cp : Nat) (w : World) (h : Ints w A l) (hlc : l ≤ cp) (hl : l ≤ 9223372036854775807) (henv : Env w) :
  Calls Tryz.prog 6 #[.slice A l cp] w fun e w' => e = .returned (.bool true) ∧ Below w.heap.size w w' := by
 have HE := Lib.hid henv
 have HI := Lib.hid h
 clear henv h
 go_enter Tryz.func6, Tryz.ntmps6
 go_wp2_with fail
 refine (New_any A l cp w HI.out hlc hl).mono ?_
 rintro e w0 ⟨rfl, hs, hb⟩
 obtain ⟨b, hbe⟩ : ∃ b, w.heap.size = b := ⟨_, rfl⟩
 have hsz2 : w.heap.size ≤ b := by omega
 have HS : Hid (Src w0 b) := by rw [← hbe]; exact Lib.hid hs
 have HB := Lib.hid hb
 clear hs hb HI
 rw [hbe]
 have HUP := Lib.hid (fun (W W' : World) (hW : Below w.heap.size w W) (hg : W.grownBy W' (some b)) => srcBelow hW hsz2 hg)
 clear hbe hsz2
 go_wp2_with fail
 refine (N_any b 3 w0 HS.out (by decide) (by decide)).mono ?_
 rintro e w1 ⟨n', rfl, hn, hs, hg⟩
 replace HB := Lib.hid (HUP.out _ _ HB.out hg)
 obtain ⟨r, hn2⟩ : ∃ n : Nat, 1 + n' = n := ⟨_, rfl⟩
 have hrl : 1 ≤ r := by omega
 have hru : r ≤ 3 := by omega
 have hre : (1 : Int) + (n' : Int) = (r : Int) := by omega
 clear hn hn2
 replace HS := Lib.hid hs
 clear hs hg
 go_wp2_with fail
 refine (N_any b 3 w1 HS.out (by decide) (by decide)).mono ?_
 rintro e w2 ⟨n', rfl, hn, hs, hg⟩
 replace HB := Lib.hid (HUP.out _ _ HB.out hg)
 obtain ⟨n, hn2⟩ : ∃ n : Nat, 1 + n' = n := ⟨_, rfl⟩
 have hnl : 1 ≤ n := by omega
 have hnu : n ≤ 3 := by omega
 have hne : (1 : Int) + (n' : Int) = (n : Int) := by omega
 clear hn hn2
 replace HS := Lib.hid hs
 clear hs hg
 go_wp2_with fail
 refine (mxMat b r n w2 HS.out (by omega) (by omega)).mono ?_
 rintro e w3 ⟨Aa, ca, a, rfl, hm, hd, hs, hg⟩
 replace HB := Lib.hid (HUP.out _ _ HB.out hg)
 have Oa := Lib.hid hm
 have Ta := Lib.hid hd
 obtain ⟨Ba, hBa⟩ : ∃ B, w2.heap.size = B := ⟨_, rfl⟩
 rw [hBa] at Oa
 have hba : b < Ba := by have := HS.out.lt; omega
 clear hm hd hBa
 have Da := Ta
 replace HS := Lib.hid hs
 clear hs hg
 go_wp2_with fail
 refine (mxMat b r n w3 HS.out (by omega) (by omega)).mono ?_
 rintro e w4 ⟨Abb, cbb, bb, rfl, hm, hd, hs, hg⟩
 replace Oa := Lib.hid (Oa.out.grown hg hba)
 replace HB := Lib.hid (HUP.out _ _ HB.out hg)
 have Obb := Lib.hid hm
 have Tbb := Lib.hid hd
 obtain ⟨Bbb, hBbb⟩ : ∃ B, w3.heap.size = B := ⟨_, rfl⟩
 rw [hBbb] at Obb
 have hbbb : b < Bbb := by have := HS.out.lt; omega
 clear hm hd hBbb
 have Dbb := Tbb
 replace HS := Lib.hid hs
 clear hs hg
 go_wp2_with fail
 refine (vcRats b n w4 HS.out (by omega)).mono ?_
 rintro e w5 ⟨Ax, cx, x, rfl, hm, hd, hs, hg⟩
 replace Oa := Lib.hid (Oa.out.grown hg hba)
 replace Obb := Lib.hid (Obb.out.grown hg hbbb)
 replace HB := Lib.hid (HUP.out _ _ HB.out hg)
 have Ox := Lib.hid hm
 have Sx := Lib.hid hd
 obtain ⟨Bx, hBx⟩ : ∃ B, w4.heap.size = B := ⟨_, rfl⟩
 rw [hBx] at Ox
 have hbx : b < Bx := by have := HS.out.lt; omega
 clear hm hd hBx
 have Dx := Lib.hid (fun k hk => (Sx.out k hk).dig)
 replace HS := Lib.hid hs
 clear hs hg
 go_wp2_with fail
 refine (MRat_any b w5 HS.out).mono ?_
 rintro e w6 ⟨k, rfl, hk, hs, hg⟩
 replace Oa := Lib.hid (Oa.out.grown hg hba)
 replace Obb := Lib.hid (Obb.out.grown hg hbbb)
 replace Ox := Lib.hid (Ox.out.grown hg hbx)
 replace HB := Lib.hid (HUP.out _ _ HB.out hg)
 have Dk := Lib.hid hk.dig
 have Fk := Lib.hid hk.fits
 clear hk
 replace HS := Lib.hid hs
 clear hs hg
 replace Oa := Lib.hid Oa.out.mxIn
 replace Obb := Lib.hid Obb.out.mxIn
 replace Ox := Lib.hid Ox.out.mxIn
 clear HS HUP hba hbbb hbx
 have Dc := Lib.hid (show DigM 3 r n (fun i k => a i k + bb i k) from fun i k hi hk => ((Da.out i k hi hk).add (Dbb.out i k hi hk) rfl rfl).mono (by decide))
 have Dd := Lib.hid (show DigM 2 r n (fun i j => a i j * k) from fun i j hi hj => (Da.out i j hi hj).mul Dk.out rfl rfl)
 have Du := Lib.hid (fun i hi => appQ_dig Da.out Dx.out i hi)
 have Dv := Lib.hid (fun i hi => appQ_dig Dbb.out Dx.out i hi)
 have Dy := Lib.hid (fun i hi => appQ_dig Dc.out Dx.out i hi)
 have Dw := Lib.hid (fun i hi => appQ_dig Dd.out Dx.out i hi)
 have Fu := Lib.hid (fun i hi => (Du.out i hi).fits (by omega) (by omega))
 have Fv := Lib.hid (fun i hi => (Dv.out i hi).fits (by omega) (by omega))
 have Fy := Lib.hid (fun i hi => (Dy.out i hi).fits (by omega) (by omega))
 have Fw := Lib.hid (fun i hi => (Dw.out i hi).fits (by omega) (by omega))
 go_wp2_with fail
 refine (mxAdd Oa.out Obb.out (by omega) (by omega) (by omega) (by omega) (Dc.out.fits (by decide) (by decide)) (HE.out.below HB.out)).mono ?_
 rintro e w7 ⟨Ac, cc, rfl, hm, hb⟩
 replace Oa := Lib.hid (Oa.out.below hb)
 replace Obb := Lib.hid (Obb.out.below hb)
 replace Ox := Lib.hid (Ox.out.below hb)
 replace HB := Lib.hid (HB.out.trans (hb.mono HB.out.size))
 clear hb
 have Oc := Lib.hid hm
 clear hm
 go_wp2_with fail
 refine (mxApp Oc.out Ox.out (by omega) (by omega) (by omega) (by omega) Fy.out (HE.out.below HB.out)).mono ?_
 rintro e w8 ⟨Ay, cy, rfl, hm, hb⟩
 replace Oa := Lib.hid (Oa.out.below hb)
 replace Obb := Lib.hid (Obb.out.below hb)
 replace Ox := Lib.hid (Ox.out.below hb)
 replace Oc := Lib.hid (Oc.out.below hb)
 replace HB := Lib.hid (HB.out.trans (hb.mono HB.out.size))
 clear hb
 have Oy := Lib.hid hm
 clear hm
 go_wp2_with fail
 refine (mxApp Oa.out Ox.out (by omega) (by omega) (by omega) (by omega) Fu.out (HE.out.below HB.out)).mono ?_
 rintro e w9 ⟨Au, cu, rfl, hm, hb⟩
 replace Oa := Lib.hid (Oa.out.below hb)
 replace Obb := Lib.hid (Obb.out.below hb)
 replace Ox := Lib.hid (Ox.out.below hb)
 replace Oc := Lib.hid (Oc.out.below hb)
 replace Oy := Lib.hid (Oy.out.below hb)
 replace HB := Lib.hid (HB.out.trans (hb.mono HB.out.size))
 clear hb
 have Ou := Lib.hid hm
 clear hm
 go_wp2_with fail
 refine (mxApp Obb.out Ox.out (by omega) (by omega) (by omega) (by omega) Fv.out (HE.out.below HB.out)).mono ?_
 rintro e w10 ⟨Av, cv, rfl, hm, hb⟩
 replace Oa := Lib.hid (Oa.out.below hb)
 replace Obb := Lib.hid (Obb.out.below hb)
 replace Ox := Lib.hid (Ox.out.below hb)
 replace Oc := Lib.hid (Oc.out.below hb)
 replace Oy := Lib.hid (Oy.out.below hb)
 replace Ou := Lib.hid (Ou.out.below hb)
 replace HB := Lib.hid (HB.out.trans (hb.mono HB.out.size))
 clear hb
 have Ov := Lib.hid hm
 clear hm
 go_wp2_with fail
 refine (mxScl k Oa.out (by omega) (by omega) (by omega) (by omega) Fk.out (Dd.out.fits (by decide) (by decide)) (HE.out.below HB.out)).mono ?_
 rintro e w11 ⟨Ad, cd, rfl, hm, hb⟩
 replace Oa := Lib.hid (Oa.out.below hb)
 replace Obb := Lib.hid (Obb.out.below hb)
 replace Ox := Lib.hid (Ox.out.below hb)
 replace Oc := Lib.hid (Oc.out.below hb)
 replace Oy := Lib.hid (Oy.out.below hb)
 replace Ou := Lib.hid (Ou.out.below hb)
 replace Ov := Lib.hid (Ov.out.below hb)
 replace HB := Lib.hid (HB.out.trans (hb.mono HB.out.size))
 clear hb
 have Od := Lib.hid hm
 clear hm
 go_wp2_with fail
 refine (mxApp Od.out Ox.out (by omega) (by omega) (by omega) (by omega) Fw.out (HE.out.below HB.out)).mono ?_
 rintro e w12 ⟨Aw, cw, rfl, hm, hb⟩
 replace Oa := Lib.hid (Oa.out.below hb)
 replace Obb := Lib.hid (Obb.out.below hb)
 replace Ox := Lib.hid (Ox.out.below hb)
 replace Oc := Lib.hid (Oc.out.below hb)
 replace Oy := Lib.hid (Oy.out.below hb)
 replace Ou := Lib.hid (Ou.out.below hb)
 replace Ov := Lib.hid (Ov.out.below hb)
 replace Od := Lib.hid (Od.out.below hb)
 replace HB := Lib.hid (HB.out.trans (hb.mono HB.out.size))
 clear hb
 have Ow := Lib.hid hm
 clear hm
 obtain ⟨gy, oy, ey⟩ := Oy.out.addr hrl
 subst ey
 obtain ⟨gu, ou, eu⟩ := Ou.out.addr hrl
 subst eu
 obtain ⟨gv, ov, ev⟩ := Ov.out.addr hrl
 subst ev
 obtain ⟨gw, ow, ew⟩ := Ow.out.addr hrl
 subst ew
 clear Oa Obb Oc Od Ox Fy Fw Dy Dw
 have Ey := Lib.hid (Oy.out.congr fun i _ => appQ_add n a bb x i)
 have Ew := Lib.hid (Ow.out.congr fun i _ => appQ_scl n a k x i)
 clear Oy Ow
 have HRL := Lib.hid hrl
 go_wp2_with fail
 go_loopw [132] (fun iv wr => ∃ i : Nat, iv = .int .i64 (i : Int) ∧ i ≤ r ∧ Below w12.heap.size w12 wr) (fun iv _ => r - (intOf iv).toNat)
 case atStart => exact ⟨0, rfl, Nat.zero_le _, Below.refl _ _⟩
 case round =>
  obtain ⟨i, rfl, hi, hbw⟩ := hrel
  obtain ⟨wk, rfl⟩ : ∃ wk : World, wk = wr := ⟨_, rfl⟩
  have HBK := Lib.hid hbw
  by_cases hlt : i < r
  ·have cu := (Ou.out.below hbw).at_ hlt
   have cv := (Ov.out.below hbw).at_ hlt
   have cy := (Ey.out.below hbw).at_ hlt
   have cw := (Ew.out.below hbw).at_ hlt
   have fu := Fu.out i hlt
   have du := Du.out i hlt
   have dv := Dv.out i hlt
   have CA := Lib.hid (fun W => add_fit_call (appQ n a x i) (appQ n bb x i) W fu (Fv.out i hlt) ((du.add dv rfl rfl).fits (by omega) (by omega)))
   have CM := Lib.hid (fun W => mul_fit_call (appQ n a x i) k W fu Fk.out ((du.mul Dk.out rfl rfl).fits (by omega) (by omega)))
   clear hbw fu du dv
   generalize rstr (appQ n a x i + appQ n bb x i) = sy at *
   generalize rstr (appQ n a x i * k) = sw at *
   generalize rstr (appQ n a x i) = su at *
   generalize rstr (appQ n bb x i) = sv at *
   generalize rstr k = sk at *
   have k1 : (0 : Int) ≤ (i : Int) := by omega
   have k2 : (i : Int) < (r : Int) := by omega
   have KS0 : Hid (wk.cell? ⟨gu, ou + i, none⟩ = some (.string su) ∧ wk.cell? ⟨gv, ov + i, none⟩ = some (.string sv)) := Lib.hid ⟨cu, cv⟩
   go_upto_region 15 with (fail)
   refine wp_region_held_drew (S := (fun w' => w'.cell? ⟨gu, ou + i, none⟩ = some (.string su) ∧ w'.cell? ⟨gv, ov + i, none⟩ = some (.string sv))) (by kernel_rfl) (by exact KS0.out) (fun hHeld => ?_)
   refine wpAnyH_take (i := 0) rfl (by kernel_rfl) (by kernel_rfl) (by kernel_rfl) (fun _ _ _ h => h) (Or.inl ⟨by rfl, by (intro w hSw; (try dsimp only at hSw); go_simp); all_goals with_reducible rfl⟩) hHeld ?_
   try simp only [Act.put, List.setIfInBounds_toArray, List.set_cons_zero, List.set_cons_succ]
   refine wpAnyH_take (i := 1) rfl (by kernel_rfl) (by kernel_rfl) (by kernel_rfl) (fun _ _ _ h => h) (Or.inl ⟨by rfl, by (intro w hSw; (try dsimp only at hSw); go_simp); all_goals with_reducible rfl⟩) hHeld ?_
   try simp only [Act.put, List.setIfInBounds_toArray, List.set_cons_zero, List.set_cons_succ]
   refine wpAnyH_take (i := 2) rfl (by kernel_rfl) (by kernel_rfl) (by kernel_rfl) (fun _ _ _ h => h) (Or.inl ⟨by rfl, by (intro w hSw; (try dsimp only at hSw); go_simp); all_goals with_reducible rfl⟩) hHeld ?_
   try simp only [Act.put, List.setIfInBounds_toArray, List.set_cons_zero, List.set_cons_succ]
   refine wpAnyH_take (i := 3) rfl (by kernel_rfl) (by kernel_rfl) (by kernel_rfl) (fun _ _ _ h => h) (Or.inl ⟨by rfl, by (intro w hSw; (try dsimp only at hSw); go_simp); all_goals with_reducible rfl⟩) hHeld ?_
   try simp only [Act.put, List.setIfInBounds_toArray, List.set_cons_zero, List.set_cons_succ]
   refine wpAnyH_take (i := 4) rfl (by kernel_rfl) (by kernel_rfl) (by kernel_rfl) (fun _ _ _ h => h) (Or.inl ⟨by rfl, by (intro w hSw; (try dsimp only at hSw); go_simp); all_goals with_reducible rfl⟩) hHeld ?_
   try simp only [Act.put, List.setIfInBounds_toArray, List.set_cons_zero, List.set_cons_succ]
   refine wpAnyH_take (i := 5) rfl (by kernel_rfl) (by kernel_rfl) (by kernel_rfl) (fun _ _ _ h => h) (Or.inl ⟨by rfl, by (intro w hSw; (try dsimp only at hSw); go_simp); all_goals with_reducible rfl⟩) hHeld ?_
   try simp only [Act.put, List.setIfInBounds_toArray, List.set_cons_zero, List.set_cons_succ]
   refine wpAnyH_take (i := 6) rfl (by kernel_rfl) (by kernel_rfl) (by kernel_rfl) (fun _ _ _ h => h) (Or.inl ⟨by rfl, by (intro w hSw; (try dsimp only at hSw); go_simp); all_goals with_reducible rfl⟩) hHeld ?_
   try simp only [Act.put, List.setIfInBounds_toArray, List.set_cons_zero, List.set_cons_succ]
   refine wpAnyH_take (i := 7) rfl (by kernel_rfl) (by kernel_rfl) (by kernel_rfl) (fun _ _ _ h => h) (Or.inl ⟨by rfl, by (intro w hSw; (try dsimp only at hSw); go_simp); all_goals with_reducible rfl⟩) hHeld ?_
   try simp only [Act.put, List.setIfInBounds_toArray, List.set_cons_zero, List.set_cons_succ]
   refine wpAnyH_ready (rs := [8]) (by kernel_rfl) (by simp) ?_
   refine AllReadyH.cons rfl (fun K hK => ?_) AllReadyH.nil
   go_simp
   (go_at_call 21; (with_reducible refine (CA.out _).mono ?_); rintro e wa ⟨rfl, hb⟩; have hw : Below wk.heap.size wk wa := Below.trans (by first | with_reducible exact Below.refl _ _ | with_reducible exact (Below.refl _ _).drew) hb; have HWA := Lib.hid hw; have KSA : Hid (wa.cell? ⟨gu, ou + i, none⟩ = some (.string su) ∧ wa.cell? ⟨gv, ov + i, none⟩ = some (.string sv)) := Lib.hid ⟨(hw.cell (World.block_lt_of_cell? _ _ cu)).trans cu, (hw.cell (World.block_lt_of_cell? _ _ cv)).trans cv⟩; clear hb hw)
   go_wp2_with fail
   refine hK.out _ _ ?_ (fun hHeld => ?_)
   ·exact KSA.out
   clear hK K
   try simp only [Act.put, List.setIfInBounds_toArray, List.set_cons_zero, List.set_cons_succ]
   refine wpAnyH_take (i := 9) rfl (by kernel_rfl) (by kernel_rfl) (by kernel_rfl) (fun _ _ _ h => h) (Or.inl ⟨by rfl, by (intro w hSw; (try dsimp only at hSw); go_simp); all_goals with_reducible rfl⟩) hHeld ?_
   try simp only [Act.put, List.setIfInBounds_toArray, List.set_cons_zero, List.set_cons_succ]
   refine wpAnyH_take (i := 10) rfl (by kernel_rfl) (by kernel_rfl) (by kernel_rfl) (fun _ _ _ h => h) (Or.inl ⟨by rfl, by (intro w hSw; (try dsimp only at hSw); go_simp); all_goals with_reducible rfl⟩) hHeld ?_
   try simp only [Act.put, List.setIfInBounds_toArray, List.set_cons_zero, List.set_cons_succ]
   refine wpAnyH_take (i := 11) rfl (by kernel_rfl) (by kernel_rfl) (by kernel_rfl) (fun _ _ _ h => h) (Or.inl ⟨by rfl, by (intro w hSw; (try dsimp only at hSw); go_simp); all_goals with_reducible rfl⟩) hHeld ?_
   try simp only [Act.put, List.setIfInBounds_toArray, List.set_cons_zero, List.set_cons_succ]
   refine wpAnyH_take (i := 12) rfl (by kernel_rfl) (by kernel_rfl) (by kernel_rfl) (fun _ _ _ h => h) (Or.inl ⟨by rfl, by (intro w hSw; (try dsimp only at hSw); go_simp); all_goals with_reducible rfl⟩) hHeld ?_
   try simp only [Act.put, List.setIfInBounds_toArray, List.set_cons_zero, List.set_cons_succ]
   refine wpAnyH_take (i := 13) rfl (by kernel_rfl) (by kernel_rfl) (by kernel_rfl) (fun _ _ _ h => h) (Or.inl ⟨by rfl, by (intro w hSw; (try dsimp only at hSw); go_simp); all_goals with_reducible rfl⟩) hHeld ?_
   try simp only [Act.put, List.setIfInBounds_toArray, List.set_cons_zero, List.set_cons_succ]
   refine wpAnyH_done (by kernel_rfl) ?_ _
   all_goals
    have ky := (HWA.out.cell (World.block_lt_of_cell? _ _ cy)).trans cy
    have kw := (HWA.out.cell (World.block_lt_of_cell? _ _ cw)).trans cw
    have ku := KSA.out.1
    have HBA := Lib.hid (HBK.out.trans (HWA.out.mono HBK.out.size))
    clear cu cv cy cw KS0 KSA HWA
    go_wp2_with fail
    refine (CM.out _).mono ?_
    rintro e wb ⟨rfl, hb⟩
    have cy := (hb.cell (World.block_lt_of_cell? _ _ ky)).trans ky
    have cw := (hb.cell (World.block_lt_of_cell? _ _ kw)).trans kw
    have HBB := Lib.hid (HBA.out.trans (hb.mono HBA.out.size))
    clear hb ky kw ku
    go_wp2_with fail
    go_roundw
    case rel => exact ⟨i + 1, by go_num, by omega, HBB.out⟩
    case measure => simp [intOf]; omega
  ·have hcn : r = i := by omega
   subst hcn
   go_wp2_with fail
   refine (Sane3 _ (HE.out.below (HB.out.trans (hbw.mono HB.out.size)))).mono ?_
   rintro e wz ⟨rfl, hb⟩
   have HBZ := Lib.hid ((HB.out.trans (hbw.mono HB.out.size)).trans (hb.mono (HB.out.trans (hbw.mono HB.out.size)).size))
   go_wp2_with fail
   go_ret
   exact ⟨rfl, HBZ.out⟩
end Go.Proofs.YtajlojhklhlljaaGreatDoor
