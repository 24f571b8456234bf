import Derived.Test.YtajlojhklhlljaaGreatDoorZMT
set_option maxHeartbeats 16000000
set_option maxRecDepth 100000
set_option linter.unusedVariables false
set_option linter.unusedSimpArgs false
set_option linter.unusedSectionVars false
namespace Go.Proofs.YtajlojhklhlljaaGreatDoor
open Go.RowKit
theorem det3_dig {n : Nat} {M : Nat → Nat → Rat} (hn : n ≤ 3) (h : DigM 1 n n M) : DigR 61 (det n M) := by
 have h1 := det_dig (k := 1) h
 exact h1.mono (match n, hn with
  | 0, _ => by decide
  | 1, _ => by decide
  | 2, _ => by decide
  | 3, _ => by decide)
theorem MatrixProducts_any (A : Option Addr) (l cp : Nat) (w : World) (h : Ints w A l) (hlc : l ≤ cp) (hl : l ≤ 9223372036854775807) (henv : Env w) :
  Calls Tryz.prog 7 #[.slice A l cp] w fun e w' => e = .returned (.bool true) ∧ Below w.heap.size w w' := by
 have HE := Lib.hid henv
 have HI := Lib.hid h
 clear henv h
 go_enter Tryz.func7, Tryz.ntmps7
 go_wp2_with fail
 refine (New_any A l cp w HI.out hlc hl).mono ?_
 rintro e w0 ⟨rfl, hs, hb⟩
 obtain ⟨b, hbe⟩ : ∃ b, w.heap.size = b := ⟨_, rfl⟩
 have hsz2 : w.heap.size ≤ b := by omega
 have HS : Hid (Src w0 b) := by rw [← hbe]; exact Lib.hid hs
 have HB := Lib.hid hb
 clear hs hb HI
 rw [hbe]
 have HUP := Lib.hid (fun (W W' : World) (hW : Below w.heap.size w W) (hg : W.grownBy W' (some b)) => srcBelow hW hsz2 hg)
 clear hbe hsz2
 go_wp2_with fail
 refine (N_any b 3 w0 HS.out (by decide) (by decide)).mono ?_
 rintro e w1 ⟨n', rfl, hn, hs, hg⟩
 replace HB := Lib.hid (HUP.out _ _ HB.out hg)
 obtain ⟨n, hn2⟩ : ∃ n : Nat, 1 + n' = n := ⟨_, rfl⟩
 have hnl : 1 ≤ n := by omega
 have hnu : n ≤ 3 := by omega
 have hne : (1 : Int) + (n' : Int) = (n : Int) := by omega
 clear hn hn2
 replace HS := Lib.hid hs
 clear hs hg
 go_wp2_with fail
 refine (mxThin b n n w1 HS.out (by omega) (by omega) (Or.inl (by omega))).mono ?_
 rintro e w2 ⟨Aa, ca, a, rfl, hm, hd, hs, hg⟩
 replace HB := Lib.hid (HUP.out _ _ HB.out hg)
 have Oa := Lib.hid hm
 have Ta := Lib.hid hd
 obtain ⟨Ba, hBa⟩ : ∃ B, w1.heap.size = B := ⟨_, rfl⟩
 rw [hBa] at Oa
 have hba : b < Ba := by have := HS.out.lt; omega
 clear hm hd hBa
 have Da := Lib.hid Ta.out.dig
 replace HS := Lib.hid hs
 clear hs hg
 go_wp2_with fail
 refine (mxThin b n n w2 HS.out (by omega) (by omega) (Or.inl (by omega))).mono ?_
 rintro e w3 ⟨Abb, cbb, bb, rfl, hm, hd, hs, hg⟩
 replace Oa := Lib.hid (Oa.out.grown hg hba)
 replace HB := Lib.hid (HUP.out _ _ HB.out hg)
 have Obb := Lib.hid hm
 have Tbb := Lib.hid hd
 obtain ⟨Bbb, hBbb⟩ : ∃ B, w2.heap.size = B := ⟨_, rfl⟩
 rw [hBbb] at Obb
 have hbbb : b < Bbb := by have := HS.out.lt; omega
 clear hm hd hBbb
 have Dbb := Lib.hid Tbb.out.dig
 replace HS := Lib.hid hs
 clear hs hg
 go_wp2_with fail
 refine (mxMat b n n w3 HS.out (by omega) (by omega)).mono ?_
 rintro e w4 ⟨Ac, cc, c, rfl, hm, hd, hs, hg⟩
 replace Oa := Lib.hid (Oa.out.grown hg hba)
 replace Obb := Lib.hid (Obb.out.grown hg hbbb)
 replace HB := Lib.hid (HUP.out _ _ HB.out hg)
 have Oc := Lib.hid hm
 have Tc := Lib.hid hd
 obtain ⟨Bc, hBc⟩ : ∃ B, w3.heap.size = B := ⟨_, rfl⟩
 rw [hBc] at Oc
 have hbc : b < Bc := by have := HS.out.lt; omega
 clear hm hd hBc
 have Dc := Tc
 replace HS := Lib.hid hs
 clear hs hg
 replace Oa := Lib.hid Oa.out.mxIn
 replace Obb := Lib.hid Obb.out.mxIn
 replace Oc := Lib.hid Oc.out.mxIn
 clear HS HUP hba hbbb hbc
 have Tab := Lib.hid (mulM_thin (n := n) Ta.out Tbb.out)
 have Dab := Lib.hid (show DigM 2 n n (mulM n a bb) from fun i k hi hk => thin_dig (Tab.out i k hi hk) (by omega) (by decide))
 have Dx := Lib.hid (show DigM 13 n n (mulM n (mulM n a bb) c) from fun i k hi hk => (mulM_dig Dab.out Dc.out i k hi hk).mono (by omega))
 have Dbc := Lib.hid (show DigM 10 n n (mulM n bb c) from fun i k hi hk => (mulM_dig Dbb.out Dc.out i k hi hk).mono (by omega))
 have Dy := Lib.hid (show DigM 37 n n (mulM n a (mulM n bb c)) from fun i k hi hk => (mulM_dig Da.out Dbc.out i k hi hk).mono (by omega))
 have Dp := Lib.hid (show DigM 2 n n (mulM n (trn bb) (trn a)) from fun i k hi hk => thin_dig (mulM_thin (n := n) Tbb.out.trn Ta.out.trn i k hi hk) (by omega) (by decide))
 obtain ⟨da, hda⟩ : ∃ q, det n a = q := ⟨_, rfl⟩
 obtain ⟨db, hdb⟩ : ∃ q, det n bb = q := ⟨_, rfl⟩
 have Eda := Lib.hid hda
 have Edb := Lib.hid hdb
 have Edab := Lib.hid (show det n (mulM n a bb) = da * db by rw [det_mul, hda, hdb])
 have hda1 := det3_dig hnu Da.out
 have hdb1 := det3_dig hnu Dbb.out
 rw [hda] at hda1
 rw [hdb] at hdb1
 have Fda := Lib.hid (hda1.fits (by decide) (by decide))
 have Fdb := Lib.hid (hdb1.fits (by decide) (by decide))
 have Fdab := Lib.hid ((hda1.mul hdb1 rfl rfl).fits (by decide) (by decide))
 clear hda hdb hda1 hdb1
 go_wp2_with fail
 refine (mxMul Oa.out Obb.out (by omega) (by omega) (by omega) (by omega) (by omega) (by omega) (Dab.out.fits (by decide) (by decide)) (HE.out.below HB.out)).mono ?_
 rintro e w5 ⟨Aab, cab, rfl, hm, hb⟩
 replace Oa := Lib.hid (Oa.out.below hb)
 replace Obb := Lib.hid (Obb.out.below hb)
 replace Oc := Lib.hid (Oc.out.below hb)
 replace HB := Lib.hid (HB.out.trans (hb.mono HB.out.size))
 clear hb
 have Oab := Lib.hid hm
 clear hm
 go_wp2_with fail
 refine (mxMul Oab.out Oc.out (by omega) (by omega) (by omega) (by omega) (by omega) (by omega) (Dx.out.fits (by decide) (by decide)) (HE.out.below HB.out)).mono ?_
 rintro e w6 ⟨Ax, cx, rfl, hm, hb⟩
 replace Oa := Lib.hid (Oa.out.below hb)
 replace Obb := Lib.hid (Obb.out.below hb)
 replace Oc := Lib.hid (Oc.out.below hb)
 replace Oab := Lib.hid (Oab.out.below hb)
 replace HB := Lib.hid (HB.out.trans (hb.mono HB.out.size))
 clear hb
 have Ox := Lib.hid hm
 clear hm
 go_wp2_with fail
 refine (mxMul Obb.out Oc.out (by omega) (by omega) (by omega) (by omega) (by omega) (by omega) (Dbc.out.fits (by decide) (by decide)) (HE.out.below HB.out)).mono ?_
 rintro e w7 ⟨Abc, cbc, rfl, hm, hb⟩
 replace Oa := Lib.hid (Oa.out.below hb)
 replace Obb := Lib.hid (Obb.out.below hb)
 replace Oc := Lib.hid (Oc.out.below hb)
 replace Oab := Lib.hid (Oab.out.below hb)
 replace Ox := Lib.hid (Ox.out.below hb)
 replace HB := Lib.hid (HB.out.trans (hb.mono HB.out.size))
 clear hb
 have Obc := Lib.hid hm
 clear hm
 go_wp2_with fail
 refine (mxMul Oa.out Obc.out (by omega) (by omega) (by omega) (by omega) (by omega) (by omega) (Dy.out.fits (by decide) (by decide)) (HE.out.below HB.out)).mono ?_
 rintro e w8 ⟨Ay, cy, rfl, hm, hb⟩
 replace Oa := Lib.hid (Oa.out.below hb)
 replace Obb := Lib.hid (Obb.out.below hb)
 replace Oc := Lib.hid (Oc.out.below hb)
 replace Oab := Lib.hid (Oab.out.below hb)
 replace Ox := Lib.hid (Ox.out.below hb)
 replace Obc := Lib.hid (Obc.out.below hb)
 replace HB := Lib.hid (HB.out.trans (hb.mono HB.out.size))
 clear hb
 have Oy := Lib.hid hm
 clear hm
 go_wp2_with fail
 refine (mxTrn Oa.out (by omega) (by omega) (by omega) (by omega) (HE.out.below HB.out)).mono ?_
 rintro e w9 ⟨Aat, cat, rfl, hm, hb⟩
 replace Oa := Lib.hid (Oa.out.below hb)
 replace Obb := Lib.hid (Obb.out.below hb)
 replace Oc := Lib.hid (Oc.out.below hb)
 replace Oab := Lib.hid (Oab.out.below hb)
 replace Ox := Lib.hid (Ox.out.below hb)
 replace Obc := Lib.hid (Obc.out.below hb)
 replace Oy := Lib.hid (Oy.out.below hb)
 replace HB := Lib.hid (HB.out.trans (hb.mono HB.out.size))
 clear hb
 have Oat := Lib.hid hm
 clear hm
 go_wp2_with fail
 refine (mxTrn Obb.out (by omega) (by omega) (by omega) (by omega) (HE.out.below HB.out)).mono ?_
 rintro e w10 ⟨Abt, cbt, rfl, hm, hb⟩
 replace Oa := Lib.hid (Oa.out.below hb)
 replace Obb := Lib.hid (Obb.out.below hb)
 replace Oc := Lib.hid (Oc.out.below hb)
 replace Oab := Lib.hid (Oab.out.below hb)
 replace Ox := Lib.hid (Ox.out.below hb)
 replace Obc := Lib.hid (Obc.out.below hb)
 replace Oy := Lib.hid (Oy.out.below hb)
 replace Oat := Lib.hid (Oat.out.below hb)
 replace HB := Lib.hid (HB.out.trans (hb.mono HB.out.size))
 clear hb
 have Obt := Lib.hid hm
 clear hm
 go_wp2_with fail
 refine (mxMul Obt.out Oat.out (by omega) (by omega) (by omega) (by omega) (by omega) (by omega) (Dp.out.fits (by decide) (by decide)) (HE.out.below HB.out)).mono ?_
 rintro e w11 ⟨Ap, cp, rfl, hm, hb⟩
 replace Oa := Lib.hid (Oa.out.below hb)
 replace Obb := Lib.hid (Obb.out.below hb)
 replace Oc := Lib.hid (Oc.out.below hb)
 replace Oab := Lib.hid (Oab.out.below hb)
 replace Ox := Lib.hid (Ox.out.below hb)
 replace Obc := Lib.hid (Obc.out.below hb)
 replace Oy := Lib.hid (Oy.out.below hb)
 replace Oat := Lib.hid (Oat.out.below hb)
 replace Obt := Lib.hid (Obt.out.below hb)
 replace HB := Lib.hid (HB.out.trans (hb.mono HB.out.size))
 clear hb
 have Op := Lib.hid hm
 clear hm
 go_wp2_with fail
 refine (mxTrn Oab.out (by omega) (by omega) (by omega) (by omega) (HE.out.below HB.out)).mono ?_
 rintro e w12 ⟨Aq, cq, rfl, hm, hb⟩
 replace Oa := Lib.hid (Oa.out.below hb)
 replace Obb := Lib.hid (Obb.out.below hb)
 replace Oc := Lib.hid (Oc.out.below hb)
 replace Oab := Lib.hid (Oab.out.below hb)
 replace Ox := Lib.hid (Ox.out.below hb)
 replace Obc := Lib.hid (Obc.out.below hb)
 replace Oy := Lib.hid (Oy.out.below hb)
 replace Oat := Lib.hid (Oat.out.below hb)
 replace Obt := Lib.hid (Obt.out.below hb)
 replace Op := Lib.hid (Op.out.below hb)
 replace HB := Lib.hid (HB.out.trans (hb.mono HB.out.size))
 clear hb
 have Oq := Lib.hid hm
 clear hm
 clear Obt
 clear Oat
 clear Obc
 clear Oc
 go_wp2_with fail
 refine (mxDet Oa.out (by omega) (by omega) (show 1 ≤ 1 by decide) (by decide) Da.out Eda.out Fda.out (HE.out.below HB.out)).mono ?_
 rintro e w13 ⟨rfl, hb⟩
 replace Oa := Lib.hid (Oa.out.below hb)
 replace Obb := Lib.hid (Obb.out.below hb)
 replace Oab := Lib.hid (Oab.out.below hb)
 replace Ox := Lib.hid (Ox.out.below hb)
 replace Oy := Lib.hid (Oy.out.below hb)
 replace Op := Lib.hid (Op.out.below hb)
 replace Oq := Lib.hid (Oq.out.below hb)
 replace HB := Lib.hid (HB.out.trans (hb.mono HB.out.size))
 clear hb
 go_wp2_with fail
 refine (mxDet Obb.out (by omega) (by omega) (show 1 ≤ 1 by decide) (by decide) Dbb.out Edb.out Fdb.out (HE.out.below HB.out)).mono ?_
 rintro e w14 ⟨rfl, hb⟩
 replace Oa := Lib.hid (Oa.out.below hb)
 replace Obb := Lib.hid (Obb.out.below hb)
 replace Oab := Lib.hid (Oab.out.below hb)
 replace Ox := Lib.hid (Ox.out.below hb)
 replace Oy := Lib.hid (Oy.out.below hb)
 replace Op := Lib.hid (Op.out.below hb)
 replace Oq := Lib.hid (Oq.out.below hb)
 replace HB := Lib.hid (HB.out.trans (hb.mono HB.out.size))
 clear hb
 go_wp2_with fail
 refine (mxDet Oab.out (by omega) (by omega) (show 1 ≤ 2 by decide) (by decide) Dab.out Edab.out Fdab.out (HE.out.below HB.out)).mono ?_
 rintro e w15 ⟨rfl, hb⟩
 replace Oa := Lib.hid (Oa.out.below hb)
 replace Obb := Lib.hid (Obb.out.below hb)
 replace Oab := Lib.hid (Oab.out.below hb)
 replace Ox := Lib.hid (Ox.out.below hb)
 replace Oy := Lib.hid (Oy.out.below hb)
 replace Op := Lib.hid (Op.out.below hb)
 replace Oq := Lib.hid (Oq.out.below hb)
 replace HB := Lib.hid (HB.out.trans (hb.mono HB.out.size))
 clear hb
 go_wp2_with fail
 refine (mul_fit_call da db w15 Fda.out Fdb.out Fdab.out).mono ?_
 rintro e w16 ⟨rfl, hb⟩
 replace Oa := Lib.hid (Oa.out.below hb)
 replace Obb := Lib.hid (Obb.out.below hb)
 replace Oab := Lib.hid (Oab.out.below hb)
 replace Ox := Lib.hid (Ox.out.below hb)
 replace Oy := Lib.hid (Oy.out.below hb)
 replace Op := Lib.hid (Op.out.below hb)
 replace Oq := Lib.hid (Oq.out.below hb)
 replace HB := Lib.hid (HB.out.trans (hb.mono HB.out.size))
 clear hb
 generalize rstr (da * db) = sv at *
 generalize rstr da = sa at *
 generalize rstr db = sb at *
 go_wp2_with fail
 refine (mxSame Ox.out (Oy.out.congr fun i k _ _ => (mulM_assoc n n a bb c i k).symm) (by omega) (by omega) (by omega) (by omega) (HE.out.below HB.out)).mono ?_
 rintro e w17 ⟨rfl, hb⟩
 replace Oa := Lib.hid (Oa.out.below hb)
 replace Obb := Lib.hid (Obb.out.below hb)
 replace Oab := Lib.hid (Oab.out.below hb)
 replace Ox := Lib.hid (Ox.out.below hb)
 replace Oy := Lib.hid (Oy.out.below hb)
 replace Op := Lib.hid (Op.out.below hb)
 replace Oq := Lib.hid (Oq.out.below hb)
 replace HB := Lib.hid (HB.out.trans (hb.mono HB.out.size))
 clear hb
 go_wp2_with fail
 refine (mxSame Op.out (Oq.out.congr fun i k _ _ => (mulM_trn n a bb i k).symm) (by omega) (by omega) (by omega) (by omega) (HE.out.below HB.out)).mono ?_
 rintro e w18 ⟨rfl, hb⟩
 replace Oa := Lib.hid (Oa.out.below hb)
 replace Obb := Lib.hid (Obb.out.below hb)
 replace Oab := Lib.hid (Oab.out.below hb)
 replace Ox := Lib.hid (Ox.out.below hb)
 replace Oy := Lib.hid (Oy.out.below hb)
 replace Op := Lib.hid (Op.out.below hb)
 replace Oq := Lib.hid (Oq.out.below hb)
 replace HB := Lib.hid (HB.out.trans (hb.mono HB.out.size))
 clear hb
 go_wp2_with fail
 refine (Sane3 w18 (HE.out.below HB.out)).mono ?_
 rintro e w19 ⟨rfl, hb⟩
 replace Oa := Lib.hid (Oa.out.below hb)
 replace Obb := Lib.hid (Obb.out.below hb)
 replace Oab := Lib.hid (Oab.out.below hb)
 replace Ox := Lib.hid (Ox.out.below hb)
 replace Oy := Lib.hid (Oy.out.below hb)
 replace Op := Lib.hid (Op.out.below hb)
 replace Oq := Lib.hid (Oq.out.below hb)
 replace HB := Lib.hid (HB.out.trans (hb.mono HB.out.size))
 clear hb
 go_wp2_with fail
 go_ret
 exact ⟨rfl, HB.out⟩
end Go.Proofs.YtajlojhklhlljaaGreatDoor
