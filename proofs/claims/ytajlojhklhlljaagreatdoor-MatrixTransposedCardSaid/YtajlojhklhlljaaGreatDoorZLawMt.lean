import Derived.Test.YtajlojhklhlljaaGreatDoorZMW
set_option maxHeartbeats 16000000
set_option maxRecDepth 100000
set_option linter.unusedVariables false
set_option linter.unusedSimpArgs false
set_option linter.unusedSectionVars false
namespace Go.Proofs.YtajlojhklhlljaaGreatDoor
open Go.RowKit
theorem MatrixTransposed_any (A : Option Addr) (l cp : Nat) (w : World) (h : Ints w A l) (hlc : l ≤ cp) (hl : l ≤ 9223372036854775807) (henv : Env w) :
  Calls Tryz.prog 8 #[.slice A l cp] w fun e w' => e = .returned (.bool true) ∧ Below w.heap.size w w' := by
 have HE := Lib.hid henv
 have HI := Lib.hid h
 clear henv h
 go_enter Tryz.func8, Tryz.ntmps8
 go_wp2_with fail
 refine (New_any A l cp w HI.out hlc hl).mono ?_
 rintro e w0 ⟨rfl, hs, hb⟩
 obtain ⟨b, hbe⟩ : ∃ b, w.heap.size = b := ⟨_, rfl⟩
 have hsz2 : w.heap.size ≤ b := by omega
 have HS : Hid (Src w0 b) := by rw [← hbe]; exact Lib.hid hs
 have HB := Lib.hid hb
 clear hs hb HI
 rw [hbe]
 have HUP := Lib.hid (fun (W W' : World) (hW : Below w.heap.size w W) (hg : W.grownBy W' (some b)) => srcBelow hW hsz2 hg)
 clear hbe hsz2
 go_wp2_with fail
 refine (N_any b 3 w0 HS.out (by decide) (by decide)).mono ?_
 rintro e w1 ⟨n', rfl, hn, hs, hg⟩
 replace HB := Lib.hid (HUP.out _ _ HB.out hg)
 obtain ⟨n, hn2⟩ : ∃ n : Nat, 1 + n' = n := ⟨_, rfl⟩
 have hnl : 1 ≤ n := by omega
 have hnu : n ≤ 3 := by omega
 have hne : (1 : Int) + (n' : Int) = (n : Int) := by omega
 clear hn hn2
 replace HS := Lib.hid hs
 clear hs hg
 go_wp2_with fail
 refine (mxThin b n n w1 HS.out (by omega) (by omega) (Or.inl (by omega))).mono ?_
 rintro e w2 ⟨Aa, ca, a, rfl, hm, hd, hs, hg⟩
 replace HB := Lib.hid (HUP.out _ _ HB.out hg)
 have Oa := Lib.hid hm
 have Ta := Lib.hid hd
 obtain ⟨Ba, hBa⟩ : ∃ B, w1.heap.size = B := ⟨_, rfl⟩
 rw [hBa] at Oa
 have hba : b < Ba := by have := HS.out.lt; omega
 clear hm hd hBa
 have Da := Lib.hid Ta.out.dig
 replace HS := Lib.hid hs
 clear hs hg
 go_wp2_with fail
 refine (mxMat b n n w2 HS.out (by omega) (by omega)).mono ?_
 rintro e w3 ⟨Abb, cbb, bb, rfl, hm, hd, hs, hg⟩
 replace Oa := Lib.hid (Oa.out.grown hg hba)
 replace HB := Lib.hid (HUP.out _ _ HB.out hg)
 have Obb := Lib.hid hm
 have Tbb := Lib.hid hd
 obtain ⟨Bbb, hBbb⟩ : ∃ B, w2.heap.size = B := ⟨_, rfl⟩
 rw [hBbb] at Obb
 have hbbb : b < Bbb := by have := HS.out.lt; omega
 clear hm hd hBbb
 have Dbb := Tbb
 replace HS := Lib.hid hs
 clear hs hg
 replace Oa := Lib.hid Oa.out.mxIn
 replace Obb := Lib.hid Obb.out.mxIn
 clear HS HUP hba hbbb
 have Dat := Lib.hid (show DigM 1 n n (trn a) from fun i k hi hk => Da.out k i hk hi)
 have Tat := Lib.hid Ta.out.trn
 have Dc := Lib.hid (show DigM 3 n n (fun i k => a i k + bb i k) from fun i k hi hk => ((Da.out i k hi hk).add (Dbb.out i k hi hk) rfl rfl).mono (by decide))
 have Dd := Lib.hid (show DigM 3 n n (fun i k => trn a i k + trn bb i k) from fun i k hi hk => Dc.out k i hk hi)
 have Fd := Lib.hid ((det_thin4 (by omega) Ta.out).fits (by decide) (by decide))
 have ET := Lib.hid (det_trn n a)
 go_wp2_with fail
 refine (mxTrn Oa.out (by omega) (by omega) (by omega) (by omega) (HE.out.below HB.out)).mono ?_
 rintro e w4 ⟨Aat, cat, rfl, hm, hb⟩
 replace Oa := Lib.hid (Oa.out.below hb)
 replace Obb := Lib.hid (Obb.out.below hb)
 replace HB := Lib.hid (HB.out.trans (hb.mono HB.out.size))
 clear hb
 have Oat := Lib.hid hm
 clear hm
 go_wp2_with fail
 refine (mxTrn Obb.out (by omega) (by omega) (by omega) (by omega) (HE.out.below HB.out)).mono ?_
 rintro e w5 ⟨Abt, cbt, rfl, hm, hb⟩
 replace Oa := Lib.hid (Oa.out.below hb)
 replace Obb := Lib.hid (Obb.out.below hb)
 replace Oat := Lib.hid (Oat.out.below hb)
 replace HB := Lib.hid (HB.out.trans (hb.mono HB.out.size))
 clear hb
 have Obt := Lib.hid hm
 clear hm
 go_wp2_with fail
 refine (mxTrn Oat.out (by omega) (by omega) (by omega) (by omega) (HE.out.below HB.out)).mono ?_
 rintro e w6 ⟨Aatt, catt, rfl, hm, hb⟩
 replace Oa := Lib.hid (Oa.out.below hb)
 replace Obb := Lib.hid (Obb.out.below hb)
 replace Oat := Lib.hid (Oat.out.below hb)
 replace Obt := Lib.hid (Obt.out.below hb)
 replace HB := Lib.hid (HB.out.trans (hb.mono HB.out.size))
 clear hb
 have Oatt := Lib.hid hm
 clear hm
 go_wp2_with fail
 refine (mxAdd Oa.out Obb.out (by omega) (by omega) (by omega) (by omega) (Dc.out.fits (by decide) (by decide)) (HE.out.below HB.out)).mono ?_
 rintro e w7 ⟨Ac, cc, rfl, hm, hb⟩
 replace Oa := Lib.hid (Oa.out.below hb)
 replace Obb := Lib.hid (Obb.out.below hb)
 replace Oat := Lib.hid (Oat.out.below hb)
 replace Obt := Lib.hid (Obt.out.below hb)
 replace Oatt := Lib.hid (Oatt.out.below hb)
 replace HB := Lib.hid (HB.out.trans (hb.mono HB.out.size))
 clear hb
 have Oc := Lib.hid hm
 clear hm
 go_wp2_with fail
 refine (mxTrn Oc.out (by omega) (by omega) (by omega) (by omega) (HE.out.below HB.out)).mono ?_
 rintro e w8 ⟨Act, cct, rfl, hm, hb⟩
 replace Oa := Lib.hid (Oa.out.below hb)
 replace Obb := Lib.hid (Obb.out.below hb)
 replace Oat := Lib.hid (Oat.out.below hb)
 replace Obt := Lib.hid (Obt.out.below hb)
 replace Oatt := Lib.hid (Oatt.out.below hb)
 replace Oc := Lib.hid (Oc.out.below hb)
 replace HB := Lib.hid (HB.out.trans (hb.mono HB.out.size))
 clear hb
 have Oct := Lib.hid hm
 clear hm
 go_wp2_with fail
 refine (mxAdd Oat.out Obt.out (by omega) (by omega) (by omega) (by omega) (Dd.out.fits (by decide) (by decide)) (HE.out.below HB.out)).mono ?_
 rintro e w9 ⟨Ad, cd, rfl, hm, hb⟩
 replace Oa := Lib.hid (Oa.out.below hb)
 replace Obb := Lib.hid (Obb.out.below hb)
 replace Oat := Lib.hid (Oat.out.below hb)
 replace Obt := Lib.hid (Obt.out.below hb)
 replace Oatt := Lib.hid (Oatt.out.below hb)
 replace Oc := Lib.hid (Oc.out.below hb)
 replace Oct := Lib.hid (Oct.out.below hb)
 replace HB := Lib.hid (HB.out.trans (hb.mono HB.out.size))
 clear hb
 have Od := Lib.hid hm
 clear hm
 clear Obb
 clear Obt
 clear Oc
 go_wp2_with fail
 refine (mxDet Oa.out (by omega) (by omega) (show 1 ≤ 1 by decide) (by decide) Da.out rfl Fd.out (HE.out.below HB.out)).mono ?_
 rintro e w10 ⟨rfl, hb⟩
 replace Oa := Lib.hid (Oa.out.below hb)
 replace Oat := Lib.hid (Oat.out.below hb)
 replace Oatt := Lib.hid (Oatt.out.below hb)
 replace Oct := Lib.hid (Oct.out.below hb)
 replace Od := Lib.hid (Od.out.below hb)
 replace HB := Lib.hid (HB.out.trans (hb.mono HB.out.size))
 clear hb
 go_wp2_with fail
 refine (mxDet Oat.out (by omega) (by omega) (show 1 ≤ 1 by decide) (by decide) Dat.out ET.out Fd.out (HE.out.below HB.out)).mono ?_
 rintro e w11 ⟨rfl, hb⟩
 replace Oa := Lib.hid (Oa.out.below hb)
 replace Oat := Lib.hid (Oat.out.below hb)
 replace Oatt := Lib.hid (Oatt.out.below hb)
 replace Oct := Lib.hid (Oct.out.below hb)
 replace Od := Lib.hid (Od.out.below hb)
 replace HB := Lib.hid (HB.out.trans (hb.mono HB.out.size))
 clear hb
 generalize rstr (det n a) = sd at *
 go_wp2_with fail
 refine (mxSame Oatt.out (Oa.out.congr fun i k _ _ => rfl) (by omega) (by omega) (by omega) (by omega) (HE.out.below HB.out)).mono ?_
 rintro e w12 ⟨rfl, hb⟩
 replace Oa := Lib.hid (Oa.out.below hb)
 replace Oat := Lib.hid (Oat.out.below hb)
 replace Oatt := Lib.hid (Oatt.out.below hb)
 replace Oct := Lib.hid (Oct.out.below hb)
 replace Od := Lib.hid (Od.out.below hb)
 replace HB := Lib.hid (HB.out.trans (hb.mono HB.out.size))
 clear hb
 go_wp2_with fail
 refine (mxSame Oct.out (Od.out.congr fun i k _ _ => rfl) (by omega) (by omega) (by omega) (by omega) (HE.out.below HB.out)).mono ?_
 rintro e w13 ⟨rfl, hb⟩
 replace Oa := Lib.hid (Oa.out.below hb)
 replace Oat := Lib.hid (Oat.out.below hb)
 replace Oatt := Lib.hid (Oatt.out.below hb)
 replace Oct := Lib.hid (Oct.out.below hb)
 replace Od := Lib.hid (Od.out.below hb)
 replace HB := Lib.hid (HB.out.trans (hb.mono HB.out.size))
 clear hb
 clear Oatt
 clear Oct
 clear Od
 go_wp2_with fail
 refine (mxInv Oa.out (by omega) (by omega) Ta.out (HE.out.below HB.out)).mono ?_
 rintro e wi ⟨rk, hrk, hh⟩
 have KR := Lib.hid hrk
 clear hrk
 rcases hh with ⟨hlt, rfl, hb⟩ | ⟨he, X, hX, hdX, Ai, ci, rfl, hm, hb⟩
 ·replace Oat := Lib.hid (Oat.out.below hb)
  replace HB := Lib.hid (HB.out.trans (hb.mono HB.out.size))
  clear hb Oa
  go_wp2_with fail
  refine (mxInv Oat.out (by omega) (by omega) Tat.out (HE.out.below HB.out)).mono ?_
  rintro e wj ⟨rj, hrj, hh⟩
  obtain rfl : rk = rj := KR.out.trn.same hrj
  rcases hh with ⟨-, rfl, hb⟩ | ⟨he, -⟩
  rotate_left
  ·exact absurd he (by omega)
  replace HB := Lib.hid (HB.out.trans (hb.mono HB.out.size))
  clear hrj hb Oat
  go_wp2_with fail
  refine (mxTrnNil 0 (HE.out.below HB.out)).mono ?_
  rintro e wt ⟨At, ct, rfl, hb⟩
  replace HB := Lib.hid (HB.out.trans (hb.mono HB.out.size))
  clear hb
  go_wp2_with fail
  refine (Sane3 _ (HE.out.below HB.out)).mono ?_
  rintro e wz ⟨rfl, hb⟩
  have HBZ := Lib.hid (HB.out.trans (hb.mono HB.out.size))
  clear hb
  go_wp2_with fail
  go_ret
  exact ⟨rfl, HBZ.out⟩
 ·have he' := he.symm
  subst he'
  have IX := Lib.hid hX
  have DX := Lib.hid hdX
  have Op := Lib.hid hm
  replace Oat := Lib.hid (Oat.out.below hb)
  replace HB := Lib.hid (HB.out.trans (hb.mono HB.out.size))
  clear hb Oa hX hdX hm
  go_wp2_with fail
  refine (mxInv Oat.out (by omega) (by omega) Tat.out (HE.out.below HB.out)).mono ?_
  rintro e wj ⟨rj, hrj, hh⟩
  obtain rfl : n = rj := KR.out.trn.same hrj
  rcases hh with ⟨he2, -⟩ | ⟨-, Y, hY, -, Aj, cj, rfl, hm, hb⟩
  ·exact absurd he2 (by omega)
  have EY := Lib.hid (trn_inv IX.out hY)
  have Oq := Lib.hid hm
  replace Op := Lib.hid (Op.out.below hb)
  replace HB := Lib.hid (HB.out.trans (hb.mono HB.out.size))
  clear hrj hb hm hY Oat
  go_wp2_with fail
  refine (mxTrn Op.out (by omega) (by omega) (by omega) (by omega) (HE.out.below HB.out)).mono ?_
  rintro e w21 ⟨Apt, cpt, rfl, hm, hb⟩
  replace Op := Lib.hid (Op.out.below hb)
  replace Oq := Lib.hid (Oq.out.below hb)
  replace HB := Lib.hid (HB.out.trans (hb.mono HB.out.size))
  clear hb
  have Opt := Lib.hid hm
  clear hm
  go_wp2_with fail
  refine (mxSame Opt.out (Oq.out.congr fun i k hi hk => (EY.out i k hi hk).symm) (by omega) (by omega) (by omega) (by omega) (HE.out.below HB.out)).mono ?_
  rintro e w22 ⟨rfl, hb⟩
  replace Op := Lib.hid (Op.out.below hb)
  replace Oq := Lib.hid (Oq.out.below hb)
  replace Opt := Lib.hid (Opt.out.below hb)
  replace HB := Lib.hid (HB.out.trans (hb.mono HB.out.size))
  clear hb
  go_wp2_with fail
  refine (Sane3 w22 (HE.out.below HB.out)).mono ?_
  rintro e w23 ⟨rfl, hb⟩
  replace Op := Lib.hid (Op.out.below hb)
  replace Oq := Lib.hid (Oq.out.below hb)
  replace Opt := Lib.hid (Opt.out.below hb)
  replace HB := Lib.hid (HB.out.trans (hb.mono HB.out.size))
  clear hb
  go_wp2_with fail
  go_ret
  exact ⟨rfl, HB.out⟩
end Go.Proofs.YtajlojhklhlljaaGreatDoor
