/-
  The walk of MatrixDeterminant.
-/
import Derived.Test.YtajlojhklhlljaaGreatDoorZMK
import Derived.Test.YtajlojhklhlljaaGreatDoorZM
set_option linter.unusedVariables false
set_option linter.unusedSimpArgs false
set_option linter.unusedSectionVars false
namespace Go.Proofs.YtajlojhklhlljaaGreatDoor
open Go.RowKit

theorem upBelow {w W W' : World} {b : Nat} (h : Below w.heap.size w W) (hb : w.heap.size ≤ b) (g : W.grownBy W' (some b)) : Below w.heap.size w W' :=
  h.trans { os := g.os, tape := g.tape, output := g.output, size := g.size, block := fun i hi => g.block i (Nat.lt_of_lt_of_le hi h.size) (fun e => by have := Option.some.inj e; omega) }
set_option maxRecDepth 100000 in
set_option maxHeartbeats 16000000 in
theorem MatrixDeterminant_any (A : Option Addr) (l cp : Nat) (a k : Int) (w : World) (h : Ints w A l) (hlc : l ≤ cp) (hl : l ≤ 9223372036854775807) (ha0 : 0 ≤ a) (ha1 : a ≤ 255) (hk0 : 0 ≤ k) (hk1 : k ≤ 255) (henv : Env w) :
    Calls Tryz.prog 3 #[.slice A l cp, .int .u8 a, .int .u8 k] w fun e w' => e = .returned (.bool true) ∧ Below w.heap.size w w' := by
  obtain ⟨i0, hi, hy0, hy1, hy2⟩ := info_parts Tryz.infoRat
  obtain ⟨r0, hr, hx0, hx1, hx2⟩ := info_parts Tryz.infoRats
  obtain ⟨a, rfl⟩ : ∃ a' : Nat, a = a' := ⟨a.toNat, by omega⟩
  obtain ⟨k, rfl⟩ : ∃ k' : Nat, k = k' := ⟨k.toNat, by omega⟩
  have HE := Lib.hid henv
  have HI := Lib.hid h
  clear henv h
  go_enter Tryz.func3, Tryz.ntmps3
  go_wp2_with fail
  refine (New_any A l cp w HI.out hlc hl).mono ?_
  rintro e w3 ⟨rfl, hs, hb⟩
  obtain ⟨b, hbe⟩ : ∃ b, w.heap.size = b := ⟨_, rfl⟩
  have hsz2 : w.heap.size ≤ b := by omega
  have HS : Hid (Src w3 b) := by rw [← hbe]; exact Lib.hid hs
  have HB := Lib.hid hb
  have HUP := Lib.hid (fun (W W' : World) (hW : Below w.heap.size w W) (hg : W.grownBy W' (some b)) => upBelow hW hsz2 hg)
  clear hs hb HI
  rw [hbe]
  go_wp2_with fail
  refine (N_any b 3 w3 HS.out (by decide) (by decide)).mono ?_
  rintro e w4 ⟨n', rfl, hn, hs, hg⟩
  replace HS := Lib.hid hs
  replace HB := Lib.hid (HUP.out _ _ HB.out hg)
  obtain ⟨n, hn2⟩ : ∃ n : Nat, 2 + n' = n := ⟨_, rfl⟩
  have hnl : 2 ≤ n := by omega
  have hnu : n ≤ 4 := by omega
  have hne : (2 : Int) + (n' : Int) = (n : Int) := by omega
  clear hs hg
  go_wp2_with fail
  refine (MMatrix_any b n n w4 HS.out (by omega) (by omega)).mono ?_
  rintro e w5 ⟨v5, qss, rs, rfl, hqm, hqs, hmap, hmo, hs, hg⟩
  obtain ⟨B0, hB0⟩ : ∃ B0, w4.heap.size = B0 := ⟨_, rfl⟩
  rw [hB0] at hmo
  have hbB : b < B0 := by have := HS.out.lt; omega
  have hwB : w.heap.size ≤ B0 := by have := HB.out.size; omega
  have hB5 : B0 ≤ w5.heap.size := by have := hg.size; omega
  replace HS := Lib.hid hs
  replace HB := Lib.hid (HUP.out _ _ HB.out hg)
  have HF := Lib.hid (matF_of hqm (fun l hl => ⟨(hqs l hl).1, fun q hq => ((hqs l hl).2 q hq).fits⟩) hmap)
  have HD := Lib.hid (celQ_all hqm (p := DigR 1) (fun l hl => ⟨(hqs l hl).1, fun q hq => ((hqs l hl).2 q hq).dig⟩))
  generalize celQ qss = M at *
  obtain ⟨A5, c5, rfl, -⟩ := ownForm hmo.o
  have HT := Lib.hid hmo.topM
  have hrl := HF.out.len
  rw [hrl]
  clear hqm hqs hmap hmo hs hg hB0 hn hn2 hne
  obtain ⟨i, hie⟩ : ∃ i, a % n = i := ⟨_, rfl⟩
  obtain ⟨j, hje⟩ : ∃ j, k % n = j := ⟨_, rfl⟩
  have hin : i < n := by rw [← hie]; exact Nat.mod_lt _ (by omega)
  have hjn : j < n := by rw [← hje]; exact Nat.mod_lt _ (by omega)
  have ei : Int.tmod (a : Int) (n : Int) = (i : Int) := by rw [tmod_nat, hie]
  have ej : Int.tmod (k : Int) (n : Int) = (j : Int) := by rw [tmod_nat, hje]
  have hn0 : ¬ (n : Int) = 0 := by omega
  have hn0' : ((n : Int) == 0) = false := by simp; omega
  clear hie hje
  obtain ⟨D, hDD⟩ : ∃ D, det n M = D := ⟨_, rfl⟩
  have HFD := Lib.hid (show FitsR D by rw [← hDD]; exact det_fits hnu HD.out)
  have HDM := Lib.hid hDD
  clear hDD
  go_wp2_with fail
  go_quiet (fail)
  go_wp2_with fail
  have hdr : Below w5.heap.size w5 (w5.drewN nq) := below_drewN (Below.refl _ _) _
  have HS6 := Lib.hid (HS.out.below hdr)
  have HT6 := Lib.hid (HT.out.below hdr)
  have HB6 := Lib.hid (HB.out.trans (hdr.mono HB.out.size))
  have hz6 := hdr.size
  clear HS HB HT hdr ei ej hn0 hn0'
  generalize w5.drewN nq = w6 at *
  refine (Det_top HT6.out HF.out (by omega) hnu (Nat.le_refl 1) (by decide) HD.out HDM.out HFD.out (HE.out.below HB6.out)).mono ?_
  rintro e w7 ⟨rfl, hb⟩
  have HS7 := Lib.hid (HS6.out.below hb)
  have HT7 := Lib.hid (HT6.out.below hb)
  have HB7 := Lib.hid (HB6.out.trans (hb.mono HB6.out.size))
  have hz7 := hb.size
  obtain ⟨gm, rfl⟩ := ownAddr HT7.out.o (by omega)
  clear HS6 HT6 HB6 hb
  have HLR := Lib.hid (show (rowt rs).length = n * 1 by rw [rowt_length]; omega)
  go_upto_if 59 with (fail)
  go_cut [] (fun wc => TopM B0 wc (.slice (some ⟨gm, 0, none⟩) rs.length c5) rs ∧ Below w.heap.size w wc ∧ B0 ≤ wc.heap.size)
  case first =>
    by_cases hij : i = j
    · have hx : ((i : Int) != (j : Int)) = false := by simp; omega
      go_wp2_with fail
      go_meet
      exact ⟨HT7.out, HB7.out, by omega⟩
    · have hx : ((i : Int) != (j : Int)) = true := by simp; omega
      have NEWS := Lib.hid HT7.out.news
      go_wp2_with (at_builtin; refine wpList_append_own _ rfl _ _ 27 rfl w7.heap.size 33 r0 (.slice none 0 0) 1 24 Tryz.underlying27 hr hx0 hx1 hx2 rfl (by decide) _ _ _ rfl (World.ownsRow_nil _ _ _ _) ⟨gm, 0, none⟩ n c5 (rowt rs) rfl HLR.out NEWS.out rowt_one (by unfold maxLen; omega) (by omega) (Nat.le_refl _) ?_)
      intro v8 w8 hown hgrow _
      have hb8 : Below w7.heap.size w7 w8 := below_none hgrow
      obtain ⟨A8, c8, rfl, -⟩ := ownForm hown
      obtain ⟨gx, rfl⟩ := ownAddr hown (by omega)
      have hgx := hown.lt gx rfl
      have HX8 := Lib.hid (show TopM B0 w8 (.slice (some ⟨gx, 0, none⟩) rs.length c8) rs from TopM.copy (B := B0) (B' := w7.heap.size) (g := 0) (c := 0) (e := 0) HT7.out.i (by omega) (by rw [hrl]; exact hown) hb8)
      have HT8 := Lib.hid (HT7.out.below hb8)
      have HS8 := Lib.hid (HS7.out.below hb8)
      have HB8 := Lib.hid (HB7.out.trans (hb8.mono HB7.out.size))
      have hz8 := hb8.size
      clear hown hgrow NEWS
      go_upto_region 10 with (fail)
      go_cut [] (fun wc => TopM B0 wc (.slice (some ⟨gx, 0, none⟩) rs.length c8) ((rs.set i (rs[j]'(by omega))).set j (rs[i]'(by omega))) ∧ TopM B0 wc (.slice (some ⟨gm, 0, none⟩) rs.length c5) rs ∧ Src wc b ∧ Below w.heap.size w wc ∧ w7.heap.size ≤ wc.heap.size ∧ gx < wc.heap.size)
      case first =>
        have hi' : i < rs.length := by omega
        have hj' : j < rs.length := by omega
        have hij' : ¬ j = i := fun e => hij e.symm
        obtain ⟨ci, fi⟩ := HX8.out.top hi'
        obtain ⟨cj, fj⟩ := HX8.out.top hj'
        have HSW := Lib.hid (HX8.out.swap hi' hj')
        have hbs : Below w7.heap.size w8 ((w8.setCell ⟨gx, i, none⟩ (.slice rs[j].ad rs[j].ss.length rs[j].cp)).setCell ⟨gx, j, none⟩ (.slice rs[i].ad rs[i].ss.length rs[i].cp)) := ((Below.refl _ _).setCell (p := ⟨gx, i, none⟩) hgx.1 _).setCell (p := ⟨gx, j, none⟩) hgx.1 _
        have HTW := Lib.hid ((HT7.out.below hb8).other (gy := gx) (by have := HT7.out.o.lt gm rfl; omega) ci (fun s e => by cases e) (.slice rs[j].ad rs[j].ss.length rs[j].cp))
        have HTW2 := Lib.hid (HTW.out.other (gy := gx) (i := j) (u := .slice rs[j].ad rs[j].ss.length rs[j].cp) (by have := HT7.out.o.lt gm rfl; omega) (by rw [World.cell?_setCell_other _ _ _ _ (by simp)]; exact cj) (fun s e => by cases e) (.slice rs[i].ad rs[i].ss.length rs[i].cp))
        have HSS := Lib.hid (HS7.out.below (hb8.trans (hbs.mono (Nat.le_refl _))))
        have HBB := Lib.hid (HB7.out.trans ((hb8.trans hbs).mono HB7.out.size))
        have hzz := (hb8.trans hbs).size
        have hgz : gx < ((w8.setCell ⟨gx, i, none⟩ (.slice rs[j].ad rs[j].ss.length rs[j].cp)).setCell ⟨gx, j, none⟩ (.slice rs[i].ad rs[i].ss.length rs[i].cp)).heap.size := by have := hbs.size; omega
        rw [hrl] at HSW
        have i1 : (0 : Int) ≤ (i : Int) := by omega
        have i2 : (i : Int) < (n : Int) := by omega
        have i3 : (0 : Int) ≤ (j : Int) := by omega
        have i4 : (j : Int) < (n : Int) := by omega
        generalize rs[i] = ri at *
        generalize rs[j] = rj at *
        clear hbs
        go_region
        all_goals
          go_wp2_with fail
          go_meet
          first | exact ⟨by rw [hrl]; exact HSW.out, HTW2.out, HSS.out, HBB.out, hzz, hgz⟩ | exact ⟨by rw [hrl]; exact HSW.out.drew, HTW2.out.drew, HSS.out.below (Below.refl _ _).drew, HBB.out.drew, hzz, hgz⟩
      case rest =>
        obtain ⟨hX, hT, hS, hB, hzc, hgc⟩ := hcut
        have HFX := Lib.hid (HF.out.swap (i := i) (k := j) (by omega) (by omega) hij)
        have HXC := Lib.hid hX
        have HTC := Lib.hid hT
        have HSC := Lib.hid hS
        have HBC := Lib.hid hB
        obtain ⟨xs, hxs⟩ : ∃ xs, (rs.set i (rs[j]'(by omega))).set j (rs[i]'(by omega)) = xs := ⟨_, rfl⟩
        rw [hxs] at HXC HFX
        have hxl : xs.length = n := HFX.out.len
        have hgm := (hT.o.lt gm rfl).2
        obtain ⟨wd, rfl⟩ : ∃ wd : World, wd = wc := ⟨_, rfl⟩
        clear hX hT hS hB hxs HX8 HT8 HS8 HB8 HT7 HS7 HB7 hgx hb8
        have NEWS := Lib.hid HTC.out.news
        go_wp2_with (at_builtin; refine wpList_append_own _ rfl _ _ 27 rfl wd.heap.size 33 r0 (.slice none 0 0) 1 24 Tryz.underlying27 hr hx0 hx1 hx2 rfl (by decide) _ _ _ rfl (World.ownsRow_nil _ _ _ _) ⟨gm, 0, none⟩ n c5 (rowt rs) rfl HLR.out NEWS.out rowt_one (by unfold maxLen; omega) (by omega) (Nat.le_refl _) ?_)
        intro v9 w9 hown hgrow _
        have hb9 : Below wd.heap.size wd w9 := below_none hgrow
        obtain ⟨A9, c9, rfl, -⟩ := ownForm hown
        obtain ⟨gy, rfl⟩ := ownAddr hown (by omega)
        have hgy := hown.lt gy rfl
        have HY9 := Lib.hid (show TopM B0 w9 (.slice (some ⟨gy, 0, none⟩) rs.length c9) rs from TopM.copy (B := B0) (B' := wd.heap.size) (g := 0) (c := 0) (e := 0) HTC.out.i (by omega) (by rw [hrl]; exact hown) hb9)
        have HT9 := Lib.hid (HTC.out.below hb9)
        have HX9 := Lib.hid (HXC.out.below hb9)
        have HS9 := Lib.hid (HSC.out.below hb9)
        have HB9 := Lib.hid (HBC.out.trans (hb9.mono HBC.out.size))
        have hz9 := hb9.size
        clear hown hgrow NEWS hb9 HTC HXC HSC HBC
        go_wp2_with fail
        refine (MRat_any b w9 HS9.out).mono ?_
        rintro e wA ⟨f, rfl, hsf, -, hg⟩
        have HYA := Lib.hid (HY9.out.grown hg hbB)
        have HTA := Lib.hid (HT9.out.grown hg hbB)
        have HXA := Lib.hid (HX9.out.grown hg hbB)
        have HBA := Lib.hid (HUP.out _ _ HB9.out hg)
        have hzA := hg.size
        have HFf := Lib.hid hsf.dig
        clear hg HY9 HT9 HX9 HB9 HS9 HUP hsf
        have hi' : i < rs.length := by omega
        have hj' : j < rs.length := by omega
        have i1 : (0 : Int) ≤ (i : Int) := by omega
        have i2 : (i : Int) < (n : Int) := by omega
        have i3 : (0 : Int) ≤ (j : Int) := by omega
        have i4 : (j : Int) < (n : Int) := by omega
        obtain ⟨ci, -⟩ := HYA.out.top hi'
        have hli := HF.out.rowAt hi'
        rw [hli] at ci
        obtain ⟨b1, o1, e1, hb1, -⟩ := (HYA.out.i _ (List.getElem_mem hi')).s (by intro e; rw [e] at hli; simp at hli; omega)
        have HSI := Lib.hid (strs_news (by rw [← e1]; exact (HYA.out.i _ (List.getElem_mem hi')).s))
        have HTXI := Lib.hid (fun d (hd : d < rs[i].ss.length) => HF.out.cel i d hi' hd)
        have hlsi : (sv rs[i].ss).length = n * 1 := by rw [sv_length]; omega
        have HLS := Lib.hid hlsi
        have hLI := Lib.hid hli
        rw [e1] at ci
        clear hlsi hb1 hli e1
        generalize rs[i].cp = cpi at *
        generalize rs[i].ss = ssi at *
        go_wp2_with (at_builtin; refine wpList_append_own _ rfl _ _ 33 rfl wA.heap.size 29 i0 (.string ⟨#[]⟩) 1 16 Tryz.underlying33 hi hy0 hy1 hy2 rfl (by decide) _ _ _ rfl (World.ownsRow_nil _ _ _ _) ⟨b1, o1, none⟩ n cpi (sv ssi) rfl HLS.out HSI.out sv_one (by unfold maxLen; omega) (by omega) (Nat.le_refl _) ?_)
        intro vR wR hown hgrow _
        have hbR : Below wA.heap.size wA wR := below_none hgrow
        obtain ⟨AR, cR, rfl, -⟩ := ownForm hown
        obtain ⟨g, rfl⟩ := ownAddr hown (by omega)
        have HOW := Lib.hid hown
        have HBR := Lib.hid hbR
        clear hown hgrow hbR ci
        go_wp2_with fail
        go_loopw [87] (fun iv wr => ∃ (c : Nat) (ts : List ByteArray), iv = .int .i64 (c : Int) ∧ c ≤ n ∧ ts.length = n ∧ wr.ownsRow wA.heap.size 29 1 (.slice (some ⟨g, 0, none⟩) n cR) n (sv ts) ∧ (∀ d, (hd : d < ts.length) → ts[d] = rstr (if d < c then M i d + f * M j d else M i d)) ∧ Below wA.heap.size wA wr) (fun iv _ => n - (intOf iv).toNat)
        case atStart => exact ⟨0, ssi, rfl, Nat.zero_le _, hLI.out, HOW.out, fun d hd => by rw [if_neg (by omega)]; exact HTXI.out d hd, HBR.out⟩
        case round =>
          obtain ⟨c, ts, rfl, hc, htl, hown, hts, hbw⟩ := hrel
          obtain ⟨wk, rfl⟩ : ∃ wk : World, wk = wr := ⟨_, rfl⟩
          have HTL := Lib.hid htl
          have HTS := Lib.hid hts
          have HOK := Lib.hid hown
          have HBK := Lib.hid hbw
          by_cases hlt : c < n
          · have hYk := HYA.out.below hbw
            obtain ⟨cj, -⟩ := hYk.top hj'
            have hlj := HF.out.rowAt hj'
            obtain ⟨b2, o2, e2, hb2, hc2⟩ := (hYk.i _ (List.getElem_mem hj')).s (by intro e; rw [e] at hlj; simp at hlj; omega)
            have cc := hc2 c (by omega)
            rw [HF.out.cel j c hj' (by omega)] at cc
            rw [hlj, e2] at cj
            generalize rs[j].cp = cpj at *
            have ct : wk.cell? ⟨g, c, none⟩ = some (.string ts[c]) := (hown.cellAt c (by omega)).trans (sv_get (by omega))
            have ft := hown.frozenAt c
            have htc := hts c (by omega)
            rw [if_neg (by omega)] at htc
            rw [htc] at ct
            have d1 := HD.out i c hin hlt
            have d2 := HD.out j c hjn hlt
            have d3 := HFf.out.mul d2 rfl rfl
            have d4 := d1.add d3 rfl rfl
            have CM := Lib.hid (mul_fit_call f (M j c) wk (HFf.out.fits (by decide) (by decide)) (d2.fits (by decide) (by decide)) (d3.fits (by decide) (by decide)))
            have CA := Lib.hid (fun W => add_fit_call (M i c) (f * M j c) W (d1.fits (by decide) (by decide)) (d3.fits (by decide) (by decide)) (d4.fits (by decide) (by decide)))
            have HTN := Lib.hid (fun d (hd : d < (ts.set c (rstr (M i c + f * M j c))).length) => (show (ts.set c (rstr (M i c + f * M j c)))[d] = rstr (if d < c + 1 then M i d + f * M j d else M i d) by
              by_cases e : d = c
              · subst e
                rw [List.getElem_set_self, if_pos (by omega)]
              · rw [List.getElem_set_ne (Ne.symm e), HTS.out d (by simpa using hd)]
                by_cases e3 : d < c
                · rw [if_pos e3, if_pos (by omega)]
                · rw [if_neg e3, if_neg (by omega)]))
            generalize rstr (M i c + f * M j c) = tn at *
            generalize rstr (M i c) = ti at *
            generalize rstr (M j c) = tj at *
            generalize rstr (f * M j c) = tf at *
            generalize rstr f = tff at *
            have k1 : (0 : Int) ≤ (c : Int) := by omega
            have k2 : (c : Int) < (n : Int) := by omega
            clear hYk hc2 htc hts hown hbw d1 d2 d3 d4 hlj e2 htl
            go_wp2_with fail
            refine CM.out.mono ?_
            rintro e wl ⟨rfl, hbl⟩
            have HOL := Lib.hid (own_belowF HOK.out hbl)
            have HBL := Lib.hid (HBK.out.trans (hbl.mono HBK.out.size))
            have ctl := (hbl.cell (World.block_lt_of_cell? _ _ ct)).trans ct
            clear hbl ct ft cj cc
            go_wp2_with fail
            refine (CA.out wl).mono ?_
            rintro e wm ⟨rfl, hbm⟩
            have HOM := Lib.hid (own_belowF HOL.out hbm)
            have HBM := Lib.hid (HBL.out.trans (hbm.mono HBL.out.size))
            have ctm := (hbm.cell (World.block_lt_of_cell? _ _ ctl)).trans ctl
            have ftm := HOM.out.frozenAt c
            clear hbm ctl
            go_wp2_with fail
            go_roundw
            case rel => exact ⟨c + 1, ts.set c tn, by go_num, by omega, by rw [List.length_set]; exact HTL.out, by rw [sv_set]; exact (HOM.out.stored c _).1, HTN.out, HBM.out.setCell (p := ⟨g, c, none⟩) (HOM.out.lt g rfl).1 _⟩
            case measure => simp [intOf]; omega
          · have hcn : n = c := by omega
            subst hcn
            have HTF := Lib.hid (fun d (hd : d < ts.length) => (show ts[d] = rstr (M i d + f * M j d) by rw [HTS.out d hd, if_pos (by have := HTL.out; omega)]))
            have hYk := HYA.out.below hbw
            obtain ⟨ci, fi⟩ := TopM.topN rfl hYk HF.out hi'
            have hri := (RowI.of_own (A := some ⟨g, 0, none⟩) (ss := ts) (c := cR) (by rw [HTL.out]; exact HOK.out)).mono (B' := B0) (by omega)
            have hYs := TopM.setN (N := n) hrl (by rw [← hrl]; exact hYk) hin (r := ⟨some ⟨g, 0, none⟩, cR, ts⟩) HTL.out hri
            have hXs := (HXA.out.below hbw).other (gy := gy) (by omega) ci (fun s e => by cases e) (.slice (some ⟨g, 0, none⟩) n cR)
            have hTs := (HTA.out.below hbw).other (gy := gy) (by omega) ci (fun s e => by cases e) (.slice (some ⟨g, 0, none⟩) n cR)
            have hbs : Below w.heap.size w (wk.setCell ⟨gy, i, none⟩ (.slice (some ⟨g, 0, none⟩) n cR)) := (HBA.out.trans (hbw.mono HBA.out.size)).setCell (p := ⟨gy, i, none⟩) (show w.heap.size ≤ gy by omega) _
            have hszs : wA.heap.size ≤ (wk.setCell ⟨gy, i, none⟩ (.slice (some ⟨g, 0, none⟩) n cR)).heap.size := by have := hbw.size; simpa using this
            have HFY := Lib.hid (show MatF (rs.set i ⟨some ⟨g, 0, none⟩, cR, ts⟩) n n (plusM M i j f) from HF.out.setRow hin (r := ⟨some ⟨g, 0, none⟩, cR, ts⟩) (f := fun d => M i d + f * M j d) HTL.out (fun d hd => HTF.out d hd) (fun d hd => (((HD.out i d hin hd).add (HFf.out.mul (HD.out j d hjn hd) rfl rfl) rfl rfl).fits (by decide) (by decide))))
            have HDY := Lib.hid (plus_dig hin hjn HFf.out HD.out)
            have HDX := Lib.hid (swp_dig hin hjn HD.out)
            have hyl : (rs.set i (RowT.mk (some ⟨g, 0, none⟩) cR ts)).length = n := by rw [List.length_set]; exact hrl
            have HYS := Lib.hid hYs
            have HXS := Lib.hid hXs
            have HTS2 := Lib.hid hTs
            have HBS := Lib.hid hbs
            have HDDY := Lib.hid (show det n (plusM M i j f) = D by rw [plus_det hin hjn hij]; exact HDM.out)
            have HDDX := Lib.hid (show det n (swp M i j) = -D by rw [swp_det hin hjn hij, HDM.out])
            clear hYk hri hYs hXs hTs hbs hown hts hbw htl
            clear HTF HOW HBR HTL HTS HOK HBK HYA HTA HXA HBA
            go_wp2_with fail
            clear ci fi
            generalize wk.setCell ⟨gy, i, none⟩ (.slice (some ⟨g, 0, none⟩) n cR) = ws at *
            refine (Det_top (c := c8) (B := B0) (by rw [hxl, ← hrl]; exact HXS.out) HFX.out (by omega) hnu (Nat.le_refl 1) (by decide) HDX.out HDDX.out (neg_fits HFD.out) (HE.out.below HBS.out)).mono ?_
            rintro e wt ⟨rfl, hbt⟩
            have HYT := Lib.hid (HYS.out.below hbt)
            have HTT := Lib.hid (HTS2.out.below hbt)
            have HBT := Lib.hid (HBS.out.trans (hbt.mono HBS.out.size))
            have hzt := hbt.size
            clear hbt HXS HYS HTS2 HBS
            go_wp2_with fail
            refine (Det_top (c := c9) (B := B0) (by rw [HFY.out.len]; exact HYT.out) HFY.out (by omega) hnu (by decide) (by decide) HDY.out HDDY.out HFD.out (HE.out.below HBT.out)).mono ?_
            rintro e wu ⟨rfl, hbu⟩
            have HTU := Lib.hid (HTT.out.below hbu)
            have HBU := Lib.hid (HBT.out.trans (hbu.mono HBT.out.size))
            have hzu := hbu.size
            clear hbu HYT HTT HBT
            go_wp2_with fail
            refine (sub_zero_call D wu HFD.out).mono ?_
            rintro e wv ⟨rfl, hbv⟩
            have HTV := Lib.hid (HTU.out.below hbv)
            have HBV := Lib.hid (HBU.out.trans (hbv.mono HBU.out.size))
            have hzv := hbv.size
            clear hbv HTU HBU
            have hBv : B0 ≤ wv.heap.size := by omega
            clear HDDX HDDY HFX HFY HDX HDY HDM HFD
            generalize rstr D = sD at *
            generalize rstr (-D) = sN at *
            go_wp2_with fail
            go_meet
            exact ⟨HTV.out, HBV.out, hBv⟩
  case rest =>
    obtain ⟨hT, hB, hzc⟩ := hcut
    obtain ⟨wd, rfl⟩ : ∃ wd : World, wd = wc := ⟨_, rfl⟩
    have HTC := Lib.hid hT
    have HBC := Lib.hid hB
    have NEWS := Lib.hid hT.news
    clear hT hB HT7 HS7 HB7 HDM HFD
    go_wp2_with (at_builtin; refine wpList_append_own _ rfl _ _ 27 rfl wd.heap.size 33 r0 (.slice none 0 0) 1 24 Tryz.underlying27 hr hx0 hx1 hx2 rfl (by decide) _ _ _ rfl (World.ownsRow_nil _ _ _ _) ⟨gm, 0, none⟩ n c5 (rowt rs) rfl HLR.out NEWS.out rowt_one (by unfold maxLen; omega) (by omega) (Nat.le_refl _) ?_)
    intro v9 w9 hown hgrow _
    have hb9 : Below wd.heap.size wd w9 := below_none hgrow
    obtain ⟨A9, c9, rfl, -⟩ := ownForm hown
    obtain ⟨gu, rfl⟩ := ownAddr hown (by omega)
    have HU9 := Lib.hid (show TopM B0 w9 (.slice (some ⟨gu, 0, none⟩) n c9) rs from TopM.copy (B := B0) (B' := wd.heap.size) (g := 0) (c := 0) (e := 0) HTC.out.i (by omega) (by rw [hrl]; exact hown) hb9)
    have HB9 := Lib.hid (HBC.out.trans (hb9.mono HBC.out.size))
    have hz9 : B0 ≤ w9.heap.size := by have := hb9.size; omega
    have HLZ := Lib.hid (lowZ_zero M)
    have HP1 := Lib.hid (show (⟨#[49]⟩ : ByteArray) = rstr (prodR 0 (fun i => M i i)) from (t_d (n := 1) (by decide)).symm)
    clear hown hgrow NEWS hb9 HTC HBC
    go_wp2_with fail
    go_loopw [28, 154] (fun pv iv wr => ∃ (r : Nat) (ru : List RowT), iv = .int .i64 (r : Int) ∧ r ≤ n ∧ pv = .string (rstr (prodR r (fun i => M i i))) ∧ TopM B0 wr (.slice (some ⟨gu, 0, none⟩) n c9) ru ∧ MatF ru n n (lowZ M r) ∧ Below B0 w9 wr) (fun _ iv _ => n - (intOf iv).toNat)
    case atStart => exact ⟨0, rs, rfl, Nat.zero_le _, by rw [← HP1.out], HU9.out, by rw [HLZ.out]; exact HF.out, Below.refl _ _⟩
    case round =>
      obtain ⟨r, ru, rfl, hr2, rfl, htop, hmf, hbw⟩ := hrel
      obtain ⟨wk, rfl⟩ : ∃ wk : World, wk = wr := ⟨_, rfl⟩
      have HTK := Lib.hid htop
      have HMK := Lib.hid hmf
      have HBK := Lib.hid hbw
      have hul := hmf.len
      have hzk : B0 ≤ wk.heap.size := Nat.le_trans hz9 hbw.size
      by_cases hlt : r < n
      · have hr' : r < ru.length := by omega
        have i1 : (0 : Int) ≤ (r : Int) := by omega
        have i2 : (r : Int) < (n : Int) := by omega
        obtain ⟨cr0, fr0⟩ := TopM.topN (N := n) hul htop hmf hr'
        have hlr := hmf.rowAt hr'
        obtain ⟨b1, o1, e1, -, -⟩ := (htop.i _ (List.getElem_mem hr')).s (by intro e; rw [e] at hlr; simp at hlr; omega)
        have HSI := Lib.hid (strs_news (by rw [← e1]; exact (htop.i _ (List.getElem_mem hr')).s))
        have HTXI := Lib.hid (fun d (hd : d < ru[r].ss.length) => (hmf.cel r d hr' hd).trans (by rw [lowZ_at]))
        have HLS := Lib.hid (show (sv ru[r].ss).length = n * 1 by rw [sv_length]; omega)
        have HLI := Lib.hid hlr
        rw [e1] at cr0
        have HZM := Lib.hid (fun (ts : List ByteArray) (g cR : Nat) (htl : ts.length = n) (h : ∀ d, (hd : d < ts.length) → ts[d] = rstr (if d < r then 0 else M r d)) => (show MatF (ru.set r ⟨some ⟨g, 0, none⟩, cR, ts⟩) n n (lowZ M (r + 1)) by
          rw [lowZ_succ]
          exact HMK.out.setRow hlt (r := ⟨some ⟨g, 0, none⟩, cR, ts⟩) (f := fun c => if c < r then 0 else M r c) htl h (fun c hc => by
            by_cases e : c < r
            · rw [if_pos e]; exact fits0
            · rw [if_neg e]; exact (HD.out r c hlt hc).fits (by decide) (by decide))))
        have HTU := Lib.hid (show TopM B0 wk (.slice (some ⟨gu, 0, none⟩) ru.length c9) ru by rw [hul]; exact htop)
        have hP1 := diag_fits hnu HD.out (r := r) hr2
        have hP2 := diag_fits hnu HD.out (r := r + 1) (by omega)
        have HCM := Lib.hid (fun W => mul_fit_call (prodR r (fun i => M i i)) (M r r) W hP1 ((HD.out r r hlt hlt).fits (by decide) (by decide)) hP2)
        have HPN := Lib.hid (show rstr (prodR r (fun i => M i i) * M r r) = rstr (prodR (r + 1) (fun i => M i i)) from rfl)
        generalize rstr (prodR r (fun i => M i i) * M r r) = sP2 at *
        generalize rstr (prodR r (fun i => M i i)) = sP1 at *
        clear hP1 hP2 hlr e1 htop hmf hbw
        generalize ru[r].cp = cpi at *
        generalize ru[r].ss = ssi at *
        go_wp2_with (at_builtin; refine wpList_append_own _ rfl _ _ 33 rfl wk.heap.size 29 i0 (.string ⟨#[]⟩) 1 16 Tryz.underlying33 hi hy0 hy1 hy2 rfl (by decide) _ _ _ rfl (World.ownsRow_nil _ _ _ _) ⟨b1, o1, none⟩ n cpi (sv ssi) rfl HLS.out HSI.out sv_one (by unfold maxLen; omega) (by omega) (Nat.le_refl _) ?_)
        intro vR wR hown hgrow _
        have hbR : Below wk.heap.size wk wR := below_none hgrow
        obtain ⟨AR, cR, rfl, -⟩ := ownForm hown
        obtain ⟨g, rfl⟩ := ownAddr hown (by omega)
        have hus := UpS.start (r := r) HTU.out hr' (ts := ssi) (g := g) (cp := cR) (c := c9) (by rw [HLI.out]; exact hown) hbR hzk HBK.out
        rw [HLI.out] at hus
        have HUS := Lib.hid hus
        have cr1 := (hbR.cell (World.block_lt_of_cell? _ _ cr0)).trans cr0
        have fr1 := ((HTU.out.below hbR).top hr').2
        clear hown hgrow hbR hus cr0 fr0
        go_wp2_with fail
        clear cr1 fr1
        go_loopw [30] (fun cv wr => ∃ (c : Nat) (ts : List ByteArray), cv = .int .i64 (c : Int) ∧ c ≤ r ∧ ts.length = n ∧ UpS B0 w9 wr gu c9 ru r g cR ts ∧ ∀ d, (hd : d < ts.length) → ts[d] = rstr (if d < c then 0 else M r d)) (fun cv _ => r - (intOf cv).toNat)
        case atStart => exact ⟨0, ssi, rfl, Nat.zero_le _, HLI.out, HUS.out, fun d hd => by rw [if_neg (by omega)]; exact HTXI.out d hd⟩
        case round =>
          obtain ⟨c, ts, rfl, hc, htl, hus, hts⟩ := hrel
          obtain ⟨wq, rfl⟩ : ∃ wq : World, wq = wr := ⟨_, rfl⟩
          have HTL := Lib.hid htl
          have HTS := Lib.hid hts
          have HUQ := Lib.hid hus
          obtain ⟨c0, f0⟩ := hus.hd hr' htl
          by_cases hlt2 : c < r
          · obtain ⟨c1, f1⟩ := hus.el (c := c) (by omega)
            generalize hto : ts[c]'(by omega) = told at *
            have HUP2 := Lib.hid (hus.put c ⟨#[48]⟩)
            have k1 : (0 : Int) ≤ (c : Int) := by omega
            have k2 : (c : Int) < (n : Int) := by omega
            have HTN := Lib.hid (fun d (hd : d < (ts.set c ⟨#[48]⟩).length) => (show (ts.set c ⟨#[48]⟩)[d] = rstr (if d < c + 1 then 0 else M r d) by
              by_cases e : d = c
              · subst e
                rw [List.getElem_set_self, if_pos (by omega), rstr_zero]
              · rw [List.getElem_set_ne (Ne.symm e), HTS.out d (by simpa using hd)]
                by_cases e3 : d < c
                · rw [if_pos e3, if_pos (by omega)]
                · rw [if_neg e3, if_neg (by omega)]))
            clear hto htl hts hus
            go_wp2_with fail
            go_roundw
            case rel => exact ⟨c + 1, ts.set c ⟨#[48]⟩, by go_num, by omega, by rw [List.length_set]; exact HTL.out, HUP2.out, HTN.out⟩
            case measure => simp [intOf]; omega
          · obtain rfl : c = r := by omega
            obtain ⟨c1, -⟩ := hus.el (c := c) (by omega)
            rw [hts c (by omega), if_neg (by omega)] at c1
            have HTD := Lib.hid hus.done
            have HMZ := Lib.hid (HZM.out ts g cR htl hts)
            have HBQ := Lib.hid hus.bel
            generalize rstr (M c c) = smc at *
            clear htl hts hus
            go_wp2_with fail
            refine (HCM.out wq).mono ?_
            rintro e wx ⟨rfl, hbx⟩
            have HTX := Lib.hid (HTD.out.below hbx)
            have HBX := Lib.hid (HBQ.out.trans (hbx.mono (Nat.le_trans hz9 HBQ.out.size)))
            clear hbx c0 f0 c1
            go_wp2_with fail
            go_roundw
            case rel => exact ⟨c + 1, ru.set c ⟨some ⟨g, 0, none⟩, cR, ts⟩, by go_num, by omega, by rw [HPN.out], by rw [← hul]; exact HTX.out, HMZ.out, HBX.out⟩
            case measure => simp [intOf]; omega
      · obtain rfl : r = n := by omega
        have hdz := lowZ_det M r
        have HDZ := Lib.hid (lowZ_dig (Nat.le_refl 1) HD.out r)
        have hPf := diag_fits hnu HD.out (r := r) (Nat.le_refl _)
        have hbx := HB9.out.trans (hbw.mono hwB)
        have HDT := Lib.hid (Det_top (c := c9) (B := B0) (by rw [hul]; exact htop) hmf (by omega) hnu (Nat.le_refl 1) (by decide) HDZ.out hdz hPf (HE.out.below hbx))
        have HBX := Lib.hid hbx
        generalize rstr (prodR r (fun i => M i i)) = sP at *
        clear hdz hPf hbx htop hmf hbw
        go_wp2_with fail
        refine HDT.out.mono ?_
        rintro e wy ⟨rfl, hby⟩
        have HBY := Lib.hid (HBX.out.trans (hby.mono HBX.out.size))
        have HSA := Lib.hid (Sane3 wy (HE.out.below HBY.out))
        clear hby
        go_wp2_with fail
        refine HSA.out.mono ?_
        rintro e wz ⟨rfl, hbz⟩
        have HBZ := Lib.hid (HBY.out.trans (hbz.mono HBY.out.size))
        clear hbz
        go_wp2_with fail
        go_ret
        exact ⟨rfl, HBZ.out⟩

end Go.Proofs.YtajlojhklhlljaaGreatDoor
