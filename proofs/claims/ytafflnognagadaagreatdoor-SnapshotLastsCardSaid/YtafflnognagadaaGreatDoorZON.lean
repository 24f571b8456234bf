import Derived.Test.YtafflnognagadaaGreatDoorZOM
import Derived.Test.YtafflnognagadaaGreatDoorZOL
import Derived.Test.YtafflnognagadaaGreatDoorZSG
set_option maxHeartbeats 16000000
set_option maxRecDepth 100000
set_option linter.unusedVariables false
set_option linter.unusedSimpArgs false
set_option linter.unusedSectionVars false
namespace Go.Proofs.YtafflnognagadaaGreatDoor
open Go.RowKit
theorem zDv {S:zFv} {fi t:Int} {ub uc u:Value} {D:List Tbl} {l:List Chn} {ds:List Dlt} {w:World} (hin:zBp w S) (hok:zFu S) (hlow:zCg S) (hub:Sl zOf w ub D) (huc:Sl zOc w uc l) (hH:zBj S fi D l) (hu:Sl zOd w u ds) (hds:zAg S ds) (hl:l.length<24) (ht:zOi l<=t) (ht2:t<=1099511627776) :
  Calls Tryz.prog 34 #[.agg S.cells,.agg #[.int .i64 fi,ub,uc],.int .i64 t,u] w (zFj w (zJj (zZm D l l.length) ds) fi D (l++[(t,ds)])):=by
 obtain ⟨Ab,cb,rfl, -⟩:=hub.form;obtain ⟨Ac,cc,rfl, -⟩:=huc.form;obtain ⟨Au,cu,rfl, -⟩:=hu.form;have hba:Below w.heap.size w (((w.alloc (.cells S.cells 31)).alloc (.cells #[.int .i64 fi,.slice Ab D.length cb,.slice Ac l.length cc] 37)).alloc (.cells #[.int .i64 0,.slice none 0 0,.slice none 0 0] 37)):=((bA).alloc sMx _).alloc (by simp;omega) _;have HCH:=oH (zDq (hin.below hba) hok hlow (hub.below hba) (huc.below hba) hH.p);rw [hH.ok.rch] at HCH;have HCKG:=oH (fun (W:World) (hW:Below w.heap.size w W) (vc:Value) (h:Sl zOc W vc (l++[(t,ds)]))=>zDq (hin.below hW) hok hlow (hub.below hW) h (hH.psnoc (c:=(t,ds)) hl ht ht2 hds));rw [zSz hH.ok] at HCKG;have HSB:=oH (show Blk (((w.alloc (.cells S.cells 31)).alloc (.cells #[.int .i64 fi,.slice Ab D.length cb,.slice Ac l.length cc] 37)).alloc (.cells #[.int .i64 0,.slice none 0 0,.slice none 0 0] 37)) w.heap.size 31 S.cells.toList from ((Blk.new w _ S.cells.toList).alloc _).alloc _)
 have HHB:=oH (show Blk (((w.alloc (.cells S.cells 31)).alloc (.cells #[.int .i64 fi,.slice Ab D.length cb,.slice Ac l.length cc] 37)).alloc (.cells #[.int .i64 0,.slice none 0 0,.slice none 0 0] 37)) (w.heap.size+1) 37 [.int .i64 fi,.slice Ab D.length cb,.slice Ac l.length cc] from (Blk.new' sMx _ [_,_,_]).alloc _);have HRB:=oH (show Blk (((w.alloc (.cells S.cells 31)).alloc (.cells #[.int .i64 fi,.slice Ab D.length cb,.slice Ac l.length cc] 37)).alloc (.cells #[.int .i64 0,.slice none 0 0,.slice none 0 0] 37)) (w.heap.size+1+1) 37 [.int .i64 0,.slice none 0 0,.slice none 0 0] from Blk.new' sMx _ [_,_,_]);have HBA:=oH hba;have HUB:=oH hub;have HUC:=oH huc;have HU:=oH hu;have HT:=oH hds.lit.2;have hdl:=hds.len
 have hll:l.length<=1000:=by omega
 obtain ⟨er,her⟩:=eXx (zJj (zZm D l l.length) (t,ds).2);rw [her] at HCKG;rw [show zJj (zZm D l l.length) ds=er from her]
 have hne:((l.length:Int)==24)=false:=by rw [beq_eq_false_iff_ne];omega
 clear hin hok hlow hub huc hH hu hds hba hl ht ht2 her;generalize hcs:S.cells=cs at HCH HCKG HSB HHB HRB HBA ⊢;obtain ⟨q0,q1,q2,q3,hq⟩:∃ a b c d,cs=#[a,b,c,d]:=⟨_,_,_,_,hcs.symm⟩;subst hq;clear hcs
 go_enter Tryz.func34,Tryz.ntmps34
 go_wp2_with fail;generalize (((w.alloc (.cells #[q0,q1,q2,q3] 31)).alloc (.cells #[.int .i64 fi,.slice Ab D.length cb,.slice Ac l.length cc] 37)).alloc (.cells #[.int .i64 0,.slice none 0 0,.slice none 0 0] 37))=wy at *;refine HCH.mono ?_;rintro e w1 ⟨rfl,hb1⟩;have HW1:=bTx2 HBA hb1;have hh1:=HHB.below hb1;have k0:=hh1.at_ (i:=0) rfl;have k1:=hh1.at_ (i:=1) rfl;have k2:=hh1.at_ (i:=2) rfl;have hbg:Below w1.heap.size w1 (w1.alloc (.cells #[.int .i64 t,.slice none 0 0] 54)):=bA
 have HZ:=oH (show Blk (w1.alloc (.cells #[.int .i64 t,.slice none 0 0] 54)) w1.heap.size 54 [.int .i64 t,.slice none 0 0]/\Blk (w1.alloc (.cells #[.int .i64 t,.slice none 0 0] 54)) w.heap.size 31 [q0,q1,q2,q3]/\Blk (w1.alloc (.cells #[.int .i64 t,.slice none 0 0] 54)) (w.heap.size+1) 37 [.int .i64 fi,.slice Ab D.length cb,.slice Ac l.length cc]/\Blk (w1.alloc (.cells #[.int .i64 t,.slice none 0 0] 54)) (w.heap.size+1+1) 37 [.int .i64 0,.slice none 0 0,.slice none 0 0]/\Below w.heap.size w (w1.alloc (.cells #[.int .i64 t,.slice none 0 0] 54))/\w1.heap.size<(w1.alloc (.cells #[.int .i64 t,.slice none 0 0] 54)).heap.size/\w.heap.size+1+1<w1.heap.size from
  ⟨Blk.new w1 _ [_,_],(HSB.below hb1).below hbg,hh1.below hbg,(HRB.below hb1).below hbg,HW1.trans (hbg.mono HW1.size),by simp,(HRB.below hb1).lt⟩)
 clear hb1 hh1 hbg HCH HSB HHB HRB HBA HW1;go_wp2_with fail;clear k0 k1 k2;generalize w1.alloc (.cells #[.int .i64 t,.slice none 0 0] 54)=w2 at HZ ⊢;generalize w1.heap.size=gx at *;obtain ⟨hg2,hs2,hh2,hr2,hbw2,hgl2,hgx⟩:=HZ.out;have HG2:=oH hg2;have HS2:=oH hs2;have HH2:=oH hh2;have HR2:=oH hr2;have HBW2:=oH hbw2;clear hg2 hs2 hh2 hr2 hbw2 HZ
 go_loopw [31] (fun iv wr=>∃ (k:Nat) (v:Value),iv = .int .i64 (k:Int)/\k<=ds.length/\Blk wr gx 54 [.int .i64 t,v]/\zCo zOd w2.heap.size wr v (ds.take k)/\Below gx w2 wr) (fun iv _=>ds.length-(intOf iv).toNat)
 ·exact ⟨0,_,rfl,oLx,HG2.out,.nil _ _ _,bRx⟩
 obtain ⟨k,v,rfl,hk,hg,hown,hbel⟩:=hrel;obtain ⟨Av,cv,rfl, -⟩:=hown.form;have hsz:=hbel.size;have HBW:=oH (HBW2.trans (hbel.mono (Nat.le_trans oMx (Nat.le_of_lt hgx))))
 by_cases hlt:k<ds.length
 ·obtain ⟨b,off,rfl,hb,hc⟩:=(HU.below HBW.out).isl2 (by intro e;subst e;simp at hlt);obtain ⟨ux,c0,c1,hux⟩:=hc k hlt;have HTK:=oH (List.take_succ_eq_append_getElem hlt);have HLE:=oH (show (ds.take k).length=k by simp;omega);have HTd:=oH (HT.out _ (List.getElem_mem hlt));generalize ds.take k=L at *;generalize ds[k]=d at *;obtain ⟨d1,T⟩:=d;simp only at c0 hux HTd;obtain ⟨Ar,cr,rfl, -⟩:=hux.form;have HNB:=oH (fun j hj=>(hown.blk j hj).2.1);have hba:Below wr.heap.size wr (wr.alloc (.cells #[.int .i64 d1,.slice Ar T.length cr] 45)):=bA
  have HZ:=oH (show Blk (wr.alloc (.cells #[.int .i64 d1,.slice Ar T.length cr] 45)) wr.heap.size 45 [.int .i64 d1,.slice Ar T.length cr]/\Blk (wr.alloc (.cells #[.int .i64 d1,.slice Ar T.length cr] 45)) gx 54 [.int .i64 t,.slice Av L.length cv]/\zCo zOd w2.heap.size (wr.alloc (.cells #[.int .i64 d1,.slice Ar T.length cr] 45)) (.slice Av L.length cv) L/\Sl zOe (wr.alloc (.cells #[.int .i64 d1,.slice Ar T.length cr] 45)) (.slice Ar T.length cr) T/\Below gx w2 (wr.alloc (.cells #[.int .i64 d1,.slice Ar T.length cr] 45))/\w2.heap.size<=(wr.alloc (.cells #[.int .i64 d1,.slice Ar T.length cr] 45)).heap.size/\gx<wr.heap.size from
   ⟨Blk.new wr _ [_,_],hg.below hba,hown.below hba,hux.below hba,hbel.trans (hba.mono oMx),by simp;omega,hg.lt⟩)
  clear hux hown hc hb hg hbel hba;go_wp2_with fail;generalize wr.alloc (.cells #[.int .i64 d1,.slice Ar T.length cr] 45)=wz at HZ ⊢;obtain ⟨hbx,hg,hown,hux,hbel,hsz2,hgr⟩:=HZ.out;have HXz:=oH hbx;have HGz:=oH hg;have HOWN:=oH hown;have HUd:=oH hux;have HBz0:=oH hbel;have HSZ:=oH hsz2;have HBz:Hid (Below w2.heap.size wz wz):=oH bRx;have HWz:=oH (Below.refl wz.heap.size wz).drew
  have KB:Hid (∀ W,Below wz.heap.size wz W->W.cell? ⟨gx,1,none⟩=some (.slice Av L.length cv)/\W.cell? ⟨wr.heap.size,0,none⟩=some (.int .i64 d1)/\W.cell? ⟨wr.heap.size,1,none⟩=some (.slice Ar T.length cr)):=oH fun W hW=>⟨(hg.below hW).at_ (i:=1) rfl,(hbx.below hW).at_ (i:=0) rfl,(hbx.below hW).at_ (i:=1) rfl⟩
  clear hux hown hg hbel hsz2 HZ hbx;refine xAq (S:=(fun w'=>w'.cell? ⟨gx,1,none⟩=some (.slice Av L.length cv)/\w'.cell? ⟨wr.heap.size,0,none⟩=some (.int .i64 d1)/\w'.cell? ⟨wr.heap.size,1,none⟩=some (.slice Ar T.length cr))) 11 (by kernel_rfl) rfl (by kernel_rfl) (by kernel_rfl) rfl (by exact KB.out _ HWz.out) (fun hHeld=>?_);simp only [List.pop_toArray,List.dropLast_cons_cons,List.dropLast_singleton];refine tkH 0 ?_;refine tkH 1 ?_;refine tkH 2 ?_;refine tkH 3 ?_;refine tkH 4 ?_;refine tkH 5 ?_
  try simp only [Act.put,tkA,tkB,tkC]
  refine tkS 6 fun K hK=>?_
  go_simp
  (go_at_call 56;(with_reducible refine (zEl (HUd.out.below HWz.out) HTd.out).mono ?_);rintro e wa ⟨va,rfl,ho,hb⟩;have hw:Below wz.heap.size wz wa:=HWz.out.trans (hb.mono HWz.out.size);have HWa:=oH hw;obtain ⟨Aa,ca,rfl, -⟩:=ho.form;have HVa:=oH ho.sl;clear ho;clear hb hw)
  go_wp2_with fail;refine hK.out _ _ ?_ (fun hHeld=>?_)
  ·first|with_reducible exact KB.out _ HWa.out|with_reducible exact KB.out _ HWm.out|with_reducible exact KSc.out
  clear hK K
  try simp only [Act.put,tkA,tkB,tkC]
  refine tkH 7 ?_
  try simp only [Act.put,tkA,tkB,tkC]
  refine tkS 8 fun K hK=>?_
  go_simp
  have HWm:=oH (HWa.alloc HWa.size (.cells #[.int .i64 d1,.slice Aa T.length ca] 45));refine hK.out _ _ ?_ (fun hHeld=>?_)
  ·first|with_reducible exact KB.out _ HWa.out|with_reducible exact KB.out _ HWm.out|with_reducible exact KSc.out
  clear hK K
  try simp only [Act.put,tkA,tkB,tkC]
  refine tkS 9 fun K hK=>?_
  (refine zWf _ _ _ (by rfl) (by rfl) Tryz.underlying49 Tryz.kiDel (by go_simp) (HOWN.below HWm.out) (by go_simp) (Sl.new (K:=zOd) (x:=(d1,T)) rfl ⟨_,rfl,HVa.out⟩) (by have:=HLE.out;simp only [List.length_singleton];omega) (Nat.le_trans HSZ.out HWm.size) ?_;intro v' wc hap;obtain ⟨Ae,ce,hv, -⟩:=hap.own.form;rw [List.length_append,List.length_singleton] at hv;subst hv;have HAP:=oH hap.own;have HBP:=oH (hap.bel (HBz.trans (HWm.mono HSZ.out)));have hg2:=(HGz.below HWm.out).app hap dCx;have HG2c:=oH hg2;have hbc:=(HXz.below HWm.out).app' hap HNB.out;have kc:=hg2.at_ (i:=1) rfl;have fc:=hg2.fr 1;have KSc:Hid (wc.cell? ⟨gx,1,none⟩=some (.slice Av L.length cv)/\wc.cell? ⟨wr.heap.size,0,none⟩=some (.int .i64 d1)/\wc.cell? ⟨wr.heap.size,1,none⟩=some (.slice Ar T.length cr)):=oH ⟨kc,hbc.at_ (i:=0) rfl,hbc.at_ (i:=1) rfl⟩;clear hbc hg2;clear hap)
  refine hK.out _ _ ?_ (fun hHeld=>?_)
  ·first|with_reducible exact KB.out _ HWa.out|with_reducible exact KB.out _ HWm.out|with_reducible exact KSc.out
  clear hK K
  try simp only [Act.put,tkA,tkB,tkC]
  refine tkH 10 ?_
  try simp only [Act.put,tkA,tkB,tkC]
  refine wpAnyH_done (by kernel_rfl) ?_ _;simp only [zWx,List.getElem_toArray,List.getElem_cons_succ,List.getElem_cons_zero];go_wp2_with fail;go_roundw
  ·exact ⟨k+1,_,by go_num,oMx,HG2c.set 1 _,by rw [HTK.out];exact HAP.store HG2c.out dCx,(HBz0.trans (HBP.mono oMx)).setCell (by show gx<=gx;omega) _⟩
  simp [intOf];omega
 have HLM:=oH (show ds.take k=ds from List.take_of_length_le oMx);rw [HLM.out] at hown hg;have HCz:=oH hg;have HHz:=oH (HH2.under hbel oMx);have HRz:=oH (HR2.under hbel oMx);have HSz:=oH (HS2.under hbel oMx);have HDSz:=oH hown.sl;have HWZ:=HBW;have HUCz:=oH (HUC.below HBW.out);have HGL:=oH hg.lt;obtain ⟨wz,hwz⟩:=eXx (wr);subst hwz;have HWz:=oH (Below.refl wr.heap.size wr).drew
 have KB:Hid (∀ W,Below wr.heap.size wr W->W.cell? ⟨w.heap.size+1,2,none⟩=some (.slice Ac l.length cc)/\W.cell? ⟨gx,0,none⟩=some (.int .i64 t)/\W.cell? ⟨gx,1,none⟩=some (.slice Av ds.length cv)):=oH fun W hW=>⟨(HHz.below hW).at_ (i:=2) rfl,(HCz.below hW).at_ (i:=0) rfl,(HCz.below hW).at_ (i:=1) rfl⟩
 clear hown hg hbel HLM;go_wp2_with fail;refine xAq (S:=(fun w'=>w'.cell? ⟨w.heap.size+1,2,none⟩=some (.slice Ac l.length cc)/\w'.cell? ⟨gx,0,none⟩=some (.int .i64 t)/\w'.cell? ⟨gx,1,none⟩=some (.slice Av ds.length cv))) 7 (by kernel_rfl) rfl (by kernel_rfl) (by kernel_rfl) rfl (by exact KB.out _ HWz.out) (fun hHeld=>?_);simp only [List.pop_toArray,List.dropLast_cons_cons,List.dropLast_singleton];refine tkH 0 ?_;refine tkH 1 ?_;refine tkH 3 ?_
 try simp only [Act.put,tkA,tkB,tkC]
 refine wpAnyH_ready (rs:=[2,4]) (by kernel_rfl) sMx ?_;refine AllReadyH.cons rfl (fun K hK=>?_) ?_
 ·clear hHeld
  (refine zWf _ _ _ (by rfl) (by rfl) Tryz.underlying35 Tryz.kiChg (by go_simp) (zCo.nil zOc wr.heap.size _) (by go_simp) (HUCz.below HWz.out) (by simp;omega) lRx ?_;intro v1 wx hap;have hox:zCo zOc wr.heap.size wx v1 l:=hap.own;have HWx:Hid (Below wr.heap.size wr wx):=oH (hap.bel HWz.out);obtain ⟨A1,c1,rfl, -⟩:=hox.form;have HOx:=oH (hox.low (B':=wr.heap.size) lRx);have HNX:=oH (fun j hj=>(HOx.blk j hj).1);clear hox;clear hap)
  refine hK.out _ _ ?_ (fun hHeld=>?_)
  ·first|with_reducible exact KSc.out|with_reducible exact KB.out _ HWx.out|with_reducible exact KB.out _ HWm.out
  clear hK K
  try simp only [Act.put,tkA,tkB,tkC]
  refine tkS 4 fun K hK=>?_
  go_simp
  have HWm:=oH (HWx.alloc HWx.size (.cells #[.int .i64 t,.slice Av ds.length cv] 54));refine hK.out _ _ ?_ (fun hHeld=>?_)
  ·first|with_reducible exact KSc.out|with_reducible exact KB.out _ HWx.out|with_reducible exact KB.out _ HWm.out
  clear hK K
  try simp only [Act.put,tkA,tkB,tkC]
  refine tkS 5 fun K hK=>?_
  (refine zWf _ _ _ (by rfl) (by rfl) Tryz.underlying35 Tryz.kiChg (by go_simp) (HOx.alloc _) (by go_simp) (Sl.new (K:=zOc) (x:=(t,ds)) rfl ⟨_,rfl,HDSz.below HWx.out⟩) (by simp only [List.length_singleton];omega) (HWm.size) ?_;intro v' wc hap;obtain ⟨A7,c7,hv, -⟩:=hap.own.form;rw [List.length_append,List.length_singleton] at hv;subst hv;have HAP:=oH hap.own;have HWc:Hid (Below wr.heap.size wr wc):=oH (hap.bel HWm.out);have HHc:=oH ((HHz.below HWm.out).app hap dCx);have hbc:=(HCz.below HWm.out).grown hap.gr (fun e=>by have:=HNX.out _ e.symm;have:=HGL.out;omega);have kc:=HHc.at_ (i:=2) rfl;have fc:=HHc.fr 2;have KSc:Hid (wc.cell? ⟨w.heap.size+1,2,none⟩=some (.slice Ac l.length cc)/\wc.cell? ⟨gx,0,none⟩=some (.int .i64 t)/\wc.cell? ⟨gx,1,none⟩=some (.slice Av ds.length cv)):=oH ⟨kc,hbc.at_ (i:=0) rfl,hbc.at_ (i:=1) rfl⟩;clear hbc;clear hap)
  refine hK.out _ _ ?_ (fun hHeld=>?_)
  ·first|with_reducible exact KSc.out|with_reducible exact KB.out _ HWx.out|with_reducible exact KB.out _ HWm.out
  clear hK K
  try simp only [Act.put,tkA,tkB,tkC]
  refine tkH 6 ?_
  try simp only [Act.put,tkA,tkB,tkC]
  refine wpAnyH_done (by kernel_rfl) ?_ _;simp only [zWx,List.getElem_toArray,List.getElem_cons_succ,List.getElem_cons_zero];have hh4:=HHc.set 2 (.slice A7 (l.length+1) c7);have k0:=HHc.at_ (i:=0) rfl;have k1:=HHc.at_ (i:=1) rfl;have hsc:=HSz.below HWc.out;have s0:=hsc.at_ (i:=0) rfl;have s1:=hsc.at_ (i:=1) rfl;have s2:=hsc.at_ (i:=2) rfl;have s3:=hsc.at_ (i:=3) rfl;have HBD:Hid (Below w.heap.size w (wc.setCell ⟨w.heap.size+1,2,none⟩ (.slice A7 (l.length+1) c7))):=oH ((HWZ.trans (HWc.mono HWZ.size)).setCell (p:=⟨w.heap.size+1,2,none⟩) (by show w.heap.size<=w.heap.size+1;omega) _);have HSD:=oH (HAP.sl.store (i:=2) (u := .slice A7 (l.length+1) c7) HHc.out dCx);have HCK:=oH (HCKG.out (wc.setCell ⟨w.heap.size+1,2,none⟩ (.slice A7 (l.length+1) c7)) HBD.out (.slice A7 (l.length+1) c7) HSD.out);have HH4:=oH hh4;have HR4:=oH ((HRz.below HWc.out).far (p:=⟨w.heap.size+1,2,none⟩) (by show w.heap.size+1+1≠w.heap.size+1;omega) (.slice A7 (l.length+1) c7))
  clear hh4 hsc;go_wp2_with fail;refine HCK.mono ?_;rintro e w9 ⟨rfl,hb9⟩;have HB9:=bTx2 HBD hb9;have HS9:=oH (HSD.below hb9);have hh9:=HH4.below hb9;have hr9:=HR4.below hb9;clear hb9 HCK s0 s1 s2 s3 k0 k1 kc fc;have r0:=hr9.at_ (i:=0) rfl;have r1:=hr9.at_ (i:=1) rfl;have r2:=hr9.at_ (i:=2) rfl;have f0:=hr9.fr 0;have f1:=hr9.fr 1;have f2:=hr9.fr 2
  by_cases her:er=0
  ·have k0:=hh9.at_ (i:=0) rfl;have k1:=hh9.at_ (i:=1) rfl;have k2:=hh9.at_ (i:=2) rfl;have H3:=oH (zIc hr9 (.int .i64 fi) (.slice Ab D.length cb) (.slice A7 (l.length+1) c7));have HF1:=oH ((HUB.below HB9.out).kp H3.2.1 dCx);have HF2:=oH (HS9.kp H3.2.1 dCx);subst her;clear hh9 hr9;go_wp2_with fail;have e0:=H3.1.at_ (i:=0) rfl;have e1:=H3.1.at_ (i:=1) rfl;have e2:=H3.1.at_ (i:=2) rfl;exact bodyPost_ret (v := .tuple #[.agg #[.int .i64 fi,.slice Ab D.length cb,.slice A7 (l.length+1) c7],.int .i64 0]) (by simp [results,Tryz.results34,go_sem,e0,e1,e2]) rfl (by unfold zFj;rw [if_pos rfl];exact ⟨_,_,rfl,HF1.out,HF2.out,HB9.trans (H3.2.2 _ oMx)⟩)
  have HER:=oH her
  have hq:(er==0)=false:=by rw [beq_eq_false_iff_ne];exact her
  have H3:=oH (zIc hr9 (.int .i64 0) (.slice none 0 0) (.slice none 0 0));clear hh9 hr9 her;go_wp2_with fail;have e0:=H3.1.at_ (i:=0) rfl;have e1:=H3.1.at_ (i:=1) rfl;have e2:=H3.1.at_ (i:=2) rfl;exact bodyPost_ret (v := .tuple #[.agg #[.int .i64 0,.slice none 0 0,.slice none 0 0],.int .i64 er]) (by simp [results,Tryz.results34,go_sem,e0,e1,e2]) rfl (by unfold zFj;rw [if_neg HER.out];exact ⟨_,_,rfl,.nil _ _ _ _,.nil _ _ _ _,HB9.trans (H3.2.2 _ oMx)⟩)
 refine AllReadyH.cons rfl (fun K hK=>?_) AllReadyH.nil
 go_simp
 have HWm:=oH ((Below.refl wr.heap.size wr).alloc lRx (.cells #[.int .i64 t,.slice Av ds.length cv] 54)).drew;have HSm:Hid (Sl zOc (wr.alloc (.cells #[.int .i64 t,.slice Av ds.length cv] 54)).drew (.slice (some ⟨wr.heap.size,0,none⟩) 1 1) [(t,ds)]):=oH (Sl.new (K:=zOc) (x:=(t,ds)) rfl ⟨_,rfl,HDSz.out⟩)
 refine hK.out _ _ ?_ (fun hHeld=>?_)
 ·first|with_reducible exact KSc.out|with_reducible exact KB.out _ HWx.out|with_reducible exact KB.out _ HWm.out
 clear hK K
 try simp only [Act.put,tkA,tkB,tkC]
 refine tkS 2 fun K hK=>?_
 (refine zWf _ _ _ (by rfl) (by rfl) Tryz.underlying35 Tryz.kiChg (by go_simp) (zCo.nil zOc (wr.alloc (.cells #[.int .i64 t,.slice Av ds.length cv] 54)).drew.heap.size _) (by go_simp) (HUCz.below HWm.out) (by simp;omega) lRx ?_;intro v1 wx hap;have hox:zCo zOc (wr.alloc (.cells #[.int .i64 t,.slice Av ds.length cv] 54)).drew.heap.size wx v1 l:=hap.own;have hbx:Below (wr.alloc (.cells #[.int .i64 t,.slice Av ds.length cv] 54)).drew.heap.size (wr.alloc (.cells #[.int .i64 t,.slice Av ds.length cv] 54)).drew wx:=hap.bel bRx;have HWx:=bTx2 HWm hbx;have HSx:=oH (HSm.below hbx);obtain ⟨A1,c1,rfl, -⟩:=hox.form;have HOx:=oH (hox.low (B':=wr.heap.size) (HWm.size));have HNX:=oH (fun j hj=>(HOx.blk j hj).1);clear hox;clear hap)
 refine hK.out _ _ ?_ (fun hHeld=>?_)
 ·first|with_reducible exact KSc.out|with_reducible exact KB.out _ HWx.out|with_reducible exact KB.out _ HWm.out
 clear hK K
 try simp only [Act.put,tkA,tkB,tkC]
 refine tkS 5 fun K hK=>?_
 (refine zWf _ _ _ (by rfl) (by rfl) Tryz.underlying35 Tryz.kiChg (by go_simp) (HOx.out) (by go_simp) (HSx.out) (by simp only [List.length_singleton];omega) (HWx.size) ?_;intro v' wc hap;obtain ⟨A7,c7,hv, -⟩:=hap.own.form;rw [List.length_append,List.length_singleton] at hv;subst hv;have HAP:=oH hap.own;have HWc:Hid (Below wr.heap.size wr wc):=oH (hap.bel HWx.out);have HHc:=oH ((HHz.below HWx.out).app hap dCx);have hbc:=(HCz.below HWx.out).grown hap.gr (fun e=>by have:=HNX.out _ e.symm;have:=HGL.out;omega);have kc:=HHc.at_ (i:=2) rfl;have fc:=HHc.fr 2;have KSc:Hid (wc.cell? ⟨w.heap.size+1,2,none⟩=some (.slice Ac l.length cc)/\wc.cell? ⟨gx,0,none⟩=some (.int .i64 t)/\wc.cell? ⟨gx,1,none⟩=some (.slice Av ds.length cv)):=oH ⟨kc,hbc.at_ (i:=0) rfl,hbc.at_ (i:=1) rfl⟩;clear hbc;clear hap)
 refine hK.out _ _ ?_ (fun hHeld=>?_)
 ·first|with_reducible exact KSc.out|with_reducible exact KB.out _ HWx.out|with_reducible exact KB.out _ HWm.out
 clear hK K
 try simp only [Act.put,tkA,tkB,tkC]
 refine tkH 6 ?_
 try simp only [Act.put,tkA,tkB,tkC]
 refine wpAnyH_done (by kernel_rfl) ?_ _;simp only [zWx,List.getElem_toArray,List.getElem_cons_succ,List.getElem_cons_zero];have hh4:=HHc.set 2 (.slice A7 (l.length+1) c7);have k0:=HHc.at_ (i:=0) rfl;have k1:=HHc.at_ (i:=1) rfl;have hsc:=HSz.below HWc.out;have s0:=hsc.at_ (i:=0) rfl;have s1:=hsc.at_ (i:=1) rfl;have s2:=hsc.at_ (i:=2) rfl;have s3:=hsc.at_ (i:=3) rfl;have HBD:Hid (Below w.heap.size w (wc.setCell ⟨w.heap.size+1,2,none⟩ (.slice A7 (l.length+1) c7))):=oH ((HWZ.trans (HWc.mono HWZ.size)).setCell (p:=⟨w.heap.size+1,2,none⟩) (by show w.heap.size<=w.heap.size+1;omega) _);have HSD:=oH (HAP.sl.store (i:=2) (u := .slice A7 (l.length+1) c7) HHc.out dCx);have HCK:=oH (HCKG.out (wc.setCell ⟨w.heap.size+1,2,none⟩ (.slice A7 (l.length+1) c7)) HBD.out (.slice A7 (l.length+1) c7) HSD.out);have HH4:=oH hh4;have HR4:=oH ((HRz.below HWc.out).far (p:=⟨w.heap.size+1,2,none⟩) (by show w.heap.size+1+1≠w.heap.size+1;omega) (.slice A7 (l.length+1) c7))
 clear hh4 hsc;go_wp2_with fail;refine HCK.mono ?_;rintro e w9 ⟨rfl,hb9⟩;have HB9:=bTx2 HBD hb9;have HS9:=oH (HSD.below hb9);have hh9:=HH4.below hb9;have hr9:=HR4.below hb9;clear hb9 HCK s0 s1 s2 s3 k0 k1 kc fc;have r0:=hr9.at_ (i:=0) rfl;have r1:=hr9.at_ (i:=1) rfl;have r2:=hr9.at_ (i:=2) rfl;have f0:=hr9.fr 0;have f1:=hr9.fr 1;have f2:=hr9.fr 2
 by_cases her:er=0
 ·have k0:=hh9.at_ (i:=0) rfl;have k1:=hh9.at_ (i:=1) rfl;have k2:=hh9.at_ (i:=2) rfl;have H3:=oH (zIc hr9 (.int .i64 fi) (.slice Ab D.length cb) (.slice A7 (l.length+1) c7));have HF1:=oH ((HUB.below HB9.out).kp H3.2.1 dCx);have HF2:=oH (HS9.kp H3.2.1 dCx);subst her;clear hh9 hr9;go_wp2_with fail;have e0:=H3.1.at_ (i:=0) rfl;have e1:=H3.1.at_ (i:=1) rfl;have e2:=H3.1.at_ (i:=2) rfl;exact bodyPost_ret (v := .tuple #[.agg #[.int .i64 fi,.slice Ab D.length cb,.slice A7 (l.length+1) c7],.int .i64 0]) (by simp [results,Tryz.results34,go_sem,e0,e1,e2]) rfl (by unfold zFj;rw [if_pos rfl];exact ⟨_,_,rfl,HF1.out,HF2.out,HB9.trans (H3.2.2 _ oMx)⟩)
 have HER:=oH her
 have hq:(er==0)=false:=by rw [beq_eq_false_iff_ne];exact her
 have H3:=oH (zIc hr9 (.int .i64 0) (.slice none 0 0) (.slice none 0 0));clear hh9 hr9 her;go_wp2_with fail;have e0:=H3.1.at_ (i:=0) rfl;have e1:=H3.1.at_ (i:=1) rfl;have e2:=H3.1.at_ (i:=2) rfl;exact bodyPost_ret (v := .tuple #[.agg #[.int .i64 0,.slice none 0 0,.slice none 0 0],.int .i64 er]) (by simp [results,Tryz.results34,go_sem,e0,e1,e2]) rfl (by unfold zFj;rw [if_neg HER.out];exact ⟨_,_,rfl,.nil _ _ _ _,.nil _ _ _ _,HB9.trans (H3.2.2 _ oMx)⟩)
structure SK (w:World) (b:Nat) (S:zFv):Prop where
 src:Src w b
 inm:∀ w',w.grownBy w' (some b)->Src w' b->zBp w' S
section
variable {w w':World} {b:Nat} {S:zFv}
theorem SK.mem (h:SK w b S):zBp w S:=h.inm w (World.grownBy.refl w _) h.src
theorem SK.step (h:SK w b S) (hg:w.grownBy w' (some b)) (hs:Src w' b):SK w' b S:=⟨hs,fun w2 h2 s2=>h.inm w2 (hg.trans h2) s2⟩
theorem SK.below (h:SK w b S) (hb:Below w.heap.size w w'):SK w' b S:=h.step ((zMu hb).but _) (h.src.below hb)
theorem zMt (hb:Below w.heap.size w w'):w.grownBy w' (some b):=(zMu hb).but _
theorem Sl.src {α:Type} {K:Kind α} {v:Value} {xs:List α} (h:Sl K w v xs) (hs:Src w b) (hg:w.grownBy w' (some b)) (ht:∀ t∈K.t::K.ts,t ∉ [70]):Sl K w' v xs:=h.kp (KpT.of_src hs hg) ht
theorem Blk.src {g t:Nat} {cs:List Value} (h:Blk w g t cs) (hg:w.grownBy w' (some b)) (hne:g≠b):Blk w' g t cs:=h.grown hg fun e=>hne (by injection e)
end
theorem zBe.low {at1:List (ByteArray × Int)} {rs:List zFg} {fs:List zBa} {aa ar af:oAx} {ca cr cf:Nat} {lb:Int} (ha:zBe at1) (hr:zBf at1.length rs):zCg ⟨at1,aa,ca,rs,ar,cr,fs,af,cf,lb⟩:=by
 have hl:∀ (p:UInt8) (i:Nat),97<=p.toNat->p.toNat<=122->zNo (zPo p i):=fun p i h1 h2=>by
  have hx:(UInt8.ofNat (97+i%26)).toNat=97+i%26:=by simp;omega
  refine ⟨by show 1<=2;omega,by show 2<=12;omega,fun k hk=>?_⟩
  have h3:k=0\/k=1:=by have:k<2:=hk;omega
  rcases h3 with rfl|rfl
  ·exact ⟨h1,h2⟩
  have e:(zPo p i)[1]=UInt8.ofNat (97+i%26):=rfl;rw [e,hx];omega
 refine ⟨fun a h=>?_,fun r h=>?_⟩
 ·obtain ⟨i,hi,rfl⟩:=List.getElem_of_mem h;rw [(ha i hi).1];exact hl 97 i dCx dCx
 obtain ⟨i,hi,rfl⟩:=List.getElem_of_mem h;rw [hr.name i hi];exact hl 114 i dCx dCx
theorem ins_pos {r:zGg} {T:List zGg} (hr:1<=r.2) (h:∀ x∈T,1<=x.2):∀ x∈ins r T,1<=x.2:=by
 induction T with
 | nil=>intro x hx;rw [ins,List.mem_singleton] at hx;rw [hx];exact hr
 | cons y T ih =>
  intro x hx
  have hy:=h y sMx;unfold ins at hx
  split at hx
  ·rcases List.mem_cons.1 hx with rfl|hx
   ·exact hy
   exact ih (fun z hz=>h z (by simp [hz])) x hx
  split at hx
  ·rcases List.mem_cons.1 hx with rfl|hx
   ·show 1<=y.2+r.2;omega
   exact h x (by simp [hx])
  rcases List.mem_cons.1 hx with rfl|hx
  ·exact hr
  exact h x hx
theorem norm_pos {l:List zGg} (h:∀ x∈l,1<=x.2):∀ x∈norm l,1<=x.2:=by
 suffices H:∀ (l T:List zGg),(∀ x∈l,1<=x.2)->(∀ x∈T,1<=x.2)->∀ x∈zNf T l,1<=x.2 from
  fun x hx=>H l [] h (fun _ h=>by cases h) x (List.mem_filter.1 hx).1
 intro l
 induction l with
 | nil=>intro T _ hT;exact hT
 | cons r l ih=>intro T hl hT;exact ih (ins r T) (fun x hx=>hl x (by simp [hx])) (ins_pos (hl r sMx) hT)
structure PosT (S:zFv) (rel:Nat) (B:Nat) (T:Tbl):Prop where
 tab:zGi S rel T
 pos:∀ r∈T,1<=r.2/\r.2<=B
structure RawT (S:zFv) (rel:Nat) (B:Nat) (T:Tbl):Prop where
 lt:rel<S.rs.length
 g:zGh S.at1 S.rs[rel].xs T
 pos:∀ r∈T,1<=r.2/\r.2<=B
theorem RawT.norm {S:zFv} {rel B m:Nat} {T:Tbl} (h:RawT S rel B T) (hm:T.length<=m):PosT S rel (m*B) (norm T) :=
 ⟨⟨h.lt,h.g.norm,zQr _,zQp _⟩,fun r hr=>⟨norm_pos (fun x hx=>(h.pos x hx).1) r hr,by
  have h1:=(zQs (B:=B) (fun x hx=>by have:=h.pos x hx;omega) r hr).2;have h2:T.length*B<=m*B:=Nat.mul_le_mul_right _ hm
  omega⟩⟩
theorem RawT.lit {S:zFv} {rel B:Nat} {T:Tbl} (h:RawT S rel B T) (hok:zFu S) (hB:B<=1000000) (hl:T.length<=1000):Lit T :=
 ⟨hl,fun r hr=>⟨by have h1:=(h.g r hr).1;have h2:=(hok.fine.rel _ (List.getElem_mem h.lt)).short;omega,by have:=h.pos r hr;omega,by have:=h.pos r hr;omega⟩⟩
theorem RUses_of (S:zFv) (a:Nat) (w:World) (hin:zBp w S) (hok:zFu S) (hlow:zCg S):Calls Tryz.prog 54 #[.agg S.cells,.int .i64 (a:Int)] w fun e w'=>∃ A n c,e = .returned (.slice A n c)/\Below w.heap.size w w':=by
 obtain ⟨i0,hi,hz0,hz1,hz2⟩:=info_parts Tryz.infoInt;have HCH:=oH (zDt S (w.alloc (.cells S.cells 31)) (hin.below (bA)) hok hlow);have HIN:=oH hin;have HF:=oH hok.fine;have q2:=hok.fine.r2;unfold zFv.cells at HCH ⊢;obtain ⟨at1,aa,ca,rs,ar,cr,fs,af,cf,lb⟩:=S;simp only at q2 HCH ⊢;clear hin hok hlow
 go_enter Tryz.func54,Tryz.ntmps54
 go_wp2_with fail;refine HCH.mono ?_;rintro e w1 ⟨rfl,hb1⟩;rw [World.size_alloc] at hb1;have hs1:w1.cell? ⟨w.heap.size,1,none⟩=some (.slice ar rs.length cr):=(hb1.cell (p:=⟨w.heap.size,1,none⟩) sMx).trans sMx;have HB1:=oH hb1;clear hb1;go_wp2_with fail
 go_loopw [5,14] (fun v iv wr=>∃ k:Nat,iv = .int .i64 (k:Int)/\k<=rs.length/\wr.ownsRow (w.heap.size+1) 3 1 v (zYd rs a k).length (vn (zYd rs a k))/\Below (w.heap.size+1) (w.alloc (.cells #[.slice aa at1.length ca,.slice ar rs.length cr,.slice af fs.length cf,.int .i64 lb] 31)) wr) (fun _ iv _=>rs.length-(intOf iv).toNat)
 ·exact ⟨0,rfl,oLx,World.ownsRow_nil _ _ _ _,HB1.out⟩
 obtain ⟨k,rfl,hk,hown,hbel⟩:=hrel;have HOWN:=oH hown;have HBEL:=oH hbel;have hsz:=hbel.size;rw [World.size_alloc] at hsz;have HB:=oH (((Below.refl w.heap.size w).alloc lRx (.cells #[.slice aa at1.length ca,.slice ar rs.length cr,.slice af fs.length cf,.int .i64 lb] 31)).trans (hbel.mono oMx));clear hown hbel
 by_cases hlt:k<rs.length
 ·obtain ⟨b,off,rfl,hb,hrow⟩:=HIN.r.some (zTg (by intro e;simp only at e;subst e;simp at hlt));obtain ⟨hg1,hg2⟩:=zTf hlt;have hc1:=(HB.cell (p:=⟨b,off+k*2,none⟩) hb).trans (hrow.at_ hg1);have hc2:wr.cell? ⟨b,off+k*2+1,none⟩=_:=(HB.cell (p:=⟨b,off+(k*2+1),none⟩) hb).trans (hrow.at_ hg2);have hmem:=List.getElem_mem hlt;have HH:=oH (RIn_of rs[k].ad rs[k].xs rs[k].cp a (wr.alloc (.cells #[.string rs[k].nm,.slice rs[k].ad rs[k].xs.length rs[k].cp] 68)) (((HIN.x _ hmem).below HB.out).alloc _) (HF.rel _ hmem).short);have HUS:=oH (zYe rs a k)
  have hha:hasAt rs a k=rs[k].xs.contains a:=by unfold hasAt;rw [List.getElem?_eq_getElem hlt]
  rw [hha] at HUS;have hul:(zYd rs a k).length<=k:=zMd _ _;generalize rs[k].xs.contains a=bb at *;generalize rs[k].nm=nm at *;generalize rs[k].ad=ad at *;generalize rs[k].cp=cp at *;generalize rs[k].xs.length=xl at *;clear hrow hg1 hg2 hmem hha;have HO2:=oH (zRq HOWN.out ((Below.refl wr.heap.size wr).alloc lRx (.cells #[.string nm,.slice ad xl cp] 68)));have HB2:=oH (HBEL.trans ((Below.refl (w.heap.size+1) wr).alloc oMx (.cells #[.string nm,.slice ad xl cp] 68)))
  cases bb
  ·go_wp2_with fail;refine HH.mono ?_;rintro e w2 ⟨rfl,rfl⟩;go_wp2_with fail;go_roundw
   ·exact ⟨k+1,by go_num,oMx,by rw [HUS.out];simp only [Bool.false_eq_true,if_false,List.append_nil];exact HO2.out,HB2.out⟩
   simp [intOf];omega
  have hsz2:=HB2.size;rw [World.size_alloc] at hsz2;go_wp2_with fail;refine HH.mono ?_;rintro e w2 ⟨rfl,rfl⟩;generalize wr.alloc (.cells #[.string nm,.slice ad xl cp] 68)=w2 at *
  go_wp2_with (at_builtin;refine wpList_append_own _ rfl _ _ 22 rfl (w.heap.size+1) 3 i0 (.int .i64 0) 1 8 Tryz.underlying22 hi hz0 hz1 hz2 rfl dCx _ _ _ rfl (HO2.alloc _) ⟨w2.heap.size,0,none⟩ 1 1 [_] rfl rfl zRj zRh (by unfold maxLen;omega) oMx (by simp;omega) ?_)
  intro v' w3 hown3 hgrow3 _
  have HO3:=oH hown3;have HB3:=oH (HB2.trans (app1 HO2.out hsz2 hgrow3));clear hown3 hgrow3;go_wp2_with fail;go_roundw
  ·exact ⟨k+1,by go_num,oMx,by rw [HUS.out];simp only [if_true];rw [xAh,List.length_append];exact HO3.out,HB3.out⟩
  simp [intOf];omega
 obtain rfl:k=rs.length:=by omega
 have hf:=zSd HOWN.out;obtain ⟨A9,c9,rfl, -⟩:=hf;go_wp2_with fail;go_ret
 exact ⟨_,_,_,rfl,HB.out⟩
end Go.Proofs.YtafflnognagadaaGreatDoor
