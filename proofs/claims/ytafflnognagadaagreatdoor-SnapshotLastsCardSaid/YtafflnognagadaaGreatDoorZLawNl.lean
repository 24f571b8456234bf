import Derived.Test.YtafflnognagadaaGreatDoorZOS
set_option maxHeartbeats 16000000
set_option maxRecDepth 100000
set_option linter.unusedVariables false
set_option linter.unusedSimpArgs false
set_option linter.unusedSectionVars false
namespace Go.Proofs.YtafflnognagadaaGreatDoor
open Go.RowKit
theorem SnapshotLasts_any (A:oAx) (ln cp:Nat) (w:World) (h:zBs w A ln) (hlc:ln<=cp) (hl:ln<=9223372036854775807) (henv:Env w):Calls Tryz.prog 6 #[.slice A ln cp] w fun e w'=>e = .returned (.bool true)/\Below w.heap.size w w':=by
 have HE:=oH henv;have HI:=oH h;have HLI:=oH (zCf A ln cp w);clear henv h
 by_cases h600:ln<=600
 ·rw [decide_eq_true h600] at HLI
  go_enter Tryz.func6,Tryz.ntmps6
  go_wp2_with fail;refine HLI.mono ?_;rintro e w0 ⟨rfl,hb⟩;have HB0:=oH hb;clear hb HLI h600;go_wp2_with fail;refine (zCn A ln cp w0 (HI.below HB0.out) hlc hl).mono ?_;rintro e w1 ⟨rfl,hs,hb⟩;have HNB:=oH (show w.heap.size<=w0.heap.size from HB0.size);have HB1:=bTx2 HB0 hb;have HS1:=oH hs;generalize w0.heap.size=b at *;clear hs hb HI HB0 hlc hl;go_wp2_with fail;refine (zFw b 5 w1 HS1.out dCx dCx).mono ?_;rintro e w2 ⟨S,rfl,hok,hat,hrs,hga,hgr,hin,hs,hg,hinm⟩;have HOK:=oH hok;have HLOW:=oH (show zCg S from zBe.low hga hgr);have HSK:=oH (show SK w2 b S from ⟨hs,hinm⟩);have hb2:b<w2.heap.size:=hs.lt;have HB2:=oH (show Below w.heap.size w w2 from HB1.trans ⟨hg.os,hg.tape,hg.output,hg.size,fun i hi=>hg.block i (Nat.lt_of_lt_of_le hi HB1.size) (fun e=>by injection e with e;have:=HNB.out;omega)⟩);have HRS:=oH hrs;have HAT:=oH hat;clear hok hat hrs hga hgr hin hs hg hinm HS1 HB1;generalize hcs:S.cells=cs
  have HCS:=oH hcs;obtain ⟨pa,na,ka,pr,nr,kr,pf,nf,kf,lb,hq⟩:∃ pa na ka pr nr kr pf nf kf lb,cs=#[.slice pa na ka,.slice pr nr kr,.slice pf nf kf,.int .i64 lb]:=⟨_,_,_,_,_,_,_,_,_,_,hcs.symm⟩;subst hq;clear hcs;have HSK2:=oH (HSK.below ((Below.refl w2.heap.size w2).alloc lRx (.cells #[.slice pa na ka,.slice pr nr kr,.slice pf nf kf,.int .i64 lb] 31)));have HMH:=oH (zCi (rows:=4) (most:=5) HSK2.out HOK.out HLOW.out dCx dCx dCx);rw [HCS.out,show ((4:Nat):Int)=4 from rfl,show ((5:Nat):Int)=5 from rfl] at HMH;go_wp2_with fail;refine HMH.mono ?_;rintro e w3 ⟨fi,vb,vc,D,l,rfl,hvb,hvc,hmade,hs,hg⟩;obtain ⟨Ab,cb,rfl, -⟩:=hvb.form;obtain ⟨Ac,cc,rfl, -⟩:=hvc.form;have HMD:=oH hmade;have hbw:Below w.heap.size w (w2.alloc (.cells #[.slice pa na ka,.slice pr nr kr,.slice pf nf kf,.int .i64 lb] 31)):=HB2.alloc HB2.size _
  have hb3:w2.heap.size<w3.heap.size:=by have:=hg.size;simp at this;omega
  have HU:=oH (show UH w (w3.alloc (.cells #[.int .i64 fi,.slice Ab D.length cb,.slice Ac l.length cc] 37)) b w2.heap.size w3.heap.size S #[.slice pa na ka,.slice pr nr kr,.slice pf nf kf,.int .i64 lb] fi (.slice Ab D.length cb) (.slice Ac l.length cc) D l from
   ⟨(HSK2.step hg hs).below (bA),((Blk.new w2 _ [.slice pa na ka,.slice pr nr kr,.slice pf nf kf,.int .i64 lb]).src hg oMx).alloc _,Blk.new w3 _ [_,_,_],hvb.below (bA),hvc.below (bA),(hbw.trans ⟨hg.os,hg.tape,hg.output,hg.size,fun i hi=>hg.block i (Nat.lt_of_lt_of_le hi hbw.size) (fun e=>by injection e with e;have:=HNB.out;omega)⟩).alloc (by have:=hbw.size;simp at this;omega) _,oMx,oMx,HNB.out⟩)
  have hgs:w2.heap.size<w3.heap.size:=hb3;have HMI:=oH (show 0<=fi/\fi+(l.length:Int)<=5 from ⟨hmade.his.f0,hmade.len⟩);have hk3:=(Blk.new w2 31 [.slice pa na ka,.slice pr nr kr,.slice pf nf kf,.int .i64 lb]).src hg oMx;have k0:=hk3.at_ (i:=0) rfl;have k1:=hk3.at_ (i:=1) rfl;have k2:=hk3.at_ (i:=2) rfl;have k3:=hk3.at_ (i:=3) rfl;clear hvb hvc hmade hs hg hbw hb3 HSK HSK2 HMH HB2 HNB hk3;go_wp2_with fail;clear k0 k1 k2 k3;generalize w3.alloc (.cells #[.int .i64 fi,.slice Ab D.length cb,.slice Ac l.length cc] 37)=wz at *;generalize w2.heap.size=gs at *;generalize w3.heap.size=gh at *;have HIS:=oH HMD.his;have HLT:=oH HMD.last;clear HRS HAT HMD;have hgn:IntKind.i64.wrap ((l.length:Int)+1)=(l.length:Int)+1:=IntWalk.i64_in _ (by have:=HMI.out;omega);have hmi:=HMI.out;replace HU:=oH (HU.below bRx.drew);have KS:Hid (wz.drew.cell? ⟨gh,0,none⟩=some (.int .i64 fi)/\wz.drew.cell? ⟨gh,1,none⟩=some (.slice Ab D.length cb)/\wz.drew.cell? ⟨gh,2,none⟩=some (.slice Ac l.length cc)):=oH ⟨HU.hb.at_ (i:=0) rfl,HU.hb.at_ (i:=1) rfl,HU.hb.at_ (i:=2) rfl⟩
  refine wp_region_held_drew (S:=(fun w'=>w'.cell? ⟨gh,0,none⟩=some (.int .i64 fi)/\w'.cell? ⟨gh,1,none⟩=some (.slice Ab D.length cb)/\w'.cell? ⟨gh,2,none⟩=some (.slice Ac l.length cc))) (by kernel_rfl) (by exact KS.out) (fun hHeld=>?_);refine tkH 0 ?_;refine tkH 1 ?_;refine tkH 2 ?_;refine tkH 3 ?_;refine tkH 4 ?_;refine tkH 5 ?_;refine tkH 6 ?_
  try simp only [Act.put,tkA,tkB,tkC]
  refine tkS 7 fun K hK=>?_
  go_simp
  (go_at_call 22;(with_reducible refine (zCm b ((l.length:Int)+1) _ HU.out.sk.src oMx oMx).mono ?_);rintro e wr6 ⟨ra,rfl,hra,hs,hg⟩)
  replace HU:=oH (HU.src hg hs);clear hs hg;have hg3:IntKind.i64.wrap (fi+(ra:Int))=fi+(ra:Int):=IntWalk.i64_in _ oMx;replace KS:Hid (wr6.cell? ⟨gh,0,none⟩=some (.int .i64 fi)/\wr6.cell? ⟨gh,1,none⟩=some (.slice Ab D.length cb)/\wr6.cell? ⟨gh,2,none⟩=some (.slice Ac l.length cc)):=oH ⟨HU.hb.at_ (i:=0) rfl,HU.hb.at_ (i:=1) rfl,HU.hb.at_ (i:=2) rfl⟩;go_wp2_with fail;refine hK.out _ _ ?_ (fun hHeld=>?_)
  ·exact KS.out
  clear hK K
  try simp only [Act.put,tkA,tkB,tkC]
  refine tkH 8 ?_
  try simp only [Act.put,List.setIfInBounds_toArray,List.set_cons_zero,List.set_cons_succ,List.getElem_toArray,List.getElem_cons_succ,List.getElem_cons_zero,List.getElem?_toArray,List.getElem?_cons_succ,List.getElem?_cons_zero,Option.getD_some]
  refine tkH 9 ?_
  try simp only [Act.put,List.setIfInBounds_toArray,List.set_cons_zero,List.set_cons_succ,List.getElem_toArray,List.getElem_cons_succ,List.getElem_cons_zero,List.getElem?_toArray,List.getElem?_cons_succ,List.getElem?_cons_zero,Option.getD_some]
  refine wpAnyH_done (by kernel_rfl) ?_ _;clear KS
  have hra2:ra<=l.length:=by omega
  clear hra;have k0:=HU.sb.at_ (i:=0) rfl;have k1:=HU.sb.at_ (i:=1) rfl;have k2:=HU.sb.at_ (i:=2) rfl;have k3:=HU.sb.at_ (i:=3) rfl;have kl:=HU.sb.lt;have g0:=HU.hb.at_ (i:=0) rfl;have g1:=HU.hb.at_ (i:=1) rfl;have g2:=HU.hb.at_ (i:=2) rfl;have gl:=HU.hb.lt;go_wp2_with fail
  with_reducible refine (zCq HCS.out (HU.out.env HE.out) HU.out.inm HOK.out HU.out.db HU.out.ch HIS.out hra2).mono ?_
  rintro e w4 ⟨va,rfl,hd,hb⟩;clear k0 k1 k2 k3 kl g0 g1 g2 gl;replace HU:=oH (HU.below hb);clear hb;obtain ⟨Aa,ca,rfl, -⟩:=hd.form;have HA:=oH hd;clear hd;go_wp2_with fail;replace HU:=oH (HU.below bRx.drew);replace HA:=oH (HA.below bRx.drew);have KS:Hid (w4.drew.cell? ⟨gs,0,none⟩=some (.slice pa na ka)/\w4.drew.cell? ⟨gs,1,none⟩=some (.slice pr nr kr)/\w4.drew.cell? ⟨gs,2,none⟩=some (.slice pf nf kf)/\w4.drew.cell? ⟨gs,3,none⟩=some (.int .i64 lb)/\w4.drew.cell? ⟨gh,0,none⟩=some (.int .i64 fi)/\w4.drew.cell? ⟨gh,1,none⟩=some (.slice Ab D.length cb)/\w4.drew.cell? ⟨gh,2,none⟩=some (.slice Ac l.length cc)):=oH ⟨HU.sb.at_ (i:=0) rfl,HU.sb.at_ (i:=1) rfl,HU.sb.at_ (i:=2) rfl,HU.sb.at_ (i:=3) rfl,HU.hb.at_ (i:=0) rfl,HU.hb.at_ (i:=1) rfl,HU.hb.at_ (i:=2) rfl⟩;refine wp_region_held_drew (S:=(fun w'=>w'.cell? ⟨gs,0,none⟩=some (.slice pa na ka)/\w'.cell? ⟨gs,1,none⟩=some (.slice pr nr kr)/\w'.cell? ⟨gs,2,none⟩=some (.slice pf nf kf)/\w'.cell? ⟨gs,3,none⟩=some (.int .i64 lb)/\w'.cell? ⟨gh,0,none⟩=some (.int .i64 fi)/\w'.cell? ⟨gh,1,none⟩=some (.slice Ab D.length cb)/\w'.cell? ⟨gh,2,none⟩=some (.slice Ac l.length cc))) (by kernel_rfl) (by exact KS.out) (fun hHeld=>?_)
  refine tkH 0 ?_;refine tkH 1 ?_;refine tkH 2 ?_
  try simp only [Act.put,tkA,tkB,tkC]
  refine tkS 3 fun K hK=>?_
  go_simp
  (go_at_call 24;(with_reducible refine (zEe (fi:=fi) (ub := .slice Ab D.length cb) (A:=Ac) (n:=l.length) (c:=cc) (by have:=HMI.out;omega) (by have:=HMI.out;omega) (by have:=HMI.out;omega)).mono ?_);rintro e wr8 ⟨rfl,hb⟩)
  replace HU:=oH (HU.below hb);replace HA:=oH (HA.below hb);clear hb;replace KS:Hid (wr8.cell? ⟨gs,0,none⟩=some (.slice pa na ka)/\wr8.cell? ⟨gs,1,none⟩=some (.slice pr nr kr)/\wr8.cell? ⟨gs,2,none⟩=some (.slice pf nf kf)/\wr8.cell? ⟨gs,3,none⟩=some (.int .i64 lb)/\wr8.cell? ⟨gh,0,none⟩=some (.int .i64 fi)/\wr8.cell? ⟨gh,1,none⟩=some (.slice Ab D.length cb)/\wr8.cell? ⟨gh,2,none⟩=some (.slice Ac l.length cc)):=oH ⟨HU.sb.at_ (i:=0) rfl,HU.sb.at_ (i:=1) rfl,HU.sb.at_ (i:=2) rfl,HU.sb.at_ (i:=3) rfl,HU.hb.at_ (i:=0) rfl,HU.hb.at_ (i:=1) rfl,HU.hb.at_ (i:=2) rfl⟩;go_wp2_with fail;refine hK.out _ _ ?_ (fun hHeld=>?_)
  ·exact KS.out
  clear hK K
  try simp only [Act.put,tkA,tkB,tkC]
  refine tkS 4 fun K hK=>?_
  go_simp
  (go_at_call 23;(with_reducible refine (RAtK_of HCS.out HLOW.out HU.out.inm HOK.out HU.out.db HU.out.ch HIS.out lRx).mono ?_);rintro e wr8 ⟨vd,rfl,hd,hb⟩)
  replace HU:=oH (HU.below hb);replace HA:=oH (HA.below hb);clear hb;obtain ⟨Ad,cd,rfl, -⟩:=hd.form;have HDV:=oH hd;clear hd;replace KS:Hid (wr8.cell? ⟨gs,0,none⟩=some (.slice pa na ka)/\wr8.cell? ⟨gs,1,none⟩=some (.slice pr nr kr)/\wr8.cell? ⟨gs,2,none⟩=some (.slice pf nf kf)/\wr8.cell? ⟨gs,3,none⟩=some (.int .i64 lb)/\wr8.cell? ⟨gh,0,none⟩=some (.int .i64 fi)/\wr8.cell? ⟨gh,1,none⟩=some (.slice Ab D.length cb)/\wr8.cell? ⟨gh,2,none⟩=some (.slice Ac l.length cc)):=oH ⟨HU.sb.at_ (i:=0) rfl,HU.sb.at_ (i:=1) rfl,HU.sb.at_ (i:=2) rfl,HU.sb.at_ (i:=3) rfl,HU.hb.at_ (i:=0) rfl,HU.hb.at_ (i:=1) rfl,HU.hb.at_ (i:=2) rfl⟩;go_wp2_with fail;refine hK.out _ _ ?_ (fun hHeld=>?_)
  ·exact KS.out
  clear hK K
  try simp only [Act.put,tkA,tkB,tkC]
  refine tkH 5 ?_;refine tkH 6 ?_;refine tkH 7 ?_;refine tkH 8 ?_
  try simp only [Act.put,List.setIfInBounds_toArray,List.set_cons_zero,List.set_cons_succ,List.getElem_toArray,List.getElem_cons_succ,List.getElem_cons_zero,List.getElem?_toArray,List.getElem?_cons_succ,List.getElem?_cons_zero,Option.getD_some]
  refine tkH 9 ?_
  try simp only [Act.put,List.setIfInBounds_toArray,List.set_cons_zero,List.set_cons_succ,List.getElem_toArray,List.getElem_cons_succ,List.getElem_cons_zero,List.getElem?_toArray,List.getElem?_cons_succ,List.getElem?_cons_zero,Option.getD_some]
  refine wpAnyH_done (by kernel_rfl) ?_ _;clear KS;have HDE:=oH (HIS.db lRx);obtain ⟨E1,hE⟩:∃ E1,E1=zZm D l ra:=⟨_,rfl⟩;have HDE1:=oH (HIS.db hra2);have HEQ1:=oH hE;rw [<-hE] at HA HDE1 ⊢;clear hE;have HLE1:=oH (HDE1.lit HOK.out);obtain ⟨wq,rfl⟩:=nWx wr8;have HUq:=HU;have HAq:=HA;have HDT:=oH (fun (W:World) (hW:GS wq b W)=>zCh (hW.sk HUq.sk) HOK.out (HDV.src HUq.sk.src hW.gr dCx) HDE.out);rw [HCS.out] at HDT;have HCM:=oH (fun (W:World) (hW:GS wq b W) (u:Value) (ds:List Dlt) (h1:Sl zOd W u ds) (h2:zAg S ds)=>let hU:=HUq.src hW.gr hW.src;zDa (t:=1000) HCS.out (hU.env HE.out) hU.inm HOK.out hU.db hU.ch HIS.out h1 h2 (by have:=HMI.out;omega) (by have:=HLT.out;omega) dCx);generalize (zZm D l l.length).length=nd at *;go_upto_region 9 with (fail)
  go_cut [11,12] (fun v11 v12 wc=>∃ (gg:Nat) (er fi2:Int) (A2:oAx) (c2:Nat) (A3:oAx) (c3:Nat) (D2:List Tbl) (l2:List Chn),v11 = .pointer (some ⟨gg,0,none⟩)/\v12 = .int .i64 er/\UH w wc b gs gh S #[.slice pa na ka,.slice pr nr kr,.slice pf nf kf,.int .i64 lb] fi (.slice Ab D.length cb) (.slice Ac l.length cc) D l/\Sl zOf wc (.slice Aa E1.length ca) E1/\Blk wc gg 37 [.int .i64 fi2,.slice A2 D2.length c2,.slice A3 l2.length c3]/\Sl zOf wc (.slice A2 D2.length c2) D2/\Sl zOc wc (.slice A3 l2.length c3) l2/\(er=0->fi=fi2/\D=D2/\zBj S fi D l2/\∃ c,l2=l++[c]))
  case first =>
   have KB:Hid (∀ W,GS wq b W->W.cell? ⟨gs,0,none⟩=some (.slice pa na ka)/\W.cell? ⟨gs,1,none⟩=some (.slice pr nr kr)/\W.cell? ⟨gs,2,none⟩=some (.slice pf nf kf)/\W.cell? ⟨gs,3,none⟩=some (.int .i64 lb)/\W.cell? ⟨gh,0,none⟩=some (.int .i64 fi)/\W.cell? ⟨gh,1,none⟩=some (.slice Ab D.length cb)/\W.cell? ⟨gh,2,none⟩=some (.slice Ac l.length cc)):=oH fun W hW=>let hU:=HUq.src hW.gr hW.src;⟨hU.sb.at_ (i:=0) rfl,hU.sb.at_ (i:=1) rfl,hU.sb.at_ (i:=2) rfl,hU.sb.at_ (i:=3) rfl,hU.hb.at_ (i:=0) rfl,hU.hb.at_ (i:=1) rfl,hU.hb.at_ (i:=2) rfl⟩
   have GSq:=oH (GS.refl HUq.sk.src);have GSx:=oH (GSq.all bRx.drew);refine wp_region_held_drew (S:=(fun w'=>w'.cell? ⟨gs,0,none⟩=some (.slice pa na ka)/\w'.cell? ⟨gs,1,none⟩=some (.slice pr nr kr)/\w'.cell? ⟨gs,2,none⟩=some (.slice pf nf kf)/\w'.cell? ⟨gs,3,none⟩=some (.int .i64 lb)/\w'.cell? ⟨gh,0,none⟩=some (.int .i64 fi)/\w'.cell? ⟨gh,1,none⟩=some (.slice Ab D.length cb)/\w'.cell? ⟨gh,2,none⟩=some (.slice Ac l.length cc))) (by kernel_rfl) (by exact KB.out _ GSx.out) (fun hHeld=>?_);refine tkH 0 ?_;refine tkH 1 ?_;refine tkH 2 ?_;refine tkH 3 ?_;refine tkH 4 ?_
   try simp only [Act.put,tkA,tkB,tkC]
   refine wpAnyH_ready (rs:=[5,11]) (by kernel_rfl) sMx ?_;refine AllReadyH.cons rfl (fun K hK=>?_) ?_
   ·clear hHeld
    go_simp
    (go_at_call 16;(with_reducible refine (HDT.out _ GSx.out).mono ?_);rintro e wd5 ⟨⟨x1,T⟩,u,rfl,hu,hx,hs,hg⟩)
    obtain ⟨rel,hrel,htk⟩:=hx.rel;have hrel:x1=(rel:Int):=hrel;subst hrel;obtain ⟨Au,cu,rfl, -⟩:=hu.form;have HX:=oH hx;have HYR:=oH hu;replace GSx:=oH (GSx.step hg hs);have H5S:=oH GSx.gr.size;clear hx htk hu hs hg;go_wp2_with fail;refine hK.out _ _ ?_ (fun hHeld=>?_)
    ·exact KB.out _ GSx.out
    clear hK K
    try simp only [Act.put,tkA,tkB,tkC]
    refine wpAnyH_ready (rs:=[6,11]) (by kernel_rfl) sMx ?_;refine AllReadyH.cons rfl (fun K hK=>?_) ?_
    ·clear hHeld
     go_simp
     have HSL:=oH (show Sl zOd (wd5.alloc (.cells #[.int .i64 (rel:Int),.slice Au T.length cu] 45)) (.slice (some ⟨wd5.heap.size,0,none⟩) 1 1) [((rel:Int),T)] from Sl.new (K:=zOd) sMx ⟨_,rfl,HYR.out⟩);replace GSx:=oH (GSx.all ((Below.refl wd5.heap.size wd5).alloc lRx (.cells #[.int .i64 (rel:Int),.slice Au T.length cu] 45)));refine hK.out _ _ ?_ (fun hHeld=>?_)
     ·exact KB.out _ GSx.out
     clear hK K
     try simp only [Act.put,tkA,tkB,tkC]
     refine wpAnyH_ready (rs:=[7,11]) (by kernel_rfl) sMx ?_;refine AllReadyH.cons rfl (fun K hK=>?_) ?_
     ·clear hHeld
      go_simp
      (go_at_call 17;(with_reducible refine (HCM.out _ GSx.out _ _ HSL.out (zAg.one HX.out)).mono ?_);intro e wd7 hr)
      obtain ⟨fi2,D2,l2,⟨vb2,vc2,rfl,hb2,hc2,hb⟩,hgood⟩:=hr.all;obtain ⟨A2,c2,rfl, -⟩:=hb2.form;obtain ⟨A3,c3,rfl, -⟩:=hc2.form;have HG2:=oH hb2;have HG3:=oH hc2;replace GSx:=oH (GSx.all hb);have GS7:=GSx
      have HGO:=oH (show zJj (zZm D l l.length) [((rel:Int),T)]=0->fi=fi2/\D=D2/\zBj S fi D l2/\∃ c,l2=l++[c] from fun h0=>by
       obtain ⟨e1,e2,e3⟩:=hgood h0;subst e1 e2 e3
       exact ⟨rfl,rfl,HIS.snoc (c:=((1000:Int),[((rel:Int),T)])) (by have:=HMI.out;omega) (by have:=HLT.out;show zOi l<=1000;omega) (show (1000:Int)<=1099511627776 by decide) (zAg.one HX.out) h0,_,rfl⟩)
      clear hr hb hb2 hc2 hgood;generalize zJj (zZm D l l.length) [((rel:Int),T)]=er at *;go_wp2_with fail;refine hK.out _ _ ?_ (fun hHeld=>?_)
      ·exact KB.out _ GSx.out
      clear hK K
      try simp only [Act.put,tkA,tkB,tkC]
      refine tkH 8 ?_
      try simp only [Act.put,List.setIfInBounds_toArray,List.set_cons_zero,List.set_cons_succ,List.getElem_toArray,List.getElem_cons_succ,List.getElem_cons_zero,List.getElem?_toArray,List.getElem?_cons_succ,List.getElem?_cons_zero,Option.getD_some]
      refine tkH 9 ?_
      try simp only [Act.put,List.setIfInBounds_toArray,List.set_cons_zero,List.set_cons_succ,List.getElem_toArray,List.getElem_cons_succ,List.getElem_cons_zero,List.getElem?_toArray,List.getElem?_cons_succ,List.getElem?_cons_zero,Option.getD_some]
      refine tkH 10 ?_
      try simp only [Act.put,List.setIfInBounds_toArray,List.set_cons_zero,List.set_cons_succ,List.getElem_toArray,List.getElem_cons_succ,List.getElem_cons_zero,List.getElem?_toArray,List.getElem?_cons_succ,List.getElem?_cons_zero,Option.getD_some]
      refine tkS 11 fun K hK=>?_
      go_simp
      have HXB:=oH (show Blk (wd7.alloc (.cells #[.int .i64 0,.slice none 0 0,.slice none 0 0] 37)) (wd7.heap.size) 37 [.int .i64 0,.slice none 0 0,.slice none 0 0] from Blk.new' sMx _ [_,_,_]);replace GSx:=oH (GSx.all ((Below.refl wd7.heap.size wd7).alloc lRx (.cells #[.int .i64 0,.slice none 0 0,.slice none 0 0] 37)));refine hK.out _ _ ?_ (fun hHeld=>?_)
      ·exact KB.out _ GSx.out
      clear hK K
      try simp only [Act.put,tkA,tkB,tkC]
      refine tkS 12 fun K hK=>?_
      go_simp
      replace GSx:=oH (GS7.all ((Below.refl wd7.heap.size wd7).alloc lRx (.cells #[.int .i64 fi2,.slice A2 D2.length c2,.slice A3 l2.length c3] 37)));have HXF:=oH (Blk.new wd7 37 [.int .i64 fi2,.slice A2 D2.length c2,.slice A3 l2.length c3]);have HG2F:=oH (HG2.below ((Below.refl wd7.heap.size wd7).alloc lRx (.cells #[.int .i64 fi2,.slice A2 D2.length c2,.slice A3 l2.length c3] 37)));have HG3F:=oH (HG3.below ((Below.refl wd7.heap.size wd7).alloc lRx (.cells #[.int .i64 fi2,.slice A2 D2.length c2,.slice A3 l2.length c3] 37)));refine hK.out _ _ ?_ (fun hHeld=>?_)
      ·exact KB.out _ GSx.out
      clear hK K
      try simp only [Act.put,tkA,tkB,tkC]
      refine tkH 13 ?_
      try simp only [Act.put,List.setIfInBounds_toArray,List.set_cons_zero,List.set_cons_succ,List.getElem_toArray,List.getElem_cons_succ,List.getElem_cons_zero,List.getElem?_toArray,List.getElem?_cons_succ,List.getElem?_cons_zero,Option.getD_some]
      refine wpAnyH_done (by kernel_rfl) ?_ _;go_wp2_with fail
      go_meet
      exact ⟨_,er,fi2,A2,c2,A3,c3,D2,l2,rfl,rfl,HUq.src GSx.gr GSx.src,HAq.src HUq.sk.src GSx.gr dCx,HXF.out,HG2F.out,HG3F.out,HGO.out⟩
     refine AllReadyH.cons rfl (fun K hK=>?_) AllReadyH.nil
     go_simp
     have HXB:=oH (show Blk ((wd5.alloc (.cells #[.int .i64 (rel:Int),.slice Au T.length cu] 45)).alloc (.cells #[.int .i64 0,.slice none 0 0,.slice none 0 0] 37)) (wd5.heap.size+1) 37 [.int .i64 0,.slice none 0 0,.slice none 0 0] from Blk.new' sMx _ [_,_,_]);replace GSx:=oH (GSx.all ((Below.refl (wd5.alloc (.cells #[.int .i64 (rel:Int),.slice Au T.length cu] 45)).heap.size (wd5.alloc (.cells #[.int .i64 (rel:Int),.slice Au T.length cu] 45))).alloc lRx (.cells #[.int .i64 0,.slice none 0 0,.slice none 0 0] 37)));replace HSL:=oH (HSL.below ((Below.refl (wd5.alloc (.cells #[.int .i64 (rel:Int),.slice Au T.length cu] 45)).heap.size (wd5.alloc (.cells #[.int .i64 (rel:Int),.slice Au T.length cu] 45))).alloc lRx (.cells #[.int .i64 0,.slice none 0 0,.slice none 0 0] 37)));refine hK.out _ _ ?_ (fun hHeld=>?_)
     ·exact KB.out _ GSx.out
     clear hK K
     try simp only [Act.put,tkA,tkB,tkC]
     refine tkS 7 fun K hK=>?_
     go_simp
     (go_at_call 17;(with_reducible refine (HCM.out _ GSx.out _ _ HSL.out (zAg.one HX.out)).mono ?_);intro e wd7 hr)
     obtain ⟨fi2,D2,l2,⟨vb2,vc2,rfl,hb2,hc2,hb⟩,hgood⟩:=hr.all;obtain ⟨A2,c2,rfl, -⟩:=hb2.form;obtain ⟨A3,c3,rfl, -⟩:=hc2.form;have HG2:=oH hb2;have HG3:=oH hc2;replace GSx:=oH (GSx.all hb);have GS7:=GSx;replace HXB:=oH (HXB.below hb);have r0:=HXB.at_ (i:=0) rfl;have f0:=HXB.fr 0;have r1:=HXB.at_ (i:=1) rfl;have f1:=HXB.fr 1;have r2:=HXB.at_ (i:=2) rfl;have f2:=HXB.fr 2;have rl:=HXB.lt
     have HGO:=oH (show zJj (zZm D l l.length) [((rel:Int),T)]=0->fi=fi2/\D=D2/\zBj S fi D l2/\∃ c,l2=l++[c] from fun h0=>by
      obtain ⟨e1,e2,e3⟩:=hgood h0;subst e1 e2 e3
      exact ⟨rfl,rfl,HIS.snoc (c:=((1000:Int),[((rel:Int),T)])) (by have:=HMI.out;omega) (by have:=HLT.out;show zOi l<=1000;omega) (show (1000:Int)<=1099511627776 by decide) (zAg.one HX.out) h0,_,rfl⟩)
     clear hr hb hb2 hc2 hgood;generalize zJj (zZm D l l.length) [((rel:Int),T)]=er at *;go_wp2_with fail;refine hK.out _ _ ?_ (fun hHeld=>?_)
     ·exact KB.out _ GSx.out
     clear hK K
     try simp only [Act.put,tkA,tkB,tkC]
     refine tkH 8 ?_
     try simp only [Act.put,List.setIfInBounds_toArray,List.set_cons_zero,List.set_cons_succ,List.getElem_toArray,List.getElem_cons_succ,List.getElem_cons_zero,List.getElem?_toArray,List.getElem?_cons_succ,List.getElem?_cons_zero,Option.getD_some]
     refine tkH 9 ?_
     try simp only [Act.put,List.setIfInBounds_toArray,List.set_cons_zero,List.set_cons_succ,List.getElem_toArray,List.getElem_cons_succ,List.getElem_cons_zero,List.getElem?_toArray,List.getElem?_cons_succ,List.getElem?_cons_zero,Option.getD_some]
     refine tkH 10 ?_
     try simp only [Act.put,List.setIfInBounds_toArray,List.set_cons_zero,List.set_cons_succ,List.getElem_toArray,List.getElem_cons_succ,List.getElem_cons_zero,List.getElem?_toArray,List.getElem?_cons_succ,List.getElem?_cons_zero,Option.getD_some]
     refine tkS 12 fun K hK=>?_
     go_simp
     have H30:=oH (zIc HXB.out (.int .i64 fi2) (.slice A2 D2.length c2) (.slice A3 l2.length c3));replace GSx:=oH (GSx.bel (H30.2.2 wq.heap.size (by have:=H5S.out;omega)));have HXF:=oH H30.1;have HG2F:=oH (HG2.kp H30.2.1 dCx);have HG3F:=oH (HG3.kp H30.2.1 dCx);refine hK.out _ _ ?_ (fun hHeld=>?_)
     ·exact KB.out _ GSx.out
     clear hK K
     try simp only [Act.put,tkA,tkB,tkC]
     refine tkH 13 ?_
     try simp only [Act.put,List.setIfInBounds_toArray,List.set_cons_zero,List.set_cons_succ,List.getElem_toArray,List.getElem_cons_succ,List.getElem_cons_zero,List.getElem?_toArray,List.getElem?_cons_succ,List.getElem?_cons_zero,Option.getD_some]
     refine wpAnyH_done (by kernel_rfl) ?_ _;go_wp2_with fail
     go_meet
     exact ⟨_,er,fi2,A2,c2,A3,c3,D2,l2,rfl,rfl,HUq.src GSx.gr GSx.src,HAq.src HUq.sk.src GSx.gr dCx,HXF.out,HG2F.out,HG3F.out,HGO.out⟩
    refine AllReadyH.cons rfl (fun K hK=>?_) AllReadyH.nil
    go_simp
    have HXB:=oH (show Blk (wd5.alloc (.cells #[.int .i64 0,.slice none 0 0,.slice none 0 0] 37)) (wd5.heap.size) 37 [.int .i64 0,.slice none 0 0,.slice none 0 0] from Blk.new' sMx _ [_,_,_]);replace GSx:=oH (GSx.all ((Below.refl wd5.heap.size wd5).alloc lRx (.cells #[.int .i64 0,.slice none 0 0,.slice none 0 0] 37)));replace HYR:=oH (HYR.below ((Below.refl wd5.heap.size wd5).alloc lRx (.cells #[.int .i64 0,.slice none 0 0,.slice none 0 0] 37)));refine hK.out _ _ ?_ (fun hHeld=>?_)
    ·exact KB.out _ GSx.out
    clear hK K
    try simp only [Act.put,tkA,tkB,tkC]
    refine tkS 6 fun K hK=>?_
    go_simp
    have HSL:=oH (show Sl zOd ((wd5.alloc (.cells #[.int .i64 0,.slice none 0 0,.slice none 0 0] 37)).alloc (.cells #[.int .i64 (rel:Int),.slice Au T.length cu] 45)) (.slice (some ⟨wd5.heap.size+1,0,none⟩) 1 1) [((rel:Int),T)] from Sl.new (K:=zOd) sMx ⟨_,rfl,HYR.out⟩);replace HXB:=oH (HXB.below ((Below.refl (wd5.alloc (.cells #[.int .i64 0,.slice none 0 0,.slice none 0 0] 37)).heap.size (wd5.alloc (.cells #[.int .i64 0,.slice none 0 0,.slice none 0 0] 37))).alloc lRx (.cells #[.int .i64 (rel:Int),.slice Au T.length cu] 45)));replace GSx:=oH (GSx.all ((Below.refl (wd5.alloc (.cells #[.int .i64 0,.slice none 0 0,.slice none 0 0] 37)).heap.size (wd5.alloc (.cells #[.int .i64 0,.slice none 0 0,.slice none 0 0] 37))).alloc lRx (.cells #[.int .i64 (rel:Int),.slice Au T.length cu] 45)));refine hK.out _ _ ?_ (fun hHeld=>?_)
    ·exact KB.out _ GSx.out
    clear hK K
    try simp only [Act.put,tkA,tkB,tkC]
    refine tkS 7 fun K hK=>?_
    go_simp
    (go_at_call 17;(with_reducible refine (HCM.out _ GSx.out _ _ HSL.out (zAg.one HX.out)).mono ?_);intro e wd7 hr)
    obtain ⟨fi2,D2,l2,⟨vb2,vc2,rfl,hb2,hc2,hb⟩,hgood⟩:=hr.all;obtain ⟨A2,c2,rfl, -⟩:=hb2.form;obtain ⟨A3,c3,rfl, -⟩:=hc2.form;have HG2:=oH hb2;have HG3:=oH hc2;replace GSx:=oH (GSx.all hb);have GS7:=GSx;replace HXB:=oH (HXB.below hb);have r0:=HXB.at_ (i:=0) rfl;have f0:=HXB.fr 0;have r1:=HXB.at_ (i:=1) rfl;have f1:=HXB.fr 1;have r2:=HXB.at_ (i:=2) rfl;have f2:=HXB.fr 2;have rl:=HXB.lt
    have HGO:=oH (show zJj (zZm D l l.length) [((rel:Int),T)]=0->fi=fi2/\D=D2/\zBj S fi D l2/\∃ c,l2=l++[c] from fun h0=>by
     obtain ⟨e1,e2,e3⟩:=hgood h0;subst e1 e2 e3
     exact ⟨rfl,rfl,HIS.snoc (c:=((1000:Int),[((rel:Int),T)])) (by have:=HMI.out;omega) (by have:=HLT.out;show zOi l<=1000;omega) (show (1000:Int)<=1099511627776 by decide) (zAg.one HX.out) h0,_,rfl⟩)
    clear hr hb hb2 hc2 hgood;generalize zJj (zZm D l l.length) [((rel:Int),T)]=er at *;go_wp2_with fail;refine hK.out _ _ ?_ (fun hHeld=>?_)
    ·exact KB.out _ GSx.out
    clear hK K
    try simp only [Act.put,tkA,tkB,tkC]
    refine tkH 8 ?_
    try simp only [Act.put,List.setIfInBounds_toArray,List.set_cons_zero,List.set_cons_succ,List.getElem_toArray,List.getElem_cons_succ,List.getElem_cons_zero,List.getElem?_toArray,List.getElem?_cons_succ,List.getElem?_cons_zero,Option.getD_some]
    refine tkH 9 ?_
    try simp only [Act.put,List.setIfInBounds_toArray,List.set_cons_zero,List.set_cons_succ,List.getElem_toArray,List.getElem_cons_succ,List.getElem_cons_zero,List.getElem?_toArray,List.getElem?_cons_succ,List.getElem?_cons_zero,Option.getD_some]
    refine tkH 10 ?_
    try simp only [Act.put,List.setIfInBounds_toArray,List.set_cons_zero,List.set_cons_succ,List.getElem_toArray,List.getElem_cons_succ,List.getElem_cons_zero,List.getElem?_toArray,List.getElem?_cons_succ,List.getElem?_cons_zero,Option.getD_some]
    refine tkS 12 fun K hK=>?_
    go_simp
    have H30:=oH (zIc HXB.out (.int .i64 fi2) (.slice A2 D2.length c2) (.slice A3 l2.length c3));replace GSx:=oH (GSx.bel (H30.2.2 wq.heap.size (by have:=H5S.out;omega)));have HXF:=oH H30.1;have HG2F:=oH (HG2.kp H30.2.1 dCx);have HG3F:=oH (HG3.kp H30.2.1 dCx);refine hK.out _ _ ?_ (fun hHeld=>?_)
    ·exact KB.out _ GSx.out
    clear hK K
    try simp only [Act.put,tkA,tkB,tkC]
    refine tkH 13 ?_
    try simp only [Act.put,List.setIfInBounds_toArray,List.set_cons_zero,List.set_cons_succ,List.getElem_toArray,List.getElem_cons_succ,List.getElem_cons_zero,List.getElem?_toArray,List.getElem?_cons_succ,List.getElem?_cons_zero,Option.getD_some]
    refine wpAnyH_done (by kernel_rfl) ?_ _;go_wp2_with fail
    go_meet
    exact ⟨_,er,fi2,A2,c2,A3,c3,D2,l2,rfl,rfl,HUq.src GSx.gr GSx.src,HAq.src HUq.sk.src GSx.gr dCx,HXF.out,HG2F.out,HG3F.out,HGO.out⟩
   refine AllReadyH.cons rfl (fun K hK=>?_) AllReadyH.nil
   go_simp
   have HXB:=oH (show Blk (wq.alloc (.cells #[.int .i64 0,.slice none 0 0,.slice none 0 0] 37)).drew wq.heap.size 37 [.int .i64 0,.slice none 0 0,.slice none 0 0] from (Blk.new' rfl _ [_,_,_]).drew);replace GSx:=oH (GSq.all ((Below.refl wq.heap.size wq).alloc lRx (.cells #[.int .i64 0,.slice none 0 0,.slice none 0 0] 37)).drew);refine hK.out _ _ ?_ (fun hHeld=>?_)
   ·exact KB.out _ GSx.out
   clear hK K
   try simp only [Act.put,tkA,tkB,tkC]
   refine tkS 5 fun K hK=>?_
   go_simp
   (go_at_call 16;(with_reducible refine (HDT.out _ GSx.out).mono ?_);rintro e wd5 ⟨⟨x1,T⟩,u,rfl,hu,hx,hs,hg⟩)
   obtain ⟨rel,hrel,htk⟩:=hx.rel;have hrel:x1=(rel:Int):=hrel;subst hrel;obtain ⟨Au,cu,rfl, -⟩:=hu.form;have HX:=oH hx;have HYR:=oH hu;replace HXB:=oH (HXB.src hg (by have:=HUq.sk.src.lt;omega));replace GSx:=oH (GSx.step hg hs);have H5S:=oH GSx.gr.size;clear hx htk hu hs hg;go_wp2_with fail;refine hK.out _ _ ?_ (fun hHeld=>?_)
   ·exact KB.out _ GSx.out
   clear hK K
   try simp only [Act.put,tkA,tkB,tkC]
   refine tkS 6 fun K hK=>?_
   go_simp
   have HSL:=oH (show Sl zOd (wd5.alloc (.cells #[.int .i64 (rel:Int),.slice Au T.length cu] 45)) (.slice (some ⟨wd5.heap.size,0,none⟩) 1 1) [((rel:Int),T)] from Sl.new (K:=zOd) sMx ⟨_,rfl,HYR.out⟩);replace HXB:=oH (HXB.below ((Below.refl wd5.heap.size wd5).alloc lRx (.cells #[.int .i64 (rel:Int),.slice Au T.length cu] 45)));replace GSx:=oH (GSx.all ((Below.refl wd5.heap.size wd5).alloc lRx (.cells #[.int .i64 (rel:Int),.slice Au T.length cu] 45)));refine hK.out _ _ ?_ (fun hHeld=>?_)
   ·exact KB.out _ GSx.out
   clear hK K
   try simp only [Act.put,tkA,tkB,tkC]
   refine tkS 7 fun K hK=>?_
   go_simp
   (go_at_call 17;(with_reducible refine (HCM.out _ GSx.out _ _ HSL.out (zAg.one HX.out)).mono ?_);intro e wd7 hr)
   obtain ⟨fi2,D2,l2,⟨vb2,vc2,rfl,hb2,hc2,hb⟩,hgood⟩:=hr.all;obtain ⟨A2,c2,rfl, -⟩:=hb2.form;obtain ⟨A3,c3,rfl, -⟩:=hc2.form;have HG2:=oH hb2;have HG3:=oH hc2;replace GSx:=oH (GSx.all hb);have GS7:=GSx;replace HXB:=oH (HXB.below hb);have r0:=HXB.at_ (i:=0) rfl;have f0:=HXB.fr 0;have r1:=HXB.at_ (i:=1) rfl;have f1:=HXB.fr 1;have r2:=HXB.at_ (i:=2) rfl;have f2:=HXB.fr 2;have rl:=HXB.lt
   have HGO:=oH (show zJj (zZm D l l.length) [((rel:Int),T)]=0->fi=fi2/\D=D2/\zBj S fi D l2/\∃ c,l2=l++[c] from fun h0=>by
    obtain ⟨e1,e2,e3⟩:=hgood h0;subst e1 e2 e3
    exact ⟨rfl,rfl,HIS.snoc (c:=((1000:Int),[((rel:Int),T)])) (by have:=HMI.out;omega) (by have:=HLT.out;show zOi l<=1000;omega) (show (1000:Int)<=1099511627776 by decide) (zAg.one HX.out) h0,_,rfl⟩)
   clear hr hb hb2 hc2 hgood;generalize zJj (zZm D l l.length) [((rel:Int),T)]=er at *;go_wp2_with fail;refine hK.out _ _ ?_ (fun hHeld=>?_)
   ·exact KB.out _ GSx.out
   clear hK K
   try simp only [Act.put,tkA,tkB,tkC]
   refine tkH 8 ?_
   try simp only [Act.put,List.setIfInBounds_toArray,List.set_cons_zero,List.set_cons_succ,List.getElem_toArray,List.getElem_cons_succ,List.getElem_cons_zero,List.getElem?_toArray,List.getElem?_cons_succ,List.getElem?_cons_zero,Option.getD_some]
   refine tkH 9 ?_
   try simp only [Act.put,List.setIfInBounds_toArray,List.set_cons_zero,List.set_cons_succ,List.getElem_toArray,List.getElem_cons_succ,List.getElem_cons_zero,List.getElem?_toArray,List.getElem?_cons_succ,List.getElem?_cons_zero,Option.getD_some]
   refine tkH 10 ?_
   try simp only [Act.put,List.setIfInBounds_toArray,List.set_cons_zero,List.set_cons_succ,List.getElem_toArray,List.getElem_cons_succ,List.getElem_cons_zero,List.getElem?_toArray,List.getElem?_cons_succ,List.getElem?_cons_zero,Option.getD_some]
   refine tkS 12 fun K hK=>?_
   go_simp
   have H30:=oH (zIc HXB.out (.int .i64 fi2) (.slice A2 D2.length c2) (.slice A3 l2.length c3));replace GSx:=oH (GSx.bel (H30.2.2 wq.heap.size lRx));have HXF:=oH H30.1;have HG2F:=oH (HG2.kp H30.2.1 dCx);have HG3F:=oH (HG3.kp H30.2.1 dCx);refine hK.out _ _ ?_ (fun hHeld=>?_)
   ·exact KB.out _ GSx.out
   clear hK K
   try simp only [Act.put,tkA,tkB,tkC]
   refine tkH 13 ?_
   try simp only [Act.put,List.setIfInBounds_toArray,List.set_cons_zero,List.set_cons_succ,List.getElem_toArray,List.getElem_cons_succ,List.getElem_cons_zero,List.getElem?_toArray,List.getElem?_cons_succ,List.getElem?_cons_zero,Option.getD_some]
   refine wpAnyH_done (by kernel_rfl) ?_ _;go_wp2_with fail
   go_meet
   exact ⟨_,er,fi2,A2,c2,A3,c3,D2,l2,rfl,rfl,HUq.src GSx.gr GSx.src,HAq.src HUq.sk.src GSx.gr dCx,HXF.out,HG2F.out,HG3F.out,HGO.out⟩
  case rest =>
   obtain ⟨gg,er,fi2,A2,c2,A3,c3,D2,l2,rfl,rfl,hu,ha,hgb,hg2,hg3,hgo⟩:=hcut;replace HU:=oH hu;replace HA:=oH ha;have HGB:=oH hgb;have HG2:=oH hg2;have HG3:=oH hg3;have HGO:=oH hgo;clear hu ha hgb hg2 hg3 hgo HUq HAq HDV HDT HCM
   rcases Classical.em (er=0) with h0|h0
   ·obtain ⟨rfl,rfl,hI2,c9,hl2⟩:=HGO.out h0;have HI2:=oH hI2;have HLL:=oH (show l2.length=l.length+1 by rw [hl2];simp);have HVE:=oH (show zZm D l2 ra=E1 by rw [hl2,zZn hra2];exact HEQ1.symm);clear hl2 HGO hI2;subst h0;have k0:=HU.sb.at_ (i:=0) rfl;have k1:=HU.sb.at_ (i:=1) rfl;have k2:=HU.sb.at_ (i:=2) rfl;have k3:=HU.sb.at_ (i:=3) rfl;have kl:=HU.sb.lt;have m0:=HGB.at_ (i:=0) rfl;have m1:=HGB.at_ (i:=1) rfl;have m2:=HGB.at_ (i:=2) rfl;have ml:=HGB.lt;go_wp2_with fail
    with_reducible refine (zCq HCS.out (HU.out.env HE.out) HU.out.inm HOK.out HG2.out HG3.out HI2.out (by have:=HLL.out;omega)).mono ?_
    rintro e w5 ⟨vb9,rfl,hd,hb⟩;clear k0 k1 k2 k3 kl m0 m1 m2 ml;replace HU:=oH (HU.below hb);replace HA:=oH (HA.below hb);replace HGB:=oH (HGB.below hb);replace HG2:=oH (HG2.below hb);replace HG3:=oH (HG3.below hb);clear hb;rw [HVE.out] at hd;obtain ⟨A9,c9',rfl, -⟩:=hd.form;have H9:=oH hd;clear hd;go_wp2_with fail;have hw1:IntKind.i64.wrap (fi+(l.length:Int)+1)=fi+(l.length:Int)+1:=IntWalk.i64_in _ oMx
    have hd1:fi+(l2.length:Int)=fi+(l.length:Int)+1:=by have:=HLL.out;omega
    replace HU:=oH (HU.below bRx.drew);replace HA:=oH (HA.below bRx.drew);replace HGB:=oH (HGB.below bRx.drew);replace HG2:=oH (HG2.below bRx.drew);replace HG3:=oH (HG3.below bRx.drew);replace H9:=oH (H9.below bRx.drew);have KS:Hid (w5.drew.cell? ⟨gg,0,none⟩=some (.int .i64 fi)/\w5.drew.cell? ⟨gg,1,none⟩=some (.slice A2 D.length c2)/\w5.drew.cell? ⟨gg,2,none⟩=some (.slice A3 l2.length c3)/\w5.drew.cell? ⟨gh,0,none⟩=some (.int .i64 fi)/\w5.drew.cell? ⟨gh,1,none⟩=some (.slice Ab D.length cb)/\w5.drew.cell? ⟨gh,2,none⟩=some (.slice Ac l.length cc)):=oH ⟨HGB.at_ (i:=0) rfl,HGB.at_ (i:=1) rfl,HGB.at_ (i:=2) rfl,HU.hb.at_ (i:=0) rfl,HU.hb.at_ (i:=1) rfl,HU.hb.at_ (i:=2) rfl⟩;refine wp_region_held_drew (S:=(fun w'=>w'.cell? ⟨gg,0,none⟩=some (.int .i64 fi)/\w'.cell? ⟨gg,1,none⟩=some (.slice A2 D.length c2)/\w'.cell? ⟨gg,2,none⟩=some (.slice A3 l2.length c3)/\w'.cell? ⟨gh,0,none⟩=some (.int .i64 fi)/\w'.cell? ⟨gh,1,none⟩=some (.slice Ab D.length cb)/\w'.cell? ⟨gh,2,none⟩=some (.slice Ac l.length cc))) (by kernel_rfl) (by exact KS.out) (fun hHeld=>?_)
    refine tkH 0 ?_;refine tkH 1 ?_;refine tkH 2 ?_;refine tkG 3 ?_;refine tkG 4 ?_
    try simp only [Act.put,tkA,tkB,tkC]
    refine tkS 5 fun K hK=>?_
    go_simp
    (go_at_call 19;(with_reducible refine (zEm HA.out H9.out HLE1.out).mono ?_);rintro e wr12 ⟨rfl,hb⟩)
    replace HU:=oH (HU.below hb);replace HA:=oH (HA.below hb);replace HGB:=oH (HGB.below hb);replace HG2:=oH (HG2.below hb);replace HG3:=oH (HG3.below hb);replace H9:=oH (H9.below hb);clear hb;replace KS:Hid (wr12.cell? ⟨gg,0,none⟩=some (.int .i64 fi)/\wr12.cell? ⟨gg,1,none⟩=some (.slice A2 D.length c2)/\wr12.cell? ⟨gg,2,none⟩=some (.slice A3 l2.length c3)/\wr12.cell? ⟨gh,0,none⟩=some (.int .i64 fi)/\wr12.cell? ⟨gh,1,none⟩=some (.slice Ab D.length cb)/\wr12.cell? ⟨gh,2,none⟩=some (.slice Ac l.length cc)):=oH ⟨HGB.at_ (i:=0) rfl,HGB.at_ (i:=1) rfl,HGB.at_ (i:=2) rfl,HU.hb.at_ (i:=0) rfl,HU.hb.at_ (i:=1) rfl,HU.hb.at_ (i:=2) rfl⟩;go_wp2_with fail;refine hK.out _ _ ?_ (fun hHeld=>?_)
    ·exact KS.out
    clear hK K
    try simp only [Act.put,tkA,tkB,tkC]
    refine tkG 6 ?_;refine tkH 7 ?_;refine tkH 8 ?_
    try simp only [Act.put,List.setIfInBounds_toArray,List.set_cons_zero,List.set_cons_succ,List.getElem_toArray,List.getElem_cons_succ,List.getElem_cons_zero,List.getElem?_toArray,List.getElem?_cons_succ,List.getElem?_cons_zero,Option.getD_some]
    refine tkG 9 ?_
    try simp only [Act.put,List.setIfInBounds_toArray,List.set_cons_zero,List.set_cons_succ,List.getElem_toArray,List.getElem_cons_succ,List.getElem_cons_zero,List.getElem?_toArray,List.getElem?_cons_succ,List.getElem?_cons_zero,Option.getD_some]
    refine tkG 11 ?_
    try simp only [Act.put,List.setIfInBounds_toArray,List.set_cons_zero,List.set_cons_succ,List.getElem_toArray,List.getElem_cons_succ,List.getElem_cons_zero,List.getElem?_toArray,List.getElem?_cons_succ,List.getElem?_cons_zero,Option.getD_some]
    refine tkS 10 fun K hK=>?_
    go_simp
    (go_at_call 15;(with_reducible refine (zDg (fi:=fi) (ub := .slice A2 D.length c2) (A:=A3) (n:=l2.length) (c:=c3) (by have:=HMI.out;omega) (by have:=HMI.out;omega) (by have:=HMI.out;have:=HLL.out;omega)).mono ?_);rintro e wr12 ⟨rfl,hb⟩)
    replace HU:=oH (HU.below hb);replace HA:=oH (HA.below hb);replace HGB:=oH (HGB.below hb);replace HG2:=oH (HG2.below hb);replace HG3:=oH (HG3.below hb);replace H9:=oH (H9.below hb);clear hb;replace KS:Hid (wr12.cell? ⟨gg,0,none⟩=some (.int .i64 fi)/\wr12.cell? ⟨gg,1,none⟩=some (.slice A2 D.length c2)/\wr12.cell? ⟨gg,2,none⟩=some (.slice A3 l2.length c3)/\wr12.cell? ⟨gh,0,none⟩=some (.int .i64 fi)/\wr12.cell? ⟨gh,1,none⟩=some (.slice Ab D.length cb)/\wr12.cell? ⟨gh,2,none⟩=some (.slice Ac l.length cc)):=oH ⟨HGB.at_ (i:=0) rfl,HGB.at_ (i:=1) rfl,HGB.at_ (i:=2) rfl,HU.hb.at_ (i:=0) rfl,HU.hb.at_ (i:=1) rfl,HU.hb.at_ (i:=2) rfl⟩;go_wp2_with fail;refine hK.out _ _ ?_ (fun hHeld=>?_)
    ·exact KS.out
    clear hK K
    try simp only [Act.put,tkA,tkB,tkC]
    refine tkS 12 fun K hK=>?_
    go_simp
    (go_at_call 15;(with_reducible refine (zDg (fi:=fi) (ub := .slice Ab D.length cb) (A:=Ac) (n:=l.length) (c:=cc) (by have:=HMI.out;omega) (by have:=HMI.out;omega) (by have:=HMI.out;omega)).mono ?_);rintro e wr12 ⟨rfl,hb⟩)
    replace HU:=oH (HU.below hb);replace HA:=oH (HA.below hb);replace HGB:=oH (HGB.below hb);replace HG2:=oH (HG2.below hb);replace HG3:=oH (HG3.below hb);replace H9:=oH (H9.below hb);clear hb;replace KS:Hid (wr12.cell? ⟨gg,0,none⟩=some (.int .i64 fi)/\wr12.cell? ⟨gg,1,none⟩=some (.slice A2 D.length c2)/\wr12.cell? ⟨gg,2,none⟩=some (.slice A3 l2.length c3)/\wr12.cell? ⟨gh,0,none⟩=some (.int .i64 fi)/\wr12.cell? ⟨gh,1,none⟩=some (.slice Ab D.length cb)/\wr12.cell? ⟨gh,2,none⟩=some (.slice Ac l.length cc)):=oH ⟨HGB.at_ (i:=0) rfl,HGB.at_ (i:=1) rfl,HGB.at_ (i:=2) rfl,HU.hb.at_ (i:=0) rfl,HU.hb.at_ (i:=1) rfl,HU.hb.at_ (i:=2) rfl⟩;go_wp2_with fail;refine hK.out _ _ ?_ (fun hHeld=>?_)
    ·exact KS.out
    clear hK K
    try simp only [Act.put,tkA,tkB,tkC]
    refine tkG 13 ?_
    try simp only [Act.put,List.setIfInBounds_toArray,List.set_cons_zero,List.set_cons_succ,List.getElem_toArray,List.getElem_cons_succ,List.getElem_cons_zero,List.getElem?_toArray,List.getElem?_cons_succ,List.getElem?_cons_zero,Option.getD_some]
    refine tkG 14 ?_
    try simp only [Act.put,List.setIfInBounds_toArray,List.set_cons_zero,List.set_cons_succ,List.getElem_toArray,List.getElem_cons_succ,List.getElem_cons_zero,List.getElem?_toArray,List.getElem?_cons_succ,List.getElem?_cons_zero,Option.getD_some]
    refine tkH 15 ?_
    try simp only [Act.put,List.setIfInBounds_toArray,List.set_cons_zero,List.set_cons_succ,List.getElem_toArray,List.getElem_cons_succ,List.getElem_cons_zero,List.getElem?_toArray,List.getElem?_cons_succ,List.getElem?_cons_zero,Option.getD_some]
    refine wpAnyH_done (by kernel_rfl) ?_ _;clear KS;clear hd1 hw1 H9 HG2 HG3 HGB HLL HI2 HVE;obtain ⟨wJ,rfl⟩:=nWx wr12;go_upto_region 14 with (fail);have HIC:=oH (HIS.cut hra2 oMx);have HCP:=oH (zDc HCS.out (HU.env HE.out) HU.inm HOK.out HU.db HU.ch HIS.out hra2);have HVC:=oH (fun k=>zZp (D:=D) (l:=l) (i:=ra) (k:=k));have HLC:=oH (show (l.drop ra).length=l.length-ra from List.length_drop);rw [<-HEQ1.out] at HIC HCP HVC;generalize l.drop ra=lc at *;have k0:=HU.sb.at_ (i:=0) rfl;have k1:=HU.sb.at_ (i:=1) rfl;have k2:=HU.sb.at_ (i:=2) rfl;have k3:=HU.sb.at_ (i:=3) rfl;have kl:=HU.sb.lt;have g0:=HU.hb.at_ (i:=0) rfl;have g1:=HU.hb.at_ (i:=1) rfl;have g2:=HU.hb.at_ (i:=2) rfl;have gl:=HU.hb.lt;go_wp2_with fail
    with_reducible refine (HCP.out).mono ?_
    rintro e w6 ⟨vb5,vc5,rfl,hb5,hc5,hb⟩;clear k0 k1 k2 k3 kl g0 g1 g2 gl;replace HU:=oH (HU.below hb);replace HA:=oH (HA.below hb);clear hb;obtain ⟨A5,c5,rfl, -⟩:=hb5.form;obtain ⟨A6,c6,rfl, -⟩:=hc5.form;have HK5:=oH hb5;have HK6:=oH hc5;clear hb5 hc5 HCP;have k0:=HU.sb.at_ (i:=0) rfl;have k1:=HU.sb.at_ (i:=1) rfl;have k2:=HU.sb.at_ (i:=2) rfl;have k3:=HU.sb.at_ (i:=3) rfl;have kl:=HU.sb.lt;have g0:=HU.hb.at_ (i:=0) rfl;have g1:=HU.hb.at_ (i:=1) rfl;have g2:=HU.hb.at_ (i:=2) rfl;have gl:=HU.hb.lt;have HKB:=oH (show Blk (w6.alloc (.cells #[.int .i64 (fi+(ra:Int)),.slice A5 E1.length c5,.slice A6 lc.length c6] 37)) w6.heap.size 37 [.int .i64 (fi+(ra:Int)),.slice A5 E1.length c5,.slice A6 lc.length c6] from Blk.new w6 _ [_,_,_]);replace HU:=oH (HU.below ((Below.refl w6.heap.size w6).alloc lRx (.cells #[.int .i64 (fi+(ra:Int)),.slice A5 E1.length c5,.slice A6 lc.length c6] 37)));replace HA:=oH (HA.below ((Below.refl w6.heap.size w6).alloc lRx (.cells #[.int .i64 (fi+(ra:Int)),.slice A5 E1.length c5,.slice A6 lc.length c6] 37)))
    replace HK5:=oH (HK5.below ((Below.refl w6.heap.size w6).alloc lRx (.cells #[.int .i64 (fi+(ra:Int)),.slice A5 E1.length c5,.slice A6 lc.length c6] 37)));replace HK6:=oH (HK6.below ((Below.refl w6.heap.size w6).alloc lRx (.cells #[.int .i64 (fi+(ra:Int)),.slice A5 E1.length c5,.slice A6 lc.length c6] 37)));go_upto_region 15 with (fail);generalize w6.alloc (.cells #[.int .i64 (fi+(ra:Int)),.slice A5 E1.length c5,.slice A6 lc.length c6] 37)=w7 at *;generalize w6.heap.size=gq at *;clear k0 k1 k2 k3 kl g0 g1 g2 gl;have g0:=HU.hb.at_ (i:=0) rfl;have g1:=HU.hb.at_ (i:=1) rfl;have g2:=HU.hb.at_ (i:=2) rfl;have gl:=HU.hb.lt;go_wp2_with fail;clear g0 g1 g2 gl
    go_loopw [17] (fun iv wr=>∃ i:Nat,iv = .int .i64 (fi+(i:Int))/\i<=l.length+1/\UH w wr b gs gh S #[.slice pa na ka,.slice pr nr kr,.slice pf nf kf,.int .i64 lb] fi (.slice Ab D.length cb) (.slice Ac l.length cc) D l/\Sl zOf wr (.slice Aa E1.length ca) E1/\Sl zOf wr (.slice A5 E1.length c5) E1/\Sl zOc wr (.slice A6 lc.length c6) lc/\Blk wr gq 37 [.int .i64 (fi+(ra:Int)),.slice A5 E1.length c5,.slice A6 lc.length c6]) (fun iv _=>(fi+l.length+1-intOf iv).toNat)
    ·exact ⟨0,by simp,oLx,HU.out,HA.out,HK5.out,HK6.out,HKB.out⟩
    obtain ⟨i,rfl,hi,hu,ha,h5,h6,hkb⟩:=hrel;obtain ⟨wi,rfl⟩:=nWx wr;replace HU:=oH hu;replace HA:=oH ha;replace HK5:=oH h5;replace HK6:=oH h6;replace HKB:=oH hkb;clear hu ha h5 h6 hkb;have g0:=HU.hb.at_ (i:=0) rfl;have g1:=HU.hb.at_ (i:=1) rfl;have g2:=HU.hb.at_ (i:=2) rfl;have gl:=HU.hb.lt;go_wp2_with fail
    with_reducible refine (zDg (fi:=fi) (ub := .slice Ab D.length cb) (A:=Ac) (n:=l.length) (c:=cc) (by have:=HMI.out;omega) (by have:=HMI.out;omega) (by have:=HMI.out;omega)).mono ?_
    rintro e w8 ⟨rfl,hb⟩;clear g0 g1 g2 gl;replace HU:=oH (HU.below hb);replace HA:=oH (HA.below hb);replace HK5:=oH (HK5.below hb);replace HK6:=oH (HK6.below hb);replace HKB:=oH (HKB.below hb);clear hb
    by_cases hle:i<=l.length
    ·have hle2:fi+(i:Int)<=fi+(l.length:Int):=by omega
     have hgi:IntKind.i64.wrap (fi+(i:Int)+1)=fi+(i:Int)+1:=IntWalk.i64_in _ oMx;have HLV:=oH ((HIS.db hle).lit HOK.out)
     by_cases hri:ra<=i
     ·have hge:fi+(ra:Int)<=fi+(i:Int):=by omega
      have HC:=oH (zCq (k:=i-ra) HCS.out (HU.env HE.out) HU.inm HOK.out HK5.out HK6.out HIC.out (by have:=HLC.out;omega));rw [HVC.out,show fi+(ra:Int)+((i-ra:Nat):Int)=fi+(i:Int) by omega,show ra+(i-ra)=i by omega] at HC;have k0:=HU.sb.at_ (i:=0) rfl;have k1:=HU.sb.at_ (i:=1) rfl;have k2:=HU.sb.at_ (i:=2) rfl;have k3:=HU.sb.at_ (i:=3) rfl;have kl:=HU.sb.lt;have o0:=HKB.at_ (i:=0) rfl;have o1:=HKB.at_ (i:=1) rfl;have o2:=HKB.at_ (i:=2) rfl;have ol:=HKB.lt;go_wp2_with fail
      with_reducible refine (HC.out).mono ?_
      rintro e w9 ⟨v7,rfl,hd,hb⟩;clear k0 k1 k2 k3 kl o0 o1 o2 ol;replace HU:=oH (HU.below hb);replace HA:=oH (HA.below hb);replace HK5:=oH (HK5.below hb);replace HK6:=oH (HK6.below hb);replace HKB:=oH (HKB.below hb);clear hb;obtain ⟨A7,c7,rfl, -⟩:=hd.form;have H7:=oH hd;clear hd HC;have k0:=HU.sb.at_ (i:=0) rfl;have k1:=HU.sb.at_ (i:=1) rfl;have k2:=HU.sb.at_ (i:=2) rfl;have k3:=HU.sb.at_ (i:=3) rfl;have kl:=HU.sb.lt;have g0:=HU.hb.at_ (i:=0) rfl;have g1:=HU.hb.at_ (i:=1) rfl;have g2:=HU.hb.at_ (i:=2) rfl;have gl:=HU.hb.lt;go_wp2_with fail
      with_reducible refine (zCq HCS.out (HU.out.env HE.out) HU.out.inm HOK.out HU.out.db HU.out.ch HIS.out hle).mono ?_
      rintro e w10 ⟨v8,rfl,hd,hb⟩;clear k0 k1 k2 k3 kl g0 g1 g2 gl;replace HU:=oH (HU.below hb);replace HA:=oH (HA.below hb);replace HK5:=oH (HK5.below hb);replace HK6:=oH (HK6.below hb);replace HKB:=oH (HKB.below hb);replace H7:=oH (H7.below hb);clear hb;obtain ⟨A8,c8,rfl, -⟩:=hd.form;have H8:=oH hd;clear hd;go_wp2_with fail
      with_reducible refine (zEm H7.out H8.out HLV.out).mono ?_
      rintro e w11 ⟨rfl,hb⟩;replace HU:=oH (HU.below hb);replace HA:=oH (HA.below hb);replace HK5:=oH (HK5.below hb);replace HK6:=oH (HK6.below hb);replace HKB:=oH (HKB.below hb);replace H7:=oH (H7.below hb);replace H8:=oH (H8.below hb);clear hb;go_wp2_with fail;go_roundw
      ·exact ⟨i+1,by congr 1;omega,oMx,HU.out,HA.out,HK5.out,HK6.out,HKB.out⟩
      simp [intOf];omega
     have hge:¬fi+(ra:Int)<=fi+(i:Int):=by omega
     obtain ⟨D9,hC⟩:=zCr (v:=fi+(i:Int)) HCS.out (HU.env HE.out) HU.inm HOK.out HK5.out HK6.out HIC.out (.inl oMx);have HC:=oH hC;clear hC;have k0:=HU.sb.at_ (i:=0) rfl;have k1:=HU.sb.at_ (i:=1) rfl;have k2:=HU.sb.at_ (i:=2) rfl;have k3:=HU.sb.at_ (i:=3) rfl;have kl:=HU.sb.lt;have o0:=HKB.at_ (i:=0) rfl;have o1:=HKB.at_ (i:=1) rfl;have o2:=HKB.at_ (i:=2) rfl;have ol:=HKB.lt;go_wp2_with fail
     with_reducible refine (HC.out).mono ?_
     rintro e w12 ⟨v7,rfl,hd,hb⟩;clear k0 k1 k2 k3 kl o0 o1 o2 ol;replace HU:=oH (HU.below hb);replace HA:=oH (HA.below hb);replace HK5:=oH (HK5.below hb);replace HK6:=oH (HK6.below hb);replace HKB:=oH (HKB.below hb);clear hb;obtain ⟨A7,c7,rfl, -⟩:=hd.form;clear hd HC;have k0:=HU.sb.at_ (i:=0) rfl;have k1:=HU.sb.at_ (i:=1) rfl;have k2:=HU.sb.at_ (i:=2) rfl;have k3:=HU.sb.at_ (i:=3) rfl;have kl:=HU.sb.lt;have g0:=HU.hb.at_ (i:=0) rfl;have g1:=HU.hb.at_ (i:=1) rfl;have g2:=HU.hb.at_ (i:=2) rfl;have gl:=HU.hb.lt;go_wp2_with fail
     with_reducible refine (zCq HCS.out (HU.out.env HE.out) HU.out.inm HOK.out HU.out.db HU.out.ch HIS.out hle).mono ?_
     rintro e w13 ⟨v8,rfl,hd,hb⟩;clear k0 k1 k2 k3 kl g0 g1 g2 gl;replace HU:=oH (HU.below hb);replace HA:=oH (HA.below hb);replace HK5:=oH (HK5.below hb);replace HK6:=oH (HK6.below hb);replace HKB:=oH (HKB.below hb);clear hb;obtain ⟨A8,c8,rfl, -⟩:=hd.form;clear hd;go_wp2_with fail;go_roundw
     ·exact ⟨i+1,by congr 1;omega,oMx,HU.out,HA.out,HK5.out,HK6.out,HKB.out⟩
     simp [intOf];omega
    have hle2:¬fi+(i:Int)<=fi+(l.length:Int):=by omega
    have o0:=HKB.at_ (i:=0) rfl;have o1:=HKB.at_ (i:=1) rfl;have o2:=HKB.at_ (i:=2) rfl;have ol:=HKB.lt;go_wp2_with fail;refine (zFy _ (HU.env HE.out)).mono ?_;rintro e wE ⟨rfl,hb⟩;have HBE:=oH (HU.bel.trans (hb.mono HU.bel.size));clear hb;go_wp2_with fail;go_ret
    exact ⟨rfl,HBE.out⟩
   have h1:(er==0)=false:=beq_eq_false_iff_ne.2 h0;clear HG2 HG3 HGB HGO;obtain ⟨wJ,rfl⟩:=nWx wc;go_upto_region 14 with (fail);have HIC:=oH (HIS.cut hra2 oMx);have HCP:=oH (zDc HCS.out (HU.env HE.out) HU.inm HOK.out HU.db HU.ch HIS.out hra2);have HVC:=oH (fun k=>zZp (D:=D) (l:=l) (i:=ra) (k:=k));have HLC:=oH (show (l.drop ra).length=l.length-ra from List.length_drop);rw [<-HEQ1.out] at HIC HCP HVC;generalize l.drop ra=lc at *;have k0:=HU.sb.at_ (i:=0) rfl;have k1:=HU.sb.at_ (i:=1) rfl;have k2:=HU.sb.at_ (i:=2) rfl;have k3:=HU.sb.at_ (i:=3) rfl;have kl:=HU.sb.lt;have g0:=HU.hb.at_ (i:=0) rfl;have g1:=HU.hb.at_ (i:=1) rfl;have g2:=HU.hb.at_ (i:=2) rfl;have gl:=HU.hb.lt;go_wp2_with fail
   with_reducible refine (HCP.out).mono ?_
   rintro e w14 ⟨vb5,vc5,rfl,hb5,hc5,hb⟩;clear k0 k1 k2 k3 kl g0 g1 g2 gl;replace HU:=oH (HU.below hb);replace HA:=oH (HA.below hb);clear hb;obtain ⟨A5,c5,rfl, -⟩:=hb5.form;obtain ⟨A6,c6,rfl, -⟩:=hc5.form;have HK5:=oH hb5;have HK6:=oH hc5;clear hb5 hc5 HCP;have k0:=HU.sb.at_ (i:=0) rfl;have k1:=HU.sb.at_ (i:=1) rfl;have k2:=HU.sb.at_ (i:=2) rfl;have k3:=HU.sb.at_ (i:=3) rfl;have kl:=HU.sb.lt;have g0:=HU.hb.at_ (i:=0) rfl;have g1:=HU.hb.at_ (i:=1) rfl;have g2:=HU.hb.at_ (i:=2) rfl;have gl:=HU.hb.lt;have HKB:=oH (show Blk (w14.alloc (.cells #[.int .i64 (fi+(ra:Int)),.slice A5 E1.length c5,.slice A6 lc.length c6] 37)) w14.heap.size 37 [.int .i64 (fi+(ra:Int)),.slice A5 E1.length c5,.slice A6 lc.length c6] from Blk.new w14 _ [_,_,_]);replace HU:=oH (HU.below ((Below.refl w14.heap.size w14).alloc lRx (.cells #[.int .i64 (fi+(ra:Int)),.slice A5 E1.length c5,.slice A6 lc.length c6] 37)));replace HA:=oH (HA.below ((Below.refl w14.heap.size w14).alloc lRx (.cells #[.int .i64 (fi+(ra:Int)),.slice A5 E1.length c5,.slice A6 lc.length c6] 37)))
   replace HK5:=oH (HK5.below ((Below.refl w14.heap.size w14).alloc lRx (.cells #[.int .i64 (fi+(ra:Int)),.slice A5 E1.length c5,.slice A6 lc.length c6] 37)));replace HK6:=oH (HK6.below ((Below.refl w14.heap.size w14).alloc lRx (.cells #[.int .i64 (fi+(ra:Int)),.slice A5 E1.length c5,.slice A6 lc.length c6] 37)));go_upto_region 15 with (fail);generalize w14.alloc (.cells #[.int .i64 (fi+(ra:Int)),.slice A5 E1.length c5,.slice A6 lc.length c6] 37)=w15 at *;generalize w14.heap.size=gq at *;clear k0 k1 k2 k3 kl g0 g1 g2 gl;have g0:=HU.hb.at_ (i:=0) rfl;have g1:=HU.hb.at_ (i:=1) rfl;have g2:=HU.hb.at_ (i:=2) rfl;have gl:=HU.hb.lt;go_wp2_with fail;clear g0 g1 g2 gl
   go_loopw [17] (fun iv wr=>∃ i:Nat,iv = .int .i64 (fi+(i:Int))/\i<=l.length+1/\UH w wr b gs gh S #[.slice pa na ka,.slice pr nr kr,.slice pf nf kf,.int .i64 lb] fi (.slice Ab D.length cb) (.slice Ac l.length cc) D l/\Sl zOf wr (.slice Aa E1.length ca) E1/\Sl zOf wr (.slice A5 E1.length c5) E1/\Sl zOc wr (.slice A6 lc.length c6) lc/\Blk wr gq 37 [.int .i64 (fi+(ra:Int)),.slice A5 E1.length c5,.slice A6 lc.length c6]) (fun iv _=>(fi+l.length+1-intOf iv).toNat)
   ·exact ⟨0,by simp,oLx,HU.out,HA.out,HK5.out,HK6.out,HKB.out⟩
   obtain ⟨i,rfl,hi,hu,ha,h5,h6,hkb⟩:=hrel;obtain ⟨wi,rfl⟩:=nWx wr;replace HU:=oH hu;replace HA:=oH ha;replace HK5:=oH h5;replace HK6:=oH h6;replace HKB:=oH hkb;clear hu ha h5 h6 hkb;have g0:=HU.hb.at_ (i:=0) rfl;have g1:=HU.hb.at_ (i:=1) rfl;have g2:=HU.hb.at_ (i:=2) rfl;have gl:=HU.hb.lt;go_wp2_with fail
   with_reducible refine (zDg (fi:=fi) (ub := .slice Ab D.length cb) (A:=Ac) (n:=l.length) (c:=cc) (by have:=HMI.out;omega) (by have:=HMI.out;omega) (by have:=HMI.out;omega)).mono ?_
   rintro e w16 ⟨rfl,hb⟩;clear g0 g1 g2 gl;replace HU:=oH (HU.below hb);replace HA:=oH (HA.below hb);replace HK5:=oH (HK5.below hb);replace HK6:=oH (HK6.below hb);replace HKB:=oH (HKB.below hb);clear hb
   by_cases hle:i<=l.length
   ·have hle2:fi+(i:Int)<=fi+(l.length:Int):=by omega
    have hgi:IntKind.i64.wrap (fi+(i:Int)+1)=fi+(i:Int)+1:=IntWalk.i64_in _ oMx;have HLV:=oH ((HIS.db hle).lit HOK.out)
    by_cases hri:ra<=i
    ·have hge:fi+(ra:Int)<=fi+(i:Int):=by omega
     have HC:=oH (zCq (k:=i-ra) HCS.out (HU.env HE.out) HU.inm HOK.out HK5.out HK6.out HIC.out (by have:=HLC.out;omega));rw [HVC.out,show fi+(ra:Int)+((i-ra:Nat):Int)=fi+(i:Int) by omega,show ra+(i-ra)=i by omega] at HC;have k0:=HU.sb.at_ (i:=0) rfl;have k1:=HU.sb.at_ (i:=1) rfl;have k2:=HU.sb.at_ (i:=2) rfl;have k3:=HU.sb.at_ (i:=3) rfl;have kl:=HU.sb.lt;have o0:=HKB.at_ (i:=0) rfl;have o1:=HKB.at_ (i:=1) rfl;have o2:=HKB.at_ (i:=2) rfl;have ol:=HKB.lt;go_wp2_with fail
     with_reducible refine (HC.out).mono ?_
     rintro e w17 ⟨v7,rfl,hd,hb⟩;clear k0 k1 k2 k3 kl o0 o1 o2 ol;replace HU:=oH (HU.below hb);replace HA:=oH (HA.below hb);replace HK5:=oH (HK5.below hb);replace HK6:=oH (HK6.below hb);replace HKB:=oH (HKB.below hb);clear hb;obtain ⟨A7,c7,rfl, -⟩:=hd.form;have H7:=oH hd;clear hd HC;have k0:=HU.sb.at_ (i:=0) rfl;have k1:=HU.sb.at_ (i:=1) rfl;have k2:=HU.sb.at_ (i:=2) rfl;have k3:=HU.sb.at_ (i:=3) rfl;have kl:=HU.sb.lt;have g0:=HU.hb.at_ (i:=0) rfl;have g1:=HU.hb.at_ (i:=1) rfl;have g2:=HU.hb.at_ (i:=2) rfl;have gl:=HU.hb.lt;go_wp2_with fail
     with_reducible refine (zCq HCS.out (HU.out.env HE.out) HU.out.inm HOK.out HU.out.db HU.out.ch HIS.out hle).mono ?_
     rintro e w18 ⟨v8,rfl,hd,hb⟩;clear k0 k1 k2 k3 kl g0 g1 g2 gl;replace HU:=oH (HU.below hb);replace HA:=oH (HA.below hb);replace HK5:=oH (HK5.below hb);replace HK6:=oH (HK6.below hb);replace HKB:=oH (HKB.below hb);replace H7:=oH (H7.below hb);clear hb;obtain ⟨A8,c8,rfl, -⟩:=hd.form;have H8:=oH hd;clear hd;go_wp2_with fail
     with_reducible refine (zEm H7.out H8.out HLV.out).mono ?_
     rintro e w19 ⟨rfl,hb⟩;replace HU:=oH (HU.below hb);replace HA:=oH (HA.below hb);replace HK5:=oH (HK5.below hb);replace HK6:=oH (HK6.below hb);replace HKB:=oH (HKB.below hb);replace H7:=oH (H7.below hb);replace H8:=oH (H8.below hb);clear hb;go_wp2_with fail;go_roundw
     ·exact ⟨i+1,by congr 1;omega,oMx,HU.out,HA.out,HK5.out,HK6.out,HKB.out⟩
     simp [intOf];omega
    have hge:¬fi+(ra:Int)<=fi+(i:Int):=by omega
    obtain ⟨D9,hC⟩:=zCr (v:=fi+(i:Int)) HCS.out (HU.env HE.out) HU.inm HOK.out HK5.out HK6.out HIC.out (.inl oMx);have HC:=oH hC;clear hC;have k0:=HU.sb.at_ (i:=0) rfl;have k1:=HU.sb.at_ (i:=1) rfl;have k2:=HU.sb.at_ (i:=2) rfl;have k3:=HU.sb.at_ (i:=3) rfl;have kl:=HU.sb.lt;have o0:=HKB.at_ (i:=0) rfl;have o1:=HKB.at_ (i:=1) rfl;have o2:=HKB.at_ (i:=2) rfl;have ol:=HKB.lt;go_wp2_with fail
    with_reducible refine (HC.out).mono ?_
    rintro e w20 ⟨v7,rfl,hd,hb⟩;clear k0 k1 k2 k3 kl o0 o1 o2 ol;replace HU:=oH (HU.below hb);replace HA:=oH (HA.below hb);replace HK5:=oH (HK5.below hb);replace HK6:=oH (HK6.below hb);replace HKB:=oH (HKB.below hb);clear hb;obtain ⟨A7,c7,rfl, -⟩:=hd.form;clear hd HC;have k0:=HU.sb.at_ (i:=0) rfl;have k1:=HU.sb.at_ (i:=1) rfl;have k2:=HU.sb.at_ (i:=2) rfl;have k3:=HU.sb.at_ (i:=3) rfl;have kl:=HU.sb.lt;have g0:=HU.hb.at_ (i:=0) rfl;have g1:=HU.hb.at_ (i:=1) rfl;have g2:=HU.hb.at_ (i:=2) rfl;have gl:=HU.hb.lt;go_wp2_with fail
    with_reducible refine (zCq HCS.out (HU.out.env HE.out) HU.out.inm HOK.out HU.out.db HU.out.ch HIS.out hle).mono ?_
    rintro e w21 ⟨v8,rfl,hd,hb⟩;clear k0 k1 k2 k3 kl g0 g1 g2 gl;replace HU:=oH (HU.below hb);replace HA:=oH (HA.below hb);replace HK5:=oH (HK5.below hb);replace HK6:=oH (HK6.below hb);replace HKB:=oH (HKB.below hb);clear hb;obtain ⟨A8,c8,rfl, -⟩:=hd.form;clear hd;go_wp2_with fail;go_roundw
    ·exact ⟨i+1,by congr 1;omega,oMx,HU.out,HA.out,HK5.out,HK6.out,HKB.out⟩
    simp [intOf];omega
   have hle2:¬fi+(i:Int)<=fi+(l.length:Int):=by omega
   have o0:=HKB.at_ (i:=0) rfl;have o1:=HKB.at_ (i:=1) rfl;have o2:=HKB.at_ (i:=2) rfl;have ol:=HKB.lt;go_wp2_with fail;refine (zFy _ (HU.env HE.out)).mono ?_;rintro e wE ⟨rfl,hb⟩;have HBE:=oH (HU.bel.trans (hb.mono HU.bel.size));clear hb;go_wp2_with fail;go_ret
   exact ⟨rfl,HBE.out⟩
 rw [decide_eq_false h600] at HLI
 go_enter Tryz.func6,Tryz.ntmps6
 go_wp2_with fail;refine HLI.mono ?_;rintro e w0 ⟨rfl,hb⟩;have HB0:=oH hb;clear hb HLI h600;go_wp2_with fail;refine (zFy w0 (HE.below HB0.out)).mono ?_;rintro e w1 ⟨rfl,hb⟩;have HB1:=bTx2 HB0 hb;clear hb;go_wp2_with fail;go_ret
 exact ⟨rfl,HB1.out⟩
end Go.Proofs.YtafflnognagadaaGreatDoor
