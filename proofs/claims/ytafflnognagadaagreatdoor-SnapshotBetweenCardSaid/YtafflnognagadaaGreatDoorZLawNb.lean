import Derived.Test.YtafflnognagadaaGreatDoorZOS
set_option maxHeartbeats 16000000
set_option maxRecDepth 100000
set_option linter.unusedVariables false
set_option linter.unusedSimpArgs false
set_option linter.unusedSectionVars false
namespace Go.Proofs.YtafflnognagadaaGreatDoor
open Go.RowKit
theorem SnapshotBetween_any (A:oAx) (ln cp:Nat) (w:World) (h:zBs w A ln) (hlc:ln<=cp) (hl:ln<=9223372036854775807) (henv:Env w):Calls Tryz.prog 8 #[.slice A ln cp] w fun e w'=>e = .returned (.bool true)/\Below w.heap.size w w':=by
 have HE:=oH henv;have HI:=oH h;have HLI:=oH (zCf A ln cp w);clear henv h
 by_cases h600:ln<=600
 ·rw [decide_eq_true h600] at HLI
  go_enter Tryz.func8,Tryz.ntmps8
  go_wp2_with fail;refine HLI.mono ?_;rintro e w0 ⟨rfl,hb⟩;have HB0:=oH hb;clear hb HLI h600;go_wp2_with fail;refine (zCn A ln cp w0 (HI.below HB0.out) hlc hl).mono ?_;rintro e w1 ⟨rfl,hs,hb⟩;have HNB:=oH (show w.heap.size<=w0.heap.size from HB0.size);have HB1:=bTx2 HB0 hb;have HS1:=oH hs;generalize w0.heap.size=b at *;clear hs hb HI HB0 hlc hl;go_wp2_with fail;refine (zFw b 5 w1 HS1.out dCx dCx).mono ?_;rintro e w2 ⟨S,rfl,hok,hat,hrs,hga,hgr,hin,hs,hg,hinm⟩;have HOK:=oH hok;have HLOW:=oH (show zCg S from zBe.low hga hgr);have HSK:=oH (show SK w2 b S from ⟨hs,hinm⟩);have hb2:b<w2.heap.size:=hs.lt;have HB2:=oH (show Below w.heap.size w w2 from HB1.trans ⟨hg.os,hg.tape,hg.output,hg.size,fun i hi=>hg.block i (Nat.lt_of_lt_of_le hi HB1.size) (fun e=>by injection e with e;have:=HNB.out;omega)⟩);have HRS:=oH hrs;have HAT:=oH hat;clear hok hat hrs hga hgr hin hs hg hinm HS1 HB1;generalize hcs:S.cells=cs
  have HCS:=oH hcs;obtain ⟨pa,na,ka,pr,nr,kr,pf,nf,kf,lb,hq⟩:∃ pa na ka pr nr kr pf nf kf lb,cs=#[.slice pa na ka,.slice pr nr kr,.slice pf nf kf,.int .i64 lb]:=⟨_,_,_,_,_,_,_,_,_,_,hcs.symm⟩;subst hq;clear hcs;have HSK2:=oH (HSK.below ((Below.refl w2.heap.size w2).alloc lRx (.cells #[.slice pa na ka,.slice pr nr kr,.slice pf nf kf,.int .i64 lb] 31)));have HMH:=oH (zCi (rows:=4) (most:=6) HSK2.out HOK.out HLOW.out dCx dCx dCx);rw [HCS.out,show ((4:Nat):Int)=4 from rfl,show ((6:Nat):Int)=6 from rfl] at HMH;go_wp2_with fail;refine HMH.mono ?_;rintro e w3 ⟨fi,vb,vc,D,l,rfl,hvb,hvc,hmade,hs,hg⟩;obtain ⟨Ab,cb,rfl, -⟩:=hvb.form;obtain ⟨Ac,cc,rfl, -⟩:=hvc.form;have HMD:=oH hmade;have hbw:Below w.heap.size w (w2.alloc (.cells #[.slice pa na ka,.slice pr nr kr,.slice pf nf kf,.int .i64 lb] 31)):=HB2.alloc HB2.size _
  have hb3:w2.heap.size<w3.heap.size:=by have:=hg.size;simp at this;omega
  have HU:=oH (show UH w (w3.alloc (.cells #[.int .i64 fi,.slice Ab D.length cb,.slice Ac l.length cc] 37)) b w2.heap.size w3.heap.size S #[.slice pa na ka,.slice pr nr kr,.slice pf nf kf,.int .i64 lb] fi (.slice Ab D.length cb) (.slice Ac l.length cc) D l from
   ⟨(HSK2.step hg hs).below (bA),((Blk.new w2 _ [.slice pa na ka,.slice pr nr kr,.slice pf nf kf,.int .i64 lb]).src hg oMx).alloc _,Blk.new w3 _ [_,_,_],hvb.below (bA),hvc.below (bA),(hbw.trans ⟨hg.os,hg.tape,hg.output,hg.size,fun i hi=>hg.block i (Nat.lt_of_lt_of_le hi hbw.size) (fun e=>by injection e with e;have:=HNB.out;omega)⟩).alloc (by have:=hbw.size;simp at this;omega) _,oMx,oMx,HNB.out⟩)
  have hgs:w2.heap.size<w3.heap.size:=hb3;have HMI:=oH (show 0<=fi/\fi+(l.length:Int)<=6 from ⟨hmade.his.f0,hmade.len⟩);have hk3:=(Blk.new w2 31 [.slice pa na ka,.slice pr nr kr,.slice pf nf kf,.int .i64 lb]).src hg oMx;have k0:=hk3.at_ (i:=0) rfl;have k1:=hk3.at_ (i:=1) rfl;have k2:=hk3.at_ (i:=2) rfl;have k3:=hk3.at_ (i:=3) rfl;clear hvb hvc hmade hs hg hbw hb3 HSK HSK2 HMH HB2 HNB hk3;go_wp2_with fail;clear k0 k1 k2 k3;generalize w3.alloc (.cells #[.int .i64 fi,.slice Ab D.length cb,.slice Ac l.length cc] 37)=wz at *;generalize w2.heap.size=gs at *;generalize w3.heap.size=gh at *;have HIS:=oH HMD.his;clear HRS HAT HMD;have hgn:IntKind.i64.wrap ((l.length:Int)+1)=(l.length:Int)+1:=IntWalk.i64_in _ (by have:=HMI.out;omega);have hmi:=HMI.out;replace HU:=oH (HU.below bRx.drew);have KS:Hid (wz.drew.cell? ⟨gh,0,none⟩=some (.int .i64 fi)/\wz.drew.cell? ⟨gh,1,none⟩=some (.slice Ab D.length cb)/\wz.drew.cell? ⟨gh,2,none⟩=some (.slice Ac l.length cc)):=oH ⟨HU.hb.at_ (i:=0) rfl,HU.hb.at_ (i:=1) rfl,HU.hb.at_ (i:=2) rfl⟩
  refine wp_region_held_drew (S:=(fun w'=>w'.cell? ⟨gh,0,none⟩=some (.int .i64 fi)/\w'.cell? ⟨gh,1,none⟩=some (.slice Ab D.length cb)/\w'.cell? ⟨gh,2,none⟩=some (.slice Ac l.length cc))) (by kernel_rfl) (by exact KS.out) (fun hHeld=>?_);refine tkH 0 ?_;refine tkH 1 ?_;refine tkH 2 ?_;refine tkH 3 ?_;refine tkH 4 ?_;refine tkH 5 ?_;refine tkH 6 ?_;refine tkH 9 ?_
  try simp only [Act.put,List.setIfInBounds_toArray,List.set_cons_zero,List.set_cons_succ,List.getElem_toArray,List.getElem_cons_succ,List.getElem_cons_zero,List.getElem?_toArray,List.getElem?_cons_succ,List.getElem?_cons_zero,Option.getD_some]
  refine tkH 10 ?_
  try simp only [Act.put,List.setIfInBounds_toArray,List.set_cons_zero,List.set_cons_succ,List.getElem_toArray,List.getElem_cons_succ,List.getElem_cons_zero,List.getElem?_toArray,List.getElem?_cons_succ,List.getElem?_cons_zero,Option.getD_some]
  refine tkH 11 ?_
  try simp only [Act.put,List.setIfInBounds_toArray,List.set_cons_zero,List.set_cons_succ,List.getElem_toArray,List.getElem_cons_succ,List.getElem_cons_zero,List.getElem?_toArray,List.getElem?_cons_succ,List.getElem?_cons_zero,Option.getD_some]
  refine tkH 12 ?_
  try simp only [Act.put,List.setIfInBounds_toArray,List.set_cons_zero,List.set_cons_succ,List.getElem_toArray,List.getElem_cons_succ,List.getElem_cons_zero,List.getElem?_toArray,List.getElem?_cons_succ,List.getElem?_cons_zero,Option.getD_some]
  refine tkH 13 ?_
  try simp only [Act.put,List.setIfInBounds_toArray,List.set_cons_zero,List.set_cons_succ,List.getElem_toArray,List.getElem_cons_succ,List.getElem_cons_zero,List.getElem?_toArray,List.getElem?_cons_succ,List.getElem?_cons_zero,Option.getD_some]
  refine tkH 14 ?_
  try simp only [Act.put,List.setIfInBounds_toArray,List.set_cons_zero,List.set_cons_succ,List.getElem_toArray,List.getElem_cons_succ,List.getElem_cons_zero,List.getElem?_toArray,List.getElem?_cons_succ,List.getElem?_cons_zero,Option.getD_some]
  refine tkH 15 ?_
  try simp only [Act.put,List.setIfInBounds_toArray,List.set_cons_zero,List.set_cons_succ,List.getElem_toArray,List.getElem_cons_succ,List.getElem_cons_zero,List.getElem?_toArray,List.getElem?_cons_succ,List.getElem?_cons_zero,Option.getD_some]
  refine tkS 7 fun K hK=>?_
  go_simp
  (go_at_call 22;(with_reducible refine (zCm b ((l.length:Int)+1) _ HU.out.sk.src oMx oMx).mono ?_);rintro e wr6 ⟨ra,rfl,hra,hs,hg⟩)
  replace HU:=oH (HU.src hg hs);clear hs hg;have hg3:IntKind.i64.wrap (fi+(ra:Int))=fi+(ra:Int):=IntWalk.i64_in _ oMx;replace KS:Hid (wr6.cell? ⟨gh,0,none⟩=some (.int .i64 fi)/\wr6.cell? ⟨gh,1,none⟩=some (.slice Ab D.length cb)/\wr6.cell? ⟨gh,2,none⟩=some (.slice Ac l.length cc)):=oH ⟨HU.hb.at_ (i:=0) rfl,HU.hb.at_ (i:=1) rfl,HU.hb.at_ (i:=2) rfl⟩;go_wp2_with fail;refine hK.out _ _ ?_ (fun hHeld=>?_)
  ·exact KS.out
  clear hK K
  try simp only [Act.put,tkA,tkB,tkC]
  refine tkH 8 ?_
  try simp only [Act.put,List.setIfInBounds_toArray,List.set_cons_zero,List.set_cons_succ,List.getElem_toArray,List.getElem_cons_succ,List.getElem_cons_zero,List.getElem?_toArray,List.getElem?_cons_succ,List.getElem?_cons_zero,Option.getD_some]
  refine tkS 16 fun K hK=>?_
  go_simp
  (go_at_call 22;(with_reducible refine (zCm b ((l.length:Int)+1) _ HU.out.sk.src oMx oMx).mono ?_);rintro e wr6 ⟨rb,rfl,hrb,hs,hg⟩)
  replace HU:=oH (HU.src hg hs);clear hs hg;have hg4:IntKind.i64.wrap (fi+(rb:Int))=fi+(rb:Int):=IntWalk.i64_in _ oMx;replace KS:Hid (wr6.cell? ⟨gh,0,none⟩=some (.int .i64 fi)/\wr6.cell? ⟨gh,1,none⟩=some (.slice Ab D.length cb)/\wr6.cell? ⟨gh,2,none⟩=some (.slice Ac l.length cc)):=oH ⟨HU.hb.at_ (i:=0) rfl,HU.hb.at_ (i:=1) rfl,HU.hb.at_ (i:=2) rfl⟩;go_wp2_with fail;refine hK.out _ _ ?_ (fun hHeld=>?_)
  ·exact KS.out
  clear hK K
  try simp only [Act.put,tkA,tkB,tkC]
  refine tkH 17 ?_
  try simp only [Act.put,List.setIfInBounds_toArray,List.set_cons_zero,List.set_cons_succ,List.getElem_toArray,List.getElem_cons_succ,List.getElem_cons_zero,List.getElem?_toArray,List.getElem?_cons_succ,List.getElem?_cons_zero,Option.getD_some]
  refine tkH 18 ?_
  try simp only [Act.put,List.setIfInBounds_toArray,List.set_cons_zero,List.set_cons_succ,List.getElem_toArray,List.getElem_cons_succ,List.getElem_cons_zero,List.getElem?_toArray,List.getElem?_cons_succ,List.getElem?_cons_zero,Option.getD_some]
  refine tkH 19 ?_
  try simp only [Act.put,List.setIfInBounds_toArray,List.set_cons_zero,List.set_cons_succ,List.getElem_toArray,List.getElem_cons_succ,List.getElem_cons_zero,List.getElem?_toArray,List.getElem?_cons_succ,List.getElem?_cons_zero,Option.getD_some]
  refine wpAnyH_done (by kernel_rfl) ?_ _;clear KS
  have hra2:ra<=l.length:=by omega
  have hrb2:rb<=l.length:=by omega
  clear hra hrb;have HC1:=oH (fun (W:World) (hW:UH w W b gs gh S #[.slice pa na ka,.slice pr nr kr,.slice pf nf kf,.int .i64 lb] fi (.slice Ab D.length cb) (.slice Ac l.length cc) D l)=>zCu (hW.env HE.out) hW.inm HOK.out hW.db hW.ch HIS.out (zHe ra hra2) (zHe rb hrb2));have HC2:=oH (fun (W:World) (hW:UH w W b gs gh S #[.slice pa na ka,.slice pr nr kr,.slice pf nf kf,.int .i64 lb] fi (.slice Ab D.length cb) (.slice Ac l.length cc) D l)=>zCu (hW.env HE.out) hW.inm HOK.out hW.db hW.ch HIS.out (zHe rb hrb2) (zHe ra hra2));have HC3:=oH (fun (W:World) (hW:UH w W b gs gh S #[.slice pa na ka,.slice pr nr kr,.slice pf nf kf,.int .i64 lb] fi (.slice Ab D.length cb) (.slice Ac l.length cc) D l)=>zCq HCS.out (hW.env HE.out) hW.inm HOK.out hW.db hW.ch HIS.out hra2);have HC4:=oH (fun (W:World) (hW:UH w W b gs gh S #[.slice pa na ka,.slice pr nr kr,.slice pf nf kf,.int .i64 lb] fi (.slice Ab D.length cb) (.slice Ac l.length cc) D l)=>zCq HCS.out (hW.env HE.out) hW.inm HOK.out hW.db hW.ch HIS.out hrb2)
  rw [zHi ra hra2,zHi rb hrb2,HCS.out] at HC1 HC2;have HDA:=oH (HIS.db hra2);have HDB:=oH (HIS.db hrb2);generalize zZm D l ra=Da at *;generalize zZm D l rb=Db at *;have hab:Db.length=Da.length:=HDB.len.trans HDA.len.symm;have HBK:=oH (zIk Da Db Da.length);rw [hab] at HC2;have HTO:=oH (zIr HDA.out HDB.out);have HCK:=oH (zIl HOK.out HDA.out HDB.out lRx);have hll:(zIj Da Db Da.length).length<=100:=HCK.len;have HLB:=oH (HDB.lit HOK.out);have HWT:=oH (fun x (hx:x∈zIj Da Db Da.length)=>btwN_wt HDA.out HDB.out hx);have HML:=oH (show (zIj Db Da Da.length).length=(zIj Da Db Da.length).length by rw [HBK.out,List.length_map]);generalize zIj Da Db Da.length=L at *;generalize zIj Db Da Da.length=M at *;clear hab HDB HIS;have k0:=HU.sb.at_ (i:=0) rfl;have k1:=HU.sb.at_ (i:=1) rfl;have k2:=HU.sb.at_ (i:=2) rfl;have k3:=HU.sb.at_ (i:=3) rfl;have kl:=HU.sb.lt;have g0:=HU.hb.at_ (i:=0) rfl;have g1:=HU.hb.at_ (i:=1) rfl
  have g2:=HU.hb.at_ (i:=2) rfl;have gl:=HU.hb.lt;go_wp2_with fail
  with_reducible refine (HC1.out _ HU.out).mono ?_
  rintro e w4 ⟨v1,rfl,hd,hb⟩;clear k0 k1 k2 k3 kl g0 g1 g2 gl;replace HU:=oH (HU.below hb);clear hb;obtain ⟨A1,c1,rfl, -⟩:=hd.form;have HL:=oH hd;clear hd HC1;have k0:=HU.sb.at_ (i:=0) rfl;have k1:=HU.sb.at_ (i:=1) rfl;have k2:=HU.sb.at_ (i:=2) rfl;have k3:=HU.sb.at_ (i:=3) rfl;have kl:=HU.sb.lt;have g0:=HU.hb.at_ (i:=0) rfl;have g1:=HU.hb.at_ (i:=1) rfl;have g2:=HU.hb.at_ (i:=2) rfl;have gl:=HU.hb.lt;go_wp2_with fail
  with_reducible refine (HC2.out _ HU.out).mono ?_
  rintro e w5 ⟨v2,rfl,hd,hb⟩;clear k0 k1 k2 k3 kl g0 g1 g2 gl;replace HU:=oH (HU.below hb);replace HL:=oH (HL.below hb);clear hb;obtain ⟨A2,c2,hv2, -⟩:=hd.form;rw [HML.out] at hv2;subst hv2;have HM:=oH hd;clear hd HC2;have k0:=HU.sb.at_ (i:=0) rfl;have k1:=HU.sb.at_ (i:=1) rfl;have k2:=HU.sb.at_ (i:=2) rfl;have k3:=HU.sb.at_ (i:=3) rfl;have kl:=HU.sb.lt;have g0:=HU.hb.at_ (i:=0) rfl;have g1:=HU.hb.at_ (i:=1) rfl;have g2:=HU.hb.at_ (i:=2) rfl;have gl:=HU.hb.lt;go_wp2_with fail
  with_reducible refine (HC3.out _ HU.out).mono ?_
  rintro e w6 ⟨v3,rfl,hd,hb⟩;clear k0 k1 k2 k3 kl g0 g1 g2 gl;replace HU:=oH (HU.below hb);replace HL:=oH (HL.below hb);replace HM:=oH (HM.below hb);clear hb;obtain ⟨A3,c3,rfl, -⟩:=hd.form;have HF:=oH hd;clear hd HC3;have k0:=HU.sb.at_ (i:=0) rfl;have k1:=HU.sb.at_ (i:=1) rfl;have k2:=HU.sb.at_ (i:=2) rfl;have k3:=HU.sb.at_ (i:=3) rfl;have kl:=HU.sb.lt;have g0:=HU.hb.at_ (i:=0) rfl;have g1:=HU.hb.at_ (i:=1) rfl;have g2:=HU.hb.at_ (i:=2) rfl;have gl:=HU.hb.lt;go_wp2_with fail
  with_reducible refine (HC4.out _ HU.out).mono ?_
  rintro e w7 ⟨v4,rfl,hd,hb⟩;clear k0 k1 k2 k3 kl g0 g1 g2 gl;replace HU:=oH (HU.below hb);replace HL:=oH (HL.below hb);replace HM:=oH (HM.below hb);replace HF:=oH (HF.below hb);clear hb;obtain ⟨A4,c4,rfl, -⟩:=hd.form;have HT:=oH hd;clear hd HC4;go_wp2_with fail
  go_loopw [16,106] (fun dv iv wr=>∃ k:Nat,iv = .int .i64 (k:Int)/\k<=L.length/\Sl zOf wr dv (zJi Da (L.take k))/\Below w7.heap.size w7 wr) (fun _ iv _=>L.length-(intOf iv).toNat)
  ·exact ⟨0,rfl,oLx,HF.out,bRx⟩
  obtain ⟨k,rfl,hk,hdv,hbel⟩:=hrel;obtain ⟨wk,rfl⟩:=nWx wr;have HDV:=oH hdv;have HBK2:=oH hbel;have HUk:=oH (HU.below hbel);have HLk:=oH (HL.below hbel);have HMk:=oH (HM.below hbel);have HTk:=oH (HT.below hbel);clear hdv hbel
  by_cases hlt:k<L.length
  ·obtain ⟨b1,o1,hA1,hb1,hc1⟩:=HLk.isl2 (by intro e;subst e;simp at hlt)
   have hltM:k<M.length:=by rw [HML.out];exact hlt
   obtain ⟨b2,o2,hA2,hb2,hc2⟩:=HMk.isl2 (by intro e;subst e;simp at hltM);subst hA1 hA2;obtain ⟨u1,p0,p1,hu1⟩:=hc1 k hlt;obtain ⟨u2,r0,r1,hu2⟩:=hc2 k hltM
   have eM:M[k]=(L[k].1,mulT (-1) L[k].2):=by simp only [HBK.out,List.getElem_map]
   rw [eM] at r0 hu2;obtain ⟨hne,hap,htk⟩:=zJs hlt HTO.1;have HDK:=oH (HDA.chg (HCK.take k) (zJl k HTO.1));have hdl:=HCK.all _ (List.getElem_mem hlt);have HWK:=oH (HWT.out _ (List.getElem_mem hlt));obtain ⟨rel,hrel,hTK⟩:=hdl.rel;have hsh:=hdl.short;obtain ⟨Dk,hDk⟩:∃ Dk,Dk=zJi Da (L.take k):=⟨_,rfl⟩;rw [<-hDk] at HDV HDK hap htk;rw [hrel] at p0 r0 hap htk;rw [Int.toNat_natCast] at hap htk;have HTKK:=oH htk;obtain ⟨Au,cu,rfl, -⟩:=hu1.form;obtain ⟨Am,cm,hvm, -⟩:=hu2.form;rw [zQc] at hvm;subst hvm;have HR1:=oH hu1;have HR2:=oH hu2;have HTB:=oH hTK;clear hc1 hc2 hu1 hu2 eM hdl htk hTK hrel hDk hne;generalize L[k].2=T at *;obtain ⟨Ad,cd,rfl, -⟩:=HDV.form;have HAP:=oH (fun (W:World) (hB:Below wk.heap.size wk W)=>zDo (HUk.below hB).inm HOK.out HLOW.out (HDV.below hB) HDK.out (HR1.below hB) HTB.out hsh);rw [HCS.out,hap] at HAP;have HBA:=oH ((Below.refl wk.heap.size wk).alloc lRx (.cells #[.int .i64 (rel:Int),.slice Au T.length cu] 45))
   have HYB:=oH (show Blk (wk.alloc (.cells #[.int .i64 (rel:Int),.slice Au T.length cu] 45)) wk.heap.size 45 [.int .i64 (rel:Int),.slice Au T.length cu] from Blk.new wk _ [_,_]);have k0:=HUk.sb.at_ (i:=0) rfl;have k1:=HUk.sb.at_ (i:=1) rfl;have k2:=HUk.sb.at_ (i:=2) rfl;have k3:=HUk.sb.at_ (i:=3) rfl;have kl:gs<wk.heap.size:=HUk.sb.lt;go_wp2_with fail;refine (HAP.out _ HBA.out).mono ?_;rintro e w5 ⟨vn,rfl,hn,hb⟩;obtain ⟨An,cn,rfl, -⟩:=hn.form;have HNV:=oH hn;have HB5:=bTx2 HBA hb;have HY5:=oH (HYB.below hb);clear hn hb k0 k1 k2 k3 kl HAP HYB HBA;have y0:=HY5.at_ (i:=0) rfl;have y1:=HY5.at_ (i:=1) rfl;have r2:=(HB5.cell (p:=⟨b2,o2+k*2,none⟩) hb2).trans r0;have r3:=(HB5.cell (p:=⟨b2,o2+k*2+1,none⟩) hb2).trans r1
   have hk0:(0:Int)<=(k:Int):=by omega
   have hk1:(k:Int)<(L.length:Int):=by omega
   go_upto_region 18 with (fail)
   go_cut [141] (fun v wc=>v = .bool false/\∃ q,wc=w5.drewN q)
   case first =>
    go_quiet (fail)
    go_wp2_with fail
    go_meet
    exact ⟨rfl,_,rfl⟩
   case rest =>
    obtain ⟨rfl,q,rfl⟩:=hcut;have hbq:=below_drewN (Below.refl w5.heap.size w5) q;have HBQ:=bTx2 HB5 hbq;have HYq:=oH (HY5.below hbq);have HNq:=oH (HNV.below hbq);have HR1q:=oH (HR1.below HBQ.out);have HR2q:=oH (HR2.below HBQ.out);have q1:=(HBQ.cell (p:=⟨b2,o2+k*2+1,none⟩) hb2).trans r1;have hb2q:b2<(w5.drewN q).heap.size:=Nat.lt_of_lt_of_le hb2 HBQ.size;have y1:=HYq.at_ (i:=1) rfl;generalize w5.drewN q=wq at *;clear hbq r0 r1 HB5 HY5 HNV HR1 HR2;go_wp2_with fail;clear y1
    go_loopw [145] (fun iv wr=>∃ i:Nat,iv = .int .i64 (i:Int)/\i<=T.length/\Below wq.heap.size wq wr) (fun iv _=>T.length-(intOf iv).toNat)
    ·exact ⟨0,rfl,oLx,bRx⟩
    obtain ⟨i,rfl,hi,hbel⟩:=hrel;obtain ⟨wi,rfl⟩:=nWx wr;have HBI:=oH hbel
    by_cases hil:i<T.length
    ·obtain ⟨b3,o3,hA3,hb3,hc3⟩:=(HR1q.below hbel).sli2 (by intro e;subst e;simp at hil)
     have hilM:i<(mulT (-1) T).length:=by rw [zQc];exact hil
     have hR2:=HR2q.below hbel;rw [<-zQc (-1) T] at hR2;obtain ⟨b4,o4,hA4,hb4,hc4⟩:=hR2.sli2 (by intro e;rw [e] at hilM;simp at hilM);subst hA3 hA4;obtain ⟨u3,s0,s1,hu3⟩:=hc3 i hil;obtain ⟨u4,t0,t1, -⟩:=hc4 i hilM;obtain ⟨Ak,ck,rfl, -⟩:=hu3.form
     have eM:(mulT (-1) T)[i].2 = - T[i].2:=by simp only [mulT,List.getElem_map];omega
     rw [eM] at t1;have hw:=HWK.out _ (List.getElem_mem hil);have hgz:IntKind.i64.wrap (- T[i].2) = - T[i].2:=IntWalk.i64_in _ oMx;have q2:=(hbel.cell (p:=⟨b2,o2+k*2+1,none⟩) hb2q).trans q1;have hb2i:b2<wi.heap.size:=Nat.lt_of_lt_of_le hb2q hbel.size;clear hc3 hc4 hu3 hR2 eM t0 hbel;generalize T[i].2=z at *;generalize T[i].1.length=mk at *
     have hi0:(0:Int)<=(i:Int):=by omega
     have hi1:(i:Int)<(T.length:Int):=by omega
     have HBX:=oH (HBI.alloc HBI.size (.cells #[.slice Ak mk ck,.int .i64 z] 64));go_wp2_with fail
     go_quiet (fail)
     go_wp2_with fail;go_roundw
     ·exact ⟨i+1,by go_num,oMx,below_drewN HBX.out _⟩
     simp [intOf];omega
    have hil2:¬(i:Int)<(T.length:Int):=by omega
    have HN9:=oH (HNq.below HBI.out);have HB9:=oH (HBK2.trans ((HBQ.trans (HBI.mono HBQ.size)).mono HBK2.size));clear hbel;go_wp2_with fail;go_roundw
    ·exact ⟨k+1,by go_num,oMx,by rw [HTKK.out];exact HN9.out,HB9.out⟩
    simp [intOf];omega
  obtain rfl:k=L.length:=by omega
  have hdv:=HDV.out;rw [List.take_length,HTO.2] at hdv;have HD9:=oH hdv;clear hdv HDV;obtain ⟨Ad,cd,hvd, -⟩:=HD9.form;subst hvd;go_wp2_with fail;refine (zEm HD9.out HTk.out HLB.out).mono ?_;rintro e wS ⟨rfl,hb⟩;replace HUk:=oH (HUk.below hb);clear hb;go_wp2_with fail;refine (zFy _ (HUk.env HE.out)).mono ?_;rintro e wE ⟨rfl,hb⟩;have HBE:=oH (HUk.bel.trans (hb.mono HUk.bel.size));clear hb;go_wp2_with fail;go_ret
  exact ⟨rfl,HBE.out⟩
 rw [decide_eq_false h600] at HLI
 go_enter Tryz.func8,Tryz.ntmps8
 go_wp2_with fail;refine HLI.mono ?_;rintro e w0 ⟨rfl,hb⟩;have HB0:=oH hb;clear hb HLI h600;go_wp2_with fail;refine (zFy w0 (HE.below HB0.out)).mono ?_;rintro e w1 ⟨rfl,hb⟩;have HB1:=bTx2 HB0 hb;clear hb;go_wp2_with fail;go_ret
 exact ⟨rfl,HB1.out⟩
end Go.Proofs.YtafflnognagadaaGreatDoor
