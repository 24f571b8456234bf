import Derived.Test.YtafflnognagadaaGreatDoorZOS
set_option maxHeartbeats 16000000
set_option maxRecDepth 100000
set_option linter.unusedVariables false
set_option linter.unusedSimpArgs false
set_option linter.unusedSectionVars false
namespace Go.Proofs.YtafflnognagadaaGreatDoor
open Go.RowKit
theorem SnapshotReplays_any (A:oAx) (ln cp:Nat) (w:World) (h:zBs w A ln) (hlc:ln<=cp) (hl:ln<=9223372036854775807) (henv:Env w):Calls Tryz.prog 4 #[.slice A ln cp] w fun e w'=>e = .returned (.bool true)/\Below w.heap.size w w':=by
 have HE:=oH henv;have HI:=oH h;have HLI:=oH (zCf A ln cp w);clear henv h
 by_cases h600:ln<=600
 ·rw [decide_eq_true h600] at HLI
  go_enter Tryz.func4,Tryz.ntmps4
  go_wp2_with fail;refine HLI.mono ?_;rintro e w0 ⟨rfl,hb⟩;have HB0:=oH hb;clear hb HLI h600;go_wp2_with fail;refine (zCn A ln cp w0 (HI.below HB0.out) hlc hl).mono ?_;rintro e w1 ⟨rfl,hs,hb⟩;have HNB:=oH (show w.heap.size<=w0.heap.size from HB0.size);have HB1:=bTx2 HB0 hb;have HS1:=oH hs;generalize w0.heap.size=b at *;clear hs hb HI HB0 hlc hl;go_wp2_with fail;refine (zFw b 5 w1 HS1.out dCx dCx).mono ?_;rintro e w2 ⟨S,rfl,hok,hat,hrs,hga,hgr,hin,hs,hg,hinm⟩;have HOK:=oH hok;have HLOW:=oH (show zCg S from zBe.low hga hgr);have HSK:=oH (show SK w2 b S from ⟨hs,hinm⟩);have hb2:b<w2.heap.size:=hs.lt;have HB2:=oH (show Below w.heap.size w w2 from HB1.trans ⟨hg.os,hg.tape,hg.output,hg.size,fun i hi=>hg.block i (Nat.lt_of_lt_of_le hi HB1.size) (fun e=>by injection e with e;have:=HNB.out;omega)⟩);have HRS:=oH hrs;have HAT:=oH hat;clear hok hat hrs hga hgr hin hs hg hinm HS1 HB1;generalize hcs:S.cells=cs
  have HCS:=oH hcs;obtain ⟨pa,na,ka,pr,nr,kr,pf,nf,kf,lb,hq⟩:∃ pa na ka pr nr kr pf nf kf lb,cs=#[.slice pa na ka,.slice pr nr kr,.slice pf nf kf,.int .i64 lb]:=⟨_,_,_,_,_,_,_,_,_,_,hcs.symm⟩;subst hq;clear hcs;have HSK2:=oH (HSK.below ((Below.refl w2.heap.size w2).alloc lRx (.cells #[.slice pa na ka,.slice pr nr kr,.slice pf nf kf,.int .i64 lb] 31)));have HMH:=oH (zCi (rows:=3) (most:=4) HSK2.out HOK.out HLOW.out dCx dCx dCx);rw [HCS.out,show ((3:Nat):Int)=3 from rfl,show ((4:Nat):Int)=4 from rfl] at HMH;go_wp2_with fail;refine HMH.mono ?_;rintro e w3 ⟨fi,vb,vc,D,l,rfl,hvb,hvc,hmade,hs,hg⟩;obtain ⟨Ab,cb,rfl, -⟩:=hvb.form;obtain ⟨Ac,cc,rfl, -⟩:=hvc.form;have HMD:=oH hmade;have hbw:Below w.heap.size w (w2.alloc (.cells #[.slice pa na ka,.slice pr nr kr,.slice pf nf kf,.int .i64 lb] 31)):=HB2.alloc HB2.size _
  have hb3:w2.heap.size<w3.heap.size:=by have:=hg.size;simp at this;omega
  have HU:=oH (show UH w (w3.alloc (.cells #[.int .i64 fi,.slice Ab D.length cb,.slice Ac l.length cc] 37)) b w2.heap.size w3.heap.size S #[.slice pa na ka,.slice pr nr kr,.slice pf nf kf,.int .i64 lb] fi (.slice Ab D.length cb) (.slice Ac l.length cc) D l from
   ⟨(HSK2.step hg hs).below (bA),((Blk.new w2 _ [.slice pa na ka,.slice pr nr kr,.slice pf nf kf,.int .i64 lb]).src hg oMx).alloc _,Blk.new w3 _ [_,_,_],hvb.below (bA),hvc.below (bA),(hbw.trans ⟨hg.os,hg.tape,hg.output,hg.size,fun i hi=>hg.block i (Nat.lt_of_lt_of_le hi hbw.size) (fun e=>by injection e with e;have:=HNB.out;omega)⟩).alloc (by have:=hbw.size;simp at this;omega) _,oMx,oMx,HNB.out⟩)
  have hgs:w2.heap.size<w3.heap.size:=hb3;have HMI:=oH (show 0<=fi/\fi+(l.length:Int)<=4 from ⟨hmade.his.f0,hmade.len⟩);have hk3:=(Blk.new w2 31 [.slice pa na ka,.slice pr nr kr,.slice pf nf kf,.int .i64 lb]).src hg oMx;have k0:=hk3.at_ (i:=0) rfl;have k1:=hk3.at_ (i:=1) rfl;have k2:=hk3.at_ (i:=2) rfl;have k3:=hk3.at_ (i:=3) rfl;clear hvb hvc hmade hs hg hbw hb3 HSK HSK2 HMH HB2 HNB hk3;go_wp2_with fail;clear k0 k1 k2 k3;generalize w3.alloc (.cells #[.int .i64 fi,.slice Ab D.length cb,.slice Ac l.length cc] 37)=wz at *;generalize w2.heap.size=gs at *;generalize w3.heap.size=gh at *;have HIS:=oH HMD.his;have HLT:=oH HMD.last
  obtain rfl:nr=S.rs.length:=by
   have h:=Option.some.inj (show some (Value.slice S.ar S.rs.length S.cr)=some (.slice pr nr kr) from congrArg (fun a:Array Value=>a[1]?) HCS.out);injection h with _ h _;exact h.symm
  have hmi:=HMI.out;have HDL:=oH HIS.base.len;have hrs3:S.rs.length<=3:=HRS.out
  have hd3:D.length<=3:=by have:=HDL.out;omega
  obtain ⟨Z,hZ⟩:∃ Z,Z=List.replicate S.rs.length ([]:Tbl):=⟨_,rfl⟩;have HZD:=oH (zQl S);have HBN:=oH (fun k hk h=>zHw (k:=k) S.rs.length HIS.base hk h);have HBS:=oH (fun k hk h=>zHx (k:=k) S.rs.length HIS.base hk h);have HIR:=oH (HIS.replay HOK.out oMx);have HRL:=HRS;have HVR:=oH (fun k=>zZs HIS.out k);have HCK:=oH (zIl (k:=D.length) HOK.out (zQl S) HIS.base (by have:=HDL.out;simp;omega));have HZL:=oH (show (List.replicate S.rs.length ([]:Tbl)).length=S.rs.length by simp);rw [<-hZ] at HZD HBN HBS HIR HVR HCK HZL;have HZE:=oH hZ;have HTI:=oH HMD.tim;clear hZ HAT HMD HRS
  go_loopw [6,36] (fun v iv wr=>∃ k:Nat,iv = .int .i64 (k:Int)/\k<=S.rs.length/\zCo zOf wz.heap.size wr v (List.replicate k [])/\Below wz.heap.size wz wr) (fun _ iv _=>S.rs.length-(intOf iv).toNat)
  ·exact ⟨0,rfl,oLx,.nil _ _ _,bRx⟩
  obtain ⟨k,rfl,hk,hown,hbel⟩:=hrel;obtain ⟨Av,cv,rfl, -⟩:=hown.form;have HOWN:=oH hown;have HBEL:=oH hbel;have hsz:=hbel.size;clear hown hbel
  by_cases hlt:k<S.rs.length
  ·have HTK:=oH (List.replicate_succ' (n:=k) (a:=([]:Tbl)));have HLE:=oH (List.length_replicate (n:=k) (a:=([]:Tbl)));generalize List.replicate k ([]:Tbl)=L at *
   go_wp2_with (at_builtin;refine xAn _ _ _ rfl rfl Tryz.underlying34 Tryz.kiTab (HOWN.alloc _) (Sl.new (K:=zOf) (x:=[]) rfl ⟨_,rfl,Sl.nil zOe _ none 0⟩) (by have:=HLE.out;have:=HRL.out;simp only [List.length_singleton];omega) (by simp;omega) ?_)
   intro v' w4 hap
   have HAP:Hid (zCo zOf wz.heap.size w4 v' (L++[[]])):=oH hap.own;have HB3:=oH (hap.bel (HBEL.alloc hsz _));clear hap;go_wp2_with fail;go_roundw
   ·exact ⟨k+1,by go_num,oMx,by rw [HTK.out];exact HAP.out,HB3.out⟩
   simp [intOf];omega
  obtain rfl:k=S.rs.length:=by omega
  replace HU:=oH (HU.below HBEL.out);rw [<-HZE.out] at HOWN ⊢;have HZS:=oH HOWN.sl;have HNW:=oH (zDh (HU.env HE.out) HU.inm HOK.out HZS.out HZD.out);rw [HCS.out] at HNW;clear HOWN HBEL hsz hlt hk HZE;rw [HZL.out] at HNW ⊢;have k0:=HU.sb.at_ (i:=0) rfl;have k1:=HU.sb.at_ (i:=1) rfl;have k2:=HU.sb.at_ (i:=2) rfl;have k3:=HU.sb.at_ (i:=3) rfl;have kl:=HU.sb.lt;have g0:=HU.hb.at_ (i:=0) rfl;have g1:=HU.hb.at_ (i:=1) rfl;have g2:=HU.hb.at_ (i:=2) rfl;have gl:=HU.hb.lt;go_wp2_with fail;refine HNW.mono ?_;rintro e w4 ⟨vb4,vc4,rfl,hb4,hc4,hb⟩;obtain ⟨A4,c4,hv4, -⟩:=hb4.form;obtain ⟨B4,d4,hv5, -⟩:=hc4.form;have hv5:vc4 = .slice B4 0 d4:=hv5;rw [HZL.out] at hv4;subst hv4 hv5;clear k0 k1 k2 k3 kl g0 g1 g2 gl;replace HU:=oH (HU.below hb);have HXB:=oH (show Below w4.heap.size w4 (w4.alloc (.cells #[.int .i64 0,.slice A4 S.rs.length c4,.slice B4 0 d4] 37)) from bA);have HGB:=oH (show Blk (w4.alloc (.cells #[.int .i64 0,.slice A4 S.rs.length c4,.slice B4 0 d4] 37)) w4.heap.size 37 [.int .i64 0,.slice A4 S.rs.length c4,.slice B4 0 d4] from Blk.new w4 _ [_,_,_])
  have HGA:=oH (hb4.below HXB.out);have HGC:=oH (hc4.below HXB.out);clear hb4 hc4 hb HNW HZS;have k0:=HU.sb.at_ (i:=0) rfl;have k1:=HU.sb.at_ (i:=1) rfl;have k2:=HU.sb.at_ (i:=2) rfl;have k3:=HU.sb.at_ (i:=3) rfl;have kl:=HU.sb.lt;have g0:=HU.hb.at_ (i:=0) rfl;have g1:=HU.hb.at_ (i:=1) rfl;have g2:=HU.hb.at_ (i:=2) rfl;have gl:=HU.hb.lt;go_wp2_with fail;clear k0 k1 k2 k3 kl g0 g1 g2 gl;have hgs4:gs<w4.heap.size:=HU.sb.lt;have hgh4:gh<w4.heap.size:=HU.hb.lt;generalize w4.alloc (.cells #[.int .i64 0,.slice A4 S.rs.length c4,.slice B4 0 d4] 37)=wy at *;obtain ⟨gg,hgg⟩:=eXx (w4.heap.size);rw [hgg] at HGB ⊢
  go_loopw [9,51] (fun v iv wr=>∃ k:Nat,iv = .int .i64 (k:Int)/\k<=D.length/\zCo zOd wy.heap.size wr v (zIj Z D k)/\Below wy.heap.size wy wr) (fun _ iv _=>D.length-(intOf iv).toNat)
  ·exact ⟨0,rfl,oLx,.nil _ _ _,bRx⟩
  obtain ⟨k,rfl,hk,hown,hbel⟩:=hrel;obtain ⟨wk,rfl⟩:=nWx wr;obtain ⟨Av,cv,rfl, -⟩:=hown.form;have HOWN:=oH hown;have HBEL:=oH hbel;have hsz:=hbel.size;have HBW:=bTx2 HXB hbel;have HUk:=oH (HU.below HBW.out);clear hown hbel
  by_cases hlt:k<D.length
  ·obtain ⟨b2,off,hAb,hb2,hc⟩:=HUk.db.sl1 (by intro e;subst e;simp at hlt);obtain ⟨u,p0,hu⟩:=hc k hlt;have HN:=oH (HBN.out k hlt);have HS:=oH (HBS.out k hlt);have HLE:=oH (zIn Z D k);obtain ⟨Au,cu,rfl, -⟩:=hu.form;have HRW:=oH hu;have hnil:=@List.length_eq_zero_iff _ D[k];generalize D[k]=T at *;clear hc hu;subst hAb
   by_cases hT:T=[]
   ·have hT2:¬(0:Int)<(T.length:Int):=by rw [hT];simp
    have HN2:=oH (HN.out hT);clear hT hnil;go_wp2_with fail;go_roundw
    ·exact ⟨k+1,by go_num,oMx,by rw [HN2.out];exact HOWN.out,HBEL.out⟩
    simp [intOf];omega
   have hT2:(0:Int)<(T.length:Int):=by
    rcases Nat.eq_zero_or_pos T.length with e|e
    ·exact absurd (hnil.1 e) hT
    omega
   have HS2:=oH (HS.out hT);clear hT hnil;generalize zIj Z D k=L at *
   go_wp2_with (at_builtin;refine xAn _ _ _ rfl rfl Tryz.underlying49 Tryz.kiDel (HOWN.alloc _) (Sl.new (K:=zOd) (x:=((k:Int),T)) rfl ⟨_,rfl,HRW.out⟩) (by have:=HLE.out;have:=HRL.out;have:=HDL.out;simp only [List.length_singleton];omega) (by simp;omega) ?_)
   intro v' w5 hap
   have HAP:Hid (zCo zOd wy.heap.size w5 v' (L++[((k:Int),T)])):=oH hap.own;have HB5:=oH (hap.bel (HBEL.alloc hsz _));clear hap;go_wp2_with fail;go_roundw
   ·exact ⟨k+1,by go_num,oMx,by rw [HS2.out];exact HAP.out,HB5.out⟩
   simp [intOf];omega
  obtain rfl:k=D.length:=by omega
  have HLS:=oH HOWN.sl;have HGB5:=oH (HGB.below HBEL.out);have HGA5:=oH (HGA.below HBEL.out);have HGC5:=oH (HGC.below HBEL.out);have HLD:=oH HIR.ok.1;generalize zIj Z D D.length=L0 at *;have HHN:=oH (zBj.new HZD.out);have HCM:=oH (zCz (fi:=0) (t:=0) (D:=Z) (l:=[]) HCS.out (HUk.env HE.out) HUk.inm HOK.out HGA5.out HGC5.out HHN.out HLS.out HCK.out dCx dCx dCx HLD.out);clear HOWN hlt hk HHN HLD HLS HCK;have k0:=HUk.sb.at_ (i:=0) rfl;have k1:=HUk.sb.at_ (i:=1) rfl;have k2:=HUk.sb.at_ (i:=2) rfl;have k3:=HUk.sb.at_ (i:=3) rfl;have m0:=HGB5.at_ (i:=0) rfl;have m1:=HGB5.at_ (i:=1) rfl;have m2:=HGB5.at_ (i:=2) rfl;go_wp2_with fail;refine HCM.mono ?_;rintro e w6 ⟨vb6,vc6,rfl,hb6,hc6,hb⟩;obtain ⟨A6,c6,hv4, -⟩:=hb6.form;obtain ⟨B6,d6,hv5, -⟩:=hc6.form;have hv5:vc6 = .slice B6 1 d6:=hv5;rw [HZL.out] at hv4;subst hv4 hv5;clear k0 k1 k2 k3 m0 m1 m2 HCM;have HGB6:=oH (HGB5.below hb);have HU6:=oH (HUk.below hb)
  have HB6:=bTx2 HBW hb;have r0:=HGB6.at_ (i:=0) rfl;have r1:=HGB6.at_ (i:=1) rfl;have r2:=HGB6.at_ (i:=2) rfl;have f0:=HGB6.fr 0;have f1:=HGB6.fr 1;have f2:=HGB6.fr 2;have g0:=HU6.hb.at_ (i:=0) rfl;have g1:=HU6.hb.at_ (i:=1) rfl;have g2:=HU6.hb.at_ (i:=2) rfl
  have hne1:gh≠gg:=by omega
  have hne2:gg≠gh:=by omega
  have hgg6:gg<w6.heap.size:=HGB6.lt;have h30:=oH (zIc HGB6.out (.int .i64 0) (.slice A6 S.rs.length c6) (.slice B6 1 d6));have HGA6:=oH (hb6.kp h30.2.1 dCx);have HGC6:=oH (hc6.kp h30.2.1 dCx);have HBL:=oH (HB6.trans (h30.2.2 w4.heap.size oMx));have HGL:=oH h30.1;clear hb6 hc6 hb h30 HGA5 HGC5 HGB5 HBW HUk HB6 HBEL HGA HGC HGB HXB HBN HBS hsz;go_wp2_with fail;clear r0 r1 r2 f0 f1 f2 g0 g1 g2 HGB6 HU6;generalize ((w6.setCell ⟨gg,0,none⟩ (.int .i64 0)).setCell ⟨gg,1,none⟩ (.slice A6 S.rs.length c6)).setCell ⟨gg,2,none⟩ (.slice B6 1 d6)=wl at *;obtain ⟨l',hl'⟩:∃ l',l'=((0:Int),L0)::l:=⟨_,rfl⟩;have HL1:=oH (show l'.length=l.length+1 by rw [hl'];simp);have HGE:=oH (show ∀ k (h:k<l.length) (h2:k+1<l'.length),l'[k+1]=l[k] by subst hl';intro k h h2;rfl);have HT1:=oH (show [((0:Int),L0)]=l'.take 1 by rw [hl'];rfl);rw [<-hl'] at HIR HVR;rw [List.nil_append,HT1.out] at HGC6;clear hl' HT1
  go_loopw [82] (fun iv wr=>∃ (k:Nat) (A6:oAx) (c6:Nat) (B6:oAx) (d6:Nat),iv = .int .i64 (k:Int)/\k<=l.length/\Blk wr gg 37 [.int .i64 0,.slice A6 S.rs.length c6,.slice B6 (k+1) d6]/\Sl zOf wr (.slice A6 S.rs.length c6) Z/\Sl zOc wr (.slice B6 (k+1) d6) (l'.take (k+1))/\Below w4.heap.size w4 wr) (fun iv _=>l.length-(intOf iv).toNat)
  ·exact ⟨0,A6,c6,B6,d6,rfl,oLx,HGL.out,HGA6.out,HGC6.out,HBL.out⟩
  clear HGL HGA6 HGC6 HBL hgg6;obtain ⟨k,A7,c7,B7,d7,rfl,hk,hgb,hga,hgc,hbel⟩:=hrel;obtain ⟨wk,rfl⟩:=nWx wr;have HGB:=oH hgb;have HGA:=oH hga;have HGC:=oH hgc;have HBW:=oH hbel;have HUk:=oH (HU.below hbel);clear hgb hga hgc hbel;have k0:=HUk.sb.at_ (i:=0) rfl;have k1:=HUk.sb.at_ (i:=1) rfl;have k2:=HUk.sb.at_ (i:=2) rfl;have k3:=HUk.sb.at_ (i:=3) rfl;have m0:=HGB.at_ (i:=0) rfl;have m1:=HGB.at_ (i:=1) rfl;have m2:=HGB.at_ (i:=2) rfl;have kl:gs<wk.heap.size:=HUk.sb.lt;have ml:gg<wk.heap.size:=HGB.lt
  by_cases hlt:k<l.length
  ·obtain ⟨b2,off,hAc,hb2,hc⟩:=HUk.ch.isl2 (by intro e;subst e;simp at hlt);obtain ⟨u,p0,p1,hu⟩:=hc k hlt;have HDS:=oH hu
   have hk2:k+1<l'.length:=by have:=HL1.out;omega
   have e1:=HGE.out k hlt hk2;have ht0:=HIS.t0 _ (List.getElem_mem hlt)
   have htk:(l'.take (k+1)).length=k+1:=by rw [List.length_take];omega
   have hlast:=HIR.last_take hk2;have hat:=HIR.ok.at_ (k+1) hk2;rw [<-zZu oMx] at hat;have htake:=List.take_succ_eq_append_getElem hk2;rw [e1] at hlast hat htake;have HTK:=oH htake;have HCK:=oH (HIS.chg _ (List.getElem_mem hlt));obtain ⟨Au,cu,rfl, -⟩:=hu.form;obtain ⟨tc,htc⟩:=eXx (l[k].1);obtain ⟨ds,hds⟩:=eXx (l[k].2);have HPR:=oH (show l[k]=(tc,ds) by rw [<-htc,<-hds]);rw [htc] at hlast ht0 p0;rw [hds] at hat HDS HCK p1;rw [HPR.out] at HTK;have HCM:=oH (fun (W:World) (hB:Below wk.heap.size wk W)=>zCz (fi:=0) (t:=tc) (D:=Z) HCS.out ((HUk.below hB).env HE.out) (HUk.below hB).inm HOK.out (HGA.below hB) (HGC.below hB) (HIR.take (k+1)) (HDS.below hB) HCK.out oMx hlast oMx hat);rw [<-HTK.out] at HCM;have HBA:=oH ((Below.refl wk.heap.size wk).alloc lRx (.cells #[.int .i64 tc,.slice Au ds.length cu] 54));clear hc hu e1 hlast hat htake htk htc hds;subst hAc;go_wp2_with fail;refine (HCM.out _ HBA.out).mono ?_
   rintro e w7 ⟨vb8,vc8,rfl,hb8,hc8,hb⟩;obtain ⟨A8,c8,hv4, -⟩:=hb8.form;obtain ⟨B8,d8,hv5, -⟩:=hc8.form;rw [show (l'.take (k+1+1)).length=k+1+1 by rw [List.length_take];omega] at hv5;rw [HZL.out] at hv4;subst hv4 hv5;have hb7:=HBA.trans (hb.mono HBA.size);have HBY:=oH ((hb7).alloc hb7.size (.cells #[.int .i64 0,.slice A8 S.rs.length c8,.slice B8 (k+1+1) d8] 37));have HYB:=oH (show Blk (w7.alloc (.cells #[.int .i64 0,.slice A8 S.rs.length c8,.slice B8 (k+1+1) d8] 37)) w7.heap.size 37 [.int .i64 0,.slice A8 S.rs.length c8,.slice B8 (k+1+1) d8] from Blk.new w7 _ [_,_,_]);have HA8:=oH (hb8.below (bRx.alloc lRx (.cells #[.int .i64 0,.slice A8 S.rs.length c8,.slice B8 (k+1+1) d8] 37)));have HC8:=oH (hc8.below (bRx.alloc lRx (.cells #[.int .i64 0,.slice A8 S.rs.length c8,.slice B8 (k+1+1) d8] 37)));clear hb8 hc8 hb hb7 k0 k1 k2 k3 m0 m1 m2 HCM HBA p0 p1;go_upto_region 28 with (fail);generalize w7.alloc (.cells #[.int .i64 0,.slice A8 S.rs.length c8,.slice B8 (k+1+1) d8] 37)=wv at *
   generalize w7.heap.size=gy at *;have hgb:=HGB.below HBY.out;have r0:=hgb.at_ (i:=0) rfl;have r1:=hgb.at_ (i:=1) rfl;have r2:=hgb.at_ (i:=2) rfl;have f0:=hgb.fr 0;have f1:=hgb.fr 1;have f2:=hgb.fr 2;have y0:=HYB.at_ (i:=0) rfl;have y1:=HYB.at_ (i:=1) rfl;have y2:=HYB.at_ (i:=2) rfl;have h30:=oH (zIc hgb (.int .i64 0) (.slice A8 S.rs.length c8) (.slice B8 (k+1+1) d8));have HA9:=oH (HA8.kp h30.2.1 dCx);have HC9:=oH (HC8.kp h30.2.1 dCx);have HB9:=oH ((HBW.trans (HBY.mono HBW.size)).trans (h30.2.2 w4.heap.size oMx));clear hgb HA8 HC8 HBY HYB;go_wp2_with fail;go_roundw
   ·exact ⟨k+1,A8,c8,B8,d8,by go_num,oMx,h30.1,HA9.out,HC9.out,HB9.out⟩
   simp [intOf];omega
  obtain rfl:k=l.length:=by omega
  have htk:l'.take (l.length+1)=l':=List.take_of_length_le (by have:=HL1.out;omega);rw [htk] at HGC;clear hlt hk htk k0 k1 k2 k3 m0 m1 m2 HGE;go_wp2_with fail
  go_loopw [17] (fun iv wr=>∃ k:Nat,iv = .int .i64 (k:Int)/\k<=l.length+1/\Below wk.heap.size wk wr) (fun iv _=>l.length+1-(intOf iv).toNat)
  ·exact ⟨0,rfl,oLx,bRx⟩
  obtain ⟨k,rfl,hk,hbel⟩:=hrel;obtain ⟨wt,rfl⟩:=nWx wr;have HBT:=oH hbel;have HUt:=oH (HUk.below hbel);have HGBt:=oH (HGB.below hbel);have HGAt:=oH (HGA.below hbel);have HGCt:=oH (HGC.below hbel);clear hbel;have k0:=HUt.sb.at_ (i:=0) rfl;have k1:=HUt.sb.at_ (i:=1) rfl;have k2:=HUt.sb.at_ (i:=2) rfl;have k3:=HUt.sb.at_ (i:=3) rfl;have g0:=HUt.hb.at_ (i:=0) rfl;have g1:=HUt.hb.at_ (i:=1) rfl;have g2:=HUt.hb.at_ (i:=2) rfl;have kl:=HUt.sb.lt;have gl:=HUt.hb.lt
  by_cases hlt:k<=l.length
  ·have hlt2:(k:Int)<=(l.length:Int):=by omega
   have hw1:IntKind.i64.wrap (fi+(k:Int))=fi+(k:Int):=IntWalk.i64_in _ oMx;have hw2:IntKind.i64.wrap (1+(k:Int))=1+(k:Int):=IntWalk.i64_in _ oMx;have hw3:IntKind.i64.wrap ((k:Int)+1)=(k:Int)+1:=IntWalk.i64_in _ oMx;have HLK:=oH ((HIS.db hlt).lit HOK.out);have HC2:=oH (fun (W:World) (hB:Below wt.heap.size wt W)=>zCq (fi:=0) (k:=k+1) HCS.out ((HUt.below hB).env HE.out) (HUt.below hB).inm HOK.out (HGAt.below hB) (HGCt.below hB) HIR.out (by have:=HL1.out;omega));rw [HVR.out,show (0:Int)+((k+1:Nat):Int)=1+(k:Int) by omega] at HC2;go_wp2_with fail;refine (zCq HCS.out (HUt.env HE.out) HUt.inm HOK.out HUt.db HUt.ch HIS.out hlt).mono ?_;rintro e w8 ⟨va,rfl,hd,hb⟩;obtain ⟨Aa,ca,rfl, -⟩:=hd.form;clear k0 k1 k2 k3 g0 g1 g2 kl gl;have HA:=oH hd;have HB8:=oH hb;have HU8:=oH (HUt.below hb);have HG8:=oH (HGBt.below hb);clear hd hb;have k0:=HU8.sb.at_ (i:=0) rfl;have k1:=HU8.sb.at_ (i:=1) rfl;have k2:=HU8.sb.at_ (i:=2) rfl
   have k3:=HU8.sb.at_ (i:=3) rfl;have m0:=HG8.at_ (i:=0) rfl;have m1:=HG8.at_ (i:=1) rfl;have m2:=HG8.at_ (i:=2) rfl;go_wp2_with fail;refine (HC2.out _ HB8.out).mono ?_;rintro e w9 ⟨vb,rfl,hd,hb⟩;obtain ⟨Ae,ce,rfl, -⟩:=hd.form;have HB:=oH hd;replace HA:=oH (HA.below hb);have HB9:=bTx2 HB8 hb;clear hd hb k0 k1 k2 k3 m0 m1 m2;go_wp2_with fail;refine (zEm HA.out HB.out HLK.out).mono ?_;rintro e wS ⟨rfl,hb⟩;have HBS:=oH (HBT.trans ((HB9.trans (hb.mono HB9.size)).mono HBT.size));clear hb;go_wp2_with fail;go_roundw
   ·exact ⟨k+1,by go_num,oMx,HBS.out⟩
   simp [intOf];omega
  have hlt2:¬(k:Int)<=(l.length:Int):=by omega
  go_wp2_with fail;refine (zFy _ (HUt.env HE.out)).mono ?_;rintro e wE ⟨rfl,hb⟩;have HBE:=oH (HUt.bel.trans (hb.mono HUt.bel.size));clear hb;go_wp2_with fail;go_ret
  exact ⟨rfl,HBE.out⟩
 rw [decide_eq_false h600] at HLI
 go_enter Tryz.func4,Tryz.ntmps4
 go_wp2_with fail;refine HLI.mono ?_;rintro e w0 ⟨rfl,hb⟩;have HB0:=oH hb;clear hb HLI h600;go_wp2_with fail;refine (zFy w0 (HE.below HB0.out)).mono ?_;rintro e w1 ⟨rfl,hb⟩;have HB1:=bTx2 HB0 hb;clear hb;go_wp2_with fail;go_ret
 exact ⟨rfl,HB1.out⟩
end Go.Proofs.YtafflnognagadaaGreatDoor
