import Derived.Test.YtafflnognagadaaGreatDoorZOS
set_option maxHeartbeats 16000000
set_option maxRecDepth 100000
set_option linter.unusedVariables false
set_option linter.unusedSimpArgs false
set_option linter.unusedSectionVars false
namespace Go.Proofs.YtafflnognagadaaGreatDoor
open Go.RowKit
theorem SnapshotTimes_any (A:oAx) (ln cp:Nat) (w:World) (h:zBs w A ln) (hlc:ln<=cp) (hl:ln<=9223372036854775807) (henv:Env w):Calls Tryz.prog 5 #[.slice A ln cp] w fun e w'=>e = .returned (.bool true)/\Below w.heap.size w w':=by
 have HE:=oH henv;have HI:=oH h;have HLI:=oH (zCf A ln cp w);clear henv h
 by_cases h600:ln<=600
 ·rw [decide_eq_true h600] at HLI
  go_enter Tryz.func5,Tryz.ntmps5
  go_wp2_with fail;refine HLI.mono ?_;rintro e w0 ⟨rfl,hb⟩;have HB0:=oH hb;clear hb HLI h600;go_wp2_with fail;refine (zCn A ln cp w0 (HI.below HB0.out) hlc hl).mono ?_;rintro e w1 ⟨rfl,hs,hb⟩;have HNB:=oH (show w.heap.size<=w0.heap.size from HB0.size);have HB1:=bTx2 HB0 hb;have HS1:=oH hs;generalize w0.heap.size=b at *;clear hs hb HI HB0 hlc hl;go_wp2_with fail;refine (zFw b 4 w1 HS1.out dCx dCx).mono ?_;rintro e w2 ⟨S,rfl,hok,hat,hrs,hga,hgr,hin,hs,hg,hinm⟩;have HOK:=oH hok;have HLOW:=oH (show zCg S from zBe.low hga hgr);have HSK:=oH (show SK w2 b S from ⟨hs,hinm⟩);have hb2:b<w2.heap.size:=hs.lt;have HB2:=oH (show Below w.heap.size w w2 from HB1.trans ⟨hg.os,hg.tape,hg.output,hg.size,fun i hi=>hg.block i (Nat.lt_of_lt_of_le hi HB1.size) (fun e=>by injection e with e;have:=HNB.out;omega)⟩);have HRS:=oH hrs;have HAT:=oH hat;clear hok hat hrs hga hgr hin hs hg hinm HS1 HB1;generalize hcs:S.cells=cs
  have HCS:=oH hcs;obtain ⟨pa,na,ka,pr,nr,kr,pf,nf,kf,lb,hq⟩:∃ pa na ka pr nr kr pf nf kf lb,cs=#[.slice pa na ka,.slice pr nr kr,.slice pf nf kf,.int .i64 lb]:=⟨_,_,_,_,_,_,_,_,_,_,hcs.symm⟩;subst hq;clear hcs;have HSK2:=oH (HSK.below ((Below.refl w2.heap.size w2).alloc lRx (.cells #[.slice pa na ka,.slice pr nr kr,.slice pf nf kf,.int .i64 lb] 31)));have HMH:=oH (zCi (rows:=2) (most:=6) HSK2.out HOK.out HLOW.out dCx dCx dCx);rw [HCS.out,show ((2:Nat):Int)=2 from rfl,show ((6:Nat):Int)=6 from rfl] at HMH;go_wp2_with fail;refine HMH.mono ?_;rintro e w3 ⟨fi,vb,vc,D,l,rfl,hvb,hvc,hmade,hs,hg⟩;obtain ⟨Ab,cb,rfl, -⟩:=hvb.form;obtain ⟨Ac,cc,rfl, -⟩:=hvc.form;have HMD:=oH hmade;have hbw:Below w.heap.size w (w2.alloc (.cells #[.slice pa na ka,.slice pr nr kr,.slice pf nf kf,.int .i64 lb] 31)):=HB2.alloc HB2.size _
  have hb3:w2.heap.size<w3.heap.size:=by have:=hg.size;simp at this;omega
  have HU:=oH (show UH w (w3.alloc (.cells #[.int .i64 fi,.slice Ab D.length cb,.slice Ac l.length cc] 37)) b w2.heap.size w3.heap.size S #[.slice pa na ka,.slice pr nr kr,.slice pf nf kf,.int .i64 lb] fi (.slice Ab D.length cb) (.slice Ac l.length cc) D l from
   ⟨(HSK2.step hg hs).below (bA),((Blk.new w2 _ [.slice pa na ka,.slice pr nr kr,.slice pf nf kf,.int .i64 lb]).src hg oMx).alloc _,Blk.new w3 _ [_,_,_],hvb.below (bA),hvc.below (bA),(hbw.trans ⟨hg.os,hg.tape,hg.output,hg.size,fun i hi=>hg.block i (Nat.lt_of_lt_of_le hi hbw.size) (fun e=>by injection e with e;have:=HNB.out;omega)⟩).alloc (by have:=hbw.size;simp at this;omega) _,oMx,oMx,HNB.out⟩)
  have hgs:w2.heap.size<w3.heap.size:=hb3;have HMI:=oH (show 0<=fi/\fi+(l.length:Int)<=6 from ⟨hmade.his.f0,hmade.len⟩);have hk3:=(Blk.new w2 31 [.slice pa na ka,.slice pr nr kr,.slice pf nf kf,.int .i64 lb]).src hg oMx;have k0:=hk3.at_ (i:=0) rfl;have k1:=hk3.at_ (i:=1) rfl;have k2:=hk3.at_ (i:=2) rfl;have k3:=hk3.at_ (i:=3) rfl;clear hvb hvc hmade hs hg hbw hb3 HSK HSK2 HMH HB2 HNB hk3;go_wp2_with fail;clear k0 k1 k2 k3;generalize w3.alloc (.cells #[.int .i64 fi,.slice Ab D.length cb,.slice Ac l.length cc] 37)=wz at *;generalize w2.heap.size=gs at *;generalize w3.heap.size=gh at *;have HIS:=oH HMD.his;clear HOK HLOW HRS HAT HCS HMD
  go_loopw [6] (fun iv wr=>∃ n:Nat,iv = .int .i64 ((n:Int)-1)/\n<=16/\UH w wr b gs gh S #[.slice pa na ka,.slice pr nr kr,.slice pf nf kf,.int .i64 lb] fi (.slice Ab D.length cb) (.slice Ac l.length cc) D l) (fun iv _=>(15-intOf iv).toNat)
  ·exact ⟨0,rfl,oMx,HU.out⟩
  obtain ⟨n,rfl,hn,hu⟩:=hrel;obtain ⟨wa,rfl⟩:=nWx wr;have HUa:=oH hu;have k0:=HUa.sb.at_ (i:=0) rfl;have k1:=HUa.sb.at_ (i:=1) rfl;have k2:=HUa.sb.at_ (i:=2) rfl;have k3:=HUa.sb.at_ (i:=3) rfl;have g0:=HUa.hb.at_ (i:=0) rfl;have g1:=HUa.hb.at_ (i:=1) rfl;have g2:=HUa.hb.at_ (i:=2) rfl;have kl:=HUa.sb.lt;have gl:=HUa.hb.lt;clear hu HU;have hmi:=HMI.out
  by_cases hlt:n<16
  ·have hle:(n:Int)-1<=14:=by omega
   have HTT:=oH (show ∃ m:Nat,n=m from ⟨n,rfl⟩);obtain ⟨tt,htt⟩:∃ tt:Int,(n:Int)-1=tt:=⟨_,rfl⟩;have HT2:=oH htt;rw [htt] at hle ⊢;clear htt;go_wp2_with fail;refine (zDm (t:=tt) HUa.ch HMI.1 (by have:=HMI.out;omega) (by have:=HMI.out;omega)).mono ?_;rintro e wb ⟨rfl,hb⟩;have HUb:=oH (HUa.below hb);clear hb k0 k1 k2 k3 g0 g1 g2 kl gl;have k0:=HUb.sb.at_ (i:=0) rfl;have k1:=HUb.sb.at_ (i:=1) rfl;have k2:=HUb.sb.at_ (i:=2) rfl;have k3:=HUb.sb.at_ (i:=3) rfl;have g0:=HUb.hb.at_ (i:=0) rfl;have g1:=HUb.hb.at_ (i:=1) rfl;have g2:=HUb.hb.at_ (i:=2) rfl;have kl:=HUb.sb.lt;have gl:=HUb.hb.lt;have HVI:=oH (fun i hi=>xAd (t:=tt) HIS.asc i hi);have hvl:=verN_le l tt;generalize xAa l tt=vn at *
   have hd1:¬fi+(vn:Int)<fi:=by omega
   have HL:=oH (zDg (ub := .slice Ab D.length cb) (A:=Ac) (n:=l.length) (c:=cc) (w:=wb) HMI.1 (by have:=HMI.out;omega) (by have:=HMI.out;omega))
   have hd2:¬fi+(l.length:Int)<fi+(vn:Int):=by omega
   go_wp2_with fail;refine HL.mono ?_;rintro e wc ⟨rfl,hb⟩;have HUc:=oH (HUb.below hb);clear hb k0 k1 k2 k3 g0 g1 g2 kl gl HL;have k0:=HUc.sb.at_ (i:=0) rfl;have k1:=HUc.sb.at_ (i:=1) rfl;have k2:=HUc.sb.at_ (i:=2) rfl;have k3:=HUc.sb.at_ (i:=3) rfl;have g0:=HUc.hb.at_ (i:=0) rfl;have g1:=HUc.hb.at_ (i:=1) rfl;have g2:=HUc.hb.at_ (i:=2) rfl;have kl:=HUc.sb.lt;have gl:=HUc.hb.lt;go_wp2_with fail;clear k0 k1 k2 k3 g0 g1 g2 kl gl hd1 hd2
   go_loopw [41] (fun iv wr=>∃ i:Nat,iv = .int .i64 (i:Int)/\i<=l.length/\UH w wr b gs gh S #[.slice pa na ka,.slice pr nr kr,.slice pf nf kf,.int .i64 lb] fi (.slice Ab D.length cb) (.slice Ac l.length cc) D l) (fun iv _=>l.length-(intOf iv).toNat)
   ·exact ⟨0,rfl,oLx,HUc.out⟩
   obtain ⟨i,rfl,hi,hu⟩:=hrel;obtain ⟨wd,rfl⟩:=nWx wr;have HUd:=oH hu;have k0:=HUd.sb.at_ (i:=0) rfl;have k1:=HUd.sb.at_ (i:=1) rfl;have k2:=HUd.sb.at_ (i:=2) rfl;have k3:=HUd.sb.at_ (i:=3) rfl;have g0:=HUd.hb.at_ (i:=0) rfl;have g1:=HUd.hb.at_ (i:=1) rfl;have g2:=HUd.hb.at_ (i:=2) rfl;have kl:=HUd.sb.lt;have gl:=HUd.hb.lt;clear hu
   by_cases hil:i<l.length
   ·obtain ⟨b2,off,hAc,hb2,hc⟩:=HUd.ch.isl2 (by intro e;subst e;simp at hil);obtain ⟨u1,p0,p1,hu1⟩:=hc i hil;obtain ⟨Au,cu,rfl, -⟩:=hu1.form;have hv:=HVI.out i hil;clear hu1;generalize l[i].1=s at *;generalize l[i].2.length=mu at *;have hg1:IntKind.i64.wrap (fi+(i:Int))=fi+(i:Int):=IntWalk.i64_in _ (by have:=HMI.out;omega);have hg2:IntKind.i64.wrap (fi+(i:Int)+1)=fi+(i:Int)+1:=IntWalk.i64_in _ (by have:=HMI.out;omega);clear hc;have HBX:=oH (HUd.alloc (.cells #[.int .i64 s,.slice Au mu cu] 54));subst hAc
    by_cases hs:s<=tt
    ·have h2:fi+(i:Int)+1<=fi+(vn:Int):=by have:=hv.1 hs;omega
     clear hv;go_wp2_with fail;go_roundw
     ·exact ⟨i+1,by go_num,oMx,HBX.out⟩
     simp [intOf];omega
    have h2:¬fi+(i:Int)+1<=fi+(vn:Int):=fun e=>hs (hv.2 oMx)
    clear hv;go_wp2_with fail;go_roundw
    ·exact ⟨i+1,by go_num,oMx,HBX.out⟩
    simp [intOf];omega
   have hil2:¬(i:Int)<(l.length:Int):=by omega
   have hg1:IntKind.i64.wrap (tt+1)=tt+1:=IntWalk.i64_in _ (by have:=HT2.out;omega);go_wp2_with fail;go_roundw
   ·exact ⟨n+1,by have:=HT2.out;congr 1;omega,oMx,HUd.out⟩
   have:=HT2.out;simp [intOf];omega
  have hle:¬(n:Int)-1<=14:=by omega
  go_wp2_with fail;refine (zFy _ (HUa.env HE.out)).mono ?_;rintro e wE ⟨rfl,hb⟩;have HBE:=oH (HUa.bel.trans (hb.mono HUa.bel.size));clear hb;go_wp2_with fail;go_ret
  exact ⟨rfl,HBE.out⟩
 rw [decide_eq_false h600] at HLI
 go_enter Tryz.func5,Tryz.ntmps5
 go_wp2_with fail;refine HLI.mono ?_;rintro e w0 ⟨rfl,hb⟩;have HB0:=oH hb;clear hb HLI h600;go_wp2_with fail;refine (zFy w0 (HE.below HB0.out)).mono ?_;rintro e w1 ⟨rfl,hb⟩;have HB1:=bTx2 HB0 hb;clear hb;go_wp2_with fail;go_ret
 exact ⟨rfl,HB1.out⟩
end Go.Proofs.YtafflnognagadaaGreatDoor
