import Derived.Test.YtfjjcoggoomlbaaGreatDoorZNB
import Derived.Test.YtfjjcoggoomlbaaGreatDoorZNA
set_option maxHeartbeats 16000000
set_option maxRecDepth 100000
set_option linter.unusedVariables false
set_option linter.unusedSimpArgs false
set_option linter.unusedSectionVars false
namespace Go.Proofs.YtfjjcoggoomlbaaGreatDoor
open Go.RowKit
theorem form_sz {n:Nat} {M:mRx} {x:Nat->Rat} (hM:∀ i k,i<n->k<n->zBt (M i k)) (hx:∀ k,k<n->zBt (x k)) (hn:n<=12) (i k:Nat) (hi:i<=n) (hi2:k=0\/i<n) (hk:k<=n):Sz 40000 (xDg i (fun i=>xDg n fun j=>x i*M i j*x j)+xDg k (fun j=>x i*M i j*x j)):=by
 have h1:∀ a b,a<n->b<n->Sz 135 (x a*M a b*x b):=fun a b ha hb=>(((hx a ha).sz.mul (hM a b ha hb).sz).mul (hx b hb).sz).mono oMx
 have h2:∀ a,a<n->Sz (1+n*136) (xDg n fun j=>x a*M a j*x j):=fun a ha=>xDq (b:=135) fun j hj=>h1 a j ha hj
 have h3:Sz (1+i*(1+n*136+1)) (xDg i (fun i=>xDg n fun j=>x i*M i j*x j)):=xDq (b:=1+n*136) fun a ha=>h2 a oMx
 have h4:Sz (1+k*136) (xDg k (fun j=>x i*M i j*x j)):=xDq (b:=135) fun j hj=>h1 i j oMx oMx
 refine (h3.add h4).mono ?_;have:i*(1+n*136+1)<=12*(1+12*136+1):=Nat.mul_le_mul oMx oMx;omega
theorem zBu (A Ab:oAx) (c cb n:Nat) (rs:List zGk) (ss:List ByteArray) (M:mRx) (x:Nat->Rat) (w:World) (h:zCz w A rs) (hmf:zCy rs n n M) (hn1:1<=n) (hn:n<=12) (hs:zGw w Ab ss) (hv:zHn ss n x) (henv:Env w) :
  Calls Tryz.prog 16 #[.slice A n c,.slice Ab n cb] w fun e w'=>e = .returned (.tuple #[.string (outR (form n M x)),.int .i64 (zVd (form n M x))])/\Below w.heap.size w w':=by
 have hfm:=hmf.fine hn hn (fun e=>e);have hl:=hmf.len;have hsl:=hv.len;have HSH:=zGn A rs c n w h hfm henv;rw [hl] at HSH;replace HSH:=oH HSH;have HM:=oH h;have HF:=oH hmf;have HE0:=oH henv;have HV:=oH hv;have HSZ:=oH (form_sz hmf.fit hv.fit hn)
 have HNU:=oH (fun W (hW:Below w.heap.size w W)=>(show Calls Tryz.prog 67 #[.slice Ab n cb,.func (.func 76) #[] #[]] W _ from by
  have h9:=ConFo (fun s => !vR s) Ab ss cb W (hs.below hW) oMx (fun s hs W' hW'=>form1 s W' (hv.valid s hs).2 ((henv.below hW).below hW'))
  rw [hsl,show ss.any (fun s => !vR s)=false from by
   rw [List.any_eq_false]
   intro s hs
   simp [(hv.valid s hs).1]] at h9
  exact h9))
 have HLS:=oH (fun W (hW:Below w.heap.size w W)=>(show Calls Tryz.prog 70 #[.slice Ab n cb] W _ from by have:=zBg Ab ss cb W (hs.below hW) oMx (fun s hs=>(hv.valid s hs).1) (henv.below hW);rw [hsl] at this;exact this))
 have hvq:∀ k,(hk:k<ss.length)->xFp ss[k]=x k:=fun k hk=>by rw [hv.cel k hk,xFq (hv.fit k oMx)]
 have HVQ:=oH hvq
 have hnn:((n:Int) != (n:Int))=false:=by simp
 clear h hmf henv hs hv hvq hfm
 go_enter Tryz.func16,Tryz.ntmps16
 go_wp2_with fail;refine HSH.mono ?_;rintro e w1 ⟨rfl,hb1⟩;have HB1:=oH hb1;clear hb1 HSH;go_wp2_with fail;refine (HNU.out w1 HB1.out).mono ?_;rintro e w2 ⟨rfl,hb2⟩;have HB2:=bTx2 HB1 hb2;clear hb2 HNU;go_wp2_with fail;refine (HLS.out w2 HB2.out).mono ?_;rintro e w4 ⟨v4,us,rfl,hown,hnou,hfrs,hb4⟩
 have hul:us.length=n:=by have:=hfrs.1;rw [List.length_map] at this;omega
 rw [hul] at hown;obtain ⟨A4,c4,rfl, -⟩:=zVk hown;obtain ⟨gl,rfl⟩:=zVj hown oMx;have HB4:=bTx2 HB2 hb4;have HOL:=oH hown;have HFL:=oH hfrs;clear hown hnou hfrs hb4 hnn HLS HB1 HB2;go_wp2_with fail;refine (zBj 0 _ dCx).mono ?_;rintro e w5 ⟨v5,rfl,hv5,hb5⟩;obtain ⟨u0,u4,u1,u5,u2,u3,u6,u7,rfl⟩:=hv5.slice;have hba:Below w5.heap.size w5 (w5.alloc (.cells #[.bool u0,.slice u1 u2 u3,.bool u4,.slice u5 u6 u7] 89)):=bA;have HW6:=bTx2 hb5 hba;have HK6:=oH (show Blk (w5.alloc (.cells #[.bool u0,.slice u1 u2 u3,.bool u4,.slice u5 u6 u7] 89)) w5.heap.size 89 (FrV.four ⟨u0,u1,u2,u3,u4,u5,u6,u7⟩) from Blk.new w5 89 (FrV.four ⟨u0,u1,u2,u3,u4,u5,u6,u7⟩));have HS6:=oH (hv5.below hba);have hg1:=hb5.size;have hglt:=(HOL.lt gl rfl).2;clear hv5 hb5 hba;go_wp2_with fail;generalize (w5.alloc (.cells #[.bool u0,.slice u1 u2 u3,.bool u4,.slice u5 u6 u7] 89))=W at *;generalize w5.heap.size=g1 at *
 go_loopw [43] (fun iv wr=>∃ (i:Nat) (u:FrV),iv = .int .i64 (i:Int)/\i<=n/\Blk wr g1 89 u.four/\zCh wr u.val (xDg i fun i=>xDg n fun j=>x i*M i j*x j)/\Below w4.heap.size w4 wr) (fun iv _=>n-(intOf iv).toNat)
 ·exact ⟨0,_,rfl,oLx,HK6.out,HS6.out,HW6.out⟩
 clear HK6 HS6 HW6;obtain ⟨i,u,rfl,hi,hkb,hsf,hbw⟩:=hrel;obtain ⟨wi,rfl⟩:=nWx wr
 by_cases hlt:i<n
 ·obtain ⟨b,off,b2,o2,cp,rfl,hb,hb2,hc,hc2⟩:=zSp HM.out HF.out (show 0<n by omega) hlt;have HC2:=oH (fun k hk=>hc2 k hk);have k0:=((HB4.trans (hbw.mono HB4.size)).cell (p:=⟨b,off+i,none⟩) hb).trans hc;have HKI:=oH hkb;have HSI:=oH hsf;have HWI:=oH hbw
  have i1:(0:Int)<=(i:Int):=by omega
  have i2:(i:Int)<(n:Int):=by omega
  clear hkb hsf hbw hc hc2;go_wp2_with fail;clear k0
  go_loopw [50] (fun kv wk=>∃ (k:Nat) (u:FrV),kv = .int .i64 (k:Int)/\k<=n/\Blk wk g1 89 u.four/\zCh wk u.val (xDg i (fun i=>xDg n fun j=>x i*M i j*x j)+xDg k (fun j=>x i*M i j*x j))/\Below w4.heap.size w4 wk) (fun kv _=>n-(intOf kv).toNat)
  ·exact ⟨0,u,rfl,oLx,HKI.out,by have:=HSI.out;show zCh _ _ (_+0);rw [Rat.add_zero];exact this,HWI.out⟩
  clear HKI HSI HWI;obtain ⟨k,u,rfl,hk,hkb,hsf,hbw⟩:=hrel
  by_cases hlt2:k<n
  ·have hbx:=hbw;have c0:=((HB4.trans (hbw.mono HB4.size)).cell (p:=⟨b2,o2+k,none⟩) hb2).trans (HC2.out k hlt2)
   have k1:(0:Int)<=(k:Int):=by omega
   have k2:(k:Int)<(n:Int):=by omega
   have hiu:i<us.length:=by omega
   have hku:k<us.length:=by omega
   have p0':=(zOd hiu).1;have p1':=(zOd hiu).2.1;have p2':=(zOd hiu).2.2.1;have p3':=(zOd hiu).2.2.2;have q0':=(zOd hku).1;have q1':=(zOd hku).2.1;have q2':=(zOd hku).2.2.1;have q3':=(zOd hku).2.2.2;have hxi:=HFL.2 i hiu (by rw [List.length_map];omega);have hxk:=HFL.2 k hku (by rw [List.length_map];omega);rw [List.getElem_map,HVQ.out i oMx] at hxi;rw [List.getElem_map,HVQ.out k oMx] at hxk;have hfm:=HF.fit i k hlt hlt2;have HR1:=oH (fun W hE=>zBl (M i k) W hfm hE);have si:=(HV.fit i hlt).sz;have sk:=(HV.fit k hlt2).sz;have sm:=hfm.sz;have sim:=si.mul sm;have sik:=sim.mul sk;have ss:=HSZ.out i k hi (.inr hlt) hk;have HSU:=oH (show xDg i (fun i=>xDg n fun j=>x i*M i j*x j)+xDg (k+1) (fun j=>x i*M i j*x j)=xDg i (fun i=>xDg n fun j=>x i*M i j*x j)+xDg k (fun j=>x i*M i j*x j)+x i*M i k*x k from (Rat.add_assoc _ _ _).symm);have HE:=oH (HE0.below HB4.out);obtain ⟨xi,hxi'⟩:∃ q,x i=q:=⟨_,rfl⟩;obtain ⟨xk,hxk'⟩:∃ q,x k=q:=⟨_,rfl⟩
   obtain ⟨mq,hmq⟩:=eXx (M i k);obtain ⟨sq,hsq⟩:∃ q,xDg i (fun i=>xDg n fun j=>x i*M i j*x j)+xDg k (fun j=>x i*M i j*x j)=q:=⟨_,rfl⟩;rw [hsq] at ss hsf HSU;have HSU2:=oH (show xDg i (fun i=>xDg n fun j=>x i*M i j*x j)+xDg (k+1) (fun j=>x i*M i j*x j)=sq+xi*mq*xk by rw [HSU.out,hxi',hxk',hmq]);rw [hmq] at HR1 sm sim sik c0;rw [hxi'] at si sim sik hxi;rw [hxk'] at sk sik hxk;obtain ⟨s1,hs1⟩:=eXx (zYy mq);rw [hs1] at HR1 c0;generalize us[i]=ui at *;generalize us[k]=uk at *;obtain ⟨l0,l1,l2,l3,l4,l5,l6,l7⟩:=ui;obtain ⟨m0,m1,m2,m3,m4,m5,m6,m7⟩:=uk;obtain ⟨u0,u1,u2,u3,u4,u5,u6,u7⟩:=u;have KB:=oH (fun W' (hW:Below w4.heap.size w4 W') (hK:Blk W' g1 89 (FrV.four ⟨u0,u1,u2,u3,u4,u5,u6,u7⟩))=>(show W'.cell? ⟨g1,0,none⟩=some (.bool u0)/\W'.cell? ⟨g1,1,none⟩=some (.slice u1 u2 u3)/\W'.cell? ⟨g1,2,none⟩=some (.bool u4)/\W'.cell? ⟨g1,3,none⟩=some (.slice u5 u6 u7)/\W'.cell? ⟨gl,i*4,none⟩=some (.bool l0)/\W'.cell? ⟨gl,i*4+1,none⟩=some (.slice l1 l2 l3)/\W'.cell? ⟨gl,i*4+2,none⟩=some (.bool l4)/\W'.cell? ⟨gl,i*4+3,none⟩=some (.slice l5 l6 l7)/\W'.cell? ⟨gl,k*4,none⟩=some (.bool m0)/\W'.cell? ⟨gl,k*4+1,none⟩=some (.slice m1 m2 m3)/\W'.cell? ⟨gl,k*4+2,none⟩=some (.bool m4)/\W'.cell? ⟨gl,k*4+3,none⟩=some (.slice m5 m6 m7) from ⟨hK.at_ (i:=0) rfl,hK.at_ (i:=1) rfl,hK.at_ (i:=2) rfl,hK.at_ (i:=3) rfl,(hW.cell (p:=⟨gl,i*4,none⟩) hglt).trans ((HOL.cellAt (i*4) oMx).trans p0'),(hW.cell (p:=⟨gl,i*4+1,none⟩) hglt).trans ((HOL.cellAt (i*4+1) oMx).trans p1'),(hW.cell (p:=⟨gl,i*4+2,none⟩) hglt).trans ((HOL.cellAt (i*4+2) oMx).trans p2'),(hW.cell (p:=⟨gl,i*4+3,none⟩) hglt).trans ((HOL.cellAt (i*4+3) oMx).trans p3'),(hW.cell (p:=⟨gl,k*4,none⟩) hglt).trans ((HOL.cellAt (k*4) oMx).trans q0'),(hW.cell (p:=⟨gl,k*4+1,none⟩) hglt).trans ((HOL.cellAt (k*4+1) oMx).trans q1'),(hW.cell (p:=⟨gl,k*4+2,none⟩) hglt).trans ((HOL.cellAt (k*4+2) oMx).trans q2'),(hW.cell (p:=⟨gl,k*4+3,none⟩) hglt).trans ((HOL.cellAt (k*4+3) oMx).trans q3')⟩))
   have HWz:=oH hbw.drew;have HKz:=oH (show Blk wr.drew g1 89 _ from hkb.below bRx.drew);have HSz:=oH (show zCh wr.drew (.agg #[.bool u0,.slice u1 u2 u3,.bool u4,.slice u5 u6 u7]) sq from hsf.below bRx.drew);have HLAz:=oH (show zCh wr.drew (.agg #[.bool l0,.slice l1 l2 l3,.bool l4,.slice l5 l6 l7]) xi from hxi.below hbw.drew);have HLBz:=oH (show zCh wr.drew (.agg #[.bool m0,.slice m1 m2 m3,.bool m4,.slice m5 m6 m7]) xk from hxk.below hbw.drew);have KSz:=oH (KB.out _ HWz.out HKz.out);clear hkb hsf hbw hbx hfm hxi hxk hxi' hxk' hmq hsq hs1 HSU p0' p1' p2' p3' q0' q1' q2' q3';go_wp2_with fail;refine xHt (S:=(fun w'=>w'.cell? ⟨g1,0,none⟩=some (.bool u0)/\w'.cell? ⟨g1,1,none⟩=some (.slice u1 u2 u3)/\w'.cell? ⟨g1,2,none⟩=some (.bool u4)/\w'.cell? ⟨g1,3,none⟩=some (.slice u5 u6 u7)/\w'.cell? ⟨gl,i*4,none⟩=some (.bool l0)/\w'.cell? ⟨gl,i*4+1,none⟩=some (.slice l1 l2 l3)/\w'.cell? ⟨gl,i*4+2,none⟩=some (.bool l4)/\w'.cell? ⟨gl,i*4+3,none⟩=some (.slice l5 l6 l7)/\w'.cell? ⟨gl,k*4,none⟩=some (.bool m0)/\w'.cell? ⟨gl,k*4+1,none⟩=some (.slice m1 m2 m3)/\w'.cell? ⟨gl,k*4+2,none⟩=some (.bool m4)/\w'.cell? ⟨gl,k*4+3,none⟩=some (.slice m5 m6 m7))) 14 (by kernel_rfl) rfl (by kernel_rfl) (by kernel_rfl) rfl (by exact KSz.out) (fun hHeld=>?_)
   simp only [List.pop_toArray,List.dropLast_cons_cons,List.dropLast_singleton];refine tkH 0 ?_;refine tkH 1 ?_;refine tkH 2 ?_;refine tkH 3 ?_;refine tkH 4 ?_;refine tkH 5 ?_;refine tkH 8 ?_;refine tkH 9 ?_;refine tkH 10 ?_;refine tkH 11 ?_
   try simp only [Act.put,tkA,tkB,tkC]
   refine tkS 6 fun K hK=>?_
   go_simp
   (go_at_call 60;(with_reducible refine (HR1.out _ (HE.out.below HWz.out)).mono ?_);rintro e wa ⟨va,rfl,hv,hb⟩;have hw:=HWz.out.trans (hb.mono HWz.out.size);have HWa:=oH hw;have hk:=HKz.out.below hb;have HKa:=oH hk;have HVa:=oH hv;have HSa:=oH (HSz.out.below hb);have HLAa:=oH (HLAz.out.below hb);have HLBa:=oH (HLBz.out.below hb);obtain ⟨ra0,ra4,ra1,ra5,ra2,ra3,ra6,ra7,rfl⟩:=hv.slice;have KSa:=oH (KB.out wa hw hk);clear hv hb hw hk)
   go_wp2_with fail;refine hK.out _ _ ?_ (fun hHeld=>?_)
   ·exact kSx
   clear hK K
   try simp only [Act.put,tkA,tkB,tkC]
   refine tkS 7 fun K hK=>?_
   go_simp
   (go_at_call 73;(with_reducible refine (zBh _ _ xi mq _ HLAa.out HVa.out (si.mono oMx) (sm.mono oMx)).mono ?_);rintro e wb ⟨vb,rfl,hv,hb⟩;have hw:=HWa.out.trans (hb.mono HWa.out.size);have HWb:=oH hw;have hk:=HKa.out.below hb;have HKb:=oH hk;have HVb:=oH hv;have HSb:=oH (HSa.out.below hb);have HLAb:=oH (HLAa.out.below hb);have HLBb:=oH (HLBa.out.below hb);obtain ⟨rb0,rb4,rb1,rb5,rb2,rb3,rb6,rb7,rfl⟩:=hv.slice;have KSb:=oH (KB.out wb hw hk);clear hv hb hw hk)
   go_wp2_with fail;refine hK.out _ _ ?_ (fun hHeld=>?_)
   ·exact kSx
   clear hK K
   try simp only [Act.put,tkA,tkB,tkC]
   refine tkS 12 fun K hK=>?_
   go_simp
   (go_at_call 73;(with_reducible refine (zBh _ _ (xi*mq) xk _ HVb.out HLBb.out (sim.mono oMx) (sk.mono oMx)).mono ?_);rintro e wc ⟨vc,rfl,hv,hb⟩;have hw:=HWb.out.trans (hb.mono HWb.out.size);have HWc:=oH hw;have hk:=HKb.out.below hb;have HKc:=oH hk;have HVc:=oH hv;have HSc:=oH (HSb.out.below hb);have HLAc:=oH (HLAb.out.below hb);have HLBc:=oH (HLBb.out.below hb);obtain ⟨rc0,rc4,rc1,rc5,rc2,rc3,rc6,rc7,rfl⟩:=hv.slice;have KSc:=oH (KB.out wc hw hk);clear hv hb hw hk)
   go_wp2_with fail;refine hK.out _ _ ?_ (fun hHeld=>?_)
   ·exact kSx
   clear hK K
   try simp only [Act.put,tkA,tkB,tkC]
   refine tkS 13 fun K hK=>?_
   go_simp
   (go_at_call 72;(with_reducible refine (zBc _ _ sq (xi*mq*xk) _ HSc.out HVc.out (ss.mono oMx) (sik.mono oMx)).mono ?_);rintro e wd ⟨vd,rfl,hv,hb⟩;have hw:=HWc.out.trans (hb.mono HWc.out.size);have HWd:=oH hw;have hk:=HKc.out.below hb;have HKd:=oH hk;have HVd:=oH hv;have HSd:=oH (HSc.out.below hb);have HLAd:=oH (HLAc.out.below hb);have HLBd:=oH (HLBc.out.below hb);obtain ⟨rd0,rd4,rd1,rd5,rd2,rd3,rd6,rd7,rfl⟩:=hv.slice;have KSd:=oH (KB.out wd hw hk);clear hv hb hw hk)
   go_wp2_with fail;refine hK.out _ _ ?_ (fun hHeld=>?_)
   ·exact kSx
   clear hK K
   try simp only [Act.put,tkA,tkB,tkC]
   refine wpAnyH_done (by kernel_rfl) ?_ _;simp only [xEe,List.getElem_toArray,List.getElem_cons_succ,List.getElem_cons_zero];have hkd:=HKd.out;have e0:=hkd.at_ (i:=0) rfl;have e1:=hkd.at_ (i:=1) rfl;have e2:=hkd.at_ (i:=2) rfl;have e3:=hkd.at_ (i:=3) rfl;have f0:=hkd.fr 0;have f1:=hkd.fr 1;have f2:=hkd.fr 2;have f3:=hkd.fr 3;clear hkd;go_wp2_with fail;go_roundw
   ·exact ⟨k+1,⟨rd0,rd1,rd2,rd3,rd4,rd5,rd6,rd7⟩,by go_num,oMx,zIt (v:=⟨rd0,rd1,rd2,rd3,rd4,rd5,rd6,rd7⟩) HKd.out,by rw [HSU2.out];exact zOc HKd.out HVd.out ⟨rd0,rd1,rd2,rd3,rd4,rd5,rd6,rd7⟩,zIm HWd.out hg1 _ _ _ _⟩
   simp [intOf];omega
  have hkn:k=n:=by omega
  have HSF:=oH (show zCh wr u.val (xDg (i+1) fun i=>xDg n fun j=>x i*M i j*x j) by rw [hkn] at hsf;exact hsf);have HKF:=oH hkb;have HWF:=oH hbw;clear hkb hsf hbw hkn;go_wp2_with fail;go_roundw
  ·exact ⟨i+1,u,by go_num,oMx,HKF.out,HSF.out,HWF.out⟩
  simp [intOf];omega
 have hin:i=n:=by omega
 have HSF:=oH (show zCh wi u.val (form n M x) by rw [hin] at hsf;exact hsf)
 have hsz:Sz 5000000 (form n M x):=by
  have h9:=HSZ.out n 0 lRx (.inl rfl) oLx;rw [show xDg n (fun i=>xDg n fun j=>x i*M i j*x j)+xDg 0 (fun j=>x n*M n j*x j)=form n M x from Rat.add_zero _] at h9;exact h9.mono dCx
 have HBF:=bTx2 HB4 hbw;have HFT:=oH (zBf _ (form n M x) wi HSF.out hsz (HE0.below HBF.out));obtain ⟨u0,u1,u2,u3,u4,u5,u6,u7⟩:=u;have e0:=hkb.at_ (i:=0) rfl;have e1:=hkb.at_ (i:=1) rfl;have e2:=hkb.at_ (i:=2) rfl;have e3:=hkb.at_ (i:=3) rfl;obtain ⟨fq,hfq⟩:=eXx (form n M x);have HFQ:=oH hfq;rw [hfq] at HFT hsz HSF;clear hfq hkb hsf hbw hin hsz HSZ;go_wp2_with fail;refine HFT.mono ?_;rintro e w9 ⟨rfl,hb9⟩;have HB9:=bTx2 HBF hb9;clear hb9 e0 e1 e2 e3;go_wp2_with fail;go_ret2
 exact ⟨by rw [HFQ.out];rfl,HB9.out⟩
end Go.Proofs.YtfjjcoggoomlbaaGreatDoor
