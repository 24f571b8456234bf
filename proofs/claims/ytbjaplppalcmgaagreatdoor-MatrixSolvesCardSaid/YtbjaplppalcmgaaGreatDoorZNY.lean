import Derived.Test.YtbjaplppalcmgaaGreatDoorZNP
import Derived.Test.YtbjaplppalcmgaaGreatDoorZNV
set_option maxHeartbeats 16000000
set_option maxRecDepth 100000
set_option linter.unusedVariables false
set_option linter.unusedSimpArgs false
set_option linter.unusedSectionVars false
namespace Go.Proofs.YtbjaplppalcmgaaGreatDoor
open Go.RowKit
attribute [local go_sem] zMz
theorem zEf (A:oAx) (rs:List zGh) (c m n N dg:Nat) (M:mRx) (w:World) (h:zCj w A rs) (hmf:zCi rs m n M) (hm1:1<=m) (hm:m<=12) (hn1:1<=n) (hn:n<=12) (hk1:1<=dg) (hd:∀ i k,i<m->k<n->zAl dg (M i k)) (hk6:dg*(m*n)+1+dg<=1000000) (hN0:1<=N) (hN1:N<=600) (bb:Bool) (hbb:bb=true↔hvR N m n M) :
  Calls Tryz.prog 41 #[.slice A m c,.int .i64 (N:Int)] w fun e w'=>e = .returned (.bool bb)/\Below w.heap.size w w':=by
 have HM:=oH h;have HF:=oH hmf;have HD:=oH hd;have HBB:=oH hbb;clear h hmf hd hbb
 go_enter Tryz.func41,Tryz.ntmps41
 go_wp2_with fail;refine (zEm 1 w dCx dCx).mono ?_;rintro e w1 ⟨v1,rfl,hv,hb⟩;obtain ⟨nb,A1,l1,c1,rfl⟩:=hv.slice;have hbl:Below w1.heap.size w1 (w1.alloc (.cells #[.bool nb,.slice A1 l1 c1] 85)):=bA;have HQ1:=oH (show QBox (w1.alloc (.cells #[.bool nb,.slice A1 l1 c1] 85)) w1.heap.size 1 from ⟨nb,A1,l1,c1,Blk.new w1 85 [.bool nb,.slice A1 l1 c1],hv.below hbl⟩);have HB1:=bTx2 hb hbl;have HPQ:=oH (show w.heap.size<=w1.heap.size from hb.size);clear hv hb hbl;go_upto_region 2 with (fail);generalize w1.alloc (.cells #[.bool nb,.slice A1 l1 c1] 85)=W1 at *;generalize w1.heap.size=pq at *;go_wp2_with fail
 go_loopw [19] (fun iv wr=>∃ (i q:Nat),iv = .int .i64 (i:Int)/\i<=m/\q=qR M n i/\¬600<N*Lib.nDigits q/\0<q/\q<10^(dg*(i*n)+1)/\QBox wr pq q/\Below w.heap.size w wr) (fun iv _=>m-(intOf iv).toNat)
 ·exact ⟨0,1,rfl,oLx,rfl,by rw [show Lib.nDigits 1=1 by rw [Lib.nDigits];simp];omega,dCx,by rw [Nat.zero_mul,Nat.mul_zero];decide,HQ1.out,HB1.out⟩
 clear HQ1 HB1;obtain ⟨i,q,rfl,him,hqe,hnq,hq0,hqb,hqx,hbr⟩:=hrel;have HQE:=oH hqe;have HNQ:=oH hnq;clear hqe hnq;obtain ⟨wi,rfl⟩:=nWx wr;have HQB:=oH hqb;have HQX:=oH hqx;have HBR:=oH hbr;clear hqb hqx hbr
 by_cases hlt:i<m
 ·obtain ⟨b,off,b2,o2,cp,rfl,hb1,hb2,hc,hcr⟩:=zRn HM.out HF.out oMx hlt;have cR:=(HBR.cell hb1).trans hc
  have x1:(0:Int)<=(i:Int):=by omega
  have x2:(i:Int)<(m:Int):=by omega
  have HCR:=oH hcr;have HCI:=oH hc;clear hc hcr;go_wp2_with fail;clear cR
  go_loopw [27] (fun kv wr=>∃ (k q:Nat),kv = .int .i64 (k:Int)/\k<=n/\q=qC M i (qR M n i) k/\¬600<N*Lib.nDigits q/\0<q/\q<10^(dg*(i*n+k)+1)/\QBox wr pq q/\Below w.heap.size w wr) (fun kv _=>n-(intOf kv).toNat)
  ·exact ⟨0,q,rfl,oLx,HQE.out,HNQ.out,hq0,HQB.out,HQX.out,HBR.out⟩
  clear HQB HQX HBR hq0 HQE HNQ;obtain ⟨k,q,rfl,hkn,hqe,hnq,hq0,hqb,hqx,hbr⟩:=hrel;have HQE:=oH hqe;have HNQ:=oH hnq;clear hqe hnq;obtain ⟨wk,rfl⟩:=nWx wr;have HQB:=oH hqb;have HQX:=oH hqx;have HBR:=oH hbr;clear hqb hqx hbr
  by_cases hltk:k<n
  ·have cR:=(HBR.cell hb1).trans HCI.out;have cK:=(HBR.cell (p:=⟨b2,o2+k,none⟩) hb2).trans (HCR.out k hltk);have HRD:=oH (zDu (M i k) wk (HF.fit i k hlt hltk));have HDG:=oH (HD.out i k hlt hltk);have hdp:0<(M i k).den:=(M i k).den_pos;obtain ⟨z,hz⟩:=eXx (M i k);rw [hz] at cK HRD HDG hdp;have HZE:=oH hz;generalize zXl z=sz at *
   have x3:(0:Int)<=(k:Int):=by omega
   have x4:(k:Int)<(n:Int):=by omega
   clear hz;go_wp2_with fail;refine HRD.mono ?_;rintro e w2 ⟨v2,rfl,hv,hb⟩;obtain ⟨na,n2,A0,A2,l0,c0,l2,c2,rfl, -,hden⟩:=hv.open_;have HQX2:=oH (HQX.below hb);have HB2:=bTx2 HBR hb;have hbl:Below w2.heap.size w2 (w2.alloc (.cells #[.bool n2,.slice A2 l2 c2] 85)):=bA;have HQX3:=oH (HQX2.below hbl);have HB3:=bTx2 HB2 hbl;have HKD:=oH (Blk.new w2 85 [.bool n2,.slice A2 l2 c2]);have HYW:=oH (hden.below hbl)
   have hlp:pq<w2.heap.size:=by obtain ⟨_,_,_,_,hk,_⟩:=HQX2.out;exact hk.lt
   clear hv hb hden hbl cR cK HRD;go_upto_region 9 with (fail);generalize w2.alloc (.cells #[.bool n2,.slice A2 l2 c2] 85)=W at *;generalize w2.heap.size=pd at *;obtain ⟨n1,A1,l1,c1,hka,hxw⟩:=HQX3.out;have KA:=oH hka;have KD:=HKD;have HXW:=oH hxw;have q1:=hka.lt;have q2:=HKD.lt;obtain ⟨x,hx⟩:∃ x:Int,x=(q:Int):=⟨_,rfl⟩;obtain ⟨y,hy⟩:∃ y:Int,y=(z.den:Int):=⟨_,rfl⟩;rw [<-hx] at HXW;rw [<-hy] at HYW;obtain ⟨gg,hgg⟩:∃ gg:Int,gg=((Nat.gcd x.natAbs y.natAbs:Nat):Int):=⟨_,rfl⟩;have HGG:=oH hgg
   have hgN:gg=((Nat.gcd q z.den:Nat):Int):=by rw [hgg,hx,hy,Int.natAbs_natCast,Int.natAbs_natCast]
   have hgp:=Nat.gcd_pos_of_pos_left z.den hq0;have HG0:=oH (show gg≠0 by omega)
   have hdl:z.den<10^dg:=by have:=HDG.2;unfold Dig at this;rwa [Int.natAbs_natCast] at this
   have hkk:dg*(i*n+k)+1+dg<=1000000:=by
    have h1:i*n+k<=m*n:=by
     have:=Nat.mul_le_mul_right n (show i+1<=m by omega);rw [Nat.succ_mul] at this;omega
    have:=Nat.mul_le_mul_left dg h1;omega
   have hlx:(limbs x.natAbs).length<=10000000:=by rw [hx,Int.natAbs_natCast];exact zIt HQB.out oMx
   have hly:(limbs y.natAbs).length<=10000000:=by rw [hy,Int.natAbs_natCast];exact zIt hdl oMx
   have hlg:(limbs gg.natAbs).length<=10000000:=by rw [hgN,Int.natAbs_natCast];exact zIt (Nat.lt_of_le_of_lt (Nat.gcd_le_right _ hdp) hdl) oMx
   have HDL:=oH hdl;have HXQ:=oH hx;have EQ:=oH (show y.tdiv gg=((z.den/Nat.gcd q z.den:Nat):Int) by rw [hy,hgN,Int.ofNat_tdiv]);have HUP:=oH (q_up hq0 hdp HQB.out hdl);have k0:=hka.at_ (i:=0) rfl;have k1:=hka.at_ (i:=1) rfl;have k2:=HKD.at_ (i:=0) rfl;have k3:=HKD.at_ (i:=1) rfl;clear hka hxw hx hy hgg hgN hgp hdl HQX HBR HQX2 HQX3
   go_cut [9] from 28 to 55 (fun v wc=>∃ (g:Nat) (nb:Bool) (S:oAx) (l c:Nat),v = .pointer (some ⟨g,0,none⟩)/\wc.cell? ⟨g,0,none⟩=some (.bool nb)/\wc.cell? ⟨g,1,none⟩=some (.slice S l c)/\zBm wc (.agg #[.bool nb,.slice S l c]) (y.tdiv gg)/\Below W.heap.size W wc)
   case first =>
    have KS0:Hid (W.drew.cell? ⟨pq,0,none⟩=some (.bool n1)/\W.drew.cell? ⟨pq,1,none⟩=some (.slice A1 l1 c1)/\W.drew.cell? ⟨pd,0,none⟩=some (.bool n2)/\W.drew.cell? ⟨pd,1,none⟩=some (.slice A2 l2 c2)):=oH ⟨k0,k1,k2,k3⟩
    have nx00:¬(pq=W.heap.size):=oMx;have nx01:¬(W.heap.size=pq):=oMx;have nx02:¬(pq=W.heap.size+1):=oMx;have nx03:¬(W.heap.size+1=pq):=oMx;have nx04:¬(pd=W.heap.size):=oMx;have nx05:¬(W.heap.size=pd):=oMx;have nx06:¬(pd=W.heap.size+1):=oMx;have nx07:¬(W.heap.size+1=pd):=oMx;skip
    have ng0:=World.new_ne W ⟨pq,0,none⟩ k0;have ng1:=World.new_ne W ⟨pd,0,none⟩ k2
    go_region_held3 (fun w'=>w'.cell? ⟨pq,0,none⟩=some (.bool n1)/\w'.cell? ⟨pq,1,none⟩=some (.slice A1 l1 c1)/\w'.cell? ⟨pd,0,none⟩=some (.bool n2)/\w'.cell? ⟨pd,1,none⟩=some (.slice A2 l2 c2)) (first|with_reducible exact KS0.out|with_reducible exact KS1.out|with_reducible exact KS2.out|(with_reducible refine zYt ?_ _;assumption)|go_keep) (first|(go_at_call 83;(with_reducible refine (zEb _ _ x y _ (HXW.out.below (by first|exact bRx|exact bRx.drew|exact bA|exact (bA).alloc sMx _|exact bA.drew|exact ((bA).alloc sMx _).drew)) (HYW.out.below (by first|exact bRx|exact bRx.drew|exact bA|exact (bA).alloc sMx _|exact bA.drew|exact ((bA).alloc sMx _).drew)) oMx oMx).mono ?_);rintro e w1 ⟨v1,rfl,hv,hb⟩;have HV1:=oH hv;have hbw:Below W.heap.size W w1:=Below.trans (by first|exact bRx|exact bRx.drew|exact bA|exact (bA).alloc sMx _|exact bA.drew|exact ((bA).alloc sMx _).drew) (hb.mono leH);have HY1:=oH (HYW.out.below hbw);have HB1:=oH hbw;(first|(have za1:=((Blk.new W 85 [.bool false,.slice none 0 0]).alloc (.cells #[.bool false,.slice none 0 0] 85)).below (Below.trans bRd (hb.mono leH));have zb1:=(Blk.new' (w:=W.alloc (.cells #[.bool false,.slice none 0 0] 85)) (g:=W.heap.size+1) sMx 85 [.bool false,.slice none 0 0]).below (Below.trans bRd (hb.mono leH));have za10:=za1.at_ (i:=0) rfl;have za11:=za1.at_ (i:=1) rfl;have zb10:=zb1.at_ (i:=0) rfl;have zb11:=zb1.at_ (i:=1) rfl;have ya10:=za1.fr 0;have ya11:=za1.fr 1;have yb10:=zb1.fr 0;have yb11:=zb1.fr 1;have sa1:=za1.lt;have sb1:=zb1.lt;have ZA1:=oH za1;have ZB1:=oH zb1;clear za1 zb1)|(have za1:=(Blk.new W 85 [.bool false,.slice none 0 0]).below (Below.trans bRd (hb.mono leH));have za10:=za1.at_ (i:=0) rfl;have za11:=za1.at_ (i:=1) rfl;have ya10:=za1.fr 0;have ya11:=za1.fr 1;have sa1:=za1.lt;have ZA1:=oH za1;clear za1)|skip);obtain ⟨x1,X1,y1,z1,rfl⟩:=hv.slice;have KA1:=oH (KA.out.below hbw);have KD1:=oH (KD.out.below hbw);have k10:=KA1.out.at_ (i:=0) rfl;have k11:=KA1.out.at_ (i:=1) rfl;have k12:=KD1.out.at_ (i:=0) rfl;have k13:=KD1.out.at_ (i:=1) rfl;have n10:=World.new_ne w1 ⟨pq,0,none⟩ k10;have n11:=World.new_ne w1 ⟨pd,0,none⟩ k12;have q11:=KA1.out.lt;have q12:=KD1.out.lt;have nx10:¬(pq=w1.heap.size):=oMx;have nx11:¬(w1.heap.size=pq):=oMx;have nx12:¬(pq=w1.heap.size+1):=oMx;have nx13:¬(w1.heap.size+1=pq):=oMx;have nx14:¬(pd=w1.heap.size):=oMx;have nx15:¬(w1.heap.size=pd):=oMx;have nx16:¬(pd=w1.heap.size+1):=oMx;have nx17:¬(w1.heap.size+1=pd):=oMx;have KS1:Hid (w1.cell? ⟨pq,0,none⟩=some (.bool n1)/\w1.cell? ⟨pq,1,none⟩=some (.slice A1 l1 c1)/\w1.cell? ⟨pd,0,none⟩=some (.bool n2)/\w1.cell? ⟨pd,1,none⟩=some (.slice A2 l2 c2)):=oH ⟨k10,k11,k12,k13⟩;clear hv hb hbw)|(go_at_call 82;(with_reducible refine (zEn _ _ y gg _ (HY1.out.below (by first|exact bRx|exact bRx.drew|exact bA|exact (bA).alloc sMx _|exact bA.drew|exact ((bA).alloc sMx _).drew)) (by rw [HGG.out];exact HV1.out.below (by first|exact bRx|exact bRx.drew|exact bA|exact (bA).alloc sMx _|exact bA.drew|exact ((bA).alloc sMx _).drew)) oMx oMx HG0.out).mono ?_);rintro e w2 ⟨v2,u2,rfl,hq,hr,hb⟩;have HQ2:=oH hq;have hbw:Below w1.heap.size w1 w2:=Below.trans (by first|exact bRx|exact bRx.drew|exact bA|exact (bA).alloc sMx _|exact bA.drew|exact ((bA).alloc sMx _).drew) (hb.mono leH);have HB2:=bTx2 HB1 hbw;have KA2:=oH (KA1.out.below hbw);have KD2:=oH (KD1.out.below hbw);have k20:=KA2.out.at_ (i:=0) rfl;have k21:=KA2.out.at_ (i:=1) rfl;have k22:=KD2.out.at_ (i:=0) rfl;have k23:=KD2.out.at_ (i:=1) rfl;have n20:=World.new_ne w2 ⟨pq,0,none⟩ k20;have n21:=World.new_ne w2 ⟨pd,0,none⟩ k22;have q21:=KA2.out.lt;have q22:=KD2.out.lt;have nx20:¬(pq=w2.heap.size):=oMx;have nx21:¬(w2.heap.size=pq):=oMx;have nx22:¬(pq=w2.heap.size+1):=oMx;have nx23:¬(w2.heap.size+1=pq):=oMx;have nx24:¬(pd=w2.heap.size):=oMx;have nx25:¬(w2.heap.size=pd):=oMx;have nx26:¬(pd=w2.heap.size+1):=oMx;have nx27:¬(w2.heap.size+1=pd):=oMx;have KS2:Hid (w2.cell? ⟨pq,0,none⟩=some (.bool n1)/\w2.cell? ⟨pq,1,none⟩=some (.slice A1 l1 c1)/\w2.cell? ⟨pd,0,none⟩=some (.bool n2)/\w2.cell? ⟨pd,1,none⟩=some (.slice A2 l2 c2)):=oH ⟨k20,k21,k22,k23⟩;(first|(have ZA1':=oH (ZA1.out.below hbw);have zc0:=ZA1'.out.at_ (i:=0) rfl;have zc1:=ZA1'.out.at_ (i:=1) rfl;have yc0:=ZA1'.out.fr 0;have yc1:=ZA1'.out.fr 1;have sc:=ZA1'.out.lt)|skip);(first|(have ZB1':=oH (ZB1.out.below hbw);have zd0:=ZB1'.out.at_ (i:=0) rfl;have zd1:=ZB1'.out.at_ (i:=1) rfl;have yd0:=ZB1'.out.fr 0;have yd1:=ZB1'.out.fr 1;have sd:=ZB1'.out.lt)|skip);(first|(have za2:=((Blk.new w1 85 [.bool false,.slice none 0 0]).alloc (.cells #[.bool false,.slice none 0 0] 85)).below (Below.trans bRd (hb.mono leH));have zb2:=(Blk.new' (w:=w1.alloc (.cells #[.bool false,.slice none 0 0] 85)) (g:=w1.heap.size+1) sMx 85 [.bool false,.slice none 0 0]).below (Below.trans bRd (hb.mono leH));have za20:=za2.at_ (i:=0) rfl;have za21:=za2.at_ (i:=1) rfl;have zb20:=zb2.at_ (i:=0) rfl;have zb21:=zb2.at_ (i:=1) rfl;have ya20:=za2.fr 0;have ya21:=za2.fr 1;have yb20:=zb2.fr 0;have yb21:=zb2.fr 1;have sa2:=za2.lt;have sb2:=zb2.lt;have ZA2:=oH za2;have ZB2:=oH zb2;clear za2 zb2)|(have za2:=(Blk.new w1 85 [.bool false,.slice none 0 0]).below (Below.trans bRd (hb.mono leH));have za20:=za2.at_ (i:=0) rfl;have za21:=za2.at_ (i:=1) rfl;have ya20:=za2.fr 0;have ya21:=za2.fr 1;have sa2:=za2.lt;have ZA2:=oH za2;clear za2)|skip);obtain ⟨x2,X2,y2,z2,rfl⟩:=hq.slice;obtain ⟨x3,X3,y3,z3,rfl⟩:=hr.slice;clear hq hr hb hbw))
    all_goals go_wp2_with fail
    all_goals go_meet
    all_goals
     have hz1:=HB1.size;have hz2:=HB2.size;refine q_rel (w2:=w2) ?_ ?_ ?_ HQ2.out HB2.out
     ·repeat' first
       | with_reducible exact KpB.refl _ _
       | (with_reducible refine KpB.set ?_ oMx (by first|exact .inl oMx|with_reducible exact .inr ZA1'.out|with_reducible exact .inr ZB1'.out|with_reducible exact .inr ZA2.out|with_reducible exact .inr ZB2.out) _ _)
       | (with_reducible refine KpB.alloc ?_ oMx _)
       | (with_reducible refine KpB.drew ?_)
     ·go_simp
     go_simp
   case rest =>
    obtain ⟨g,nb,S,l,c,rfl,m0,m1,hq,hbel⟩:=hcut;rw [EQ.out] at hq;have HQ:=oH hq;have HX3:=oH (HXW.below hbel);have HKA3:=oH (KA.below hbel);have a0:=HKA3.at_ (i:=0) rfl;have a1:=HKA3.at_ (i:=1) rfl;have HB4:=bTx2 HB3 hbel;clear hq hbel k0 k1 k2 k3
    have hlq:(limbs (((z.den/Nat.gcd q z.den:Nat):Int)).natAbs).length<=100000000:=by rw [Int.natAbs_natCast];exact Nat.le_trans (zIt (Nat.lt_of_le_of_lt (Nat.div_le_self _ _) HDL.out) oMx) dCx
    go_wp2_with fail;refine (zEk _ _ x ((z.den/Nat.gcd q z.den:Nat):Int) _ HX3.out HQ.out oMx hlq).mono ?_;rintro e w5 ⟨v5,rfl,hv,hb⟩;obtain ⟨nb5,A5,l5,c5,rfl⟩:=hv.slice;have KA5:=oH (HKA3.below hb);have HB5:=bTx2 HB4 hb;rw [HXQ.out,<-Int.natCast_mul] at hv;have HV5:=oH hv;have r0:=KA5.at_ (i:=0) rfl;have r1:=KA5.at_ (i:=1) rfl;have f0:=KA5.fr 0;have f1:=KA5.fr 1;clear hv hb a0 a1 m0 m1 hlq;go_upto_region 11 with (fail);have KA6:=oH ((KA5.set 0 (.bool nb5)).set 1 (.slice A5 l5 c5));have HV6:=oH (HV5.set2 KA5.out (.bool nb5) (.slice A5 l5 c5));have HB6:=oH (zIm HB5.out HPQ.out (.bool nb5) (.slice A5 l5 c5));generalize ((w5.setCell ⟨pq,0,none⟩ (.bool nb5)).setCell ⟨pq,1,none⟩ (.slice A5 l5 c5))=W6 at *;have HQ6:=oH (show QBox W6 pq (q*(z.den/Nat.gcd q z.den)) from ⟨nb5,A5,l5,c5,KA6.out,HV6.out⟩);have s0:=KA6.at_ (i:=0) rfl;have s1:=KA6.at_ (i:=1) rfl
    have HEX:=oH (show q*(z.den/Nat.gcd q z.den)<10^(dg*(i*n+(k+1))+1) from by
     have:=HUP.2
     rwa [show dg*(i*n+(k+1))+1=dg*(i*n+k)+1+dg by rw [<-Nat.add_assoc,Nat.mul_add,Nat.mul_one];omega])
    have HPO:=oH HUP.1;have HQN:=oH (show q*(z.den/Nat.gcd q z.den)=qC M i (qR M n i) (k+1) from by rw [qC,<-HQE.out,HZE.out];rfl);generalize q*(z.den/Nat.gcd q z.den)=q' at *
    have hnd:Lib.nDigits q'<=dg*(m*n)+1+dg:=Nat.le_trans (zSe HEX.out oMx) (by
     have h2:i*n+(k+1)<=m*n:=by
      have:=Nat.mul_le_mul_right n (show i+1<=m by omega);rw [Nat.succ_mul] at this;omega
     have:=Nat.mul_le_mul_left dg h2
     omega)
    have hlq6:(limbs ((q':Int)).natAbs).length<=10000000:=by rw [Int.natAbs_natCast];exact zIt HEX.out (by
     have h2:i*n+(k+1)<=m*n:=by
      have:=Nat.mul_le_mul_right n (show i+1<=m by omega);rw [Nat.succ_mul] at this;omega
     have:=Nat.mul_le_mul_left dg h2
     omega)
    have hprod:N*Lib.nDigits q'<=600*1000000:=Nat.mul_le_mul hN1 (Nat.le_trans hnd hk6);have HDC:=oH (zDi _ (q':Int) W6 HV6.out hlq6);rw [Int.natAbs_natCast] at HDC
    have hw:IntKind.i64.wrap ((N:Int)*((Lib.nDigits q':Nat):Int))=((N*Lib.nDigits q':Nat):Int):=by rw [<-Int.natCast_mul];exact IntWalk.i64_in _ oMx
    have HHV:=oH (fun (e:600<N*Lib.nDigits q')=>hvR_den (N:=N) (n:=n) hlt (show k+1<=n by omega) (by rw [<-HQN.out];exact e));have HNP:=oH (fun (e:¬600<N*Lib.nDigits q')=>e);clear r0 r1 f0 f1 hnd hprod;go_wp2_with fail;refine HDC.mono ?_;rintro e w7 ⟨rfl,hb⟩;have HQ7:=oH (HQ6.below hb);have HB7:=bTx2 HB6 hb;obtain ⟨lmx,hlm⟩:=eXx (N*Lib.nDigits q');rw [hlm] at HHV hw;have HLM:=oH hlm;clear hb s0 s1 hlm
    by_cases hbig:600<lmx
    ·have E:=oH (HBB.2 (HHV.out hbig))
     have hbig2:(600:Int)<(lmx:Int):=by omega
     go_wp2_with fail;go_ret
     exact ⟨by rw [E.out];rfl,HB7.out⟩
    have hbig2:¬(600:Int)<(lmx:Int):=by omega
    have HNN:=oH (show ¬600<N*Lib.nDigits q' by rw [HLM.out];exact hbig);go_wp2_with fail;go_roundw
    ·exact ⟨k+1,q',by go_num,oMx,HQN.out,HNN.out,HPO.out,HEX.out,HQ7.out,HB7.out⟩
    simp [intOf];omega
  obtain rfl:k=n:=by omega
  have HEX:=oH (show q<10^(dg*((i+1)*k)+1) from by rw [Nat.succ_mul];exact HQB.out);go_wp2_with fail;go_roundw
  ·exact ⟨i+1,q,by go_num,oMx,HQE.out,HNQ.out,hq0,HEX.out,HQX.out,HBR.out⟩
  simp [intOf];omega
 obtain rfl:i=m:=by omega
 go_wp2_with fail
 go_loopw [59] (fun iv wr=>∃ j:Nat,iv = .int .i64 (j:Int)/\j<=i/\(∀ a b,a<j->b<n->¬600<N*Lib.nDigits ((M a b).num*((q/(M a b).den:Nat):Int)).natAbs)/\Below wi.heap.size wi wr) (fun iv _=>i-(intOf iv).toNat)
 ·exact ⟨0,rfl,oLx,fun a b h=>absurd h (Nat.not_lt_zero a),bRx⟩
 obtain ⟨j,rfl,hji,hno,hbj⟩:=hrel;have HNO:=oH hno;clear hno;obtain ⟨wj,rfl⟩:=nWx wr
 by_cases hltj:j<i
 ·obtain ⟨b,off,b2,o2,cp,rfl,hb1,hb2,hc,hcr⟩:=zRn HM.out HF.out oMx hltj;have hbw:=HBR.trans (hbj.mono HBR.size);have cR:=(hbw.cell hb1).trans hc;have HCR:=oH hcr;have HCI:=oH hc;have HBJ:=oH hbj
  have x1:(0:Int)<=(j:Int):=by omega
  have x2:(j:Int)<(i:Int):=by omega
  clear hc hcr hbj hbw;go_wp2_with fail;clear cR
  go_loopw [67] (fun kv wr=>∃ k:Nat,kv = .int .i64 (k:Int)/\k<=n/\(∀ b,b<k->¬600<N*Lib.nDigits ((M j b).num*((q/(M j b).den:Nat):Int)).natAbs)/\Below wi.heap.size wi wr) (fun kv _=>n-(intOf kv).toNat)
  ·exact ⟨0,rfl,oLx,fun b h=>absurd h (Nat.not_lt_zero b),HBJ.out⟩
  clear HBJ;obtain ⟨k,rfl,hkn,hnk,hbk⟩:=hrel;have HNK:=oH hnk;clear hnk;obtain ⟨wk,rfl⟩:=nWx wr;have HBK:=oH hbk
  by_cases hltk:k<n
  ·have hbw:=HBR.trans (hbk.mono HBR.size);have cR:=(hbw.cell hb1).trans HCI.out;have cK:=(hbw.cell (p:=⟨b2,o2+k,none⟩) hb2).trans (HCR.out k hltk);have HRD:=oH (zDu (M j k) wk (HF.fit j k hltj hltk));have HDG:=oH (HD.out j k hltj hltk);have HQK:=oH (HQX.below hbk);have hdp:0<(M j k).den:=(M j k).den_pos;obtain ⟨z,hz⟩:=eXx (M j k);rw [hz] at cK HRD HDG hdp;have HZE:=oH hz;generalize zXl z=sz at *
   have x3:(0:Int)<=(k:Int):=by omega
   have x4:(k:Int)<(n:Int):=by omega
   clear hz hbk hbw;go_wp2_with fail;refine HRD.mono ?_;rintro e w2 ⟨v2,rfl,hv,hb⟩;obtain ⟨na,n2,A0,A2,l0,c0,l2,c2,rfl,hnum,hden⟩:=hv.open_;have hbl:Below w2.heap.size w2 (w2.alloc (.cells #[.bool na,.slice A0 l0 c0,.bool n2,.slice A2 l2 c2] 87)):=bA;have HQ3:=oH ((HQK.below hb).below hbl);have HB3:=oH (HBK.trans ((hb.trans (hbl.mono hb.size)).mono HBK.size));have HKX:=oH (Blk.new w2 87 [.bool na,.slice A0 l0 c0,.bool n2,.slice A2 l2 c2]);have HNU:=oH (hnum.below hbl);have HDE:=oH (hden.below hbl);clear hv hb hnum hden hbl cR cK HRD HQK HBK;go_upto_region 22 with (fail);generalize w2.alloc (.cells #[.bool na,.slice A0 l0 c0,.bool n2,.slice A2 l2 c2] 87)=W at *;generalize w2.heap.size=px at *;obtain ⟨n1,A1,l1,c1,hka,hxw⟩:=HQ3.out;have k0:=hka.at_ (i:=0) rfl;have k1:=hka.at_ (i:=1) rfl;have e2:=HKX.at_ (i:=2) rfl;have e3:=HKX.at_ (i:=3) rfl
   have hdl:z.den<10^dg:=by have:=HDG.2;unfold Dig at this;rwa [Int.natAbs_natCast] at this
   have hnl:z.num.natAbs<10^dg:=HDG.1
   have hlx:(limbs ((q:Int)).natAbs).length<=10000000:=by rw [Int.natAbs_natCast];exact zIt HQB.out oMx
   have hly:(limbs ((z.den:Int)).natAbs).length<=10000000:=by rw [Int.natAbs_natCast];exact zIt hdl oMx
   have hdz:(z.den:Int)≠0:=by omega
   have HQU:=oH (zEn _ _ (q:Int) (z.den:Int) W hxw HDE.out hlx hly hdz);have HNL:=oH hnl;clear hka hxw hlx hly hdz hdl hnl HQ3;go_wp2_with fail;refine HQU.mono ?_;rintro e w3 ⟨v3,u3,rfl,hq,hr,hb⟩;have HQ:=oH hq;have HB4:=bTx2 HB3 hb;have HK4:=oH (HKX.below hb);have HN4:=oH (HNU.below hb);obtain ⟨m1,X1,y1,z1,rfl⟩:=hq.slice;obtain ⟨m2,X2,y2,z2,rfl⟩:=hr.slice;clear hq hr hb k0 k1 e2 e3;go_upto_region 23 with (fail);have hbA:Below w3.heap.size w3 ((w3.alloc (.cells #[.bool m1,.slice X1 y1 z1] 85)).alloc (.cells #[.bool m2,.slice X2 y2 z2] 85)):=(bA).alloc sMx _;have HM5:=oH ((Blk.new w3 85 [.bool m1,.slice X1 y1 z1]).alloc (.cells #[.bool m2,.slice X2 y2 z2] 85));have HN5:=oH (HN4.below hbA);have HQ5:=HQ.below hbA;rw [<-Int.ofNat_tdiv] at HQ5;replace HQ5:=oH HQ5;have HK5:=oH (HK4.below hbA);have HB5:=bTx2 HB4 hbA;clear hbA HN4 HQ HK4 HB4;generalize ((w3.alloc (.cells #[.bool m1,.slice X1 y1 z1] 85)).alloc (.cells #[.bool m2,.slice X2 y2 z2] 85))=W5 at *
   generalize w3.heap.size=pm at *;have t0:=HK5.at_ (i:=0) rfl;have t1:=HK5.at_ (i:=1) rfl;have t2:=HM5.at_ (i:=0) rfl;have t3:=HM5.at_ (i:=1) rfl;have hlm:q/z.den<10^(dg*(i*n)+1):=Nat.lt_of_le_of_lt (Nat.div_le_self _ _) HQB.out;have hln:(limbs z.num.natAbs).length<=10000000:=zIt HNL.out oMx
   have hlm2:(limbs (((q/z.den:Nat):Int)).natAbs).length<=100000000:=by rw [Int.natAbs_natCast];exact Nat.le_trans (zIt hlm oMx) dCx
   have hp:(z.num*((q/z.den:Nat):Int)).natAbs<10^(dg*(i*n)+1+dg):=by
    rw [Int.natAbs_mul,Int.natAbs_natCast,Nat.add_comm _ dg,Nat.pow_add];exact Nat.mul_lt_mul'' HNL.out hlm
   have HMC:=oH (zEk _ _ z.num ((q/z.den:Nat):Int) _ HN5.out HQ5.out oMx hlm2);have HHP:=oH hp;have HTZ:=oH (show (M j k).num*((q/(M j k).den:Nat):Int)=z.num*((q/z.den:Nat):Int) by rw [HZE.out]);generalize z.num*((q/z.den:Nat):Int)=tz at *;clear hlm hln hlm2 hp HN5 HQ5 HK5 HM5;go_wp2_with fail;refine HMC.mono ?_;rintro e w6 ⟨v6,rfl,hv,hb⟩;obtain ⟨nb6,A6,l6,c6,rfl⟩:=hv.slice;have HB6:=bTx2 HB5 hb;have hnd:Lib.nDigits tz.natAbs<=dg*(i*n)+1+dg:=zSe HHP.out oMx;have HDC:=oH (zDi _ tz w6 hv (zIt HHP.out oMx));have hprod:N*Lib.nDigits tz.natAbs<=600*1000000:=Nat.mul_le_mul hN1 (Nat.le_trans hnd oMx)
   have hw:IntKind.i64.wrap ((N:Int)*((Lib.nDigits tz.natAbs:Nat):Int))=((N*Lib.nDigits tz.natAbs:Nat):Int):=by rw [<-Int.natCast_mul];exact IntWalk.i64_in _ oMx
   have HHV:=oH (fun (e:600<N*Lib.nDigits tz.natAbs)=>(show hvR N i n M from .inr (.inl ⟨j,k,hltj,hltk,by rw [<-HQE.out,HTZ.out];exact e⟩)));clear hv hb hnd hprod t0 t1 t2 t3 HMC HB5;go_wp2_with fail;refine HDC.mono ?_;rintro e w7 ⟨rfl,hb⟩;have HB7:=bTx2 HB6 hb;obtain ⟨lmx,hlm⟩:=eXx (N*Lib.nDigits tz.natAbs);rw [hlm] at HHV hw;have HLM:=oH hlm;clear hb HB6 HDC hlm
   by_cases hbig:600<lmx
   ·have E:=oH (HBB.2 (HHV.out hbig));have HBF:=bTx2 HBR HB7
    have hbig2:(600:Int)<(lmx:Int):=by omega
    go_wp2_with fail;go_ret
    exact ⟨by rw [E.out];rfl,HBF.out⟩
   have hbig2:¬(600:Int)<(lmx:Int):=by omega
   have HNN:=oH (show ∀ b,b<k+1->¬600<N*Lib.nDigits ((M j b).num*((q/(M j b).den:Nat):Int)).natAbs from fun b hb=>by
    rcases Nat.lt_or_ge b k with h1|h1
    ·exact HNK.out b h1
    obtain rfl:b=k:=by omega
    rw [HTZ.out,HLM.out]
    exact hbig)
   go_wp2_with fail;go_roundw
   ·exact ⟨k+1,by go_num,oMx,HNN.out,HB7.out⟩
   simp [intOf];omega
  replace hbk:=HBK.out
  have HNN:=oH (show ∀ a b,a<j+1->b<n->¬600<N*Lib.nDigits ((M a b).num*((q/(M a b).den:Nat):Int)).natAbs from fun a b ha hb=>by
   rcases Nat.lt_or_ge a j with h1|h1
   ·exact HNO.out a b h1 hb
   obtain rfl:a=j:=by omega
   exact HNK.out b oMx)
  clear HBK;go_wp2_with fail;go_roundw
  ·exact ⟨j+1,by go_num,oMx,HNN.out,hbk⟩
  simp [intOf];omega
 have HBE:=bTx2 HBR hbj
 have hNb:¬600<N:=by omega
 have hNb2:¬(600:Int)<(N:Int):=by omega
 have E:=oH (show bb=false by
  rw [<-Bool.not_eq_true]
  intro e
  rcases HBB.1 e with h|⟨a,b,ha,hb,h⟩|h
  ·rw [<-HQE.out] at h;exact HNQ.out h
  ·rw [<-HQE.out] at h;exact HNO.out a b oMx hb h
  exact hNb h)
 clear hbj;go_wp2_with fail;go_ret
 exact ⟨by rw [E.out];rfl,HBE.out⟩
end Go.Proofs.YtbjaplppalcmgaaGreatDoor
