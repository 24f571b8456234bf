import Derived.Test.YtfjjcoggoomlbaaGreatDoorZNE
import Derived.Test.YtfjjcoggoomlbaaGreatDoorZNC
set_option maxHeartbeats 16000000
set_option maxRecDepth 100000
set_option linter.unusedVariables false
set_option linter.unusedSimpArgs false
set_option linter.unusedSectionVars false
namespace Go.Proofs.YtfjjcoggoomlbaaGreatDoor
open Go.RowKit
structure MatOwD (B:Nat) (w:World) (V:Value) (rs:List zGk):Prop extends zDa B w V rs where
 dis:∀ j k,(hj:j<rs.length)->(hk:k<rs.length)->j<k->∀ g,rs[k].ad=some ⟨g,0,none⟩->rs[j].ad≠some ⟨g,0,none⟩
section
variable {B b:Nat} {w w6:World} {V V2:Value} {rs:List zGk} {r:zGk}
end
def RetTho (w:World) (b m n:Nat) (e:Ending) (w':World):Prop:=∃ (v:Value) (rs:List zGk),e = .returned v/\rs.length=m/\(∀ r∈rs,r.ss.length=n/\∀ s∈r.ss,zHf s)/\MatOwD w.heap.size w' v rs/\Src w' b/\w.grownBy w' (some b)
theorem zBz.cap {B n c:Nat} {M:mRx} {U:Nat} {rs:List zGk} {W:World} (h:zBz B n c M U rs W):∀ r∈rs,r.ss.length<=r.cp:=fun r hr=>by
 obtain ⟨i,hi,rfl⟩:=List.getElem_of_mem hr;obtain ⟨g,e,h1⟩:=h.ot.own i hi (by have:=h.mf.len;omega);obtain ⟨A',c',e2,h2⟩:=zVk h1;injection e2 with _ _ e2;omega
def sQ (M:mRx) (i k:Nat):Nat->Nat->Rat:=fun a b=>if b<a/\(a<i\/a=i/\b<k) then M b a else M a b
def RetGrid (w:World) (b n:Nat) (P:(Nat->Nat->Rat)->Prop) (e:Ending) (w':World):Prop:=∃ U c rs M,e = .returned (.slice (some ⟨U,0,none⟩) n c)/\zBz w.heap.size n c M U rs w'/\P M/\Src w' b/\w.grownBy w' (some b)
def zWl (n:Nat) (M:mRx):Nat->Nat->Rat:=fun i k=>idn i k+xDg n fun j=>M i j*M k j
theorem zYf {w:World} {g:Nat} {u v:FrV} (h:Blk w g 73 u.four):Blk ((((w.setCell ⟨g,0,none⟩ (.bool v.na)).setCell ⟨g,1,none⟩ (.slice v.A v.l v.c)).setCell ⟨g,2,none⟩ (.bool v.nb)).setCell ⟨g,3,none⟩ (.slice v.A' v.l' v.c')) g 73 v.four:=(((h.set 0 _).set 1 _).set 2 _).set 3 _
theorem zHg.read' {B n c:Nat} {w:World} {A:oAx} {rs:List zGk} (h:zHg B w (.slice A n c) rs) (hl:rs.length=n):zCz w A rs:=by
 subst hl;exact h.read
theorem posM_sym (n m:Nat) (M:mRx):SymM m (zWl n M):=fun i k _ _=>by
 unfold zWl
 rw [show idn i k=idn k i by unfold idn;by_cases h:i=k; · subst h;rfl
                             rw [if_neg h,if_neg (Ne.symm h)]]
 congr 1
 exact xDi fun j _=>Rat.mul_comm _ _
theorem IsB.add {a b c:Nat} {x y:Rat} (h:IsB a x) (k:IsB b y) (hc:a+b=c):IsB c (x+y):=by
 obtain ⟨p,rfl,hp⟩:=h;obtain ⟨q,rfl,hq⟩:=k;refine ⟨p+q,by rw [Rat.intCast_add],?_⟩;omega
theorem sumR_B {b:Nat}:∀ {n:Nat} {f:Nat->Rat},(∀ i,i<n->IsB b (f i))->IsB (n*b) (xDg n f)
 | 0,_,_=>⟨0,rfl,oMx⟩
 | n+1,f,h=>(sumR_B (n:=n) fun i hi=>h i oMx).add (h n oMx) (by rw [Nat.succ_mul])
theorem zWm {n:Nat} {M:mRx} (h:zHe n n M) (hn:n<=4):∀ i k,i<n->k<n->IsB 39 (zWl n M i k):=fun i k hi hk =>
 ((idn_B i k).add (sumR_B (b:=9) fun j hj=>(show IsB 3 (M i j) from h i j hi hj).mul (show IsB 3 (M k j) from h k j hk hj) rfl) rfl).mono oMx
def MxC (B:Nat) (w:World) (A:oAx) (n c:Nat) (M:mRx):Prop:=∃ rs,zHg B w (.slice A n c) rs/\zCy rs n n M/\∀ r∈rs,r.ss.length<=r.cp
def zFy (w:World) (b n:Nat) (P:(Nat->Nat->Rat)->Prop) (e:Ending) (w':World):Prop:=∃ A c M,e = .returned (.slice A n c)/\MxC w.heap.size w' A n c M/\P M/\Src w' b/\w.grownBy w' (some b)
theorem MPos_any (b n:Nat) (w:World) (hs:Src w b) (hn1:1<=n) (hn:n<=4):Calls Tryz.prog 11 #[.pointer (some ⟨b,0,none⟩),.int .i64 (n:Int)] w (zFy w b n (fun P=>∃ M,zHe n n M/\P=zWl n M)):=by
 obtain ⟨i0,hi,hz0,hz1,hz2⟩:=info_parts Tryz.infoRats;obtain ⟨j0,hj,hy0,hy1,hy2⟩:=info_parts Tryz.infoRat;generalize hQ:zFy w b n (fun P=>∃ M,zHe n n M/\P=zWl n M)=Q;replace hQ:=oH hQ;have HS:=oH hs;have hbw:=hs.lt;clear hs
 go_enter Tryz.func11,Tryz.ntmps11
 go_wp2_with fail;refine (mxThin b n n w HS.out oMx oMx (.inl hn1)).mono ?_;rintro e w1 ⟨A,c,M,rfl,⟨rs0,ht0,hm0⟩,hth,hs1,hg1⟩;have hM:=ht0.read' hm0.len;have HM:=oH hM;have HF:=oH hm0;have HTH:=oH hth;have HS1:=oH hs1;have HG1:=oH hg1;have hsz1:=hg1.size;have HFP:=oH (fun i k (hi:i<n) (hk:k<n)=>(show zBt (zWl n M i k) from ((zWm hth hn i k hi hk).dig (d:=2) dCx dCx).fits dCx dCx));have HFM:=oH hm0.fit;clear ht0 hm0 hth hs1 hg1 hM;go_wp2_with fail
 go_loopw [6,20] (fun v iv wr=>∃ (i:Nat) (rs:List zGk),iv = .int .i64 (i:Int)/\i<=n/\rs.length=i/\(∀ a,(ha:a<rs.length)->rs[a].ss=(List.range n).map fun t=>zYy (zWl n M a t))/\zDa w1.heap.size wr v rs/\Below w1.heap.size w1 wr) (fun _ iv _=>n-(intOf iv).toNat)
 ·exact ⟨0,[],rfl,oLx,rfl,fun a ha=>absurd ha sMx,zDa.zero _ _,bRx⟩
 obtain ⟨i,rs,rfl,hin,hrl,hrs,hown,hbr⟩:=hrel;obtain ⟨wi,rfl⟩:=nWx wr;have hrl':=hrl.symm;subst hrl';obtain ⟨AV,cV,rfl, -⟩:=zVk hown.o;have HRS:=oH hrs;have HOWN:=oH hown;have HBI:=oH hbr;have hszi:=hbr.size;clear hrs hown hbr
 by_cases hlt:rs.length<n
 ·go_wp2_with fail
  go_loopw [8,25] (fun v kv wr=>∃ k:Nat,kv = .int .i64 (k:Int)/\k<=n/\wr.ownsRow wi.heap.size 39 1 v k (sv ((List.range k).map fun t=>zYy (zWl n M rs.length t)))/\Below wi.heap.size wi wr) (fun _ kv _=>n-(intOf kv).toNat)
  ·exact ⟨0,rfl,oLx,World.ownsRow_nil _ _ _ _,bRx⟩
  obtain ⟨k,rfl,hkn,hown,hbk⟩:=hrel;obtain ⟨wk,rfl⟩:=nWx wr;have HO:=oH hown;have HBK:=oH hbk;have hszk:=hbk.size;clear hown hbk
  by_cases hlt2:k<n
  ·go_wp2_with fail;refine (zDw 0 _ dCx dCx).mono ?_;rintro e w5 ⟨v5,rfl,hv5,hb5⟩;obtain ⟨x0,x4,x1,x5,x2,x3,x6,x7,rfl⟩:=hv5.slice;have hba:Below w5.heap.size w5 (w5.alloc (.cells #[.bool x0,.slice x1 x2 x3,.bool x4,.slice x5 x6 x7] 73)):=bA;have HB6:=bTx2 hb5 hba;have HK6:=oH (show Blk (w5.alloc (.cells #[.bool x0,.slice x1 x2 x3,.bool x4,.slice x5 x6 x7] 73)) w5.heap.size 73 (FrV.four ⟨x0,x1,x2,x3,x4,x5,x6,x7⟩) from Blk.new w5 _ _);have HS6:=oH (show zCl (w5.alloc (.cells #[.bool x0,.slice x1 x2 x3,.bool x4,.slice x5 x6 x7] 73)) (FrV.val ⟨x0,x1,x2,x3,x4,x5,x6,x7⟩) 0 from hv5.below hba);have hg5:=hb5.size;clear hv5 hb5 hba;go_upto_region 11 with (fail);generalize (w5.alloc (.cells #[.bool x0,.slice x1 x2 x3,.bool x4,.slice x5 x6 x7] 73))=W at *;generalize w5.heap.size=gs at *
   go_cut [31] (fun c wc=>∃ cb:Bool,c = .bool cb/\(cb=true↔rs.length=k)/\wc=W)
   case first =>
    go_wp2_with fail
    go_meet
    exact ⟨_,rfl,by simp only [beq_iff_eq];omega,rfl⟩
   case rest =>
    obtain ⟨cb,rfl,hcb,rfl⟩:=hcut
    cases cb
    have HID:=oH (show (0:Rat)=idn rs.length k by unfold idn;rw [if_neg (fun h=>absurd (hcb.2 h) dCx)]);clear hcb;go_wp2_with fail;have HKU:=HK6;have HSU:=oH (show zCl _ (FrV.val ⟨x0,x1,x2,x3,x4,x5,x6,x7⟩) (idn rs.length k) by rw [<-HID.out];exact HS6.out);have HBC:=HB6;clear HB6 HK6 HS6 HID
    rotate_left
    have HID:=oH (show (1:Rat)=idn rs.length k by unfold idn;rw [if_pos (hcb.1 (by first|rfl|trivial))]);clear hcb;go_wp2_with fail;refine (zDw 1 _ dCx dCx).mono ?_;rintro e w7 ⟨v7,rfl,hv7,hb7⟩;obtain ⟨y0,y4,y1,y5,y2,y3,y6,y7,rfl⟩:=hv7.slice;have hk7:=HK6.below hb7;have HK7:=oH hk7;have HV7:=oH hv7;have HB7:=oH (HB6.trans (hb7.mono (HB6.size)));have e0:=hk7.at_ (i:=0) rfl;have e1:=hk7.at_ (i:=1) rfl;have e2:=hk7.at_ (i:=2) rfl;have e3:=hk7.at_ (i:=3) rfl;have f0:=hk7.fr 0;have f1:=hk7.fr 1;have f2:=hk7.fr 2;have f3:=hk7.fr 3;clear hv7 hb7 hk7;go_wp2_with fail;have HKU:=oH (zYf (v:=⟨y0,y1,y2,y3,y4,y5,y6,y7⟩) HK7.out);have HSU:=oH (show zCl _ (FrV.val ⟨y0,y1,y2,y3,y4,y5,y6,y7⟩) (idn rs.length k) by rw [<-HID.out];exact zCl.set4 HV7.out HK7.out (.bool y0) (.slice y1 y2 y3) (.bool y4) (.slice y5 y6 y7));have HBC:=oH (zIm HB7.out hg5 (.bool y0) (.slice y1 y2 y3) (.bool y4) (.slice y5 y6 y7));clear HB6 HK6 HS6 HID HK7 HV7 HB7 e0 e1 e2 e3 f0 f1 f2 f3
    rotate_left
    all_goals
     go_loopw [35] (fun jv wj=>∃ (j:Nat) (u:FrV),jv = .int .i64 (j:Int)/\j<=n/\Blk wj gs 73 u.four/\zCl wj u.val (idn rs.length k+xDg j fun j=>M rs.length j*M k j)/\Below wk.heap.size wk wj) (fun jv _=>n-(intOf jv).toNat)
     ·exact ⟨0,_,rfl,oLx,HKU.out,by have:=HSU.out;show zCl _ _ (_+0);rw [Rat.add_zero];exact this,HBC.out⟩
     clear HKU HSU HBC;obtain ⟨j,u,rfl,hjn,hku,hsu,hbj⟩:=hrel;obtain ⟨wj,rfl⟩:=nWx wr
     by_cases hlt3:j<n
     ·have hbw1:Below w1.heap.size w1 wj:=HBI.trans ((HBK.trans (hbj.mono hszk)).mono hszi);obtain ⟨g,off,rfl,hg0,hgr⟩:=zSo HM.out HF.out hn1 hn1;obtain ⟨b1,o1,ci,hb1,c1,hc1⟩:=hgr rs.length hlt;obtain ⟨b2,o2,ck,hb2,c2,hc2⟩:=hgr k hlt2;have d1:=(hbw1.cell (p:=⟨g,off+rs.length,none⟩) hg0).trans c1;have d2:=(hbw1.cell (p:=⟨g,off+k,none⟩) hg0).trans c2;have d3:=(hbw1.cell (p:=⟨b1,o1+j,none⟩) hb1).trans (hc1 j hlt3);have d4:=(hbw1.cell (p:=⟨b2,o2+j,none⟩) hb2).trans (hc2 j hlt3);have f1:=HFM.out rs.length j hlt hlt3;have f2:=HFM.out k j hlt2 hlt3;have HR1:=oH (fun W=>zEc (M rs.length j) W f1);have HR2:=oH (fun W=>zEc (M k j) W f2);have s1z:=f1.sz;have s2z:=f2.sz;have s12:=s1z.mul s2z
      have ss:Sz 2000 (idn rs.length k+xDg j fun j=>M rs.length j*M k j):=((zOv rs.length k).sz.add (xDq (n:=j) (b:=90) fun t ht=>((HFM.out rs.length t hlt oMx).sz.mul (HFM.out k t hlt2 oMx).sz).mono oMx)).mono (by
       have:j*91<=4*91:=Nat.mul_le_mul_right _ oMx
       omega)
      have HSUM:=oH (show idn rs.length k+xDg (j+1) (fun j=>M rs.length j*M k j)=idn rs.length k+xDg j (fun j=>M rs.length j*M k j)+M rs.length j*M k j from (Rat.add_assoc _ _ _).symm);obtain ⟨q1,hq1⟩:=eXx (M rs.length j);obtain ⟨q2,hq2⟩:=eXx (M k j);obtain ⟨sq,hsq⟩:=eXx (idn rs.length k+xDg j (fun j=>M rs.length j*M k j));rw [hsq] at ss hsu HSUM;have HSU2:=oH (show idn rs.length k+xDg (j+1) (fun j=>M rs.length j*M k j)=sq+q1*q2 by rw [HSUM.out,hq1,hq2]);rw [hq1] at HR1 s1z s12 d3;rw [hq2] at HR2 s2z s12 d4;obtain ⟨s1,hs1⟩:=eXx (zYy q1);obtain ⟨s2,hs2⟩:=eXx (zYy q2);rw [hs1] at HR1 d3;rw [hs2] at HR2 d4;obtain ⟨u0,u1,u2,u3,u4,u5,u6,u7⟩:=u;obtain ⟨i,hie⟩:=eXx (rs.length);have HIE:=oH hie;rw [hie] at d1;have KB:=oH (fun W' (hW:Below wj.heap.size wj W')=>(show W'.cell? ⟨gs,0,none⟩=some (.bool u0)/\W'.cell? ⟨gs,1,none⟩=some (.slice u1 u2 u3)/\W'.cell? ⟨gs,2,none⟩=some (.bool u4)/\W'.cell? ⟨gs,3,none⟩=some (.slice u5 u6 u7)/\W'.cell? ⟨g,off+i,none⟩=some (.slice (some ⟨b1,o1,none⟩) n ci)/\W'.cell? ⟨b1,o1+j,none⟩=some (.string s1)/\W'.cell? ⟨g,off+k,none⟩=some (.slice (some ⟨b2,o2,none⟩) n ck)/\W'.cell? ⟨b2,o2+j,none⟩=some (.string s2) from ⟨(hku.below hW).at_ (i:=0) rfl,(hku.below hW).at_ (i:=1) rfl,(hku.below hW).at_ (i:=2) rfl,(hku.below hW).at_ (i:=3) rfl,kP hW d1,kP hW d3,kP hW d2,kP hW d4⟩))
      have HWz:=oH (show Below wj.heap.size wj wj.drew from bRx.drew);have KSz:=oH (KB.out _ HWz.out);have HSQ:=oH (show zCl wj (.agg #[.bool u0,.slice u1 u2 u3,.bool u4,.slice u5 u6 u7]) sq from hsu);have HKJ:=oH hku;have HBJ:=oH hbj
      have i1:(0:Int)<=(i:Int):=by omega
      have i2:(i:Int)<(n:Int):=by omega
      have k1:(0:Int)<=(k:Int):=by omega
      have k2:(k:Int)<(n:Int):=by omega
      have j1:(0:Int)<=(j:Int):=by omega
      have j2:(j:Int)<(n:Int):=by omega
      rw [hie];clear hku hsu hbj hbw1 hgr c1 hc1 c2 hc2 d1 d2 d3 d4 f1 f2 hq1 hq2 hsq hs1 hs2 hie HSUM;go_wp2_with fail;refine xHt (S:=(fun w'=>w'.cell? ⟨gs,0,none⟩=some (.bool u0)/\w'.cell? ⟨gs,1,none⟩=some (.slice u1 u2 u3)/\w'.cell? ⟨gs,2,none⟩=some (.bool u4)/\w'.cell? ⟨gs,3,none⟩=some (.slice u5 u6 u7)/\w'.cell? ⟨g,off+i,none⟩=some (.slice (some ⟨b1,o1,none⟩) n ci)/\w'.cell? ⟨b1,o1+j,none⟩=some (.string s1)/\w'.cell? ⟨g,off+k,none⟩=some (.slice (some ⟨b2,o2,none⟩) n ck)/\w'.cell? ⟨b2,o2+j,none⟩=some (.string s2))) 19 (by kernel_rfl) rfl (by kernel_rfl) (by kernel_rfl) rfl (by exact KSz.out) (fun hHeld=>?_);simp only [List.pop_toArray,List.dropLast_cons_cons,List.dropLast_singleton];refine tkH 0 ?_;refine tkH 1 ?_;refine tkH 2 ?_;refine tkH 3 ?_;refine tkH 4 ?_;refine tkH 5 ?_;refine tkH 6 ?_;refine tkH 7 ?_;refine tkH 9 ?_;refine tkH 10 ?_;refine tkH 11 ?_;refine tkH 12 ?_;refine tkH 13 ?_
      refine tkH 14 ?_;refine tkH 15 ?_
      try simp only [Act.put,tkA,tkB,tkC]
      refine tkS 8 fun K hK=>?_
      go_simp
      (go_at_call 47;(with_reducible refine (HR1.out _).mono ?_);rintro e wa ⟨va,rfl,hv,hb⟩;have hw:=HWz.out.trans (hb.mono HWz.out.size);have HWa:=oH hw;have HVa:=oH hv;obtain ⟨ra0,ra4,ra1,ra5,ra2,ra3,ra6,ra7,rfl⟩:=hv.slice;have KSa:=oH (KB.out wa hw);clear hv hb hw)
      go_wp2_with fail;refine hK.out _ _ ?_ (fun hHeld=>?_)
      ·exact kSx
      clear hK K
      try simp only [Act.put,tkA,tkB,tkC]
      refine tkS 16 fun K hK=>?_
      go_simp
      (go_at_call 47;(with_reducible refine (HR2.out _).mono ?_);rintro e wb ⟨vb,rfl,hv,hb⟩;have hw:=HWa.out.trans (hb.mono HWa.out.size);have HWb:=oH hw;have HVb:=oH hv;have HVa':=oH (HVa.out.below hb);obtain ⟨rb0,rb4,rb1,rb5,rb2,rb3,rb6,rb7,rfl⟩:=hv.slice;have KSb:=oH (KB.out wb hw);clear hv hb hw)
      go_wp2_with fail;refine hK.out _ _ ?_ (fun hHeld=>?_)
      ·exact kSx
      clear hK K
      try simp only [Act.put,tkA,tkB,tkC]
      refine tkS 17 fun K hK=>?_
      go_simp
      (go_at_call 48;(with_reducible refine (zDv _ _ q1 q2 _ HVa'.out HVb.out (s1z.mono oMx) (s2z.mono oMx)).mono ?_);rintro e wc ⟨vc,rfl,hv,hb⟩;have hw:=HWb.out.trans (hb.mono HWb.out.size);have HWc:=oH hw;have HVc:=oH hv;obtain ⟨rc0,rc4,rc1,rc5,rc2,rc3,rc6,rc7,rfl⟩:=hv.slice;have KSc:=oH (KB.out wc hw);clear hv hb hw)
      go_wp2_with fail;refine hK.out _ _ ?_ (fun hHeld=>?_)
      ·exact kSx
      clear hK K
      try simp only [Act.put,tkA,tkB,tkC]
      refine tkS 18 fun K hK=>?_
      go_simp
      (go_at_call 46;(with_reducible refine (zDs _ _ sq (q1*q2) _ (HSQ.out.below HWc.out) HVc.out (ss.mono oMx) (s12.mono oMx)).mono ?_);rintro e wd ⟨vd,rfl,hv,hb⟩;have hw:=HWc.out.trans (hb.mono HWc.out.size);have HWd:=oH hw;have HVd:=oH hv;obtain ⟨rd0,rd4,rd1,rd5,rd2,rd3,rd6,rd7,rfl⟩:=hv.slice;have KSd:=oH (KB.out wd hw);clear hv hb hw)
      go_wp2_with fail;refine hK.out _ _ ?_ (fun hHeld=>?_)
      ·exact kSx
      clear hK K
      try simp only [Act.put,tkA,tkB,tkC]
      refine wpAnyH_done (by kernel_rfl) ?_ _;simp only [xEe,List.getElem_toArray,List.getElem_cons_succ,List.getElem_cons_zero];have hkd:=HKJ.below HWd.out;have HKD:=oH hkd;have e0:=hkd.at_ (i:=0) rfl;have e1:=hkd.at_ (i:=1) rfl;have e2:=hkd.at_ (i:=2) rfl;have e3:=hkd.at_ (i:=3) rfl;have f0:=hkd.fr 0;have f1:=hkd.fr 1;have f2:=hkd.fr 2;have f3:=hkd.fr 3;clear hkd;go_wp2_with fail;go_roundw
      ·exact ⟨j+1,⟨rd0,rd1,rd2,rd3,rd4,rd5,rd6,rd7⟩,by go_num,oMx,zYf (v:=⟨rd0,rd1,rd2,rd3,rd4,rd5,rd6,rd7⟩) HKD.out,by rw [<-HIE.out,HSU2.out];exact zCl.set4 HVd.out HKD.out _ _ _ _,zIm (HBJ.trans (HWd.mono HBJ.size)) hg5 _ _ _ _⟩
      simp [intOf];omega
     have hje:j=n:=by omega
     have HSF:=oH (show zCl wj u.val (zWl n M rs.length k) by rw [hje] at hsu;exact hsu);have hsz:Sz 1000000 (zWl n M rs.length k):=(HFP.out rs.length k hlt hlt2).sz.mono oMx;have hfq:=HFP.out rs.length k hlt hlt2;have HGV:=oH (zDu u.val (zWl n M rs.length k) wj HSF.out hsz);rw [zVg hfq,zVe hfq] at HGV;obtain ⟨u0,u1,u2,u3,u4,u5,u6,u7⟩:=u;have e0:=hku.at_ (i:=0) rfl;have e1:=hku.at_ (i:=1) rfl;have e2:=hku.at_ (i:=2) rfl;have e3:=hku.at_ (i:=3) rfl;have HBJ:=oH hbj;obtain ⟨sx,hsx⟩:=eXx (zYy (zWl n M rs.length k));rw [hsx] at HGV;have HSX:=oH hsx;clear hku hsu hbj hsz hfq hsx hje;go_wp2_with fail;refine HGV.mono ?_;rintro e w8 ⟨rfl,hb8⟩;have HB8:=bTx2 HBJ hb8;have HO8:=oH (zVn HO.out HB8.out);have hsz8:=HB8.size;clear hb8 e0 e1 e2 e3
     go_wp2_with (at_builtin;refine wpList_append_own _ rfl _ _ 29 rfl wi.heap.size 39 j0 (.string ⟨#[]⟩) 1 16 Tryz.underlying29 hj hy0 hy1 hy2 rfl dCx _ _ _ rfl (HO8.alloc _) ⟨w8.heap.size,0,none⟩ 1 1 [_] rfl rfl zUw zUx (by unfold maxLen;omega) oMx (by simp;omega) ?_)
     intro v9 w9 hown9 hgrow9 _
     have HO9:=oH hown9;have HB9:=oH (((HBK.trans (HB8.mono hszk)).alloc oMx (.cells #[.string sx] 39)).grown hgrow9 (by simp;omega) (fun g hg=>(HO8.lt g hg).1));clear hown9 hgrow9;go_wp2_with fail;go_roundw
     ·exact ⟨k+1,by go_num,oMx,by rw [List.range_succ,List.map_append,xDw];show World.ownsRow _ _ _ _ _ _ (_++[Value.string (zYy (zWl n M rs.length k))]);rw [HSX.out];exact HO9.out,HB9.out⟩
     simp [intOf];omega
  have hke:k=n:=by omega
  obtain ⟨A5,c5,rfl, -⟩:=zVk HO.out
  have hln:((List.range n).map fun t=>zYy (zWl n M rs.length t)).length=n:=by simp
  have HNEW:=oH (show wk.ownsRow w1.heap.size 39 1 (.slice A5 ((List.range n).map fun t=>zYy (zWl n M rs.length t)).length c5) ((List.range n).map fun t=>zYy (zWl n M rs.length t)).length (sv ((List.range n).map fun t=>zYy (zWl n M rs.length t))) by
   rw [hln];have:=zVm HO.out hszi;rw [hke] at this
   exact this)
  have HMO:=oH (HOWN.below HBK.out);have HB5:=oH (HBI.trans (HBK.mono hszi));have hsz5:=HB5.size;have HLN:=oH hln;obtain ⟨w5,rfl⟩:=nWx wk;rw [hke];clear HO hke hln
  go_wp2_with (at_builtin;refine wpList_append_own _ rfl _ _ 27 rfl w1.heap.size 29 i0 (.slice none 0 0) 1 24 Tryz.underlying27 hi hz0 hz1 hz2 rfl dCx _ _ _ rfl (HMO.o.alloc _) ⟨w5.heap.size,0,none⟩ 1 1 [_] rfl rfl zUw xBn (by unfold maxLen;omega) oMx (by simp;omega) ?_)
  intro v' w6 hown6 hgrow6 _
  have hlt2:∀ k,(Value.slice AV rs.length cV).ownBlock=some k->w1.heap.size<=k:=fun k hk=>(HMO.o.lt k hk).1
  have hbel:Below w1.heap.size w5 w6:=zIj bRx hsz5 hgrow6 hlt2;have HM6:=oH ((HMO.below (bA)).push (r:=⟨A5,c5,(List.range n).map fun t=>zYy (zWl n M rs.length t)⟩) (zVn HNEW.out (bA)) (by simp only [HLN.out];exact hown6) hgrow6);have HB6:=oH (HB5.trans hbel);clear hown6 hgrow6 hbel hlt2;go_wp2_with fail;go_roundw
  ·exact ⟨rs.length+1,rs++[⟨A5,c5,(List.range n).map fun t=>zYy (zWl n M rs.length t)⟩],by go_num,oMx,by simp,fun a ha=>by
   have ha':a<rs.length+1:=by simpa using ha
   rcases Nat.lt_or_ge a rs.length with h1|h1
   ·rw [List.getElem_append_left h1];exact HRS.out a h1
   have h2:a=rs.length:=by omega
   subst h2
   simp,HM6.out,HB6.out⟩
  simp [intOf];omega
 have hin2:rs.length=n:=by omega
 have HMF:=oH (show zCy rs n n (zWl n M) from ⟨hin2,fun r hr=>by
  obtain ⟨a,ha,rfl⟩:=List.getElem_of_mem hr;rw [HRS.out a ha]
  simp,fun a k ha hk=>by
  simp only [HRS.out a ha]
  simp,HFP.out⟩)
 have HTP:=oH (show zHg w.heap.size wi (.slice AV n cV) rs from by
  have:=(HOWN.topM).mono hsz1;rw [hin2] at this
  exact this)
 have HCP:=oH (show ∀ r∈rs,r.ss.length<=r.cp from fun r hr=>by
  obtain ⟨A',c',e2,h2⟩:=zVk (HOWN.i r hr);injection e2 with _ _ e2
  omega)
 have HR:=oH (show zFy w b n (fun P=>∃ M,zHe n n M/\P=zWl n M) (.returned (.slice AV n cV)) wi from ⟨AV,cV,_,rfl,⟨rs,HTP.out,HMF.out,HCP.out⟩,⟨M,HTH.out,rfl⟩,HS1.below HBI.out,zOn HG1.out HBI.out⟩);rw [hin2];clear hin2;go_wp2_with fail;rw [<-hQ.out];exact HR.out
end Go.Proofs.YtfjjcoggoomlbaaGreatDoor
