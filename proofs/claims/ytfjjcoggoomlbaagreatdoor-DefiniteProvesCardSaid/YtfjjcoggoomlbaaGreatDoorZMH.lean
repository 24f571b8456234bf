import Derived.Test.YtfjjcoggoomlbaaGreatDoorZMG
import Derived.Test.YtfjjcoggoomlbaaGreatDoorShelfB
set_option maxHeartbeats 16000000
set_option maxRecDepth 100000
set_option linter.unusedVariables false
set_option linter.unusedSimpArgs false
set_option linter.unusedSectionVars false
namespace Go.Proofs.YtfjjcoggoomlbaaGreatDoor
open Go.RowKit
def nd (z:Int):Nat:=Lib.nDigits z.natAbs
def zTa (f:Nat->Nat) (a:Nat):Nat->Nat
 | 0=>a
 | k+1=>max (zTa f a k) (f k)
def zTd (f:Nat->Nat->Nat) (n a:Nat):Nat->Nat
 | 0=>a
 | i+1=>zTa (f i) (zTd f n a i) n
def digT (D:Int) (P:Nat->Nat->Int) (m n:Nat):Nat:=zTd (fun i k=>nd (P i k)) n (nd D) m
theorem zTc {f:Nat->Nat} {a b:Nat} (ha:a<=b):∀ {n},(∀ k,k<n->f k<=b)->zTa f a n<=b
 | 0,_=>ha
 | n+1,h=>Nat.max_le.2 ⟨zTc ha fun k hk=>h k oMx,h n oMx⟩
theorem zTf {f:Nat->Nat->Nat} {n a b:Nat} (ha:a<=b):∀ {m},(∀ i k,i<m->k<n->f i k<=b)->zTd f n a m<=b
 | 0,_=>ha
 | m+1,h=>zTc (zTf ha fun i k hi hk=>h i k oMx hk) fun k hk=>h m k oMx hk
theorem zMw (dv:zDf) (A:oAx) (c n:Nat) (rows:List zGj) (P:Nat->Nat->Int) (D:Int) (w:World) (h:TabR w A rows n P) (hd:zCk w dv.val D) (hLD:LL D<=100000) (hL:∀ i k,i<rows.length->LL (P i k)<=100000) (hm1:1<=rows.length) (hm:rows.length<=1000) (hn1:1<=n) (hn:n<=1000) (henv:Env w) :
  Calls Tryz.prog 153 #[.agg #[.bool dv.nb,.slice dv.ad dv.l dv.c,.slice A rows.length c]] w fun e w'=>e = .returned (.int .i64 (digT D P rows.length n:Nat))/\Below w.heap.size w w':=by
 obtain ⟨b,off,rfl, -⟩:=h.o (by intro e;rw [List.map_eq_nil_iff] at e;subst e;simp at hm1);have HT:=oH h;have HL:=oH hL;have HE:=oH henv;have HDT:=oH (show digT D P rows.length n=zTd (fun i k=>nd (P i k)) n (nd D) rows.length from rfl);obtain ⟨f,hf⟩:=eXx ((fun i k=>nd (P i k)));rw [hf] at HDT;have HF:=oH (fun i k=>(show nd (P i k)=f i k by rw [<-hf]));obtain ⟨dT,hdT⟩:=eXx (digT D P rows.length n);rw [hdT] at HDT ⊢;clear hdT hf;have HB1:=oH ((Below.refl w.heap.size w).alloc lRx (.cells #[.bool dv.nb,.slice dv.ad dv.l dv.c,.slice (some ⟨b,off,none⟩) rows.length c] 86));have HD:=oH (zAw (.agg #[.bool dv.nb,.slice dv.ad dv.l dv.c]) D _ (show zCk _ _ D from hd.below HB1.out) (by unfold LL at hLD;omega) (henv.below HB1.out).tab);have hbk:=Blk.new w 86 [.bool dv.nb,.slice dv.ad dv.l dv.c,.slice (some ⟨b,off,none⟩) rows.length c];clear h hL hd henv
 go_enter Tryz.func153,Tryz.ntmps153
 go_wp2_with fail;refine HD.mono ?_;rintro e w2 ⟨rfl,hb2⟩;have k2:=(hbk.below hb2).at_ (i:=2) rfl;have HB2:=bTx2 HB1 hb2;have E0:=oH (show (Lib.nDigits D.natAbs:Nat)=zTd f n (nd D) 0 from rfl);generalize Lib.nDigits D.natAbs=a0 at *;clear hbk hb2;go_wp2_with fail;clear k2
 go_loopw [3,14] (fun v iv wr=>∃ i x:Nat,iv = .int .i64 (i:Int)/\i<=rows.length/\v = .int .i64 (x:Int)/\x=zTd f n (nd D) i/\Below w.heap.size w wr) (fun _ iv _=>rows.length-(intOf iv).toNat)
 ·exact ⟨0,a0,rfl,oLx,rfl,E0.out,HB2.out⟩
 obtain ⟨i,x,rfl,hi,rfl,hx,hb⟩:=hrel;obtain ⟨wi,rfl⟩:=nWx wr;have HX:=oH hx;have HB:=oH hb;clear hx hb
 by_cases hlt:i<rows.length
 ·have ht:=HT.below HB.out;have hci:=ht.o.at_ (i:=i) (List.getElem?_eq_getElem (by simpa using hlt));simp only [List.getElem_map,zGj.val] at hci;have HRR:=oH (HT.r _ (List.getElem_mem hlt));have HRL:=oH (HT.l _ (List.getElem_mem hlt));have HRN:=oH (HT.num i hlt);have HLI:=oH (fun k=>HL.out i k hlt);generalize rows[i]=r at *;obtain ⟨g,cg,us⟩:=r
  have hx1:(0:Int)<=(i:Int):=by omega
  have hx2:(i:Int)<(rows.length:Int):=by omega
  clear ht;simp only at hci;go_wp2_with fail;clear hci
  go_loopw [3,20] (fun v jv wr=>∃ k y:Nat,jv = .int .i64 (k:Int)/\k<=n/\v = .int .i64 (y:Int)/\y=zTa (f i) (zTd f n (nd D) i) k/\Below w.heap.size w wr) (fun _ jv _=>n-(intOf jv).toNat)
  ·exact ⟨0,x,rfl,oLx,rfl,HX.out,HB.out⟩
  obtain ⟨k,y,rfl,hk,rfl,hy,hb⟩:=hrel;obtain ⟨wq,rfl⟩:=nWx wr;have HY:=oH hy;have HBq:=oH hb;clear hy
  by_cases hlt2:k<n
  ·have hku:k<us.length:=by have h9:us.length=n:=HRL.out;omega
   have hrr:=HRR.below HBq.out;have e0:=hrr.at_ (zUi hku).1;have e1:=hrr.at_ (zUi hku).2;rw [Nat.zero_add] at e0 e1;have hnu:zCk w us[k].val (P i k):=HRN.out k hku;have HPK:=oH (HF.out i k);have hlk:=HLI.out k;generalize us[k]=u at *;generalize P i k=z at *;have HBa:=oH (HBq.alloc HBq.size (.cells #[.bool u.nb,.slice u.ad u.l u.c] 83));have HDK:=oH (zAw (.agg #[.bool u.nb,.slice u.ad u.l u.c]) z _ (show zCk _ _ z from hnu.below HBa.out) (by unfold LL at hlk;omega) (HE.below HBa.out).tab)
   have hx3:(0:Int)<=(k:Int):=by omega
   have hx4:(k:Int)<(n:Int):=by omega
   clear hrr hnu hku hb;go_wp2_with fail;refine HDK.mono ?_;rintro e w5 ⟨rfl,hb5⟩;have HB5:=bTx2 HBa hb5
   have HM:=oH (show max y (Lib.nDigits z.natAbs)=zTa (f i) (zTd f n (nd D) i) (k+1) by
    show _=max (zTa (f i) (zTd f n (nd D) i) k) (f i k)
    rw [<-HY.out,<-HPK.out]
    rfl)
   generalize Lib.nDigits z.natAbs=dz at *;clear hb5;go_wp2_with fail;go_roundw
   ·exact ⟨k+1,max y dz,by go_num,oMx,by rw [show ((max y dz:Nat):Int)=max (y:Int) (dz:Int) by omega],HM.out,HB5.out⟩
   simp [intOf];omega
  obtain rfl:n=k:=by omega
  go_wp2_with fail;go_roundw
  ·exact ⟨i+1,y,by go_num,oMx,rfl,HY.out,HBq.out⟩
  simp [intOf];omega
 obtain rfl:i=rows.length:=by omega
 have E:=oH (HX.trans HDT.symm);go_wp2_with fail;go_ret
 exact ⟨by first|rfl|(rw [E.out];rfl),HB.out⟩
end Go.Proofs.YtfjjcoggoomlbaaGreatDoor
namespace Go.Proofs.YtfjjcoggoomlbaaGreatDoor
open Go.RowKit
theorem zTh:∀ (k n:Nat),n<10^(k+1)->Lib.nDigits n<=k+1
 | 0,n,h=>by rw [Lib.nDigits_small (by simpa using h)];exact lRx
 | k+1,n,h=>by
  by_cases h1:n<10
  ·rw [Lib.nDigits_small h1];omega
  rw [Lib.nDigits_big h1];have:=zTh k (n/10) (by rw [Nat.div_lt_iff_lt_mul dCx];rw [Nat.pow_succ] at h;exact h);omega
theorem zRu:∀ (k n:Nat),n<10^k->n<10^Lib.nDigits n
 | 0,n,h=>by
  have:n=0:=by simpa using h
  subst this;exact Nat.pow_pos dCx
 | k+1,n,h=>by
  by_cases h1:n<10
  ·rw [Lib.nDigits_small h1];simpa using h1
  rw [Lib.nDigits_big h1,Nat.pow_succ];have:=zRu k (n/10) (by rw [Nat.div_lt_iff_lt_mul dCx];rw [Nat.pow_succ] at h;exact h);rw [Nat.div_lt_iff_lt_mul dCx] at this;exact this
theorem lt_pow_self (n:Nat):n<10^n:=Nat.lt_pow_self dCx
theorem nd_LL (z:Int):nd z<=9*LL z+1:=by
 unfold nd;refine zTh (9*LL z) z.natAbs ?_;have h:=zRi z.natAbs
 have e:(1000000000:Nat)^(limbs z.natAbs).length=10^(9*LL z):=by rw [Nat.pow_mul];rfl
 rw [e] at h;exact Nat.lt_of_lt_of_le h (Nat.pow_le_pow_right dCx oMx)
theorem LL_nd {z:Int} {k:Nat} (h:nd z<=9*k):LL z<=k:=by
 unfold LL;refine zRc ?_;have h1:=zRu z.natAbs z.natAbs (lt_pow_self _)
 have h2:(1000000000:Nat)^k=10^(9*k):=by rw [Nat.pow_mul]
 rw [h2];exact Nat.lt_of_lt_of_le h1 (Nat.pow_le_pow_right dCx h)
theorem zMt {z:Int} {k:Nat} (h:Dig (k+1) z):nd z<=k+1:=zTh k z.natAbs h
theorem zSi {rs:List zGk} {n:Nat} (hf:zBr rs n) (i k:Nat):LL (zSh rs i k)<=7145:=by
 have h1:=zSd hf;have h2:=(zSl rs i k).1;have h3:=zCo (zSj rs i k).num (zSc rs/((zSj rs i k).den:Int));have h4:=zCn (zSc rs) ((zSj rs i k).den:Int);have h5:LL (zSj rs i k).num<=45:=h2
 show LL ((zSj rs i k).num*(zSc rs/((zSj rs i k).den:Int)))<=7145
 omega
noncomputable def zOt (rs:List zGk) (n:Nat):Nat:=max rs.length n*digT (zSc rs) (zSh rs) rs.length n
theorem digT_LL {D:Int} {P:Nat->Nat->Int} {m n k:Nat} (hD:LL D<=k) (hP:∀ i j,i<m->j<n->LL (P i j)<=k):digT D P m n<=9*k+1:=by
 refine zTf ?_ fun i j hi hj=>?_
 ·have:=nd_LL D;omega
 have:=nd_LL (P i j);have:=hP i j hi hj
 show nd (P i j)<=_
 omega
theorem zCa (A:oAx) (c n:Nat) (rs:List zGk) (w:World) (h:zCz w A rs) (hf:zBr rs n) (hm1:1<=rs.length) (hn1:1<=n) (henv:Env w) :
  Calls Tryz.prog 87 #[.slice A rs.length c] w fun e w'=>e = .returned (.bool (decide (600<zOt rs n)))/\Below w.heap.size w w':=by
 obtain ⟨b,off,rfl, -⟩:=h.o (by intro e;have:=zYt rs;rw [e] at this;simp at this;omega);have hc0:=h.o.at_ (zYs (i:=0) oMx);rw [Nat.add_zero,hf.row _ (List.getElem_mem oMx)] at hc0;have HO:=oH (zDg _ c n rs w h hf hm1 hn1 henv);have HDT:=oH (digT_LL (k:=7145) (Nat.le_trans (zSd hf) dCx) (fun i j (_:i<rs.length) (_:j<n)=>zSi hf i j));have hmx:=hf.m;have hnx:=hf.n12;have HH:=oH (show zOt rs n=max rs.length n*digT (zSc rs) (zSh rs) rs.length n from rfl);have HE:=oH henv;have HL1:=oH (zSd hf);have HL2:=oH (fun i k (_:i<rs.length)=>zSi hf i k);generalize zOt rs n=hh at *;generalize zSc rs=D at *;generalize zSh rs=P at *;generalize rs[0].ad=a0 at *;generalize rs[0].cp=c0 at *;clear h hf henv
 have hd:decide ((rs.length:Int)>0)=true:=by simp;omega
 have hmax:max (rs.length:Int) (n:Int)=((max rs.length n:Nat):Int):=by omega
 go_enter Tryz.func87,Tryz.ntmps87
 go_wp2_with fail;refine HO.mono ?_;rintro e w2 ⟨R,cR,rows,dv,rfl,hl,ht, -, -,hd2,hb⟩;have HB:=oH hb;rw [<-hl] at ht;have HDG:=oH (zMw dv _ cR n rows P D w2 ht.read hd2 (Nat.le_trans HL1.out dCx) (fun i k hi=>Nat.le_trans (HL2.out i k oMx) dCx) oMx oMx hn1 oMx (HE.below hb));have HLN:=oH hl;rw [hl] at HDG;clear ht hd2 hb hl;go_wp2_with fail;refine HDG.mono ?_;rintro e w3 ⟨rfl,hb3⟩;have HB3:=bTx2 HB hb3;have hdt:=HDT.out;generalize digT D P rs.length n=dt at *;clear hb3;have hmul:max rs.length n*dt<=12*(9*7145+1):=Nat.mul_le_mul oMx hdt
 have hmul2:((max rs.length n:Nat):Int)*(dt:Int)=(hh:Int):=by rw [HH.out,Int.natCast_mul]
 have hh2:hh<=12*(9*7145+1):=by rw [HH.out];exact hmul
 have hw:wrap64 (((max rs.length n:Nat):Int)*(dt:Int))=(hh:Int):=by rw [hmul2];unfold wrap64;omega
 clear hmul hmul2;go_wp2_with fail;go_ret
 refine ⟨?_,HB3.out⟩
 congr 2
 simp
 omega
end Go.Proofs.YtfjjcoggoomlbaaGreatDoor
namespace Go.Proofs.YtfjjcoggoomlbaaGreatDoor
open Go.RowKit
theorem zTb {f:Nat->Nat} {a:Nat}:∀ {n},a<=zTa f a n/\∀ k,k<n->f k<=zTa f a n
 | 0=>⟨lRx,fun k hk=>by omega⟩
 | n+1=>by
  obtain ⟨h1,h2⟩:=zTb (f:=f) (a:=a) (n:=n);refine ⟨Nat.le_trans h1 (Nat.le_max_left _ _),fun k hk=>?_⟩
  rcases Nat.lt_or_ge k n with h|h
  ·exact Nat.le_trans (h2 k h) (Nat.le_max_left _ _)
  obtain rfl:k=n:=by omega
  exact Nat.le_max_right _ _
theorem zTe {f:Nat->Nat->Nat} {n a:Nat}:∀ {m},a<=zTd f n a m/\∀ i k,i<m->k<n->f i k<=zTd f n a m
 | 0=>⟨lRx,fun i k hi=>by omega⟩
 | m+1=>by
  obtain ⟨h1,h2⟩:=zTe (f:=f) (n:=n) (a:=a) (m:=m);obtain ⟨h3,h4⟩:=zTb (f:=f m) (a:=zTd f n a m) (n:=n);refine ⟨Nat.le_trans h1 h3,fun i k hi hk=>?_⟩
  rcases Nat.lt_or_ge i m with h|h
  ·exact Nat.le_trans (h2 i k h hk) h3
  obtain rfl:i=m:=by omega
  exact h4 k hk
theorem matQ_out {rs:List zGk} {n:Nat} (hf:zBr rs n) {i k:Nat} (hk:n<=k):zSj rs i k=0:=by
 unfold zSj;rw [List.getD_eq_getElem?_getD]
 have:((zSg rs).getD i []).length<=n:=by
  rw [List.getD_eq_getElem?_getD]
  rcases h2:(zSg rs)[i]? with _|l
  ·simp
  obtain ⟨r,hr,rfl⟩:=List.mem_map.1 (List.mem_of_getElem? h2);have:=hf.row r hr
  simp
  omega
 rw [List.getElem?_eq_none oMx]
 rfl
theorem zQp {rs:List zGk} {n:Nat} (hf:zBr rs n) (hm1:1<=rs.length) (h:zOt rs n<=600):∀ i k,i<rs.length->LL (zSh rs i k)<=70:=fun i k hi=>by
 rcases Nat.lt_or_ge k n with hk|hk
 ·have h1:=(zTe (f:=fun i k=>nd (zSh rs i k)) (n:=n) (a:=nd (zSc rs)) (m:=rs.length)).2 i k hi hk
  have h2:digT (zSc rs) (zSh rs) rs.length n<=zOt rs n:=by
   unfold zOt
   have:1<=max rs.length n:=by omega
   exact Nat.le_mul_of_pos_left _ this
  have h3:nd (zSh rs i k)<=9*67:=Nat.le_trans h1 (Nat.le_trans h2 oMx);exact Nat.le_trans (LL_nd h3) dCx
 have:zSh rs i k=0:=by
  show (zSj rs i k).num*_=0
  rw [matQ_out hf hk];exact Int.zero_mul _
 rw [this]
 show (limbs 0).length<=70
 rw [zRp]
 decide
theorem zSm {rs:List zGk} {n:Nat} (hf:zBr rs n) {i k:Nat} (hi:i<rs.length) (hk:k<n):((zSh rs i k:Int):Rat)=zSc rs*zSj rs i k:=by
 have hr:rs[i].ss.length=n:=hf.row _ (List.getElem_mem hi);refine celN_eq (zLx (zSg rs) 1 (rs[i].ss.map xFp) _ (List.mem_map.2 ⟨_,List.getElem_mem hi,rfl⟩) ?_);rw [zSk hi oMx];exact List.mem_map.2 ⟨_,List.getElem_mem _,rfl⟩
theorem zCk.over {w:World} {v:Value} {z:Int} {p:Addr} {u:Value} (h:zCk w v z) (hc:w.cell? p=some u) (hu:∀ z,u ≠ .int .u64 z) (x:Value):zCk (w.setCell p x) v z:=by
 obtain ⟨s,e,A,c,e2,hl,hx⟩:=h;refine ⟨s,e,A,c,e2,hl,fun hne=>?_⟩;obtain ⟨b,off,rfl,hb,hcell⟩:=hx hne;refine ⟨b,off,rfl,by simpa using hb,fun i hi=>?_⟩;rw [World.cell?_setCell_other]
 ·exact hcell i hi
 intro e3
 have h1:=hcell i hi;rw [<-e3,hc] at h1;injection h1 with h1;exact hu _ h1
structure TwoB (w:World) (g h:Nat) (v u:zDf):Prop where
 a0:w.cell? ⟨g,0,none⟩=some (.bool v.nb)
 a1:w.cell? ⟨g,1,none⟩=some (.slice v.ad v.l v.c)
 b0:w.cell? ⟨h,0,none⟩=some (.bool u.nb)
 b1:w.cell? ⟨h,1,none⟩=some (.slice u.ad u.l u.c)
 fa0:w.frozen? ⟨g,0,none⟩=false
 fa1:w.frozen? ⟨g,1,none⟩=false
 fb0:w.frozen? ⟨h,0,none⟩=false
 fb1:w.frozen? ⟨h,1,none⟩=false
 ne:g≠h
end Go.Proofs.YtfjjcoggoomlbaaGreatDoor
namespace Go.Proofs.YtfjjcoggoomlbaaGreatDoor
theorem zMv:zAv 1 0:=⟨by unfold Dig;decide,by unfold Dig;decide⟩
def detDig (k:Nat):Nat->Nat
 | 0=>1
 | n+1=>1+(n+1)*(1+k+detDig k n+1)
theorem lcmI_dig {a b:Nat} {x y:Int} (h:Dig a x) (k:Dig b y):Dig (a+b) (zPu x y):=by
 have h1:Dig a (x/((x.gcd y:Nat):Int)):=Nat.lt_of_le_of_lt (Int.natAbs_ediv_le_natAbs x _) h;exact h1.mul k rfl rfl
theorem zLm {k:Nat}:∀ {l:List Rat} {a:Nat} {d:Int},Dig a d->(∀ q∈l,zAv k q)->Dig (a+l.length*k) (zLk d l)
 | [],_,_,h,_=>by simpa [zLk] using h
 | q::l,a,d,h,hq=>by
  have:=zLm (l:=l) (lcmI_dig h (hq q sMx).2) fun x hx=>hq x (by simp [hx])
  rw [show a+(q::l).length*k=a+k+l.length*k by rw [List.length_cons,Nat.succ_mul];omega];exact this
theorem zLu {k n:Nat}:∀ {m:List (List Rat)} {a:Nat} {d:Int},Dig a d->(∀ l∈m,l.length<=n/\∀ q∈l,zAv k q)->Dig (a+m.length*(n*k)) (zLs d m)
 | [],_,_,h,_=>by simpa [zLs] using h
 | l::m,a,d,h,hl=>by
  obtain ⟨h1,h2⟩:=hl l sMx;have h3:=(zLm h h2).mono (b:=a+n*k) (Nat.add_le_add_left (Nat.mul_le_mul_right k h1) a)
  have:=zLu (m:=m) h3 fun x hx=>hl x (by simp [hx])
  rw [show a+(l::m).length*(n*k)=a+n*k+m.length*(n*k) by rw [List.length_cons,Nat.succ_mul];omega];exact this
theorem zJj {a k:Nat} {d:Int} {q:Rat} (h:Dig a d) (hq:zAv k q):Dig (k+a) (celN d q):=by
 have h1:Dig a (d/(q.den:Int)):=Nat.lt_of_le_of_lt (Int.natAbs_ediv_le_natAbs d _) h;exact hq.1.mul h1 rfl rfl
end Go.Proofs.YtfjjcoggoomlbaaGreatDoor
namespace Go.Proofs.YtfjjcoggoomlbaaGreatDoor
open Go.RowKit
theorem zUc {u:zDf}:(∀ z,(Value.bool u.nb) ≠ .int .u64 z)/\∀ z,(Value.slice u.ad u.l u.c) ≠ .int .u64 z:=⟨fun z e=>(by cases e),fun z e=>(by cases e)⟩
noncomputable def detS (rs:List zGk):ByteArray:=if 600<zOt rs rs.length then ⟨#[]⟩ else outR (det rs.length (zSj rs))
noncomputable def detE (rs:List zGk):Int:=if 600<zOt rs rs.length then 3 else zVd (det rs.length (zSj rs))
theorem fits0:zBt 0:=zMv.fits dCx dCx
end Go.Proofs.YtfjjcoggoomlbaaGreatDoor
namespace Go.Proofs.YtfjjcoggoomlbaaGreatDoor
open Go.RowKit
theorem xDw (a b:List ByteArray):sv (a++b)=sv a++sv b:=by simp [sv]
def zGf (w:World) (qs:List Rat) (e:Ending) (w':World):Prop :=
 (∃ A c,(∀ q∈qs,zBt q)/\e = .returned (.tuple #[.slice A qs.length c,.int .i64 0])/\zGw w' A (qs.map zYy)/\Below w.heap.size w w') \/
 ((∃ q∈qs,¬zBt q)/\e = .returned (.tuple #[.slice none 0 0,.int .i64 3])/\Below w.heap.size w w')
theorem zHc (A:oAx) (us:List FrV) (qs:List Rat) (c:Nat) (w:World) (hr:∀ i,(h:i<us.length)->∃ b off,A=some ⟨b,off,none⟩/\b<w.heap.size/\w.cell? ⟨b,off+i*4,none⟩=some (.bool us[i].na)/\w.cell? ⟨b,off+i*4+1,none⟩=some (.slice us[i].A us[i].l us[i].c)/\w.cell? ⟨b,off+i*4+2,none⟩=some (.bool us[i].nb)/\w.cell? ⟨b,off+i*4+3,none⟩=some (.slice us[i].A' us[i].l' us[i].c'))
  (hq:zCi w us qs) (hl:us.length<=1000) (hs:∀ q∈qs,Sz 5000000 q) (henv:Env w):Calls Tryz.prog 92 #[.slice A us.length c] w (zGf w qs):=by
 obtain ⟨i0,hi,hz0,hz1,hz2⟩:=info_parts Tryz.infoRat;have HR:=oH hr;have HQ:=oH hq;have HS:=oH hs;have HE:=oH henv;have HLEN:=oH hq.1;clear hr hq hs henv
 go_enter Tryz.func92,Tryz.ntmps92
 go_wp2_with fail
 go_loopw [4,11] (fun v iv wr=>∃ k:Nat,iv = .int .i64 (k:Int)/\k<=us.length/\(∀ q∈qs.take k,zBt q)/\wr.ownsRow w.heap.size 39 1 v k (sv ((qs.take k).map zYy))/\Below w.heap.size w wr) (fun _ iv _=>us.length-(intOf iv).toNat)
 ·exact ⟨0,rfl,oLx,(fun q hq=>by simp at hq),World.ownsRow_nil _ _ _ _,bRx⟩
 obtain ⟨k,rfl,hk,hall,hown,hb⟩:=hrel;have HALL:=oH hall;have HOWN:=oH hown;have HB:=oH hb;have hsz:=hb.size;clear hall hown hb
 by_cases hlt:k<us.length
 ·have hlq:k<qs.length:=by have:=HLEN.out;omega
  obtain ⟨b,off,rfl,hbb,h0,h1,h2,h3⟩:=HR.out k hlt;have c0:=(HB.cell (p:=⟨b,off+k*4,none⟩) hbb).trans h0;have c1:=(HB.cell (p:=⟨b,off+k*4+1,none⟩) hbb).trans h1;have c2:=(HB.cell (p:=⟨b,off+k*4+2,none⟩) hbb).trans h2;have c3:=(HB.cell (p:=⟨b,off+k*4+3,none⟩) hbb).trans h3;have HF:=oH ((HQ.2 k hlt hlq).below HB.out);have sz:=HS.out _ (List.getElem_mem hlq);have ET:=oH (show qs.take (k+1)=qs.take k++[qs[k]] from List.take_succ_eq_append_getElem hlq);have HMEM:=oH (List.getElem_mem hlq);generalize qs[k]=q at *;generalize us[k]=u at *;obtain ⟨na,A1,l1,c1',nb,A2,l2,c2'⟩:=u;simp only [FrV.val] at c0 c1 c2 c3 HF;clear h0 h1 h2 h3;go_wp2_with fail;have HW:=oH (HF.below (bRx.alloc lRx (.cells #[.bool na,.slice A1 l1 c1',.bool nb,.slice A2 l2 c2'] 89)))
  by_cases hfit:zBt q
  ·have HFT:=oH (zBf _ q _ HW.out sz ((HE.below HB.out).below (bA)));rw [zVg hfit,zVe hfit] at HFT;have HFI:=oH hfit;clear hfit sz;refine HFT.mono ?_;rintro e w2 ⟨rfl,hb2⟩;have HO2:=oH (zVn (HOWN.alloc _) hb2);have HB2:=oH (HB.trans (((Below.refl w.heap.size wr).alloc hsz _).trans (hb2.mono (by simp;omega))));have hsz2:=HB2.size;clear hb2 c0 c1 c2 c3
   go_wp2_with (at_builtin;refine wpList_append_own _ rfl _ _ 29 rfl w.heap.size 39 i0 (.string ⟨#[]⟩) 1 16 Tryz.underlying29 hi hz0 hz1 hz2 rfl dCx _ _ _ rfl (HO2.alloc _) ⟨w2.heap.size,0,none⟩ 1 1 [_] rfl rfl zUw zUx (by unfold maxLen;omega) oMx (by simp;omega) ?_)
   intro v' w3 hown3 hgrow3 _
   have HO3:=oH hown3;have HB3:=oH ((HB2.alloc hsz2 _).grown hgrow3 (by simp;omega) (fun g hg=>(HO2.lt g hg).1));clear hown3 hgrow3;go_wp2_with fail;go_roundw
   ·exact ⟨k+1,by go_num,oMx,(fun p hp=>by
    rw [ET.out,List.mem_append,List.mem_singleton] at hp
    rcases hp with hp|rfl
    ·exact HALL.out p hp
    exact HFI.out),by rw [ET.out,List.map_append,xDw];first|exact HO3.out|(rw [List.map_take];exact HO3.out),HB3.out⟩
   simp [intOf];omega
  have HFT:=oH (zBf _ q _ HW.out sz ((HE.below HB.out).below (bA)));rw [zVh hfit,zVf hfit] at HFT;have HFI:=oH hfit;clear hfit sz;refine HFT.mono ?_;rintro e w2 ⟨rfl,hb2⟩;have HB2:=oH (HB.trans (((Below.refl w.heap.size wr).alloc hsz _).trans (hb2.mono (by simp;omega))));clear hb2 c0 c1 c2 c3;go_wp2_with fail;go_ret2
  exact .inr ⟨⟨q,HMEM.out,HFI.out⟩,rfl,HB2.out⟩
 obtain rfl:k=us.length:=by omega
 have ho:=HOWN.out;rw [List.take_of_length_le (by have:=HLEN.out;omega)] at ho;obtain ⟨A9,c9,rfl, -,hst, -⟩:=zVy (show wr.ownsRow w.heap.size 39 1 u4 (qs.map zYy).length (sv (qs.map zYy)) by rw [List.length_map,<-HLEN.out];exact ho);have HST:=oH hst;have HA:=oH HALL.out;rw [List.take_of_length_le (by have:=HLEN.out;omega)] at HA;clear hst ho;rw [List.length_map];go_wp2_with fail;go_ret2
 exact .inl ⟨A9,c9,HA.out,rfl,HST.out,HB.out⟩
end Go.Proofs.YtfjjcoggoomlbaaGreatDoor
namespace Go.Proofs.YtfjjcoggoomlbaaGreatDoor
open Go.RowKit
section
variable {P:Program}
end
def zeroF:FrV:=⟨false,none,0,0,false,none,0,0⟩
def repF (u:FrV) (k n:Nat):List Value:=frc (List.replicate k u++List.replicate (n-k) zeroF)
end Go.Proofs.YtfjjcoggoomlbaaGreatDoor
namespace Go.Proofs.YtfjjcoggoomlbaaGreatDoor
open Go.RowKit
theorem field_T (w:World) (v0:Bool) (A B:oAx) (l c m d:Nat):(Instr.field 86 (.agg #[.bool v0,.slice A l c,.slice B m d]) 1).run Tryz.prog w = .ok (.slice B m d) w:=by kernel_rfl
attribute [go_sem] field_T
structure RowQ (w:World) (g:Nat) (vs:List FrV) (n:Nat) (q:Nat->Rat):Prop where
 blk:Blk w g 89 (frc vs)
 len:vs.length=n
 num:∀ j,(h:j<vs.length)->zCh w vs[j].val (q j)
section
variable {w w':World} {g n:Nat} {vs:List FrV} {q:Nat->Rat}
end
theorem Sz.of1:Sz 5000000 1:=⟨Nat.le_trans zCp dCx,Nat.le_trans zCp dCx⟩
def kerQ (s:zBb) (a j:Nat):Rat:=if j=a then 1 else if j<a then Rat.divInt (-(s.P j a)) s.v else 0
def zBs (ps:List Nat) (a:Nat):Prop:=a<=ps.length/\(∀ i,i<a->pn ps i=i)/\¬(a<ps.length/\pn ps a=a)
def KerPost (heavy:Bool) (s:zBb) (n:Nat) (w:World) (e:Ending) (w':World):Prop :=
 match heavy with
 | true=>e = .returned (.tuple #[.slice none 0 0,.int .i64 3])/\Below w.heap.size w w'
 | false=>(s.ps.length=n/\e = .returned (.tuple #[.slice none 0 0,.int .i64 12])/\Below w.heap.size w w')\/(s.ps.length<n/\∃ a,zBs s.ps a/\zGf w ((List.range n).map (kerQ s a)) e w')
end Go.Proofs.YtfjjcoggoomlbaaGreatDoor
namespace Go.Proofs.YtfjjcoggoomlbaaGreatDoor
open Go.RowKit
theorem Tryz.infoRats:(Tryz.prog.info? 29).map (fun i=>(i.zero,i.size,i.bytes))=some (some (.slice none 0 0),1,24):=by kernel_rfl
section
variable {B:Nat} {w w6:World} {V V2:Value} {rs:List zGk} {r:zGk}
theorem zDa.zero (B:Nat) (w:World):zDa B w (.slice none 0 0) []:=⟨World.ownsRow_nil _ _ _ _,fun r hr=>(by cases hr)⟩
theorem zDa.below (h:zDa B w V rs) (hb:Below w.heap.size w w6):zDa B w6 V rs:=⟨zVn h.o hb,fun r hr=>zVn (h.i r hr) hb⟩
theorem zDa.push (h:zDa B w V rs) (hr:w.ownsRow B 39 1 (.slice r.ad r.ss.length r.cp) r.ss.length (sv r.ss)) (ho:w6.ownsRow B 29 1 V2 (rs.length+1) (zYr rs++[.slice r.ad r.ss.length r.cp])) (hg:w.grownBy w6 V.ownBlock):zDa B w6 V2 (rs++[r]):=by
 refine ⟨by rw [List.length_append,List.length_singleton,zYv];exact ho,fun a ha=>?_⟩
 rcases List.mem_append.1 ha with h1|h1
 ·exact (h.i a h1).kept hg (zVs (h.i a h1) h.o dCx)
 rw [List.mem_singleton.1 h1];exact hr.kept hg (zVs hr h.o dCx)
theorem zDa.read {A:oAx} {c:Nat} (h:zDa B w (.slice A rs.length c) rs):zCz w A rs :=
 ⟨zVl h.o,fun r hr=>by
  obtain ⟨A',c',e, -,hs, -⟩:=zVy (h.i r hr);injection e with e1;rw [e1]
  exact hs⟩
end
theorem zIj {B:Nat} {w w1 w2:World} {V:Value} {o:Obj} (hB:Below B w w1) (hs:B<=w1.heap.size) (hg:(w1.alloc o).grownBy w2 V.ownBlock) (hV:∀ k,V.ownBlock=some k->B<=k):Below B w w2 :=
 (hB.alloc hs o).grown hg (by simp;omega) hV
def RetMat (w:World) (b m n:Nat) (e:Ending) (w':World):Prop:=∃ (v:Value) (qss:List (List Rat)) (rs:List zGk),e = .returned v/\qss.length=m/\(∀ l∈qss,l.length=n/\∀ q∈l,zGp q)/\rs.map (·.ss)=qss.map (·.map zYy)/\zDa w.heap.size w' v rs/\Src w' b/\w.grownBy w' (some b)
def zFp (w:World) (ss:List ByteArray) (e:Ending) (w':World):Prop:=∃ (v:Value) (rs:List zGk),e = .returned v/\rs.map (·.ss)=ss.map (fun s=>[s])/\zDa w.heap.size w' v rs/\Below w.heap.size w w'
theorem zAj (A:oAx) (ss:List ByteArray) (c:Nat) (w:World) (h:zGw w A ss) (hl:ss.length<=1000):Calls Tryz.prog 88 #[.slice A ss.length c] w (zFp w ss):=by
 obtain ⟨i0,hi,hz0,hz1,hz2⟩:=info_parts Tryz.infoRats;have HS:=oH h;clear h
 go_enter Tryz.func88,Tryz.ntmps88
 go_wp2_with fail
 go_loopw [3,8] (fun v iv wr=>∃ (rs:List zGk),iv = .int .i64 (rs.length:Int)/\rs.length<=ss.length/\rs.map (·.ss)=(ss.take rs.length).map (fun s=>[s])/\zDa w.heap.size wr v rs/\Below w.heap.size w wr) (fun _ iv _=>ss.length-(intOf iv).toNat)
 ·exact ⟨[],rfl,oLx,rfl,zDa.zero _ _,bRx⟩
 obtain ⟨rs,rfl,hrm,hmap,hown,hb⟩:=hrel;obtain ⟨AV,cV,rfl, -⟩:=zVk hown.o;have HMAP:=oH hmap;have HOWN:=oH hown;have HB:=oH hb;have hsz:=hb.size;clear hmap hown hb
 by_cases hlt:rs.length<ss.length
 ·obtain ⟨b,off,rfl,hbb,hc⟩:=HS.out (by intro e;subst e;simp at hlt);have hci:=(HB.cell (p:=⟨b,off+rs.length,none⟩) hbb).trans (hc rs.length hlt);have HTK:=oH (show ss.take (rs.length+1)=ss.take rs.length++[ss[rs.length]] from List.take_succ_eq_append_getElem hlt);generalize ss[rs.length]=s at *
  have hx1:(0:Int)<=(rs.length:Int):=by omega
  have hx2:(rs.length:Int)<(ss.length:Int):=by omega
  have hmx:rs.length<=1000:=by omega
  have hb1:Below wr.heap.size wr (wr.alloc (.cells #[.string s] 39)):=bA;have hk1:=Blk.new wr 39 [.string s];have HN1:=oH (show (wr.alloc (.cells #[.string s] 39)).ownsRow w.heap.size 39 1 (.slice (some ⟨wr.heap.size,0,none⟩) 1 1) 1 (sv [s]) from ⟨rfl,.inr ⟨wr.heap.size,1,#[.string s],rfl,hsz,hk1,lRx,dCx,rfl,rfl⟩⟩);have HMO:=oH (HOWN.below hb1);have HB1:=oH (HB.alloc hsz (.cells #[.string s] 39));clear hc hk1 hb1
  go_wp2_with (at_builtin;refine wpList_append_own _ rfl _ _ 27 rfl w.heap.size 29 i0 (.slice none 0 0) 1 24 Tryz.underlying27 hi hz0 hz1 hz2 rfl dCx _ _ _ rfl (HMO.o.alloc _) ⟨wr.heap.size+1,0,none⟩ 1 1 [.slice (some ⟨wr.heap.size,0,none⟩) 1 1] rfl rfl (World.news_of_block (cs:=#[.slice (some ⟨wr.heap.size,0,none⟩) 1 1]) (t:=29) (fr:=(0,0)) (Blk.new' sMx _ [.slice (some ⟨wr.heap.size,0,none⟩) 1 1])) xBn (by unfold maxLen;omega) oMx (by simp;omega) ?_)
  intro v' w3 hown3 hgrow3 _
  have hlt2:∀ k,(Value.slice AV rs.length cV).ownBlock=some k->w.heap.size<=k:=fun k hk=>(HMO.o.lt k hk).1
  have HB3:=oH (zIj HB1.out HB1.size hgrow3 hlt2);have HM3:=oH ((HMO.below (bA)).push (r:=⟨some ⟨wr.heap.size,0,none⟩,1,[s]⟩) (zVn HN1.out (bA)) hown3 hgrow3);clear hown3 hgrow3 hlt2;go_wp2_with fail;go_roundw
  ·exact ⟨rs++[⟨some ⟨wr.heap.size,0,none⟩,1,[s]⟩],by simp only [List.length_append,List.length_singleton];go_num,by simp;omega,by rw [List.length_append,List.length_singleton,HTK.out,List.map_append,List.map_append,HMAP.out];rfl,HM3.out,HB3.out⟩
  simp [intOf];omega
 have HLM:=oH (show rs.length=ss.length by omega);go_wp2_with fail;go_ret
 exact ⟨_,rs,rfl,by have:=HMAP.out;rw [HLM.out,List.take_length] at this;exact this,HOWN.out,HB.out⟩
end Go.Proofs.YtfjjcoggoomlbaaGreatDoor
namespace Go.Proofs.YtfjjcoggoomlbaaGreatDoor
open Go.RowKit
theorem zHb.congr {B:Nat} {w:World} {V:Value} {rows:List zGj} {P P':Nat->Nat->Int} (h:zHb B w V rows P) (he:∀ i,(hi:i<rows.length)->∀ k,k<rows[i].us.length->P' i k=P i k):zHb B w V rows P' :=
 ⟨h.o,h.r,h.nd,fun i hi k hk=>by rw [he i hi k hk];exact h.num i hi k hk,h.nor⟩
structure zGs (B lo hi:Nat) (W0 wr:World) (R cR:Nat) (rw:List zGj) (P:Nat->Nat->Int):Prop where
 tab:zHb B wr (.slice (some ⟨R,0,none⟩) rw.length cR) rw P
 seg:∀ k,lo<=k->k<hi->wr.heap[k]? = W0.heap[k]?
 num:∀ v y,zCk W0 v y->zCk wr v y
 out:∀ r∈rw,r.g<lo\/hi<=r.g
 Rout:R<lo\/hi<=R
 bel:Below B W0 wr
 hi0:hi<=W0.heap.size
 B0:B<=W0.heap.size
section
variable {B lo hi R cR:Nat} {W0 wr w' w8:World} {rw:List zGj} {P:Nat->Nat->Int}
theorem zGs.below (h:zGs B lo hi W0 wr R cR rw P) (hb:Below wr.heap.size wr w'):zGs B lo hi W0 w' R cR rw P :=
 ⟨h.tab.below hb,fun k h1 h2=>(hb.block k (by have:=h.bel.size;have:=h.hi0;omega)).trans (h.seg k h1 h2),fun v y hv=>(h.num v y hv).below hb,h.out,h.Rout,h.bel.trans (hb.mono (Nat.le_trans h.B0 h.bel.size)),h.hi0,h.B0⟩
theorem zGs.alloc (h:zGs B lo hi W0 wr R cR rw P) (o:Obj):zGs B lo hi W0 (wr.alloc o) R cR rw P:=h.below (bRx.alloc lRx o)
theorem zGs.drew (h:zGs B lo hi W0 wr R cR rw P):zGs B lo hi W0 wr.drew R cR rw P:=h.below bRx.drew
theorem zGs.cell (h:zGs B lo hi W0 wr R cR rw P) {p:Addr} (h1:lo<=p.block) (h2:p.block<hi):wr.cell? p=W0.cell? p:=World.cell?_of_block (w:=W0) (h.seg p.block h1 h2)
theorem zGs.mid (h:zGs B lo hi W0 wr R cR rw P) {i:Nat} (hi2:i<rw.length) (hg:wr.grownBy w8 rw[i].self.ownBlock) {p:Addr} (h1:lo<=p.block) (h2:p.block<hi):w8.cell? p=W0.cell? p:=by
 refine World.cell?_of_block (w:=W0) ((hg.block p.block (by have:=h.bel.size;have:=h.hi0;omega) (fun e=>?_)).trans (h.seg p.block h1 h2))
 have e2:p.block=rw[i].g:=by injection e
 rcases h.out _ (List.getElem_mem hi2) with h3|h3<;>omega
theorem zGs.grow (h:zGs B lo hi W0 wr R cR rw P) {i:Nat} (hi2:i<rw.length) {r2:zGj} {u:zDf} {z:Int} (hu2:r2.us=rw[i].us++[u]) (hu:zCk wr u.val z) (hz:P i rw[i].us.length=z)
  (ho:w8.ownsRow B 83 2 r2.self r2.us.length (zUh r2.us)) (hg:wr.grownBy w8 rw[i].self.ownBlock) (hn:NoU w8 r2.self) (hgg:rw[i].g=r2.g\/r2.g=wr.heap.size) :
  zGs B lo hi W0 (w8.setCell ⟨R,i,none⟩ r2.self) R cR (rw.set i r2) P:=by
 obtain ⟨h1,h2,h3⟩:=h.tab.grow hi2 hu2 hu hz ho hg hn hgg;have hsz:=h.bel.size;have hh:=h.hi0;refine ⟨by rw [List.length_set];exact h1,fun k hk1 hk2=>?_,fun v y hv=>h2 v y (h.num v y hv),fun r hr=>?_,h.Rout,h.bel.trans h3,h.hi0,h.B0⟩
 ·rw [Below.heap_setCell w8 ⟨R,i,none⟩ r2.self k (fun e=>by have e2:k=R:=e;rcases h.Rout with h4|h4<;>omega)];refine (hg.block k oMx (fun e=>?_)).trans (h.seg k hk1 hk2)
  have e2:k=rw[i].g:=by injection e
  rcases h.out _ (List.getElem_mem hi2) with h4|h4<;>omega
 rcases List.mem_or_eq_of_mem_set hr with h4|rfl
 ·exact h.out r h4
 rcases hgg with h5|h5
 ·rw [<-h5];exact h.out _ (List.getElem_mem hi2)
 exact .inr oMx
theorem zGs.rowAt (h:zGs B lo hi W0 wr R cR rw P) {i:Nat} (hi2:i<rw.length):wr.cell? ⟨R,i,none⟩=some rw[i].self/\wr.frozen? ⟨R,i,none⟩=false:=by
 refine ⟨?_,h.tab.o.frozenAt i⟩;rw [h.tab.o.cellAt i oMx,List.getElem?_map,List.getElem?_eq_getElem hi2]
 rfl
theorem zGs.rowMid (h:zGs B lo hi W0 wr R cR rw P) {i:Nat} (hi2:i<rw.length) (hg:wr.grownBy w8 rw[i].self.ownBlock):w8.cell? ⟨R,i,none⟩=some rw[i].self/\w8.frozen? ⟨R,i,none⟩=false:=by
 have hoo:w8.ownsRow B 141 1 (.slice (some ⟨R,0,none⟩) rw.length cR) rw.length (rw.map zGj.self):=h.tab.o.kept hg (zVs h.tab.o (h.tab.r _ (List.getElem_mem hi2)) dCx);refine ⟨?_,hoo.frozenAt i⟩;rw [hoo.cellAt i oMx,List.getElem?_map,List.getElem?_eq_getElem hi2]
 rfl
end
end Go.Proofs.YtfjjcoggoomlbaaGreatDoor
namespace Go.Proofs.YtfjjcoggoomlbaaGreatDoor
open Go.RowKit
theorem two_one8 {x:Bool} {A:oAx} {l c:Nat}:∀ u∈([.bool x,.slice A l c]:List Value),u.oneCell'=true:=by
 intro u hu
 simp at hu
 rcases hu with rfl|rfl<;>rfl
def zJs (ss:List ByteArray):List zGk:=ss.map fun s=>⟨none,0,[s]⟩
theorem zJt (ss:List ByteArray):(zJs ss).length=ss.length:=by simp [zJs]
theorem matL_col {rs:List zGk} {ss:List ByteArray} (h:rs.map (·.ss)=ss.map fun s=>[s]):zSg rs=zSg (zJs ss):=by
 have e:∀ l:List zGk,zSg l=(l.map (·.ss)).map (·.map xFp):=fun l=>by simp [zSg]
 rw [e,e,h]
 simp [zJs]
theorem zSn {rs:List zGk} {ss:List ByteArray} (h:rs.map (·.ss)=ss.map fun s=>[s]):rs.length=ss.length/\zSc rs=zSc (zJs ss)/\zSh rs=zSh (zJs ss)/\zOt rs 1=zOt (zJs ss) 1:=by
 have hl:rs.length=ss.length:=by have:=congrArg List.length h;simpa using this
 have hL:=matL_col h
 have hD:zSc rs=zSc (zJs ss):=by unfold zSc;rw [hL]
 have hQ:zSj rs=zSj (zJs ss):=by unfold zSj;rw [hL]
 have hP:zSh rs=zSh (zJs ss):=by funext i k;unfold zSh;rw [hD,hQ]
 refine ⟨hl,hD,hP,?_⟩;unfold zOt;rw [hD,hP,hl,zJt]
theorem zNo {rs:List zGk} {ss:List ByteArray} (h:rs.map (·.ss)=ss.map fun s=>[s]) (hl:ss.length<=12) (h1:1<=ss.length) (hv:∀ s∈ss,vR s=true/\s.size<=4000000000):zBr rs 1:=by
 have hlr:=(zSn h).1
 have hr:∀ r∈rs,∃ s∈ss,r.ss=[s]:=fun r hr=>by
  have:r.ss∈rs.map (·.ss):=List.mem_map.2 ⟨r,hr,rfl⟩;rw [h] at this;obtain ⟨s,hs,e⟩:=List.mem_map.1 this;exact ⟨s,hs,e.symm⟩
 refine ⟨oMx,dCx,fun r h2=>?_,fun r h2 s h3=>?_,fun e=>by rw [e] at hlr;simp at hlr;omega⟩
 ·obtain ⟨s, -,e⟩:=hr r h2;rw [e];rfl
 obtain ⟨s',hs',e⟩:=hr r h2;rw [e] at h3;rw [List.mem_singleton.1 h3];exact hv _ hs'
noncomputable def xBu (rs:List zGk) (ss:List ByteArray) (i k:Nat):Int:=if k=rs.length then zSh (zJs ss) i 0 else zSh rs i k
noncomputable def xBv (rs:List zGk) (ss:List ByteArray) (s:zBb) (i:Nat):Rat:=Rat.divInt (s.P i rs.length*zSc rs) (s.v*zSc (zJs ss))
def SolPost (heavy:Bool) (s:zBb) (m:Nat) (q:Nat->Rat) (w:World) (e:Ending) (w':World):Prop :=
 match heavy with
 | true=>e = .returned (.tuple #[.slice none 0 0,.int .i64 3])/\Below w.heap.size w w'
 | false=>(s.ps.length<m/\e = .returned (.tuple #[.slice none 0 0,.int .i64 6])/\Below w.heap.size w w')\/(s.ps.length=m/\zGf w ((List.range m).map q) e w')
theorem zJu (ss:List ByteArray):(zJs ss).map (·.ss)=ss.map fun s=>[s]:=by simp [zJs]
theorem sol_LL {rs:List zGk} {ss:List ByteArray} (hf:zBr rs rs.length) (hm1:1<=rs.length) (hsl:ss.length=rs.length) (hv:∀ s∈ss,vR s=true/\s.size<=4000000000) (h1:¬600<zOt rs rs.length) (h2:¬600<zOt (zJs ss) 1):∀ i k,i<rs.length->LL (xBu rs ss i k)<=70:=fun i k hi=>by
 have hfc:zBr (zJs ss) 1:=zNo (zJu ss) (by have:=hf.m;omega) oMx hv;unfold xBu
 split
 ·exact zQp hfc (by rw [zJt];omega) oMx i 0 (by rw [zJt];omega)
 exact zQp hf hm1 oMx i k hi
end Go.Proofs.YtfjjcoggoomlbaaGreatDoor
namespace Go.Proofs.YtfjjcoggoomlbaaGreatDoor
open Go.RowKit
theorem field_T2 (w:World) (v0:Bool) (A B:oAx) (l c m d:Nat):(Instr.field 86 (.agg #[.bool v0,.slice A l c,.slice B m d]) 1).run Tryz.prog w = .ok (.slice B m d) w:=by kernel_rfl
theorem field_R1 (w:World) (A B C:oAx) (l c m d n f:Nat) (x y:Bool):(Instr.field 152 (.agg #[.slice A l c,.slice B m d,.bool x,.slice C n f,.bool y]) 1).run Tryz.prog w = .ok (.slice B m d) w:=by kernel_rfl
attribute [local go_sem] field_T2 field_R1
def RankPost (heavy:Bool) (s:zBb) (w:World) (e:Ending) (w':World):Prop :=
 match heavy with
 | true=>e = .returned (.tuple #[.int .i64 0,.int .i64 3])/\Below w.heap.size w w'
 | false=>e = .returned (.tuple #[.int .i64 (s.ps.length:Int),.int .i64 0])/\Below w.heap.size w w'
end Go.Proofs.YtfjjcoggoomlbaaGreatDoor
