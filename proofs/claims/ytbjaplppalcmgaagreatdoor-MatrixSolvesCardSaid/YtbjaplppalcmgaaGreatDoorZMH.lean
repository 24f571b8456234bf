import Derived.Test.YtbjaplppalcmgaaGreatDoorZMG
set_option maxHeartbeats 16000000
set_option maxRecDepth 100000
set_option linter.unusedVariables false
set_option linter.unusedSimpArgs false
set_option linter.unusedSectionVars false
namespace Go.Proofs.YtbjaplppalcmgaaGreatDoor
open Go.RowKit
def nd (z:Int):Nat:=Lib.nDigits z.natAbs
def zRy (f:Nat->Nat) (a:Nat):Nat->Nat
 | 0=>a
 | k+1=>max (zRy f a k) (f k)
def zSb (f:Nat->Nat->Nat) (n a:Nat):Nat->Nat
 | 0=>a
 | i+1=>zRy (f i) (zSb f n a i) n
def zMe (D:Int) (P:Nat->Nat->Int) (m n:Nat):Nat:=zSb (fun i k=>nd (P i k)) n (nd D) m
theorem zSa {f:Nat->Nat} {a b:Nat} (ha:a<=b):∀ {n},(∀ k,k<n->f k<=b)->zRy f a n<=b
 | 0,_=>ha
 | n+1,h=>Nat.max_le.2 ⟨zSa ha fun k hk=>h k oMx,h n oMx⟩
theorem zSd {f:Nat->Nat->Nat} {n a b:Nat} (ha:a<=b):∀ {m},(∀ i k,i<m->k<n->f i k<=b)->zSb f n a m<=b
 | 0,_=>ha
 | m+1,h=>zSa (zSd ha fun i k hi hk=>h i k oMx hk) fun k hk=>h m k oMx hk
theorem zMj (dv:zCq) (A:oAx) (c n:Nat) (rows:List zGg) (P:Nat->Nat->Int) (D:Int) (w:World) (h:TabR w A rows n P) (hd:zBs w dv.val D) (hLD:LL D<=100000) (hL:∀ i k,i<rows.length->LL (P i k)<=100000) (hm1:1<=rows.length) (hm:rows.length<=1000) (hn1:1<=n) (hn:n<=1000) (henv:Env w) :
  Calls Tryz.prog 69 #[.agg #[.bool dv.nb,.slice dv.ad dv.l dv.c,.slice A rows.length c]] w fun e w'=>e = .returned (.int .i64 (zMe D P rows.length n:Nat))/\Below w.heap.size w w':=by
 obtain ⟨b,off,rfl, -⟩:=h.o (by intro e;rw [List.map_eq_nil_iff] at e;subst e;simp at hm1);have HT:=oH h;have HL:=oH hL;have HE:=oH henv;have HDT:=oH (show zMe D P rows.length n=zSb (fun i k=>nd (P i k)) n (nd D) rows.length from rfl);obtain ⟨f,hf⟩:=eXx ((fun i k=>nd (P i k)));rw [hf] at HDT;have HF:=oH (fun i k=>(show nd (P i k)=f i k by rw [<-hf]));obtain ⟨dT,hdT⟩:=eXx (zMe D P rows.length n);rw [hdT] at HDT ⊢;clear hdT hf;have HB1:=oH ((Below.refl w.heap.size w).alloc lRx (.cells #[.bool dv.nb,.slice dv.ad dv.l dv.c,.slice (some ⟨b,off,none⟩) rows.length c] 65));have HD:=oH (zAm (.agg #[.bool dv.nb,.slice dv.ad dv.l dv.c]) D _ (show zBs _ _ D from hd.below HB1.out) (by unfold LL at hLD;omega) (henv.below HB1.out).tab);have hbk:=Blk.new w 65 [.bool dv.nb,.slice dv.ad dv.l dv.c,.slice (some ⟨b,off,none⟩) rows.length c];clear h hL hd henv
 go_enter Tryz.func69,Tryz.ntmps69
 go_wp2_with fail;refine HD.mono ?_;rintro e w2 ⟨rfl,hb2⟩;have k2:=(hbk.below hb2).at_ (i:=2) rfl;have HB2:=bTx2 HB1 hb2;have E0:=oH (show (Lib.nDigits D.natAbs:Nat)=zSb f n (nd D) 0 from rfl);generalize Lib.nDigits D.natAbs=a0 at *;clear hbk hb2;go_wp2_with fail;clear k2
 go_loopw [3,14] (fun v iv wr=>∃ i x:Nat,iv = .int .i64 (i:Int)/\i<=rows.length/\v = .int .i64 (x:Int)/\x=zSb f n (nd D) i/\Below w.heap.size w wr) (fun _ iv _=>rows.length-(intOf iv).toNat)
 ·exact ⟨0,a0,rfl,oLx,rfl,E0.out,HB2.out⟩
 obtain ⟨i,x,rfl,hi,rfl,hx,hb⟩:=hrel;obtain ⟨wi,rfl⟩:=nWx wr;have HX:=oH hx;have HB:=oH hb;clear hx hb
 by_cases hlt:i<rows.length
 ·have ht:=HT.below HB.out;have hci:=ht.o.at_ (i:=i) (List.getElem?_eq_getElem (by simpa using hlt));simp only [List.getElem_map,zGg.val] at hci;have HRR:=oH (HT.r _ (List.getElem_mem hlt));have HRL:=oH (HT.l _ (List.getElem_mem hlt));have HRN:=oH (HT.num i hlt);have HLI:=oH (fun k=>HL.out i k hlt);generalize rows[i]=r at *;obtain ⟨g,cg,us⟩:=r
  have hx1:(0:Int)<=(i:Int):=by omega
  have hx2:(i:Int)<(rows.length:Int):=by omega
  clear ht;simp only at hci;go_wp2_with fail;clear hci
  go_loopw [3,20] (fun v jv wr=>∃ k y:Nat,jv = .int .i64 (k:Int)/\k<=n/\v = .int .i64 (y:Int)/\y=zRy (f i) (zSb f n (nd D) i) k/\Below w.heap.size w wr) (fun _ jv _=>n-(intOf jv).toNat)
  ·exact ⟨0,x,rfl,oLx,rfl,HX.out,HB.out⟩
  obtain ⟨k,y,rfl,hk,rfl,hy,hb⟩:=hrel;obtain ⟨wq,rfl⟩:=nWx wr;have HY:=oH hy;have HBq:=oH hb;clear hy
  by_cases hlt2:k<n
  ·have hku:k<us.length:=by have h9:us.length=n:=HRL.out;omega
   have hrr:=HRR.below HBq.out;have e0:=hrr.at_ (zTe hku).1;have e1:=hrr.at_ (zTe hku).2;rw [Nat.zero_add] at e0 e1;have hnu:zBs w us[k].val (P i k):=HRN.out k hku;have HPK:=oH (HF.out i k);have hlk:=HLI.out k;generalize us[k]=u at *;generalize P i k=z at *;have HBa:=oH (HBq.alloc HBq.size (.cells #[.bool u.nb,.slice u.ad u.l u.c] 62));have HDK:=oH (zAm (.agg #[.bool u.nb,.slice u.ad u.l u.c]) z _ (show zBs _ _ z from hnu.below HBa.out) (by unfold LL at hlk;omega) (HE.below HBa.out).tab)
   have hx3:(0:Int)<=(k:Int):=by omega
   have hx4:(k:Int)<(n:Int):=by omega
   clear hrr hnu hku hb;go_wp2_with fail;refine HDK.mono ?_;rintro e w5 ⟨rfl,hb5⟩;have HB5:=bTx2 HBa hb5
   have HM:=oH (show max y (Lib.nDigits z.natAbs)=zRy (f i) (zSb f n (nd D) i) (k+1) by
    show _=max (zRy (f i) (zSb f n (nd D) i) k) (f i k)
    rw [<-HY.out,<-HPK.out]
    rfl)
   generalize Lib.nDigits z.natAbs=dz at *;clear hb5;go_wp2_with fail;go_roundw
   ·exact ⟨k+1,max y dz,by go_num,oMx,by rw [show ((max y dz:Nat):Int)=max (y:Int) (dz:Int) by omega],HM.out,HB5.out⟩
   simp [intOf];omega
  obtain rfl:n=k:=by omega
  go_wp2_with fail;go_roundw
  ·exact ⟨i+1,y,by go_num,oMx,rfl,HY.out,HBq.out⟩
  simp [intOf];omega
 obtain rfl:i=rows.length:=by omega
 have E:=oH (HX.trans HDT.symm);go_wp2_with fail;go_ret
 exact ⟨by first|rfl|(rw [E.out];rfl),HB.out⟩
end Go.Proofs.YtbjaplppalcmgaaGreatDoor
namespace Go.Proofs.YtbjaplppalcmgaaGreatDoor
open Go.RowKit
theorem zSg:∀ (k n:Nat),n<10^(k+1)->Lib.nDigits n<=k+1
 | 0,n,h=>by rw [Lib.nDigits_small (by simpa using h)];exact lRx
 | k+1,n,h=>by
  by_cases h1:n<10
  ·rw [Lib.nDigits_small h1];omega
  rw [Lib.nDigits_big h1];have:=zSg k (n/10) (by rw [Nat.div_lt_iff_lt_mul dCx];rw [Nat.pow_succ] at h;exact h);omega
theorem zQu:∀ (k n:Nat),n<10^k->n<10^Lib.nDigits n
 | 0,n,h=>by
  have:n=0:=by simpa using h
  subst this;exact Nat.pow_pos dCx
 | k+1,n,h=>by
  by_cases h1:n<10
  ·rw [Lib.nDigits_small h1];simpa using h1
  rw [Lib.nDigits_big h1,Nat.pow_succ];have:=zQu k (n/10) (by rw [Nat.div_lt_iff_lt_mul dCx];rw [Nat.pow_succ] at h;exact h);rw [Nat.div_lt_iff_lt_mul dCx] at this;exact this
theorem lt_pow_self (n:Nat):n<10^n:=Nat.lt_pow_self dCx
theorem nd_LL (z:Int):nd z<=9*LL z+1:=by
 unfold nd;refine zSg (9*LL z) z.natAbs ?_;have h:=zQh z.natAbs
 have e:(1000000000:Nat)^(limbs z.natAbs).length=10^(9*LL z):=by rw [Nat.pow_mul];rfl
 rw [e] at h;exact Nat.lt_of_lt_of_le h (Nat.pow_le_pow_right dCx oMx)
theorem LL_nd {z:Int} {k:Nat} (h:nd z<=9*k):LL z<=k:=by
 unfold LL;refine zQb ?_;have h1:=zQu z.natAbs z.natAbs (lt_pow_self _)
 have h2:(1000000000:Nat)^k=10^(9*k):=by rw [Nat.pow_mul]
 rw [h2];exact Nat.lt_of_lt_of_le h1 (Nat.pow_le_pow_right dCx h)
theorem dig_nd {z:Int} {k:Nat} (h:Dig (k+1) z):nd z<=k+1:=zSg k z.natAbs h
theorem zRh {rs:List zGh} {n:Nat} (hf:zBb rs n) (i k:Nat):LL (zRg rs i k)<=7145:=by
 have h1:=zRa hf;have h2:=(zRk rs i k).1;have h3:=zBy (zRi rs i k).num (zQz rs/((zRi rs i k).den:Int));have h4:=zBx (zQz rs) ((zRi rs i k).den:Int);have h5:LL (zRi rs i k).num<=45:=h2
 show LL ((zRi rs i k).num*(zQz rs/((zRi rs i k).den:Int)))<=7145
 omega
noncomputable def zOh (rs:List zGh) (n:Nat):Nat:=max rs.length n*zMe (zQz rs) (zRg rs) rs.length n
theorem digT_LL {D:Int} {P:Nat->Nat->Int} {m n k:Nat} (hD:LL D<=k) (hP:∀ i j,i<m->j<n->LL (P i j)<=k):zMe D P m n<=9*k+1:=by
 refine zSd ?_ fun i j hi hj=>?_
 ·have:=nd_LL D;omega
 have:=nd_LL (P i j);have:=hP i j hi hj
 show nd (P i j)<=_
 omega
theorem zBh (A:oAx) (c n:Nat) (rs:List zGh) (w:World) (h:zCj w A rs) (hf:zBb rs n) (hm1:1<=rs.length) (hn1:1<=n) (henv:Env w) :
  Calls Tryz.prog 32 #[.slice A rs.length c] w fun e w'=>e = .returned (.bool (decide (600<zOh rs n)))/\Below w.heap.size w w':=by
 obtain ⟨b,off,rfl, -⟩:=h.o (by intro e;have:=zXg rs;rw [e] at this;simp at this;omega);have hc0:=h.o.at_ (zXf (i:=0) oMx);rw [Nat.add_zero,hf.row _ (List.getElem_mem oMx)] at hc0;have HO:=oH (zCs _ c n rs w h hf hm1 hn1 henv);have HDT:=oH (digT_LL (k:=7145) (Nat.le_trans (zRa hf) dCx) (fun i j (_:i<rs.length) (_:j<n)=>zRh hf i j));have hmx:=hf.m;have hnx:=hf.n12;have HH:=oH (show zOh rs n=max rs.length n*zMe (zQz rs) (zRg rs) rs.length n from rfl);have HE:=oH henv;have HL1:=oH (zRa hf);have HL2:=oH (fun i k (_:i<rs.length)=>zRh hf i k);generalize zOh rs n=hh at *;generalize zQz rs=D at *;generalize zRg rs=P at *;generalize rs[0].ad=a0 at *;generalize rs[0].cp=c0 at *;clear h hf henv
 have hd:decide ((rs.length:Int)>0)=true:=by simp;omega
 have hmax:max (rs.length:Int) (n:Int)=((max rs.length n:Nat):Int):=by omega
 go_enter Tryz.func32,Tryz.ntmps32
 go_wp2_with fail;refine HO.mono ?_;rintro e w2 ⟨R,cR,rows,dv,rfl,hl,ht, -, -,hd2,hb⟩;have HB:=oH hb;rw [<-hl] at ht;have HDG:=oH (zMj dv _ cR n rows P D w2 ht.read hd2 (Nat.le_trans HL1.out dCx) (fun i k hi=>Nat.le_trans (HL2.out i k oMx) dCx) oMx oMx hn1 oMx (HE.below hb));have HLN:=oH hl;rw [hl] at HDG;clear ht hd2 hb hl;go_wp2_with fail;refine HDG.mono ?_;rintro e w3 ⟨rfl,hb3⟩;have HB3:=bTx2 HB hb3;have hdt:=HDT.out;generalize zMe D P rs.length n=dt at *;clear hb3;have hmul:max rs.length n*dt<=12*(9*7145+1):=Nat.mul_le_mul oMx hdt
 have hmul2:((max rs.length n:Nat):Int)*(dt:Int)=(hh:Int):=by rw [HH.out,Int.natCast_mul]
 have hh2:hh<=12*(9*7145+1):=by rw [HH.out];exact hmul
 have hw:wrap64 (((max rs.length n:Nat):Int)*(dt:Int))=(hh:Int):=by rw [hmul2];unfold wrap64;omega
 clear hmul hmul2;go_wp2_with fail;go_ret
 refine ⟨?_,HB3.out⟩
 congr 2
 simp
 omega
end Go.Proofs.YtbjaplppalcmgaaGreatDoor
namespace Go.Proofs.YtbjaplppalcmgaaGreatDoor
open Go.RowKit
theorem zRz {f:Nat->Nat} {a:Nat}:∀ {n},a<=zRy f a n/\∀ k,k<n->f k<=zRy f a n
 | 0=>⟨lRx,fun k hk=>by omega⟩
 | n+1=>by
  obtain ⟨h1,h2⟩:=zRz (f:=f) (a:=a) (n:=n);refine ⟨Nat.le_trans h1 (Nat.le_max_left _ _),fun k hk=>?_⟩
  rcases Nat.lt_or_ge k n with h|h
  ·exact Nat.le_trans (h2 k h) (Nat.le_max_left _ _)
  obtain rfl:k=n:=by omega
  exact Nat.le_max_right _ _
theorem zSc {f:Nat->Nat->Nat} {n a:Nat}:∀ {m},a<=zSb f n a m/\∀ i k,i<m->k<n->f i k<=zSb f n a m
 | 0=>⟨lRx,fun i k hi=>by omega⟩
 | m+1=>by
  obtain ⟨h1,h2⟩:=zSc (f:=f) (n:=n) (a:=a) (m:=m);obtain ⟨h3,h4⟩:=zRz (f:=f m) (a:=zSb f n a m) (n:=n);refine ⟨Nat.le_trans h1 h3,fun i k hi hk=>?_⟩
  rcases Nat.lt_or_ge i m with h|h
  ·exact Nat.le_trans (h2 i k h hk) h3
  obtain rfl:i=m:=by omega
  exact h4 k hk
theorem matQ_out {rs:List zGh} {n:Nat} (hf:zBb rs n) {i k:Nat} (hk:n<=k):zRi rs i k=0:=by
 unfold zRi;rw [List.getD_eq_getElem?_getD]
 have:((zRf rs).getD i []).length<=n:=by
  rw [List.getD_eq_getElem?_getD]
  rcases h2:(zRf rs)[i]? with _|l
  ·simp
  obtain ⟨r,hr,rfl⟩:=List.mem_map.1 (List.mem_of_getElem? h2);have:=hf.row r hr
  simp
  omega
 rw [List.getElem?_eq_none oMx]
 rfl
theorem zPo {rs:List zGh} {n:Nat} (hf:zBb rs n) (hm1:1<=rs.length) (h:zOh rs n<=600):∀ i k,i<rs.length->LL (zRg rs i k)<=70:=fun i k hi=>by
 rcases Nat.lt_or_ge k n with hk|hk
 ·have h1:=(zSc (f:=fun i k=>nd (zRg rs i k)) (n:=n) (a:=nd (zQz rs)) (m:=rs.length)).2 i k hi hk
  have h2:zMe (zQz rs) (zRg rs) rs.length n<=zOh rs n:=by
   unfold zOh
   have:1<=max rs.length n:=by omega
   exact Nat.le_mul_of_pos_left _ this
  have h3:nd (zRg rs i k)<=9*67:=Nat.le_trans h1 (Nat.le_trans h2 oMx);exact Nat.le_trans (LL_nd h3) dCx
 have:zRg rs i k=0:=by
  show (zRi rs i k).num*_=0
  rw [matQ_out hf hk];exact Int.zero_mul _
 rw [this]
 show (limbs 0).length<=70
 rw [zQo]
 decide
theorem light_D {rs:List zGh} {n:Nat} (hm1:1<=rs.length) (h:zOh rs n<=600):LL (zQz rs)<=70:=by
 have h1:=(zSc (f:=fun i k=>nd (zRg rs i k)) (n:=n) (a:=nd (zQz rs)) (m:=rs.length)).1
 have h2:zMe (zQz rs) (zRg rs) rs.length n<=zOh rs n:=by
  unfold zOh
  have:1<=max rs.length n:=by omega
  exact Nat.le_mul_of_pos_left _ this
 have h3:nd (zQz rs)<=9*67:=Nat.le_trans h1 (Nat.le_trans h2 oMx);exact Nat.le_trans (LL_nd h3) dCx
theorem zRl {rs:List zGh} {n:Nat} (hf:zBb rs n) {i k:Nat} (hi:i<rs.length) (hk:k<n):((zRg rs i k:Int):Rat)=zQz rs*zRi rs i k:=by
 have hr:rs[i].ss.length=n:=hf.row _ (List.getElem_mem hi);refine celN_eq (zLm (zRf rs) 1 (rs[i].ss.map xDx) _ (List.mem_map.2 ⟨_,List.getElem_mem hi,rfl⟩) ?_);rw [zRj hi oMx];exact List.mem_map.2 ⟨_,List.getElem_mem _,rfl⟩
theorem zLw {rs:List zGh} (hf:zBb rs rs.length):det rs.length (zRi rs)=if (eli rs.length (zRg rs) rs.length).ps.length=rs.length then ((if (eli rs.length (zRg rs) rs.length).odd then -1 else 1)*((eli rs.length (zRg rs) rs.length).v:Rat))/(zQz rs:Rat)^rs.length else 0:=by
 obtain ⟨F,hg, -⟩:=zMt rs.length (zRg rs) rs.length;have h1:=hg.det_
 have h2:det rs.length (fun i k=>((zRg rs i k:Int):Rat))=(zQz rs:Rat)^rs.length*det rs.length (zRi rs):=by
  rw [<-zMa]
  exact (zLt rs.length).ext _ _ fun r c hr hc=>zRl hf hr hc
 rw [h2] at h1
 have hD:(zQz rs:Rat)≠0:=fun e=>by have:=zRc rs;rw [Rat.intCast_eq_zero_iff] at e;omega
 have hDm:(zQz rs:Rat)^rs.length≠0:=by
  generalize rs.length=m
  induction m with
  | zero=>rw [Rat.pow_zero];decide
  | succ m ih=>rw [Rat.pow_succ];grind
 generalize (zQz rs:Rat)^rs.length=x at *;generalize det rs.length (zRi rs)=d at *
 split
 ·rename_i e
  rw [if_pos e] at h1;rw [<-h1]
  grind
 rename_i e
 rw [if_neg e] at h1
 grind
theorem zBs.over {w:World} {v:Value} {z:Int} {p:Addr} {u:Value} (h:zBs w v z) (hc:w.cell? p=some u) (hu:∀ z,u ≠ .int .u64 z) (x:Value):zBs (w.setCell p x) v z:=by
 obtain ⟨s,e,A,c,e2,hl,hx⟩:=h;refine ⟨s,e,A,c,e2,hl,fun hne=>?_⟩;obtain ⟨b,off,rfl,hb,hcell⟩:=hx hne;refine ⟨b,off,rfl,by simpa using hb,fun i hi=>?_⟩;rw [World.cell?_setCell_other]
 ·exact hcell i hi
 intro e3
 have h1:=hcell i hi;rw [<-e3,hc] at h1;injection h1 with h1;exact hu _ h1
structure zHg (w:World) (g h:Nat) (v u:zCq):Prop where
 a0:w.cell? ⟨g,0,none⟩=some (.bool v.nb)
 a1:w.cell? ⟨g,1,none⟩=some (.slice v.ad v.l v.c)
 b0:w.cell? ⟨h,0,none⟩=some (.bool u.nb)
 b1:w.cell? ⟨h,1,none⟩=some (.slice u.ad u.l u.c)
 fa0:w.frozen? ⟨g,0,none⟩=false
 fa1:w.frozen? ⟨g,1,none⟩=false
 fb0:w.frozen? ⟨h,0,none⟩=false
 fb1:w.frozen? ⟨h,1,none⟩=false
 ne:g≠h
theorem zHg.below {w w':World} {g h:Nat} {v u:zCq} (k:zHg w g h v u) (hb:Below w.heap.size w w'):zHg w' g h v u :=
 ⟨(hb.cell (World.block_lt_of_cell? _ _ k.a0)).trans k.a0,(hb.cell (World.block_lt_of_cell? _ _ k.a1)).trans k.a1,(hb.cell (World.block_lt_of_cell? _ _ k.b0)).trans k.b0,(hb.cell (World.block_lt_of_cell? _ _ k.b1)).trans k.b1,
  (hb.frozen (World.block_lt_of_cell? _ _ k.a0)).trans k.fa0,(hb.frozen (World.block_lt_of_cell? _ _ k.a1)).trans k.fa1,(hb.frozen (World.block_lt_of_cell? _ _ k.b0)).trans k.fb0,(hb.frozen (World.block_lt_of_cell? _ _ k.b1)).trans k.fb1,k.ne⟩
end Go.Proofs.YtbjaplppalcmgaaGreatDoor
namespace Go.Proofs.YtbjaplppalcmgaaGreatDoor
theorem zMi:zAl 1 0:=⟨by unfold Dig;decide,by unfold Dig;decide⟩
def detDig (k:Nat):Nat->Nat
 | 0=>1
 | n+1=>1+(n+1)*(1+k+detDig k n+1)
theorem lcmI_dig {a b:Nat} {x y:Int} (h:Dig a x) (k:Dig b y):Dig (a+b) (zPk x y):=by
 have h1:Dig a (x/((x.gcd y:Nat):Int)):=Nat.lt_of_le_of_lt (Int.natAbs_ediv_le_natAbs x _) h;exact h1.mul k rfl rfl
theorem zLd {k:Nat}:∀ {l:List Rat} {a:Nat} {d:Int},Dig a d->(∀ q∈l,zAl k q)->Dig (a+l.length*k) (zLb d l)
 | [],_,_,h,_=>by simpa [zLb] using h
 | q::l,a,d,h,hq=>by
  have:=zLd (l:=l) (lcmI_dig h (hq q sMx).2) fun x hx=>hq x (by simp [hx])
  rw [show a+(q::l).length*k=a+k+l.length*k by rw [List.length_cons,Nat.succ_mul];omega];exact this
theorem zLk {k n:Nat}:∀ {m:List (List Rat)} {a:Nat} {d:Int},Dig a d->(∀ l∈m,l.length<=n/\∀ q∈l,zAl k q)->Dig (a+m.length*(n*k)) (zLi d m)
 | [],_,_,h,_=>by simpa [zLi] using h
 | l::m,a,d,h,hl=>by
  obtain ⟨h1,h2⟩:=hl l sMx;have h3:=(zLd h h2).mono (b:=a+n*k) (Nat.add_le_add_left (Nat.mul_le_mul_right k h1) a)
  have:=zLk (m:=m) h3 fun x hx=>hl x (by simp [hx])
  rw [show a+(l::m).length*(n*k)=a+n*k+m.length*(n*k) by rw [List.length_cons,Nat.succ_mul];omega];exact this
theorem celN_dig {a k:Nat} {d:Int} {q:Rat} (h:Dig a d) (hq:zAl k q):Dig (k+a) (celN d q):=by
 have h1:Dig a (d/(q.den:Int)):=Nat.lt_of_le_of_lt (Int.natAbs_ediv_le_natAbs d _) h;exact hq.1.mul h1 rfl rfl
end Go.Proofs.YtbjaplppalcmgaaGreatDoor
namespace Go.Proofs.YtbjaplppalcmgaaGreatDoor
open Go.RowKit
theorem xDp {W0 w2 W:World} {a b:Nat} {v u:zCq} {q:Int} (KP:Kp W0.heap.size w2 W) (k:zHg W a b v u) (hn:zBs w2 u.val q) (hB:Below W0.heap.size W0 w2) (ha:W0.heap.size<=a) (hb:W0.heap.size<=b) :
  ∃ (g7 g8:Nat) (u:zCq),(Value.pointer (some ⟨a,0,none⟩)) = .pointer (some ⟨g7,0,none⟩)/\(Value.pointer (some ⟨b,0,none⟩)) = .pointer (some ⟨g8,0,none⟩)/\zHg W g7 g8 v u/\zBs W u.val q/\W0.heap.size<=g7/\W0.heap.size<=g8/\Below W0.heap.size W0 W :=
 ⟨a,b,u,rfl,rfl,k,KP.num hn,ha,hb,hB.trans KP.bel⟩
theorem zYs {W:World} {p1 p2:Addr} {a b:Value} (h:W.cell? p1=some a/\W.cell? p2=some b) (o:Obj):(W.alloc o).cell? p1=some a/\(W.alloc o).cell? p2=some b:=by
 have hb:Below W.heap.size W (W.alloc o):=bRx.alloc lRx o;exact ⟨(hb.cell (World.block_lt_of_cell? _ _ h.1)).trans h.1,(hb.cell (World.block_lt_of_cell? _ _ h.2)).trans h.2⟩
theorem LL_pow {D:Int} (h:LL D<=70):∀ i,LL (D^i)<=70*(i+1)
 | 0=>by rw [Int.pow_zero];exact zBz
 | i+1=>by
  have:=LL_pow h i;have h2:=zBy (D^i) D;rw [Int.pow_succ];omega
theorem pow_ne {D:Int} (h:0<D):∀ i:Nat,D^i≠0
 | 0=>by rw [Int.pow_zero];decide
 | i+1=>by rw [Int.pow_succ];exact Int.mul_ne_zero (pow_ne h i) oMx
theorem zSz {u:zCq}:(∀ z,(Value.bool u.nb) ≠ .int .u64 z)/\∀ z,(Value.slice u.ad u.l u.c) ≠ .int .u64 z:=⟨fun z e=>(by cases e),fun z e=>(by cases e)⟩
theorem zHg.num8 {w:World} {g h:Nat} {v u:zCq} (k:zHg w g h v u) (x:zCq) {y:Value} {z:Int} (hn:zBs w y z):zBs ((w.setCell ⟨h,0,none⟩ (.bool x.nb)).setCell ⟨h,1,none⟩ (.slice x.ad x.l x.c)) y z :=
 (hn.over k.b0 zSz.1 _).over (u := .slice u.ad u.l u.c) (by rw [World.cell?_setCell_other _ _ _ _ sMx];exact k.b1) zSz.2 _
theorem zHg.num7 {w:World} {g h:Nat} {v u:zCq} (k:zHg w g h v u) (x:zCq) {y:Value} {z:Int} (hn:zBs w y z):zBs ((w.setCell ⟨g,0,none⟩ (.bool x.nb)).setCell ⟨g,1,none⟩ (.slice x.ad x.l x.c)) y z :=
 (hn.over k.a0 zSz.1 _).over (u := .slice v.ad v.l v.c) (by rw [World.cell?_setCell_other _ _ _ _ sMx];exact k.a1) zSz.2 _
theorem zHg.put8 {w:World} {g h:Nat} {v u:zCq} (k:zHg w g h v u) (x:zCq):zHg ((w.setCell ⟨h,0,none⟩ (.bool x.nb)).setCell ⟨h,1,none⟩ (.slice x.ad x.l x.c)) g h v x:=by
 obtain ⟨a0,a1,b0,b1,fa0,fa1,fb0,fb1,ne⟩:=k;have ne2:=Ne.symm ne;exact ⟨by go_simp,by go_simp,by go_simp,by go_simp,by go_simp,by go_simp,by go_simp,by go_simp,ne⟩
noncomputable def detS (rs:List zGh):ByteArray:=if 600<zOh rs rs.length then ⟨#[]⟩ else zUa (det rs.length (zRi rs))
noncomputable def zLq (rs:List zGh):Int:=if 600<zOh rs rs.length then 3 else zUb (det rs.length (zRi rs))
theorem fits0:zBd 0:=zMi.fits dCx dCx
theorem zLs {rs:List zGh} (hf:zBb rs rs.length) (hl:¬600<zOh rs rs.length) (h:(eli rs.length (zRg rs) rs.length).ps.length≠rs.length):detS rs=⟨#[48]⟩/\zLq rs=0:=by
 unfold detS zLq;rw [if_neg hl,if_neg hl,zLw hf,if_neg h,zUe fits0,zUc fits0,zXt];exact ⟨rfl,rfl⟩
theorem zLr {rs:List zGh} (hf:zBb rs rs.length) (hl:¬600<zOh rs rs.length) (h:(eli rs.length (zRg rs) rs.length).ps.length=rs.length) {z:Int} (hz:z=if (eli rs.length (zRg rs) rs.length).odd then -(eli rs.length (zRg rs) rs.length).v else (eli rs.length (zRg rs) rs.length).v) {d:Int} (hd:d=(zQz rs)^rs.length):detS rs=zUa (Rat.divInt z d)/\zLq rs=zUb (Rat.divInt z d):=by
 have e:det rs.length (zRi rs)=Rat.divInt z d:=by
  rw [zLw hf,if_pos h,Rat.divInt_eq_div,hd,hz];rw [Rat.intCast_pow]
  split<;>simp [Rat.neg_mul,Rat.one_mul]
 unfold detS zLq;rw [if_neg hl,if_neg hl,e];exact ⟨rfl,rfl⟩
theorem zAk (A:oAx) (c:Nat) (rs:List zGh) (w:World) (h:zCj w A rs) (hf:zBb rs rs.length) (hm1:1<=rs.length) (henv:Env w) :
  Calls Tryz.prog 18 #[.slice A rs.length c] w fun e w'=>e = .returned (.tuple #[.string (detS rs),.int .i64 (zLq rs)])/\Below w.heap.size w w':=by
 have HM:=oH h;have HF:=oH hf;have HE:=oH henv;have hm12:=hf.m;have HSQ:=oH (xAo A rs c w h hf henv);obtain ⟨dS,hdS⟩:=eXx (detS rs);obtain ⟨dE,hdE⟩:=eXx (zLq rs);rw [hdS,hdE];have HDS:=oH hdS;have HDE:=oH hdE;clear h hf henv hdS hdE
 go_enter Tryz.func18,Tryz.ntmps18
 go_wp2_with fail;refine HSQ.mono ?_;rintro e w1 ⟨rfl,hb1⟩;have HB1:=oH hb1;have HHV:=zBh A c rs.length rs w1 (HM.below hb1) HF.out hm1 hm1 (HE.below hb1);clear hb1
 by_cases hh:600<zOh rs rs.length
 ·rw [show decide (600<zOh rs rs.length)=true from by simpa using hh] at HHV;replace HHV:=oH HHV;have HH:=oH hh;clear hh;go_wp2_with fail;refine HHV.mono ?_;rintro e w2 ⟨rfl,hb2⟩;have HB2:=bTx2 HB1 hb2;clear hb2;go_wp2_with fail;go_ret2
  exact ⟨by rw [<-HDS.out,<-HDE.out];unfold detS zLq;rw [if_pos HH.out,if_pos HH.out];rfl,HB2.out⟩
 rw [show decide (600<zOh rs rs.length)=false from by simpa using hh] at HHV;replace HHV:=oH HHV;have HH:=oH hh;clear hh;go_wp2_with fail;refine HHV.mono ?_;rintro e w2 ⟨rfl,hb2⟩;have HB2:=bTx2 HB1 hb2;have HOF:=oH (zCs A c rs.length rs w2 (HM.below HB2.out) HF.out hm1 hm1 (HE.below HB2.out));clear hb2;go_wp2_with fail;refine HOF.mono ?_;rintro e w3 ⟨R,cR,rows,dv,rfl,hl,ht, -, -,hd3,hb3⟩;have HB3:=bTx2 HB2 hb3;have HB5:=oH (HB3.alloc HB3.size (.cells #[.bool dv.nb,.slice dv.ad dv.l dv.c,.slice (some ⟨R,0,none⟩) rs.length cR] 65));have HT5:=oH (Blk.new w3 65 [.bool dv.nb,.slice dv.ad dv.l dv.c,.slice (some ⟨R,0,none⟩) rs.length cR]);have HD5:=oH (hd3.below (bRx.alloc lRx (.cells #[.bool dv.nb,.slice dv.ad dv.l dv.c,.slice (some ⟨R,0,none⟩) rs.length cR] 65)))
 replace ht:zHa w2.heap.size w3 (.slice (some ⟨R,0,none⟩) rows.length cR) rows rs.length (zRg rs):=by rw [hl];exact ht
 have HRD:=zFi _ cR rs.length rs.length rows (zRg rs) _ (ht.read.below (bRx.alloc lRx (.cells #[.bool dv.nb,.slice dv.ad dv.l dv.c,.slice (some ⟨R,0,none⟩) rs.length cR] 65))) oMx oMx hm1 oMx lRx (fun i k hi=>zPo HF.out hm1 (Nat.le_of_not_lt HH.out) i k oMx);rw [hl] at HRD;replace HRD:=oH HRD;clear ht hd3 hb3 hl;go_wp2_with fail;refine HRD.mono ?_;rintro e w4 ⟨R4,cR4,rows4,pv,v,rfl,hl4,hrr,hb4⟩;have HD4:=oH (HD5.below hb4);have HT4:=oH (HT5.below hb4);have HB4:=bTx2 HB5 hb4;have HV4:=oH hrr.val;obtain ⟨Ap,cp,rfl, -⟩:=zUj hrr.pvt;have HSZ:=oH (fun hps z hz d hd=>zLr HF.out HH.out hps (z:=z) hz (d:=d) hd);have HSN:=oH (fun hps=>zLs HF.out HH.out hps);have HEL:=oH (zMu (m:=rs.length) (fun i k hi=>zPo HF.out hm1 (Nat.le_of_not_lt HH.out) i k hi) zBz rs.length);generalize eli rs.length (zRg rs) rs.length=s at *;clear hb4 hrr hl4 HD5 HT5 HRD;obtain ⟨pl,hpl⟩:=eXx (s.ps.length);obtain ⟨od,hod⟩:=eXx (s.odd)
 rw [hpl] at HSN HSZ HEL;rw [hod] at HSZ;rw [hpl,hod];clear hpl hod;have HB6:=oH (HB4.alloc HB4.size (.cells #[.slice (some ⟨R4,0,none⟩) rs.length cR4,.slice Ap pl cp,.bool v.nb,.slice v.ad v.l v.c,.bool od] 69));have HT6:=oH (Blk.new w4 69 [.slice (some ⟨R4,0,none⟩) rs.length cR4,.slice Ap pl cp,.bool v.nb,.slice v.ad v.l v.c,.bool od]);have HT56:=oH (HT4.alloc (.cells #[.slice (some ⟨R4,0,none⟩) rs.length cR4,.slice Ap pl cp,.bool v.nb,.slice v.ad v.l v.c,.bool od] 69));have HD6:=oH (HD4.below (bRx.alloc lRx (.cells #[.slice (some ⟨R4,0,none⟩) rs.length cR4,.slice Ap pl cp,.bool v.nb,.slice v.ad v.l v.c,.bool od] 69)));have HV6:=oH (HV4.below (bRx.alloc lRx (.cells #[.slice (some ⟨R4,0,none⟩) rs.length cR4,.slice Ap pl cp,.bool v.nb,.slice v.ad v.l v.c,.bool od] 69)));have hpm:pl<=rs.length:=HEL.2.2
 by_cases hlt:pl<rs.length
 ·have HS0:=oH (HSN.out oMx)
  have hx:(pl:Int)<(rs.length:Int):=by omega
  go_wp2_with fail;go_ret2
  exact ⟨by rw [<-HDS.out,<-HDE.out,HS0.1,HS0.2];rfl,HB6.out⟩
 have hx:¬(pl:Int)<(rs.length:Int):=by omega
 go_upto_region 10 with (fail);generalize (w4.alloc (.cells #[.slice (some ⟨R4,0,none⟩) rs.length cR4,.slice Ap pl cp,.bool v.nb,.slice v.ad v.l v.c,.bool od] 69))=W at *;generalize w4.heap.size=y at *;generalize w3.heap.size=x at *;have k2:=HT6.at_ (i:=2) rfl;have k3:=HT6.at_ (i:=3) rfl;have hyW:=HT6.lt;have KB:=oH (fun W' (hW:Below W.heap.size W W')=>(show W'.cell? ⟨y,2,none⟩=some (.bool v.nb)/\W'.cell? ⟨y,3,none⟩=some (.slice v.ad v.l v.c) from ⟨kP hW k2,kP hW k3⟩))
 go_cut [7,8] (fun p7 p8 wc=>∃ (g7 g8:Nat) (u:zCq),p7 = .pointer (some ⟨g7,0,none⟩)/\p8 = .pointer (some ⟨g8,0,none⟩)/\zHg wc g7 g8 v u/\zBs wc u.val 1/\W.heap.size<=g7/\W.heap.size<=g8/\Below W.heap.size W wc)
 case first =>
  have KS0:Hid (W.drew.cell? ⟨y,2,none⟩=some (.bool v.nb)/\W.drew.cell? ⟨y,3,none⟩=some (.slice v.ad v.l v.c)):=oH ⟨k2,k3⟩
  have nx00:¬(y=W.heap.size):=oMx;have nx01:¬(W.heap.size=y):=oMx;have nx02:¬(y=W.heap.size+1):=oMx;have nx03:¬(W.heap.size+1=y):=oMx;skip
  have ng0:=World.new_ne W ⟨y,2,none⟩ k2
  go_region_held3 (fun w'=>w'.cell? ⟨y,2,none⟩=some (.bool v.nb)/\w'.cell? ⟨y,3,none⟩=some (.slice v.ad v.l v.c)) (first|with_reducible exact KS0.out|with_reducible exact KS5.out|(with_reducible refine zYs ?_ _;assumption)|go_keep) (first|(go_at_call 47;(with_reducible refine (zCb _).mono ?_);rintro e w5 ⟨v5,rfl,hv,hb⟩;have HV5:=oH hv;have hbw:Below W.heap.size W w5:=Below.trans (by first|with_reducible exact bRx|with_reducible exact bRx.drew|with_reducible exact bA|with_reducible exact (bA).alloc sMx _|with_reducible exact bA.drew|with_reducible exact ((bA).alloc sMx _).drew) (hb.mono leH);have HW5:=oH hbw;have KS5:=oH (KB.out w5 hbw);have sz5:=hbw.size;(first|(have za1:=((Blk.new W 62 [.bool false,.slice none 0 0]).alloc (.cells #[.bool false,.slice none 0 0] 62)).below (Below.trans bRd (hb.mono leH));have zb1:=(Blk.new' (w:=W.alloc (.cells #[.bool false,.slice none 0 0] 62)) (g:=W.heap.size+1) sMx 62 [.bool false,.slice none 0 0]).below (Below.trans bRd (hb.mono leH));have za10:=za1.at_ (i:=0) rfl;have za11:=za1.at_ (i:=1) rfl;have zb10:=zb1.at_ (i:=0) rfl;have zb11:=zb1.at_ (i:=1) rfl;have ya10:=za1.fr 0;have ya11:=za1.fr 1;have yb10:=zb1.fr 0;have yb11:=zb1.fr 1;have sa1:=za1.lt;have sb1:=zb1.lt;have ZA1:=oH za1;have ZB1:=oH zb1;clear za1 zb1)|(have za1:=(Blk.new W 62 [.bool false,.slice none 0 0]).below (Below.trans bRd (hb.mono leH));have za10:=za1.at_ (i:=0) rfl;have za11:=za1.at_ (i:=1) rfl;have ya10:=za1.fr 0;have ya11:=za1.fr 1;have sa1:=za1.lt;have ZA1:=oH za1;clear za1)|skip);obtain ⟨x2,X2,y2,z2,rfl⟩:=hv.slice;obtain ⟨q0,q1⟩:=KB.out w5 hbw;have nx50:¬(y=w5.heap.size):=oMx;have nx51:¬(w5.heap.size=y):=oMx;have nx52:¬(y=w5.heap.size+1):=oMx;have nx53:¬(w5.heap.size+1=y):=oMx;clear hv hb hbw))
  all_goals go_wp2_with fail
  all_goals go_meet
  all_goals
   have hz5:=HW5.size;refine xDp (w2:=w5) (v:=v) (u:=⟨x2,X2,y2,z2⟩) ?_ ⟨by go_simp,by go_simp,by go_simp,by go_simp,by go_simp,by go_simp,by go_simp,by go_simp,oMx⟩ HV5.out HW5.out oMx oMx
   repeat' first
    | with_reducible exact Kp.refl _ _
    | (with_reducible refine Kp.set ?_ oMx (by first|exact .inl oMx|with_reducible exact .inr ZA1.out|with_reducible exact .inr ZB1.out) _ _)
    | (with_reducible refine Kp.alloc ?_ oMx _)
    | (with_reducible refine Kp.drew ?_)
 case rest =>
  obtain ⟨g7,g8,u0,rfl,rfl,htb,hu,hg7,hg8,hbc⟩:=hcut;have HTB:=oH htb;have HU:=oH hu;have HBC:=oH hbc;clear htb hu hbc k2 k3;have HLD:=oH (light_D hm1 (Nat.le_of_not_lt HH.out));go_wp2_with fail
  go_loopw [34] (fun iv wr=>∃ (i:Nat) (u:zCq),iv = .int .i64 (i:Int)/\i<=rs.length/\zHg wr g7 g8 v u/\zBs wr u.val (zQz rs^i)/\Below W.heap.size W wr) (fun iv _=>rs.length-(intOf iv).toNat)
  ·exact ⟨0,u0,rfl,oLx,HTB.out,by rw [Int.pow_zero];exact HU.out,HBC.out⟩
  obtain ⟨i,u,rfl,hi,htb,hu,hbc⟩:=hrel;have HTr:=oH htb;have HUr:=oH (show zBs wr (.agg #[.bool u.nb,.slice u.ad u.l u.c]) (zQz rs^i) from hu);have HBr:=oH hbc;have b0:=htb.b0;have b1:=htb.b1;have hpl2:=LL_pow HLD.out i;have ht5:=HT56.below hbc;have x0:=ht5.at_ (i:=0) rfl;have x1:=ht5.at_ (i:=1) rfl;have HDr:=oH (show zBs wr (.agg #[.bool dv.nb,.slice dv.ad dv.l dv.c]) (zQz rs) from HD6.below hbc)
  by_cases hlt2:i<rs.length
  ·clear htb hu hbc ht5;have hld:=HLD.out;unfold LL at hpl2 hld;go_wp2_with fail;refine (zCl _ _ (zQz rs^i) (zQz rs) _ HUr.out HDr.out oMx oMx).mono ?_;rintro e w7 ⟨v7,rfl,hv,hb⟩;have htw:=HTr.below hb;have HTw:=oH htw;have HVw:=oH hv;have HBw:=bTx2 HBr hb;have c0:=htw.b0;have c1:=htw.b1;have f0:=htw.fb0;have f1:=htw.fb1;obtain ⟨xa,Xa,ya,za,rfl⟩:=hv.slice;clear hv hb htw b0 b1 x0 x1;go_wp2_with fail;go_roundw
   ·exact ⟨i+1,⟨xa,Xa,ya,za⟩,by go_num,oMx,HTw.put8 ⟨xa,Xa,ya,za⟩,by rw [Int.pow_succ];exact HTw.num8 ⟨xa,Xa,ya,za⟩ HVw.out,(HBw.setCell (p:=⟨g8,0,none⟩) hg8 _).setCell (p:=⟨g8,1,none⟩) hg8 _⟩
   simp [intOf];omega
  obtain rfl:i=rs.length:=by omega
  have hps:pl=rs.length:=by omega
  have a0:=htb.a0;have a1:=htb.a1;have fa0:=htb.fa0;have fa1:=htb.fa1;have k4:=(HT6.below hbc).at_ (i:=4) rfl;have HBf0:=bTx2 HB6 hbc;have HVr:=oH (show zBs wr (.agg #[.bool v.nb,.slice v.ad v.l v.c]) s.v from HV6.below hbc)
  have hdl:(limbs (zQz rs^rs.length).natAbs).length<=910:=by have h9:=hpl2;unfold LL at h9;omega
  have hvl:(limbs s.v.natAbs).length<=300000:=by
   have h9:=Nat.le_trans HEL.2.1 (zOf lRx oMx);exact h9
  have hdz:=pow_ne (zRc rs) rs.length;have HG7:=oH (show w.heap.size<=g7 by have:=HB6.size;omega);have HPS:=oH hps;clear htb hu hbc ht5 x0 x1 hpl2 hps
  cases od
  ·have HRES:=oH (HSZ.out HPS.out s.v rfl _ rfl);have hzl:=hvl;have HBf:=HBf0;have HUf:=HUr;go_wp2_with fail;refine (zCp _ _ s.v (zQz rs^rs.length) _ HVr.out (HUf.out) oMx oMx hdz).mono ?_;rintro e wf ⟨vf,rfl,hvf,hbf⟩;have HFF:=oH (zAw vf _ wf hvf (Sz.divInt hdz (Nat.le_trans hzl dCx) (Nat.le_trans hdl dCx)) (HE.below (HBf.trans (hbf.mono HBf.size))));have HBg:=bTx2 HBf hbf;obtain ⟨fa,fb,FA,FA',fl,fc,fl',fc',rfl⟩:=hvf.slice;clear hvf hbf;go_wp2_with fail;refine HFF.mono ?_;rintro e wg ⟨rfl,hbg⟩;have HBh:=bTx2 HBg hbg;clear hbg;go_wp2_with fail;go_ret2
   exact ⟨by rw [<-HDS.out,<-HDE.out,HRES.1,HRES.2];rfl,HBh.out⟩
  have HRES:=oH (HSZ.out HPS.out (-s.v) rfl _ rfl)
  have hzl:(limbs (-s.v).natAbs).length<=300000:=by rw [Int.natAbs_neg];exact hvl
  go_wp2_with fail;refine (zCo _ s.v _ HVr.out oMx).mono ?_;rintro e w7 ⟨v7,rfl,hv,hb⟩;have htw:=HTr.below hb;have c0:=htw.a0;have c1:=htw.a1;have c2:=htw.b0;have c3:=htw.b1;have f0:=htw.fa0;have f1:=htw.fa1;have hne:=htw.ne;have hne2:=Ne.symm htw.ne;obtain ⟨xa,Xa,ya,za,rfl⟩:=hv.slice;have HVn:=oH (htw.num7 ⟨xa,Xa,ya,za⟩ hv);have HUf:=oH (htw.num7 ⟨xa,Xa,ya,za⟩ (HUr.below hb));have HBf:=oH (((HBf0.trans (hb.mono HBf0.size)).setCell (p:=⟨g7,0,none⟩) HG7.out (.bool xa)).setCell (p:=⟨g7,1,none⟩) HG7.out (.slice Xa ya za));clear hv hb htw a0 a1 b0 b1 fa0 fa1;go_wp2_with fail;refine (zCp _ _ (-s.v) (zQz rs^rs.length) _ HVn.out (HUf.out) oMx oMx hdz).mono ?_;rintro e wf ⟨vf,rfl,hvf,hbf⟩;have HFF:=oH (zAw vf _ wf hvf (Sz.divInt hdz (Nat.le_trans hzl dCx) (Nat.le_trans hdl dCx)) (HE.below (HBf.trans (hbf.mono HBf.size))));have HBg:=bTx2 HBf hbf;obtain ⟨fa,fb,FA,FA',fl,fc,fl',fc',rfl⟩:=hvf.slice;clear hvf hbf
  go_wp2_with fail;refine HFF.mono ?_;rintro e wg ⟨rfl,hbg⟩;have HBh:=bTx2 HBg hbg;clear hbg;go_wp2_with fail;go_ret2
  exact ⟨by rw [<-HDS.out,<-HDE.out,HRES.1,HRES.2];rfl,HBh.out⟩
end Go.Proofs.YtbjaplppalcmgaaGreatDoor
namespace Go.Proofs.YtbjaplppalcmgaaGreatDoor
open Go.RowKit
theorem xCe (a b:List ByteArray):sv (a++b)=sv a++sv b:=by simp [sv]
def zGc (w:World) (qs:List Rat) (e:Ending) (w':World):Prop :=
 (∃ A c,(∀ q∈qs,zBd q)/\e = .returned (.tuple #[.slice A qs.length c,.int .i64 0])/\zGx w' A (qs.map zXl)/\Below w.heap.size w w') \/
 ((∃ q∈qs,¬zBd q)/\e = .returned (.tuple #[.slice none 0 0,.int .i64 3])/\Below w.heap.size w w')
theorem zHc (A:oAx) (us:List FrV) (qs:List Rat) (c:Nat) (w:World) (hr:∀ i,(h:i<us.length)->∃ b off,A=some ⟨b,off,none⟩/\b<w.heap.size/\w.cell? ⟨b,off+i*4,none⟩=some (.bool us[i].na)/\w.cell? ⟨b,off+i*4+1,none⟩=some (.slice us[i].A us[i].l us[i].c)/\w.cell? ⟨b,off+i*4+2,none⟩=some (.bool us[i].nb)/\w.cell? ⟨b,off+i*4+3,none⟩=some (.slice us[i].A' us[i].l' us[i].c'))
  (hq:zBp w us qs) (hl:us.length<=1000) (hs:∀ q∈qs,Sz 5000000 q) (henv:Env w):Calls Tryz.prog 38 #[.slice A us.length c] w (zGc w qs):=by
 obtain ⟨i0,hi,hz0,hz1,hz2⟩:=info_parts Tryz.infoRat;have HR:=oH hr;have HQ:=oH hq;have HS:=oH hs;have HE:=oH henv;have HLEN:=oH hq.1;clear hr hq hs henv
 go_enter Tryz.func38,Tryz.ntmps38
 go_wp2_with fail
 go_loopw [4,11] (fun v iv wr=>∃ k:Nat,iv = .int .i64 (k:Int)/\k<=us.length/\(∀ q∈qs.take k,zBd q)/\wr.ownsRow w.heap.size 43 1 v k (sv ((qs.take k).map zXl))/\Below w.heap.size w wr) (fun _ iv _=>us.length-(intOf iv).toNat)
 ·exact ⟨0,rfl,oLx,(fun q hq=>by simp at hq),World.ownsRow_nil _ _ _ _,bRx⟩
 obtain ⟨k,rfl,hk,hall,hown,hb⟩:=hrel;have HALL:=oH hall;have HOWN:=oH hown;have HB:=oH hb;have hsz:=hb.size;clear hall hown hb
 by_cases hlt:k<us.length
 ·have hlq:k<qs.length:=by have:=HLEN.out;omega
  obtain ⟨b,off,rfl,hbb,h0,h1,h2,h3⟩:=HR.out k hlt;have c0:=(HB.cell (p:=⟨b,off+k*4,none⟩) hbb).trans h0;have c1:=(HB.cell (p:=⟨b,off+k*4+1,none⟩) hbb).trans h1;have c2:=(HB.cell (p:=⟨b,off+k*4+2,none⟩) hbb).trans h2;have c3:=(HB.cell (p:=⟨b,off+k*4+3,none⟩) hbb).trans h3;have HF:=oH ((HQ.2 k hlt hlq).below HB.out);have sz:=HS.out _ (List.getElem_mem hlq);have ET:=oH (show qs.take (k+1)=qs.take k++[qs[k]] from List.take_succ_eq_append_getElem hlq);have HMEM:=oH (List.getElem_mem hlq);generalize qs[k]=q at *;generalize us[k]=u at *;obtain ⟨na,A1,l1,c1',nb,A2,l2,c2'⟩:=u;simp only [FrV.val] at c0 c1 c2 c3 HF;clear h0 h1 h2 h3;go_wp2_with fail;have HW:=oH (HF.below (bRx.alloc lRx (.cells #[.bool na,.slice A1 l1 c1',.bool nb,.slice A2 l2 c2'] 73)))
  by_cases hfit:zBd q
  ·have HFT:=oH (zAw _ q _ HW.out sz ((HE.below HB.out).below (bA)));rw [zUe hfit,zUc hfit] at HFT;have HFI:=oH hfit;clear hfit sz;refine HFT.mono ?_;rintro e w2 ⟨rfl,hb2⟩;have HO2:=oH (zUm (HOWN.alloc _) hb2);have HB2:=oH (HB.trans (((Below.refl w.heap.size wr).alloc hsz _).trans (hb2.mono (by simp;omega))));have hsz2:=HB2.size;clear hb2 c0 c1 c2 c3
   go_wp2_with (at_builtin;refine wpList_append_own _ rfl _ _ 25 rfl w.heap.size 43 i0 (.string ⟨#[]⟩) 1 16 Tryz.underlying25 hi hz0 hz1 hz2 rfl dCx _ _ _ rfl (HO2.alloc _) ⟨w2.heap.size,0,none⟩ 1 1 [_] rfl rfl zTu zTv (by unfold maxLen;omega) oMx (by simp;omega) ?_)
   intro v' w3 hown3 hgrow3 _
   have HO3:=oH hown3;have HB3:=oH ((HB2.alloc hsz2 _).grown hgrow3 (by simp;omega) (fun g hg=>(HO2.lt g hg).1));clear hown3 hgrow3;go_wp2_with fail;go_roundw
   ·exact ⟨k+1,by go_num,oMx,(fun p hp=>by
    rw [ET.out,List.mem_append,List.mem_singleton] at hp
    rcases hp with hp|rfl
    ·exact HALL.out p hp
    exact HFI.out),by rw [ET.out,List.map_append,xCe];first|exact HO3.out|(rw [List.map_take];exact HO3.out),HB3.out⟩
   simp [intOf];omega
  have HFT:=oH (zAw _ q _ HW.out sz ((HE.below HB.out).below (bA)));rw [zUf hfit,zUd hfit] at HFT;have HFI:=oH hfit;clear hfit sz;refine HFT.mono ?_;rintro e w2 ⟨rfl,hb2⟩;have HB2:=oH (HB.trans (((Below.refl w.heap.size wr).alloc hsz _).trans (hb2.mono (by simp;omega))));clear hb2 c0 c1 c2 c3;go_wp2_with fail;go_ret2
  exact .inr ⟨⟨q,HMEM.out,HFI.out⟩,rfl,HB2.out⟩
 obtain rfl:k=us.length:=by omega
 have ho:=HOWN.out;rw [List.take_of_length_le (by have:=HLEN.out;omega)] at ho;obtain ⟨A9,c9,rfl, -,hst, -⟩:=zUw (show wr.ownsRow w.heap.size 43 1 u4 (qs.map zXl).length (sv (qs.map zXl)) by rw [List.length_map,<-HLEN.out];exact ho);have HST:=oH hst;have HA:=oH HALL.out;rw [List.take_of_length_le (by have:=HLEN.out;omega)] at HA;clear hst ho;rw [List.length_map];go_wp2_with fail;go_ret2
 exact .inl ⟨A9,c9,HA.out,rfl,HST.out,HB.out⟩
end Go.Proofs.YtbjaplppalcmgaaGreatDoor
namespace Go.Proofs.YtbjaplppalcmgaaGreatDoor
open Go.RowKit
theorem zNb (w:World) (v0:Bool) (A B:oAx) (l c m d:Nat):(Instr.field 65 (.agg #[.bool v0,.slice A l c,.slice B m d]) 1).run Tryz.prog w = .ok (.slice B m d) w:=by kernel_rfl
theorem zNa (w:World) (A B C:oAx) (l c m d n f:Nat) (x y:Bool):(Instr.field 69 (.agg #[.slice A l c,.slice B m d,.bool x,.slice C n f,.bool y]) 1).run Tryz.prog w = .ok (.slice B m d) w:=by kernel_rfl
attribute [local go_sem] zNb zNa
def zFc (heavy:Bool) (s:zAr) (w:World) (e:Ending) (w':World):Prop :=
 match heavy with
 | true=>e = .returned (.tuple #[.int .i64 0,.int .i64 3])/\Below w.heap.size w w'
 | false=>e = .returned (.tuple #[.int .i64 (s.ps.length:Int),.int .i64 0])/\Below w.heap.size w w'
theorem Rank_any (A:oAx) (c n:Nat) (rs:List zGh) (w:World) (h:zCj w A rs) (hf:zBb rs n) (hm1:1<=rs.length) (hn1:1<=n) (henv:Env w) :
  Calls Tryz.prog 20 #[.slice A rs.length c] w (zFc (decide (600<zOh rs n)) (eli rs.length (zRg rs) n) w):=by
 generalize hQ:zFc (decide (600<zOh rs n)) (eli rs.length (zRg rs) n) w=Q;replace hQ:=oH hQ;have HM:=oH h;have HF:=oH hf;have HE:=oH henv;have hm12:=hf.m;have hn12:=hf.n12;have HB0:=oH ((Below.refl w.heap.size w).alloc lRx (.cells #[.slice A rs.length c] 24));have HBG:=oH (zIk A rs c n w.heap.size (w.alloc (.cells #[.slice A rs.length c] 24)) (h.below HB0.out) hf ((Blk.new w 24 [.slice A rs.length c]).at_ (i:=0) rfl) (henv.below HB0.out));clear h hf henv
 go_enter Tryz.func20,Tryz.ntmps20
 go_wp2_with fail;refine HBG.mono ?_;rintro e w1 ⟨rfl,hb1⟩;have HB1:=bTx2 HB0 hb1;have HHV:=zBh A c n rs w1 (HM.below HB1.out) HF.out hm1 hn1 (HE.below HB1.out);clear hb1
 by_cases hh:600<zOh rs n
 ·rw [show decide (600<zOh rs n)=true from by simpa using hh] at HHV hQ;replace HHV:=oH HHV;clear hh;go_wp2_with fail;refine HHV.mono ?_;rintro e w2 ⟨rfl,hb2⟩;have HB2:=bTx2 HB1 hb2;clear hb2;go_wp2_with fail;rw [<-hQ.out];exact ⟨rfl,HB2.out⟩
 rw [show decide (600<zOh rs n)=false from by simpa using hh] at HHV hQ;replace HHV:=oH HHV;have HH:=oH hh;clear hh;go_wp2_with fail;refine HHV.mono ?_;rintro e w2 ⟨rfl,hb2⟩;have HB2:=bTx2 HB1 hb2;have HOF:=oH (zCs A c n rs w2 (HM.below HB2.out) HF.out hm1 hn1 (HE.below HB2.out));clear hb2;go_wp2_with fail;refine HOF.mono ?_;rintro e w3 ⟨R,cR,rows,dv,rfl,hl,ht, -, -,hd3,hb3⟩;have HB3:=bTx2 HB2 hb3;have HWD:=oH (xFt A rs c n w3 (HM.below HB3.out) HF.out (HE.below HB3.out))
 replace ht:zHa w2.heap.size w3 (.slice (some ⟨R,0,none⟩) rows.length cR) rows n (zRg rs):=by rw [hl];exact ht
 have HTR:=oH ht.read;have HL:=oH hl;clear ht hd3 hb3 hl;go_wp2_with fail;refine HWD.mono ?_;rintro e w3' ⟨rfl,hb3'⟩;have HB3':=oH (HB3.trans (hb3'.mono HB3.size));have HRD:=zFi _ cR n n rows (zRg rs) w3' (HTR.below hb3') (by have:=HL.out;omega) (by have:=HL.out;omega) hn1 oMx lRx (fun i k hi=>zPo HF.out hm1 (Nat.le_of_not_lt HH.out) i k (by have:=HL.out;omega));rw [HL.out] at HRD;replace HRD:=oH HRD;clear hb3';go_wp2_with fail;refine HRD.mono ?_;rintro e w4 ⟨R4,cR4,rows4,pv,v,rfl,hl4,hrr,hb4⟩;have HB4:=oH (HB3'.trans (hb4.mono HB3'.size));obtain ⟨Ap,cp,rfl, -⟩:=zUj hrr.pvt;generalize eli rs.length (zRg rs) n=s at *;obtain ⟨pl,hpl⟩:=eXx (s.ps.length);rw [hpl];have HPL:=oH hpl;clear hb4 hrr hl4 hpl HRD HOF;go_wp2_with fail;rw [<-hQ.out];exact ⟨by rw [HPL.out];rfl,HB4.out⟩
end Go.Proofs.YtbjaplppalcmgaaGreatDoor
