import Derived.Test.YtafflnognagadaaGreatDoorZOE
set_option maxHeartbeats 16000000
set_option maxRecDepth 100000
set_option linter.unusedVariables false
set_option linter.unusedSimpArgs false
set_option linter.unusedSectionVars false
namespace Go.Proofs.YtafflnognagadaaGreatDoor
open Go.RowKit
def BlkS (T:List zGg) (bs n:Nat):Prop:=∀ p,zGb T (p*bs) (min (p*bs+bs) n)
structure zCl (T:List zGg) (bs n q:Nat):Prop where
 x:∀ p,p<q->zGb T (p*(2*bs)) (p*(2*bs)+2*bs)
 y:∀ p,2*q<=p->zGb T (p*bs) (min (p*bs+bs) n)
section
variable {T T':List zGg} {bs n q:Nat}
theorem zXx (q bs:Nat):2*q*bs=q*(2*bs):=by rw [Nat.mul_comm 2 q,Nat.mul_assoc]
theorem zCl.start (h:BlkS T bs n):zCl T bs n 0:=⟨fun p hp=>absurd hp oMx,fun p _=>h p⟩
theorem zCl.l (h:zCl T bs n q) (hq:q*(2*bs)+bs<=n):zGb T (q*(2*bs)) (q*(2*bs)+bs):=by
 have h1:=h.y (2*q) lRx;rw [zXx,Nat.min_eq_left hq] at h1;exact h1
theorem zCl.l' (h:zCl T bs n q) (hq:n<=q*(2*bs)+bs):zGb T (q*(2*bs)) n:=by
 have h1:=h.y (2*q) lRx;rw [zXx,Nat.min_eq_right hq] at h1;exact h1
theorem zCl.r (h:zCl T bs n q) {e:Nat} (he:e=min (q*(2*bs)+2*bs) n):zGb T (q*(2*bs)+bs) e:=by
 have h1:=h.y (2*q+1) oMx
 have e1:(2*q+1)*bs=q*(2*bs)+bs:=by rw [Nat.succ_mul,zXx]
 rw [e1] at h1;rw [he];exact h1.mono lRx oMx
theorem zCl.step (h:zCl T bs n q) (hw:Win T T' (q*(2*bs)) (q*(2*bs)+2*bs)) (hs:zGb T' (q*(2*bs)) (q*(2*bs)+2*bs)):zCl T' bs n (q+1):=by
 refine ⟨fun p hp=>?_,fun p hp=>?_⟩
 ·by_cases e:p=q
  ·subst e;exact hs
  have h1:=Nat.mul_le_mul_right (2*bs) (show p+1<=q by omega);rw [Nat.succ_mul] at h1;exact hw.srtO (h.x p oMx) (.inl h1)
 have h1:=Nat.mul_le_mul_right bs (show 2*(q+1)<=p from hp);rw [zXx,Nat.succ_mul] at h1;exact hw.srtO (h.y p oMx) (.inr h1)
theorem zCl.done (h:zCl T bs n q) (hq:n<q*(2*bs)+2*bs) (hqn:q*(2*bs)<=n) (hw:Win T T' (q*(2*bs)) n) (hs:zGb T' (q*(2*bs)) n):BlkS T' (2*bs) n:=fun p=>by
 rcases Nat.lt_trichotomy p q with e|e|e
 ·have h1:=Nat.mul_le_mul_right (2*bs) (show p+1<=q from e);rw [Nat.succ_mul] at h1;rw [Nat.min_eq_left oMx];exact hw.srtO (h.x p e) (.inl h1)
 ·subst e;rw [Nat.min_eq_right oMx];exact hs
 have h1:=Nat.mul_le_mul_right (2*bs) (show q+1<=p from e);rw [Nat.succ_mul] at h1;exact .one _ oMx
end
theorem zGc {B c:Nat} {A:oAx} {T:List zGg} {w:World} (ho:zCo zOe B w (.slice A T.length c) T) (hT:∀ r∈T,r.1.length<=1000) (hl:T.length<=1000) (hB:B<=w.heap.size) :
  Calls Tryz.prog 96 #[.slice A T.length c,.int .i64 (T.length:Int),.func (.func 83) #[] #[]] w (RetS B 0 T.length c A T w):=by
 have HO:=oH ho;have HT:=oH hT;obtain ⟨n,hn⟩:=eXx (T.length);have HN:=oH hn;have HTW:=oH (show ∀ T',Win T T' 0 n->∀ r∈T',r.1.length<=1000 from fun T' h r hr=>hT r (h.perm.mem_iff.1 hr));have HTL:=oH (show ∀ T',Win T T' 0 n->T'.length=n from fun T' h=>h.len.trans hn);rw [hn] at hl HO ⊢;clear ho hT hn
 go_enter Tryz.func96,Tryz.ntmps96
 go_wp2_with fail
 go_loopw [7,8] (fun av bv wr=>∃ (q:Nat) (T1:List zGg),av = .int .i64 ((q*20:Nat):Int)/\bv = .int .i64 ((q*20+20:Nat):Int)/\q*20<=n/\zCo zOe B wr (.slice A n c) T1/\Win T T1 0 n/\(∀ p,p<q->zGb T1 (p*20) (p*20+20))/\Below B w wr) (fun av _ _=>n-(intOf av).toNat)
 ·exact ⟨0,T,rfl,rfl,oMx,HO.out,.refl _ _ _,fun p hp=>absurd hp oMx,bRx⟩
 obtain ⟨q,T1,rfl,rfl,hq,hown,hwin,hs,hb⟩:=hrel;have HOWN:=oH hown;have HWIN:=oH hwin;have HS:=oH hs;have HB:=oH hb;have hlen:=HTL.out _ hwin;clear hown hwin hs hb
 by_cases hlt:q*20+20<=n
 ·have HC:=oH (zBr (a:=q*20) (b:=q*20+20) (c:=c) (A:=A) (B:=B) (w:=wr) (T:=T1) (by rw [hlen];exact HOWN.out) (HTW.out _ HWIN.out) oMx oMx oMx (Nat.le_trans hB HB.size));rw [hlen] at HC
  have hle:((q*20+20:Nat):Int)<=(n:Int):=by omega
  have k1:IntKind.i64.wrap (((q*20+20:Nat):Int)+20)=(((q+1)*20+20:Nat):Int):=by rw [IntWalk.i64_in _ oMx];omega
  have K2:=oH (show q*20+20=(q+1)*20 by omega);generalize q*20+20=b at *;generalize hqa:q*20=a at *;have HQA:=oH hqa;clear hqa;go_wp2_with fail;refine HC.mono ?_;rintro e w2 ⟨rfl,T2,ho2,hw2,hs2,hb2⟩;have HO2:=oH ho2;have HB2:=oH (HB.trans hb2);have HW2:=oH (HWIN.trans (hw2.mono oMx oMx))
  have HS2:=oH (show ∀ p,p<q+1->zGb T2 (p*20) (p*20+20) from fun p hp=>by
   have e1:=HQA.out;have e2:=K2.out
   by_cases e:p=q
   ·subst e;rw [e1,show a+20=b by omega];exact hs2
   exact hw2.srtO (HS.out p oMx) (.inl oMx))
  clear ho2 hw2 hs2 hb2;go_wp2_with fail;go_roundw
  ·exact ⟨q+1,T2,by rw [<-K2.out],rfl,by have:=K2.out;omega,HO2.out,HW2.out,HS2.out,HB2.out⟩
  simp [intOf];have:=K2.out;have:=HQA.out;omega
 have HC:=oH (zBr (a:=q*20) (b:=n) (c:=c) (A:=A) (B:=B) (w:=wr) (T:=T1) (by rw [hlen];exact HOWN.out) (HTW.out _ HWIN.out) oMx oMx oMx (Nat.le_trans hB HB.size));rw [hlen] at HC
 have hle:¬((q*20+20:Nat):Int)<=(n:Int):=by omega
 have hbn:n<q*20+20:=by omega
 generalize q*20+20=b at hle ⊢;generalize hqa:q*20=a at *;have HQA:=oH hqa;clear hqa;go_wp2_with fail;refine HC.mono ?_;rintro e w2 ⟨rfl,T2,ho2,hw2,hs2,hb2⟩;have HO2:=oH ho2;have HB2:=oH (HB.trans hb2);have HW2:=oH (HWIN.trans (hw2.mono oMx oMx))
 have HS2:=oH (show BlkS T2 20 n from fun p=>by
  have e1:=HQA.out
  rcases Nat.lt_trichotomy p q with e|e|e
  ·rw [Nat.min_eq_left oMx];exact hw2.srtO (HS.out p e) (.inl oMx)
  ·subst e;rw [Nat.min_eq_right oMx,e1];exact hs2
  exact .one _ oMx)
 clear ho2 hw2 hs2 hb2;go_wp2_with fail;obtain ⟨wi,rfl⟩:=nWx wr
 go_loopw [6] (fun sv wr=>∃ (bs:Nat) (T1:List zGg),sv = .int .i64 (bs:Int)/\20<=bs/\bs<=2000/\zCo zOe B wr (.slice A n c) T1/\Win T T1 0 n/\BlkS T1 bs n/\Below B w wr) (fun sv _=>n-(intOf sv).toNat)
 ·exact ⟨20,T2,rfl,oMx,oMx,HO2.out,HW2.out,HS2.out,HB2.out⟩
 obtain ⟨bs,T3,rfl,hbs,hbs2,hown,hwin,hs,hb⟩:=hrel;have HOWN:=oH hown;have HWIN:=oH hwin;have HS:=oH hs;have HB:=oH hb;have hlen:=HTL.out _ hwin;clear hown hwin hs hb HO2 HB2 HW2 HS2
 by_cases hlt2:bs<n
 ·have k1:IntKind.i64.wrap (2*(bs:Int))=((2*bs:Nat):Int):=by rw [IntWalk.i64_in _ oMx];omega
  obtain ⟨W,hW⟩:=eXx (2*bs);have HWW:=oH hW
  have hW1:W<=2*bs:=by omega
  have hW2:2*bs<=W:=by omega
  rw [hW] at k1;obtain ⟨wj,rfl⟩:=nWx wr
  have k1':IntKind.i64.wrap ((bs:Int)*2)=(W:Int):=by rw [IntWalk.i64_in _ oMx];omega
  clear hW;go_wp2_with fail
  go_loopw [7,8] (fun av bv wr=>∃ (q a:Nat) (T1:List zGg),av = .int .i64 (a:Int)/\bv = .int .i64 ((a+W:Nat):Int)/\q*(2*bs)=a/\a<=n/\zCo zOe B wr (.slice A n c) T1/\Win T T1 0 n/\zCl T1 bs n q/\Below B w wr) (fun av _ _=>n-(intOf av).toNat)
  ·exact ⟨0,0,T3,rfl,by rw [Nat.zero_add],by simp,oLx,HOWN.out,HWIN.out,.start HS.out,HB.out⟩
  obtain ⟨q,a,T1,rfl,rfl,hqa,han,hown,hwin,hm,hb⟩:=hrel;have HQA:=oH hqa;have HO1:=oH hown;have HW1:=oH hwin;have HM:=oH hm;have HB1:=oH hb;have hl1:=HTL.out _ hwin;clear hown hwin hm hb hqa
  have k2:IntKind.i64.wrap ((a:Int)+(bs:Int))=((a+bs:Nat):Int):=by rw [IntWalk.i64_in _ oMx];omega
  by_cases hle:a+W<=n
  ·have HC:=oH (zGe (a:=a) (m:=a+bs) (b:=a+W) (c:=c) (A:=A) (B:=B) (w:=wr) (T:=T1) W oMx (by rw [hl1];exact HO1.out) (HTW.out _ HW1.out) oMx oMx oMx oMx (Nat.le_trans hB HB1.size) (by have:=HM.l (by rw [HQA.out];omega);rw [HQA.out] at this;exact this) (by have:=HM.r (e:=a+W) (by rw [HQA.out,HWW.out];omega);rw [HQA.out] at this;exact this));rw [hl1] at HC
   have hle2:((a+W:Nat):Int)<=(n:Int):=by omega
   have k3:IntKind.i64.wrap (((a+W:Nat):Int)+(W:Int))=((a+W+W:Nat):Int):=by rw [IntWalk.i64_in _ oMx];omega
   obtain ⟨b,hb1,hb2⟩:∃ b,a+W=b/\a<b:=⟨_,rfl,oMx⟩;have HBE:=oH hb1;rw [hb1] at HC hle2 k3 ⊢;generalize hab:a+bs=ab at *;clear hb1 hab;go_wp2_with fail;refine HC.mono ?_;rintro e w2 ⟨rfl,T2,ho2,hw2,hs2,hb2⟩;rw [hl1] at ho2;have HO2:=oH ho2;have HB2:=oH (HB1.trans hb2);have HW2:=oH (HW1.trans (hw2.mono oMx (by have:=HBE.out;omega)));have HM2:=oH (HM.step (T':=T2) (by rw [HQA.out,HWW.out,HBE.out];exact hw2) (by rw [HQA.out,HWW.out,HBE.out];exact hs2));clear ho2 hw2 hs2 hb2;go_wp2_with fail;go_roundw
   ·exact ⟨q+1,b,T2,rfl,rfl,by rw [Nat.succ_mul,HQA.out,HWW.out,HBE.out],by have:=HBE.out;omega,HO2.out,HW2.out,HM2.out,HB2.out⟩
   simp [intOf];have:=HBE.out;omega
  have hle2:¬((a+W:Nat):Int)<=(n:Int):=by omega
  by_cases hm:a+bs<n
  ·have HC:=oH (zGe (a:=a) (m:=a+bs) (b:=n) (c:=c) (A:=A) (B:=B) (w:=wr) (T:=T1) n oMx (by rw [hl1];exact HO1.out) (HTW.out _ HW1.out) oMx oMx oMx oMx (Nat.le_trans hB HB1.size) (by have:=HM.l (by rw [HQA.out];omega);rw [HQA.out] at this;exact this) (by have:=HM.r (e:=n) (by rw [HQA.out,HWW.out];omega);rw [HQA.out] at this;exact this));rw [hl1] at HC
   have hm2:((a+bs:Nat):Int)<(n:Int):=by omega
   have HDN:=oH (show ∀ T',Win T1 T' a n->zGb T' a n->BlkS T' W n from fun T' h1 h2=>by
    have:=HM.done (T':=T') (by rw [HQA.out,HWW.out];omega) (by rw [HQA.out];omega) (by rw [HQA.out];exact h1) (by rw [HQA.out];exact h2);rw [HWW.out] at this
    exact this)
   generalize a+bs=ab at *;generalize a+W=b at *;go_wp2_with fail;refine HC.mono ?_;rintro e w2 ⟨rfl,T2,ho2,hw2,hs2,hb2⟩;rw [hl1] at ho2;have HO2:=oH ho2;have HB2:=oH (HB1.trans hb2);have HW2:=oH (HW1.trans (hw2.mono oMx oMx));have HBK:=oH (HDN.out T2 hw2 hs2);clear ho2 hw2 hs2 hb2;go_wp2_with fail;go_roundw
   ·exact ⟨W,T2,rfl,oMx,oMx,HO2.out,HW2.out,HBK.out,HB2.out⟩
   simp [intOf];omega
  have hm2:¬((a+bs:Nat):Int)<(n:Int):=by omega
  have HBK:=oH (show BlkS T1 W n by
   have:=HM.done (T':=T1) (by rw [HQA.out,HWW.out];omega) (by rw [HQA.out];omega) (.refl _ _ _) (HM.l' (by rw [HQA.out];omega));rw [HWW.out] at this
   exact this)
  generalize a+bs=ab at *;generalize a+W=b at *;go_wp2_with fail;go_roundw
  ·exact ⟨W,T1,rfl,oMx,oMx,HO1.out,HW1.out,HBK.out,HB1.out⟩
  simp [intOf];omega
 have HE:=oH (show zGb T3 0 n from by
  have:=HS.out 0;rw [Nat.zero_mul,Nat.zero_add,Nat.min_eq_right oMx] at this
  exact this)
 go_wp2_with fail
 go_end0
 exact ⟨rfl,T3,by rw [HN.out];exact HOWN.out,HWIN.out,HE.out,HB.out⟩
theorem zGa {B c:Nat} {A:oAx} {T:List zGg} {w:World} (ho:zCo zOe B w (.slice A T.length c) T) (hT:∀ r∈T,r.1.length<=1000) (hl:T.length<=1000) (hB:B<=w.heap.size) :
  Calls Tryz.prog 82 #[.slice A T.length c,.func (.func 83) #[] #[]] w (RetS B 0 T.length c A T w):=by
 have H:=oH (zGc ho hT hl hB);clear ho hT
 go_enter Tryz.func82,Tryz.ntmps82
 go_wp2_with fail;refine H.mono ?_;rintro e w2 ⟨rfl,T2,ho2,hw2,hs2,hb2⟩;have HO2:=oH ho2;have HW2:=oH hw2;have HS2:=oH hs2;have HB2:=oH hb2;clear ho2 hw2 hs2 hb2;go_wp2_with fail
 go_end0
 exact ⟨rfl,T2,HO2.out,HW2.out,HS2.out,HB2.out⟩
theorem zCo.put {B g n c:Nat} {w:World} {T:List zGg} {u:Value} {x:zGg} (h:zCo zOe B w (.slice (some ⟨g,0,none⟩) n c) T) {i:Nat} (hi:i<T.length) (hu:Sl zOg w u x.1) :
  zCo zOe B ((w.setCell ⟨g,i*2,none⟩ u).setCell ⟨g,i*2+1,none⟩ (.int .i64 x.2)) (.slice (some ⟨g,0,none⟩) n c) (T.set i x)/\Below B w ((w.setCell ⟨g,i*2,none⟩ u).setCell ⟨g,i*2+1,none⟩ (.int .i64 x.2)):=by
 obtain ⟨css,ha,ho⟩:=h
 have hn:n=T.length:=by
  rcases ho.2 with ⟨hv,h2⟩|⟨g',cap,cur,hv, -⟩
  ·cases hv
  injection hv
 subst hn;have hgB:=(ho.lt g rfl).1;obtain ⟨cs,hcs,v,rfl, -⟩:=ha.get i _ (List.getElem?_eq_getElem hi);have s1:=ho.stored (i*2) u;have s2:=s1.1.stored (i*2+1) (.int .i64 x.2);have hk:KpT [zOe.t] w ((w.setCell ⟨g,i*2,none⟩ u).setCell ⟨g,i*2+1,none⟩ (.int .i64 x.2)):=(KpT.of_own ho s1.2).trans (.of_own s1.1 s2.2)
 have hd:∀ t∈zOe.ts,t ∉ [zOe.t]:=by decide
 have hbs:∀ (W:World) k x,Below B W (W.setCell ⟨g,k,none⟩ x):=fun W k x=>(Below.refl B W).setCell (p:=⟨g,k,none⟩) hgB x
 refine ⟨⟨css.set i [u,.int .i64 x.2],(ha.imp fun _ _ hE=>zOe.kp hE hk hd).set i ⟨u,rfl,hu.kp hk dCx⟩,?_⟩,(hbs _ _ _).trans (hbs _ _ _)⟩;rw [zMm i _ _ _ _ ha.lens hcs,List.length_set];exact s2.1
theorem zc_one (m:Nat):∀ v∈(Builtin.zeroCells (Value.agg #[.slice none 0 0,.int .i64 0]).cells m).toList,v.oneCell'=true:=by
 intro v hv
 have hc:(Value.agg #[.slice none 0 0,.int .i64 0]).cells=#[.slice none 0 0,.int .i64 0]:=rfl;rw [hc] at hv;simp only [Builtin.zeroCells,Array.toList_map,List.mem_map] at hv;obtain ⟨k, -,rfl⟩:=hv
 rcases Nat.mod_two_eq_zero_or_one k with e|e
 all_goals
  simp [e,Value.oneCell']
theorem zCo.clear_ {P:Program} {B g n c i:Nat} {w:World} {T:List zGg} (t:TypeId) (ht:P.underlying t=some (.slice zOe.t)) (hz:∀ w,(zeroValue zOe.t).run P w = .ok (.agg #[.slice none 0 0,.int .i64 0]) w) (h:zCo zOe B w (.slice (some ⟨g,0,none⟩) n c) T) (hi:i<=T.length) :
  ∃ w',(∀ ty,(Builtin.clear_ #[t] ty #[.slice (if c=i then some ⟨g,0,none⟩ else some ⟨g,i*2,none⟩) (n-i) (c-i)]).run P w = .ok (.tuple #[]) w')/\zCo zOe B w' (.slice (some ⟨g,0,none⟩) i c) (T.take i)/\Below B w w':=by
 have h0:=h;obtain ⟨css,ha,ho⟩:=h;have ho2:=ho.2
 rcases ho2 with ⟨hv,h2⟩|⟨g',cap,cur,hv,hB,hg,hle,hm,hs,htake⟩
 ·cases hv
 injection hv with e1 e2 e3;injection e1 with e1;injection e1 with e1;subst e1 e2 e3
 by_cases hin:i=T.length
 ·subst hin;refine ⟨w,fun ty=>?_,h0.take_ lRx,bRx⟩;rw [Nat.sub_self]
  split<;>simp [Builtin.clear_,run_underlying ht]
 rw [if_neg oMx];obtain ⟨m,hmm⟩:∃ m,T.length-i=m+1:=⟨T.length-i-1,oMx⟩;have hs2:cur.size=c*2:=hs
 have hzs:(Builtin.zeroCells (Value.agg #[.slice none 0 0,.int .i64 0]).cells (T.length-i)).toList.length=(T.length-i)*2:=by
  rw [Array.length_toList,size_zeroCells]
  rfl
 have hst:=run_storeCells_at P g (i*2) zOe.t (Builtin.zeroCells (Value.agg #[.slice none 0 0,.int .i64 0]).cells (T.length-i)).toList 0 cur w hg (by rw [hzs];omega) (zc_one _);generalize hzz:(Builtin.zeroCells (Value.agg #[.slice none 0 0,.int .i64 0]).cells (T.length-i)).toList=zs at hst hzs;refine ⟨w.setRow g (cur.toList.take (i*2+0)++zs++cur.toList.drop (i*2+0+zs.length)).toArray,fun ty=>?_,?_,?_⟩
 ·rw [hmm] at hzz ⊢
  simp [Builtin.clear_,run_underlying ht,hz,hzz,hst]
 ·have hgr:w.grownBy (w.setRow g (cur.toList.take (i*2+0)++zs++cur.toList.drop (i*2+0+zs.length)).toArray) (some g):=⟨rfl,rfl,rfl,by simp,fun k _ hk=>setRow_other w g k _ (fun e=>hk (by rw [e]))⟩;have hk:KpT [zOe.t] w (w.setRow g (cur.toList.take (i*2+0)++zs++cur.toList.drop (i*2+0+zs.length)).toArray):=KpT.of_own ho hgr;refine ⟨css.take i,(ha.imp fun _ _ hE=>zOe.kp hE hk dCx).take i,?_,.inr ⟨g,c,_,by rw [List.length_take,Nat.min_eq_left hi],hB,setRow_heap w g cur _ zOe.t _ hg,by rw [List.length_take];omega,hm,?_,?_⟩⟩
  ·rw [zMn i ha.lens,List.length_take,List.length_take,ho.1,Nat.min_eq_left hi];exact Nat.min_eq_left (Nat.mul_le_mul_right _ hi)
  ·rw [List.size_toArray,List.length_append,List.length_append,List.length_take,List.length_drop,Array.length_toList,hzs,hs2]
   show _=c*2
   omega
  rw [List.length_take,Nat.min_eq_left hi,zMn i ha.lens,<-htake,List.take_take]
  show (cur.toList.take (i*2+0)++zs++cur.toList.drop (i*2+0+zs.length)).take (i*2)=cur.toList.take (min (i*2) (T.length*2))
  rw [Nat.min_eq_left oMx,List.append_assoc,List.take_append_of_le_length (by rw [List.length_take,Array.length_toList];omega),List.take_take]
  congr 1
  omega
 exact ⟨rfl,rfl,rfl,by simp,fun k hk=>setRow_other w g k _ oMx⟩
structure PredR (f:FuncId) (p:Int->Bool):Prop where
 fid:∀ args W,(callFunc f args).run Tryz.prog W = .ok (.enter f args) W
 run:∀ A n c z W,Calls Tryz.prog f #[.agg #[.slice A n c,.int .i64 z]] W fun e w'=>e = .returned (.bool (p z))/\Below W.heap.size W w'
theorem enterR {P:Program} {f:FuncId} {fn:Func} {c:Code} (hf:P.funcs[f]? = some fn) (hname:(fn.name == "runtime.NumGoroutine")=false) (hb:fn.body=some c) (args:Array Value) (w:World):(callFunc f args).run P w = .ok (.enter f args) w:=by
 have h1:fn.name ≠ "runtime.NumGoroutine" := by simpa using hname
 simp [callFunc,hf,h1,hb]
theorem zFz:PredR 86 (fun z=>z==0) where
 fid args W:=enterR Tryz.func86 (by kernel_rfl) rfl args W
 run A n c z W:=by
  go_enter Tryz.func86,Tryz.ntmps86
  go_wp2_with fail;go_ret
  exact ⟨rfl,bA⟩
theorem zAb:PredR 74 (fun z=>decide (z<0) || decide (100<z)) where
 fid args W:=enterR Tryz.func74 (by kernel_rfl) rfl args W
 run A n c z W:=by
  by_cases h1:z<0
  ·have hd:=decide_eq_true h1
   go_enter Tryz.func74,Tryz.ntmps74
   go_wp2_with fail;go_ret
   exact ⟨by simp [h1],bA⟩
  have hd:=decide_eq_false h1
  go_enter Tryz.func74,Tryz.ntmps74
  go_wp2_with fail;go_ret
  exact ⟨by simp [h1],bA⟩
theorem zBo {f:FuncId} {p:Int->Bool} {va:Value} {T:List zGg} {w:World} (hp:PredR f p) (ha:Sl zOe w va T) (hl:T.length<=1000):Calls Tryz.prog 87 #[va,.func (.func f) #[] #[]] w fun e w'=>e = .returned (.int .i64 (zNd (fun r:zGg=>p r.2) T))/\Below w.heap.size w w':=by
 obtain ⟨A,c,rfl, -⟩:=ha.form;have HA:=oH ha;have hfid:=hp.fid;have HP:=oH hp.run;clear ha hp
 go_enter Tryz.func87,Tryz.ntmps87
 go_wp2_with fail
 go_loopw [8] (fun iv wr=>∃ k:Nat,iv = .int .i64 (k:Int)/\k<=T.length/\(∀ j,(hj:j<T.length)->j<k->p T[j].2=false)/\Below w.heap.size w wr) (fun iv _=>T.length-(intOf iv).toNat)
 ·exact ⟨0,rfl,oLx,fun j _ hj=>absurd hj oMx,bRx⟩
 obtain ⟨k,rfl,hk,hno,hbel⟩:=hrel;have HNO:=oH hno;have HBEL:=oH hbel;have hsz:=hbel.size;clear hno
 by_cases hlt:k<T.length
 ·obtain ⟨b,off,rfl,hb,hc⟩:=(HA.below hbel).sli2 (by intro e;subst e;simp at hlt);obtain ⟨u,c0,c1,hu⟩:=hc k hlt;obtain ⟨Au,cu,rfl, -⟩:=hu.form;obtain ⟨pb,hpb⟩:=eXx (p T[k].2);have HC:=oH (HP.out Au T[k].1.length cu T[k].2 wr);rw [hpb] at HC;have HPB:=oH hpb;clear hbel hu hc hb hpb;generalize T[k].1.length=l1 at *;generalize hz:T[k].2=z at *;have HZ:=oH hz;clear hz;go_wp2_with fail;refine HC.mono ?_;rintro e w2 ⟨rfl,hb2⟩;have HB2:=oH (HBEL.trans (hb2.mono hsz));clear hb2
  cases pb
  ·go_wp2_with fail;go_roundw
   ·exact ⟨k+1,by go_num,oMx,fun j hj hjk=>by
    rcases Nat.lt_or_ge j k with h1|h1
    ·exact HNO.out j hj h1
    obtain rfl:j=k:=by omega
    rw [HZ.out];exact HPB.out,HB2.out⟩
   simp [intOf];omega
  have E:=oH (idxP_at (p:=fun r:zGg=>p r.2) hlt (by show p T[k].2=true;rw [HZ.out];exact HPB.out) HNO.out);go_wp2_with fail;go_ret
  exact ⟨by rw [E.out];rfl,HB2.out⟩
 have E:=oH (idxP_no (p:=fun r:zGg=>p r.2) (l:=T) fun j hj=>HNO.out j hj oMx);clear hbel;go_wp2_with fail;go_ret
 exact ⟨by rw [E.out];rfl,HBEL.out⟩
theorem ConR_of {f:FuncId} {p:Int->Bool} {va:Value} {T:List zGg} {w:World} (hp:PredR f p) (ha:Sl zOe w va T) (hl:T.length<=1000):Calls Tryz.prog 73 #[va,.func (.func f) #[] #[]] w fun e w'=>e = .returned (.bool (T.any fun r=>p r.2))/\Below w.heap.size w w':=by
 have H:=oH (zBo hp ha hl);have E:=oH (idxP_has (fun r:zGg=>p r.2) T);clear ha;generalize zNd (fun r:zGg=>p r.2) T=z at *
 go_enter Tryz.func73,Tryz.ntmps73
 go_wp2_with fail;refine H.mono ?_;rintro e w2 ⟨rfl,hb2⟩;have HB2:=oH hb2;clear hb2;go_wp2_with fail;go_ret
 exact ⟨by rw [<-E.out];rfl,HB2.out⟩
structure zAv (T T1:List zGg) (i j:Nat):Prop where
 len:T1.length=T.length
 kept:T1.take i=(T.take j).filter fun r => !(r.2==0)
 rest:∀ k,j<=k->T1[k]? = T[k]?
 lt:i<j
 le:j<=T.length
section
variable {T T1:List zGg} {i j:Nat}
theorem zAv.start (hi:zNd (fun r:zGg=>r.2==0) T=(i:Int)):zAv T T i (i+1)/\i<T.length:=by
 unfold zNd at hi
 split at hi
 ·rename_i k e
  have:k=i:=by omega
  subst this;obtain ⟨hk,h1,h2⟩:=List.findIdx?_eq_some_iff_getElem.1 e;refine ⟨⟨rfl,?_,fun _ _=>rfl,oMx,hk⟩,hk⟩;rw [List.take_succ_eq_append_getElem hk,List.filter_append,List.filter_eq_self.2,List.filter_cons]
  ·simp [h1]
  intro r hr
  obtain ⟨j,hj,rfl⟩:=List.getElem_of_mem hr;rw [List.length_take] at hj;rw [List.getElem_take];have:=h2 j oMx
  simpa using this
 omega
theorem zAv.none_ (hi:zNd (fun r:zGg=>r.2==0) T = -1):T.filter (fun r => !(r.2==0))=T:=by
 unfold zNd at hi
 split at hi
 ·omega
 rename_i e
 rw [List.filter_eq_self]
 intro r hr
 have:=List.findIdx?_eq_none_iff.1 e r hr
 simpa using this
theorem zAv.skip (h:zAv T T1 i j) (hj:j<T.length) (hz:T[j].2=0):zAv T T1 i (j+1) :=
 ⟨h.len,by rw [h.kept,List.take_succ_eq_append_getElem hj,zMe];simp [hz],fun k hk=>h.rest k oMx,by have:=h.lt;omega,hj⟩
theorem zAv.keep (h:zAv T T1 i j) (hj:j<T.length) (hz:T[j].2≠0):zAv T (T1.set i T[j]) (i+1) (j+1):=by
 have hlt:=h.lt;have hl:=h.len;refine ⟨by rw [List.length_set];exact hl,?_,fun k hk=>?_,oMx,hj⟩
 ·have h1:i<(T1.set i T[j]).length:=by rw [List.length_set];omega
  rw [List.take_succ_eq_append_getElem h1,List.take_set_of_le lRx,h.kept,List.take_succ_eq_append_getElem hj,zMe]
  simp [hz]
 rw [List.getElem?_set,if_neg oMx];exact h.rest k oMx
theorem zAv.done (h:zAv T T1 i T.length):T1.take i=T.filter fun r => !(r.2==0):=by rw [h.kept,List.take_length]
end
theorem DelR_of {B:Nat} {va:Value} {T:List zGg} {w:World} (ho:zCo zOe B w va T) (hl:T.length<=1000) (hB:B<=w.heap.size):Calls Tryz.prog 85 #[va,.func (.func 86) #[] #[]] w fun e w'=>∃ v,e = .returned v/\zCo zOe B w' v (T.filter fun r => !(r.2==0))/\Below B w w':=by
 obtain ⟨A,c,rfl,hcap⟩:=ho.form;have HO:=oH ho;have HIX:=oH (zBo zFz ho.sl hl);have HNO:=oH (zAv.none_ (T:=T));have HST:=oH (fun i=>zAv.start (T:=T) (i:=i))
 have hge : -1<=zNd (fun r:zGg=>r.2==0) T:=by unfold zNd;split<;>omega
 generalize zNd (fun r:zGg=>r.2==0) T=ix at *;clear ho
 go_enter Tryz.func85,Tryz.ntmps85
 go_wp2_with fail;refine HIX.mono ?_;rintro e w1 ⟨rfl,hb1⟩;have HO1:=oH (HO.below hb1);have hb1':Below B w w1:=hb1.mono hB;have HB1:=oH hb1';clear hb1 hb1'
 by_cases hix:ix = -1
 ·subst hix;have E:=oH (HNO.out rfl);go_wp2_with fail;go_ret
  exact ⟨_,rfl,by rw [E.out];exact HO1.out,HB1.out⟩
 obtain ⟨i0,rfl⟩:∃ i0:Nat,ix=(i0:Int):=⟨ix.toNat,oMx⟩;obtain ⟨hst,hi0⟩:=HST.out i0 rfl;have HS:=oH hst
 have hne:((i0:Int) == -1)=false:=by rw [beq_eq_false_iff_ne];omega
 obtain ⟨g,rfl,hgB, -⟩:=HO1.some_ (by intro e;subst e;simp at hi0);clear hst hix;go_wp2_with fail;clear hne
 go_loopw [5,6] (fun iv jv wr=>∃ (i j:Nat) (T1:List zGg),iv = .int .i64 (i:Int)/\jv = .int .i64 (j:Int)/\zAv T T1 i j/\zCo zOe B wr (.slice (some ⟨g,0,none⟩) T.length c) T1/\Below B w wr) (fun _ jv _=>T.length-(intOf jv).toNat)
 ·exact ⟨i0,i0+1,T,rfl,by go_num,HS.out,HO1.out,HB1.out⟩
 obtain ⟨i,j,T1,rfl,rfl,hd,hown,hbel⟩:=hrel;have HD:=oH hd;have HOWN:=oH hown;have HBEL:=oH hbel;have hij:=hd.lt;have hjl:=hd.le;have hln:=hd.len
 by_cases hlt:j<T.length
 ·obtain ⟨b,off,e1,hb,hc⟩:=hown.sl.sli2 (by intro e;rw [e] at hln;simp at hln;omega);injection e1 with e1;injection e1 with e1 e2;subst e1 e2;obtain ⟨u,c0,c1,hu⟩:=hc j oMx
  have hej:T1[j]'oMx=T[j]:=by have:=hd.rest j lRx;rw [List.getElem?_eq_getElem oMx,List.getElem?_eq_getElem hlt] at this;injection this
  rw [hej] at c1 hu;rw [Nat.zero_add] at c0 c1;obtain ⟨Au,cu,rfl, -⟩:=hu.form;have HKP:=oH (fun h=>hd.keep hlt h);have HSK:=oH (fun h=>hd.skip hlt h);generalize T[j]=x at *;obtain ⟨ss,z⟩:=x;simp only at c1 hu HKP HSK;have HU:=oH (hu.below (bRx.alloc lRx (.cells #[.slice Au ss.length cu,.int .i64 z] 64)));have HO2:=oH (hown.alloc (.cells #[.slice Au ss.length cu,.int .i64 z] 64));have hsz:=hbel.size;have HB2:=oH (hbel.alloc (Nat.le_trans hB hsz) (.cells #[.slice Au ss.length cu,.int .i64 z] 64));have HBX:=oH (Blk.new wr 64 [.slice Au ss.length cu,.int .i64 z]);clear hd hown hbel hu hc hb hej;generalize ss.length=l1 at *;go_wp2_with fail;refine (zFz.run Au l1 cu z _).mono ?_;generalize wr.alloc (.cells #[.slice Au l1 cu,.int .i64 z] 64)=wz at *;rintro e w2 ⟨rfl,hb2⟩;have k0:=(HBX.below hb2).at_ (i:=0) rfl;have k1:=(HBX.below hb2).at_ (i:=1) rfl;have HU3:=oH (HU.below hb2);have ho3:=HO2.below hb2
  have HO3:=oH ho3;have HB3:=oH (HB2.trans (hb2.mono (Nat.le_trans hB HB2.size)));clear hb2
  by_cases hz:z=0
  ·have hzb:(z==0)=true:=by rw [beq_iff_eq];exact hz
   have E:=oH (HSK.out hz);clear ho3 hz;go_wp2_with fail;go_roundw
   ·exact ⟨i,j+1,T1,rfl,by go_num,E.out,HO3.out,HB3.out⟩
   simp [intOf];omega
  have hzb:(z==0)=false:=by rw [beq_eq_false_iff_ne];exact hz
  have E:=oH (HKP.out hz);obtain ⟨b2,off2,e1,hb,hc⟩:=ho3.sl.sli2 (by intro e;rw [e] at hln;simp at hln;omega);injection e1 with e1;injection e1 with e1 e2;subst e1 e2;obtain ⟨u2,d0,d1, -⟩:=hc i oMx;rw [Nat.zero_add] at d0 d1;have f0:=ho3.frz (i*2);have f1:=ho3.frz (i*2+1);have HPT:=oH (ho3.put (i:=i) (x:=(ss,z)) oMx HU3.out)
  have hilt:i<T.length:=by omega
  clear ho3 hz hb hc;go_wp2_with fail;go_roundw
  ·exact ⟨i+1,j+1,_,by go_num,by go_num,E.out,HPT.1,HB3.trans HPT.2⟩
  simp [intOf];omega
 obtain rfl:j=T.length:=by omega
 obtain ⟨w4,hrun,ho4,hb4⟩:=hown.clear_ (P:=Tryz.prog) (i:=i) 43 Tryz.underlying43 Tryz.zeroValue64 oMx
 have hcn:¬c=i:=by omega
 have hrn:=fun ty=>hrun ty
 simp only [if_neg hcn] at hrn;have E:=oH (hd.done);have HO4:=oH ho4;have HB4:=oH (hbel.trans hb4)
 have hil:(i:Int)<=(T.length:Int):=by omega
 have hic:(i:Int)<=(c:Int):=by omega
 clear hd hown hbel ho4 hb4 hrun;go_wp2_with fail;go_ret
 exact ⟨_,rfl,by rw [<-E.out];exact HO4.out,HB4.out⟩
theorem Equal_of {va vb:Value} {a b:List ByteArray} (r:Bool) {w:World} (ha:Sl zOg w va a) (hb:Sl zOg w vb b) (hr:r=true↔a=b) (hl:a.length<=1000) (hl2:b.length<=1000) :
  Calls Tryz.prog 84 #[va,vb] w fun e w'=>e = .returned (.bool r)/\∃ q,w'=w.drewN q:=by
 obtain ⟨A,c,rfl, -⟩:=ha.form;obtain ⟨A2,c2,rfl, -⟩:=hb.form
 by_cases hn:a.length=b.length
 ·rcases a with _|⟨x,a⟩
  ·have hb0:b=[]:=List.eq_nil_of_length_eq_zero hn.symm;subst hb0;refine (Tryz.slices_Equal_string_empty A A2 c 0 c2 w oMx).mono ?_;rintro e w' ⟨rfl,rfl⟩;exact ⟨by rw [hr.2 rfl];rfl,0,rfl⟩
  obtain ⟨b1,o1,rfl, -,h1⟩:=ha.txt sMx;obtain ⟨b2,o2,rfl, -,h2⟩:=hb.txt (by intro e;subst e;simp at hn);refine (Tryz.slices_Equal_string b1 o1 (x::a).length c b2 o2 b.length c2 (x::a) b w lRx lRx oMx oMx (fun j hj=>?_) (fun j hj=>?_)).mono ?_
  ·rw [h1 j hj];simp [List.getD_eq_getElem?_getD,List.getElem?_eq_getElem hj]
  ·rw [h2 j hj];simp [List.getD_eq_getElem?_getD,List.getElem?_eq_getElem hj]
  rintro e w' ⟨rfl,hq⟩;rw [List.take_length,List.take_length];exact ⟨by rw [Bool.eq_iff_iff.2 (show decide (x::a=b)=true↔r=true by rw [decide_eq_true_eq];exact hr.symm)],hq⟩
 refine (Tryz.slices_Equal_string_lens A A2 a.length c b.length c2 w hn).mono ?_;rintro e w' ⟨rfl,rfl⟩;refine ⟨?_,0,rfl⟩
 cases r with
 | false=>rfl
 | true=>exact absurd (congrArg List.length (hr.1 rfl)) hn
theorem zSs {P:Program} {f:FuncId} {args:Array Value} {w:World} {n:Nat} {v:Value} (h:Calls P f args (w.drewN n) fun e w'=>e = .returned v/\∃ q,w'=(w.drewN n).drewN q):Calls P f args (w.drewN n) fun e w''=>e = .returned v/\∃ m,w''=w.drewN m :=
 h.mono fun _ _ ⟨he,q,hq⟩=>⟨he,n+q,by rw [hq,World.drewN_drewN]⟩
theorem zPw {T:List zGg} (hT:Lit T) (k:Nat) (hk:k<=T.length):(zPu (T.take k)).length<=k/\∀ r∈zPu (T.take k),r.1.length<=1000 /\ -1000000000000<=r.2/\r.2<=1000000000000:=by
 obtain ⟨h1,h3⟩:=zPv (T:=T.take k)
 have hw:WB 1000000000 (T.take k):=fun r hr=>by have:=(hT.2 r (List.mem_of_mem_take hr)).2;omega
 have h2:=mAll_wb hw
 have hl:(T.take k).length=k:=by simp;omega
 have:=hT.1;refine ⟨oMx,fun r hr=>⟨?_,?_⟩⟩
 ·obtain ⟨y,hy,e⟩:=h3 r hr
  rw [e];exact (hT.2 y (List.mem_of_mem_take hy)).1
 have h4:=h2 r hr;rw [hl] at h4;have h5:k*1000000000<=1000*1000000000:=Nat.mul_le_mul_right _ oMx;omega
theorem Lit.perm {T T':List zGg} (h:Lit T) (hp:T'.Perm T):Lit T':=⟨by rw [hp.length_eq];exact h.1,fun r hr=>h.2 r (hp.mem_iff.1 hr)⟩
theorem zCa {va:Value} {T:List zGg} {w:World} (ha:Sl zOe w va T) (hT:Lit T):Calls Tryz.prog 68 #[va] w (zFr zOe w (norm T)):=by
 have HCO:=oH (zAn 1 (.inl rfl) ha hT);rw [zQd] at HCO;obtain ⟨A,c,rfl, -⟩:=ha.form;have HT:=oH hT;have htl:=hT.1;clear ha hT
 go_enter Tryz.func68,Tryz.ntmps68
 go_wp2_with fail;refine HCO.mono ?_;rintro e w1 ⟨v1,rfl,ho1,hb1⟩;obtain ⟨A1,c1,rfl, -⟩:=ho1.form;have HSO:=oH (zGa ho1 (fun r hr=>(HT.2 r hr).1) htl hb1.size);have HB1:=oH hb1;clear ho1 hb1;go_wp2_with fail;refine HSO.mono ?_;rintro e wi ⟨rfl,S,ho2,hw2,hs2,hb2⟩;have hlen:=hw2.len;have HS:=oH ho2.sl;have HBI:=oH (HB1.trans hb2);have hsi:=(HB1.trans hb2).size;have HLS:=oH (HT.perm hw2.perm);have HNM:=oH (zPy hw2.perm (by rw [hlen];exact hs2));rw [<-hlen] at htl HS ⊢;clear ho2 hw2 hs2 hb2;go_wp2_with fail
 go_loopw [4,14] (fun v iv wr=>∃ k:Nat,iv = .int .i64 (k:Int)/\k<=S.length/\zCo zOe wi.heap.size wr v (zPu (S.take k))/\Below wi.heap.size wi wr) (fun _ iv _=>S.length-(intOf iv).toNat)
 ·exact ⟨0,rfl,oLx,.nil _ _ _,bRx⟩
 obtain ⟨k,rfl,hk,hown,hbel⟩:=hrel;obtain ⟨Av,cv,rfl,hcv⟩:=hown.form;have hsz:=hbel.size;have hof:=zPw HLS.out k hk
 by_cases hlt:k<S.length
 ·obtain ⟨b,off,rfl,hb,hc⟩:=(HS.below hbel).sli2 (by intro e;subst e;simp at hlt);obtain ⟨u,c0,c1',hu⟩:=hc k hlt;obtain ⟨hzl,hz1,hz2⟩:=HLS.2 _ (List.getElem_mem hlt);have HINS:=oH (show zPu (S.take (k+1))=mst (zPu (S.take k)) S[k] by rw [List.take_succ_eq_append_getElem hlt,zPz]);generalize zPu (S.take k)=O at *;generalize S[k]=x at *;obtain ⟨ss,z⟩:=x;simp only at hzl hz1 hz2 hu c1';obtain ⟨Au,cu,rfl, -⟩:=hu.form
  have hol:O.length<=1000:=by omega
  have HOF:=oH hof.2;have hba:Below wr.heap.size wr (wr.alloc (.cells #[.slice Au ss.length cu,.int .i64 z] 64)):=bA
  have HZ:=oH (show Blk (wr.alloc (.cells #[.slice Au ss.length cu,.int .i64 z] 64)) wr.heap.size 64 [.slice Au ss.length cu,.int .i64 z]/\zCo zOe wi.heap.size (wr.alloc (.cells #[.slice Au ss.length cu,.int .i64 z] 64)) (.slice Av O.length cv) O/\Sl zOg (wr.alloc (.cells #[.slice Au ss.length cu,.int .i64 z] 64)) (.slice Au ss.length cu) ss/\Below wi.heap.size wi (wr.alloc (.cells #[.slice Au ss.length cu,.int .i64 z] 64))/\wr.heap.size<(wr.alloc (.cells #[.slice Au ss.length cu,.int .i64 z] 64)).heap.size from
   ⟨Blk.new wr _ [_,_],hown.below hba,hu.below hba,hbel.trans (hba.mono hsz),by simp⟩)
  clear hu hown hc hb hbel hba hof;go_upto_region 8 with (fail);generalize wr.alloc (.cells #[.slice Au ss.length cu,.int .i64 z] 64)=wz at HZ ⊢
  go_cut [32] (fun bv wc=>∃ (bb:Bool) (n:Nat),bv = .bool bb/\(bb=true↔0<O.length/\rk O (O.length-1)=ss)/\wc=wz.drewN n)
  case first =>
   by_cases hpos:0<O.length
   ·obtain ⟨p,hp1,hp2⟩:∃ p,p+1<=O.length/\O.length<=p+1:=⟨O.length-1,oMx,oMx⟩;obtain ⟨hbx,hown,hus, -, -⟩:=HZ.out;obtain ⟨g,rfl,hgB,hgl⟩:=hown.some_ (by intro e;rw [e] at hpos;simp at hpos);obtain ⟨u2,z2, -, -,d0,d1,hu2⟩:=hown.row (i:=p) oMx;have k0:=hbx.at_ (i:=0) rfl;have hkl:=zTp (.refl O) (fun r hr=>(HOF.out r hr).1) (k:=p) oMx;obtain ⟨r,hr⟩:=eXx (decide (rk O p=ss));have HL:=oH (fun n=>Equal_of r (hu2.drewN n) (hus.drewN n) (by rw [<-hr,decide_eq_true_eq]) hkl hzl);have HR:Hid (r=true↔0<O.length/\rk O (O.length-1)=ss):=oH (by rw [<-hr,decide_eq_true_eq,show O.length-1=p by omega];exact ⟨fun h=>⟨hpos,h⟩,fun h=>h.2⟩)
    have j1:IntKind.i64.wrap ((O.length:Int)-1)=(p:Int):=by rw [IntWalk.i64_in _ oMx];omega
    have hpO:p<O.length:=by omega
    have hpi:(0:Int)<(O.length:Int):=by omega
    clear hbx hown hus hu2 hkl d1 hr;go_wp2_with fail
    go_quiet ((go_at_call 84;exact zSs (HL.out _)))
    go_wp2_with fail
    go_meet
    exact ⟨r,_,rfl,HR.out,rfl⟩
   have hpi:¬(0:Int)<(O.length:Int):=by omega
   go_wp2_with fail
   go_quiet (fail)
   go_wp2_with fail
   go_meet
   exact ⟨false,_,rfl,by simp;omega,rfl⟩
  case rest =>
   obtain ⟨bb,n,rfl,hbb,rfl⟩:=hcut;have hz:Blk (wz.drewN n) wr.heap.size 64 [.slice Au ss.length cu,.int .i64 z]/\zCo zOe wi.heap.size (wz.drewN n) (.slice Av O.length cv) O/\Sl zOg (wz.drewN n) (.slice Au ss.length cu) ss/\Below wi.heap.size wi (wz.drewN n)/\wr.heap.size<(wz.drewN n).heap.size:=⟨HZ.1,HZ.2.1.below (below_drewN bRx n),HZ.2.2.1.drewN n,below_drewN HZ.2.2.2.1 n,HZ.2.2.2.2⟩;clear HZ;generalize wz.drewN n=wz at hz ⊢;obtain ⟨hbx,hown,hus,hbel,hsz2⟩:=hz;have HBEL:=oH hbel;have k0:=hbx.at_ (i:=0) rfl;have k1:=hbx.at_ (i:=1) rfl
   cases bb
   ·have E:=oH (show mst O (ss,z)=O++[(ss,z)] from if_neg fun h=>by have:=hbb.2 h;cases this);have HO2:=oH hown;have HU2:=oH hus;clear hbx hown hus hbel hbb
    go_wp2_with (at_builtin;refine xAn _ _ _ rfl rfl Tryz.underlying43 Tryz.kiRow (HO2.alloc _) (Sl.new (K:=zOe) (x:=(ss,z)) rfl ⟨_,rfl,HU2.out⟩) (by simp only [List.length_singleton];omega) (by simp;omega) ?_)
    intro v' w3 hap
    have HAP:Hid (zCo zOe wi.heap.size w3 v' (O++[(ss,z)])):=oH hap.own;have HB3:=oH (hap.bel (HBEL.alloc oMx _));clear hap;go_wp2_with fail;go_roundw
    ·exact ⟨k+1,by go_num,oMx,by rw [HINS.out,E.out];exact HAP.out,HB3.out⟩
    simp [intOf];omega
   obtain ⟨hpos,hrk⟩:=hbb.1 rfl;obtain ⟨p,hp1,hp2⟩:∃ p,p+1<=O.length/\O.length<=p+1:=⟨O.length-1,oMx,oMx⟩;have E:=oH (show mst O (ss,z)=O.set p (ss,(O.getD p zLe).2+z) from by unfold mst;rw [if_pos ⟨hpos,hrk⟩,show O.length-1=p by omega]);obtain ⟨g,rfl,hgB,hgl⟩:=hown.some_ (by intro e;rw [e] at hpos;simp at hpos);obtain ⟨u2,y2,e1,e2,d0,d1,hu2⟩:=hown.row (i:=p) oMx;have hyb:=(HOF.out _ (List.mem_of_getElem? e1)).2
   have hkey:(O.getD p zLe).1=ss:=by have:=hrk;rw [show O.length-1=p by omega] at this;exact this
   rw [<-e2] at hyb E;have hpe:O.getD p zLe=(ss,y2):=Prod.ext hkey e2.symm;rw [hpe] at e1;have hwt:=hown.weight e1 (y2+z);have HW:=oH hwt.1;have hfr:=hwt.2;have hwr:IntKind.i64.wrap (y2+z)=y2+z:=IntWalk.i64_in _ oMx
   have j1:IntKind.i64.wrap ((O.length:Int)-1)=(p:Int):=by rw [IntWalk.i64_in _ oMx];omega
   have hpO:p<O.length:=by omega
   have HWz:=oH (Below.refl wz.heap.size wz).drew
   have KB:Hid (∀ W,Below wz.heap.size wz W->W.cell? ⟨wr.heap.size,1,none⟩=some (.int .i64 z)/\W.cell? ⟨g,p*2+1,none⟩=some (.int .i64 y2)):=oH fun W hW=>⟨(hbx.below hW).at_ (i:=1) rfl,(hW.cell (p:=⟨g,p*2+1,none⟩) hgl).trans d1⟩
   clear hbx hown hus hbel hbb hwt hu2 d0 e2 hpe hkey hrk e1;go_wp2_with fail;refine xAq (S:=(fun w'=>w'.cell? ⟨wr.heap.size,1,none⟩=some (.int .i64 z)/\w'.cell? ⟨g,p*2+1,none⟩=some (.int .i64 y2))) 11 (by kernel_rfl) rfl (by kernel_rfl) (by kernel_rfl) rfl (by exact KB.out _ HWz.out) (fun hHeld=>?_);simp only [List.pop_toArray,List.dropLast_cons_cons,List.dropLast_singleton];refine tkH 0 ?_;refine tkH 1 ?_;refine tkH 2 ?_;refine tkH 3 ?_;refine tkH 4 ?_;refine tkH 5 ?_;refine tkH 6 ?_;refine tkH 7 ?_;refine tkH 8 ?_;refine tkH 9 ?_;refine tkH 10 ?_
   try simp only [Act.put,tkA,tkB,tkC]
   refine wpAnyH_done (by kernel_rfl) ?_ _;simp only [zWx,List.getElem_toArray,List.getElem_cons_succ,List.getElem_cons_zero];go_wp2_with fail;go_roundw
   ·exact ⟨k+1,by go_num,oMx,by rw [HINS.out,E.out];exact HW.out,by first|exact HBEL.setCell (p:=⟨g,p*2+1,none⟩) (by show wi.heap.size<=g;exact hgB) _|exact (HBEL.setCell (p:=⟨g,p*2+1,none⟩) (by show wi.heap.size<=g;exact hgB) _).drew⟩
   simp [intOf];omega
 obtain rfl:k=S.length:=by omega
 rw [List.take_length] at hown hof ⊢;have HDR:=oH (DelR_of hown oMx hsz);rw [HNM.out] at HDR;have HBEL:=oH hbel;clear hown hbel hof;go_wp2_with fail;refine HDR.mono ?_;rintro e w3 ⟨v3,rfl,ho3,hb3⟩;have HO3:=oH (ho3.low hsi);have HB3:=oH (HBI.trans ((HBEL.trans hb3).mono hsi));clear ho3 hb3;go_wp2_with fail;go_ret
 exact ⟨_,rfl,HO3.out,HB3.out⟩
end Go.Proofs.YtafflnognagadaaGreatDoor
