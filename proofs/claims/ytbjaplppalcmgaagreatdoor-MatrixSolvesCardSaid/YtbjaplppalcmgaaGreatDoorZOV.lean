import Derived.Test.YtbjaplppalcmgaaGreatDoorZOT
set_option maxHeartbeats 16000000
set_option maxRecDepth 100000
set_option linter.unusedVariables false
set_option linter.unusedSimpArgs false
set_option linter.unusedSectionVars false
namespace Go.Proofs.YtbjaplppalcmgaaGreatDoor
open Go.RowKit
def TbO (w:World) (R o m n:Nat) (gs cs:Nat->Nat) (P:mRx):Prop:=∀ i,i<m->w.cell? ⟨R,i,none⟩=some (.slice (some ⟨gs i,o,none⟩) n (cs i))/\gs i<w.heap.size/\∀ k,k<n->∃ u:FrV,w.cell? ⟨gs i,o+k*4,none⟩=some (.bool u.na)/\w.cell? ⟨gs i,o+k*4+1,none⟩=some (.slice u.A u.l u.c)/\w.cell? ⟨gs i,o+k*4+2,none⟩=some (.bool u.nb)/\w.cell? ⟨gs i,o+k*4+3,none⟩=some (.slice u.A' u.l' u.c')/\zBt w u.val (P i k)
theorem TbO.below {w w':World} {R o m n:Nat} {gs cs:Nat->Nat} {P:mRx} (h:TbO w R o m n gs cs P) (hb:Below w.heap.size w w'):TbO w' R o m n gs cs P:=fun i hi=>by
 obtain ⟨h1,h2,h3⟩:=h i hi;refine ⟨kP hb h1,Nat.lt_of_lt_of_le h2 hb.size,fun k hk=>?_⟩;obtain ⟨u,a,b,c,d,e⟩:=h3 k hk;exact ⟨u,kP hb a,kP hb b,kP hb c,kP hb d,e.below hb⟩
theorem zEi (g o n cp:Nat) (q:Nat->Rat) (w:World) (hg:g<w.heap.size) (hn:n<=12)
  (hr:∀ k,k<n->∃ u:FrV,w.cell? ⟨g,o+k*4,none⟩=some (.bool u.na)/\w.cell? ⟨g,o+k*4+1,none⟩=some (.slice u.A u.l u.c)/\w.cell? ⟨g,o+k*4+2,none⟩=some (.bool u.nb)/\w.cell? ⟨g,o+k*4+3,none⟩=some (.slice u.A' u.l' u.c')/\zBt w u.val (q k))
  (hf:∀ k,k<n->Sz 1000000 (q k)):Calls Tryz.prog 46 #[.slice (some ⟨g,o,none⟩) n cp] w (zFr w n q):=by
 obtain ⟨i0,hi,hz0,hz1,hz2⟩:=info_parts Tryz.infoRat;generalize hQ:zFr w n q=Q;replace hQ:=oH hQ;have HR:=oH hr;have HF:=oH hf;clear hr hf
 go_enter Tryz.func46,Tryz.ntmps46
 go_wp2_with fail
 go_loopw [4,11] (fun v iv wr=>∃ ss:List ByteArray,iv = .int .i64 (ss.length:Int)/\ss.length<=n/\(∀ i,i<ss.length->zBd (q i))/\(∀ i,(hi:i<ss.length)->ss[i]=zXl (q i))/\wr.ownsRow w.heap.size 43 1 v ss.length (sv ss)/\Below w.heap.size w wr) (fun _ iv _=>n-(intOf iv).toNat)
 ·exact ⟨[],rfl,oLx,fun i hi=>(by simp at hi),fun i hi=>(by simp at hi),World.ownsRow_nil _ _ _ _,bRx⟩
 obtain ⟨ss,rfl,hk,hft,hss,hown,hb⟩:=hrel;have HFT0:=oH hft;clear hft;obtain ⟨AV,cV,rfl, -⟩:=zUj hown;have HSS:=oH hss;have HOWN:=oH hown;have HB:=oH hb;have hsz:=hb.size;clear hss hown hb
 by_cases hlt:ss.length<n
 ·obtain ⟨u,h0,h1,h2,h3,hu⟩:=HR.out ss.length hlt;have c0:=(HB.cell (p:=⟨g,o+ss.length*4,none⟩) hg).trans h0;have c1:=(HB.cell (p:=⟨g,o+ss.length*4+1,none⟩) hg).trans h1;have c2:=(HB.cell (p:=⟨g,o+ss.length*4+2,none⟩) hg).trans h2;have c3:=(HB.cell (p:=⟨g,o+ss.length*4+3,none⟩) hg).trans h3;have HSZ:=oH (HF.out ss.length hlt)
  have HFN:=oH (fun (hp:zBd (q ss.length)) i (hi:i<(ss++[zXl (q ss.length)]).length)=>(show zBd (q i) by
   simp only [List.length_append,List.length_singleton] at hi
   by_cases e:i<ss.length
   ·exact HFT0.out i e
   obtain rfl:i=ss.length:=by omega
   exact hp))
  have HBD:=oH (fun (hp:¬zBd (q ss.length)) (e:Ending) (w':World) h1 h2=>(show zFr w n q e w' from .inr ⟨⟨ss.length,hlt,hp⟩,h1,h2⟩));rw [hQ.out] at HBD;have HU:=oH (hu.below HB.out);obtain ⟨na,A1,l1,c1',nb,A2,l2,c2'⟩:=u;simp only [FrV.val] at c0 c1 c2 c3 HU
  have HTN:=oH (fun i (hi:i<(ss++[zXl (q ss.length)]).length)=>(show (ss++[zXl (q ss.length)])[i]=zXl (q i) by
   rw [List.getElem_append]
   split
   ·exact HSS.out i _
   rename_i hh
   simp only [List.length_append,List.length_singleton] at hi
   obtain rfl:i=ss.length:=by omega
   simp))
  generalize q ss.length=p at *
  have x1:(0:Int)<=(ss.length:Int):=by omega
  have x2:(ss.length:Int)<(n:Int):=by omega
  clear h0 h1 h2 h3 hu;go_wp2_with fail;have HW:=oH (HU.below (bRx.alloc lRx (.cells #[.bool na,.slice A1 l1 c1',.bool nb,.slice A2 l2 c2'] 87)));have HFT:=oH (zDm _ p _ HW.out HSZ.out);refine HFT.mono ?_;rintro e w2 ⟨rfl,hb2⟩;have HO2:=oH (zUm (HOWN.alloc _) hb2);have HB2:=oH (HB.trans (((Below.refl w.heap.size wr).alloc hsz _).trans (hb2.mono (by simp;omega))));have hsz2:=HB2.size
  by_cases hfit:zBd p
  ·skip
   rw [zUe hfit,zUc hfit];replace HFN:=HFN.out hfit;generalize zXl p=s at *;clear hb2 c0 c1 c2 c3 HFT HW
   go_wp2_with (at_builtin;refine wpList_append_own _ rfl _ _ 25 rfl w.heap.size 43 i0 (.string ⟨#[]⟩) 1 16 Tryz.underlying25 hi hz0 hz1 hz2 rfl dCx _ _ _ rfl (HO2.alloc _) ⟨w2.heap.size,0,none⟩ 1 1 [_] rfl rfl zTu zTv (by unfold maxLen;omega) oMx (by simp;omega) ?_)
   intro v' w3 hown3 hgrow3 _
   have HO3:=oH (show w3.ownsRow w.heap.size 43 1 v' (ss++[s]).length (sv (ss++[s])) by rw [List.length_append,xCe];exact hown3);have HB3:=oH ((HB2.alloc hsz2 _).grown hgrow3 (by simp;omega) (fun g hg=>(HO2.lt g hg).1));clear hown3 hgrow3;go_wp2_with fail;go_roundw
   ·exact ⟨ss++[s],by simp only [List.length_append,List.length_singleton];go_num,by simp;omega,HFN,HTN.out,HO3.out,HB3.out⟩
   simp [intOf];omega
  rw [zUf hfit,zUd hfit];have HB4:=oH (HBD.out hfit);clear hb2 c0 c1 c2 c3 HFT HW HBD HFN HTN;go_wp2_with fail;exact HB4.out _ _ rfl HB2.out
 have HL:=oH (show ss.length=n by omega);have HR:=oH (show zFr w n q (.returned (.tuple #[.slice AV ss.length cV,.int .i64 0])) wr from .inl ⟨by rw [<-HL.out];exact HFT0.out,AV,cV,ss,by rw [HL.out],HL.out,HSS.out,by rw [<-HL.out];exact HOWN.out,HB.out⟩);go_wp2_with fail;rw [<-hQ.out];exact HR.out
theorem zEc (R c m n o:Nat) (gs cs:Nat->Nat) (P:mRx) (w:World) (h:TbO w R o m n gs cs P) (hm:m<=12) (hn:n<=12) (hf:∀ i k,i<m->k<n->Sz 1000000 (P i k)) :
  Calls Tryz.prog 51 #[.slice (some ⟨R,0,none⟩) m c] w (zFy w m n P):=by
 obtain ⟨i0,hi,hz0,hz1,hz2⟩:=info_parts Tryz.infoRats;generalize hQ:zFy w m n P=Q;replace hQ:=oH hQ;have HT:=oH h;have HF:=oH hf;clear h hf
 go_enter Tryz.func51,Tryz.ntmps51
 go_wp2_with fail
 go_loopw [4,11] (fun v kv wr=>∃ (qs:List zGh),kv = .int .i64 (qs.length:Int)/\qs.length<=m/\(∀ i k,i<qs.length->k<n->zBd (P i k))/\zCk w.heap.size wr v qs/\(∀ j,(hj:j<qs.length)->qs[j].ss.length=n/\∀ i,(hi:i<qs[j].ss.length)->qs[j].ss[i]=zXl (P j i))/\Below w.heap.size w wr) (fun _ kv _=>m-(intOf kv).toNat)
 ·exact ⟨[],rfl,oLx,fun j k hj=>(by simp at hj),zCk.zero _ _,fun j hj=>(by simp at hj),bRx⟩
 obtain ⟨qs,rfl,hqn,hft,hown,hq,hbw⟩:=hrel;have HFT0:=oH hft;clear hft;obtain ⟨wk,rfl⟩:=nWx wr;obtain ⟨AV,cV,rfl, -⟩:=zUj hown.o;have HOWN:=oH hown;have HQQ:=oH hq;have HBW:=oH hbw;have hsz:=hbw.size;clear hown hq hbw
 by_cases hlt:qs.length<m
 ·have hT:=HT.below HBW.out;have k0:=(hT _ hlt).1;have HLN:=oH (zEi (gs qs.length) o n (cs qs.length) (P qs.length) wk (hT _ hlt).2.1 hn (fun k hk=>(hT _ hlt).2.2 k hk) (fun k hk=>HF.out _ _ hlt hk));have HBD:=oH (fun (hp:∃ k,k<n/\¬zBd (P qs.length k)) (e:Ending) (w':World) h1 h2=>(show zFy w m n P e w' from .inr ⟨⟨qs.length,hp.choose,hlt,hp.choose_spec⟩,h1,h2⟩));rw [hQ.out] at HBD
  have x1:(0:Int)<=(qs.length:Int):=by omega
  have x2:(qs.length:Int)<(m:Int):=by omega
  generalize gs qs.length=gr at *;generalize cs qs.length=cr at *;clear hT;go_wp2_with fail;refine HLN.mono ?_;rintro e w2 (⟨hft,A5,c5,ss,rfl,hsl,hss,hown2,hb2⟩|⟨hbad,rfl,hb2⟩)
  ·skip
   have HSS:=oH hss;have HSL:=oH hsl;have HNEW:=oH (zUl hown2 hsz);have HMO:=oH (HOWN.below hb2);have HB5:=oH (HBW.trans (hb2.mono hsz));have hsz5:=HB5.size
   have HFN:=oH (fun i k (hi:i<(qs++[(⟨A5,c5,ss⟩:zGh)]).length) (hk:k<n)=>(show zBd (P i k) by
    simp only [List.length_append,List.length_singleton] at hi
    by_cases e:i<qs.length
    ·exact HFT0.out i k e hk
    obtain rfl:i=qs.length:=by omega
    exact hft k hk))
   clear hss hsl hown2 hb2 k0 HLN hft HBD
   go_wp2_with (at_builtin;refine wpList_append_own _ rfl _ _ 24 rfl w.heap.size 25 i0 (.slice none 0 0) 1 24 Tryz.underlying24 hi hz0 hz1 hz2 rfl dCx _ _ _ rfl (HMO.o.alloc _) ⟨w2.heap.size,0,none⟩ 1 1 [_] rfl rfl zTu zZu (by unfold maxLen;omega) oMx (by simp;omega) ?_)
   intro v' w6 hown6 hgrow6 _
   have hlt2:∀ k,(Value.slice AV qs.length cV).ownBlock=some k->w.heap.size<=k:=fun k hk=>(HMO.o.lt k hk).1
   have HB6:=oH (zIl HB5.out hsz5 hgrow6 hlt2);rw [<-HSL.out] at hown6 hgrow6 HNEW;have HM6:=oH ((HMO.below (bA)).push (r:=⟨A5,c5,ss⟩) (zUm HNEW.out (bA)) hown6 hgrow6);clear hown6 hgrow6 hlt2;go_wp2_with fail;go_roundw
   ·exact ⟨qs++[⟨A5,c5,ss⟩],by simp only [List.length_append,List.length_singleton];go_num,by simp;omega,HFN.out,HM6.out,fun j hj=>(by
    by_cases e:j<qs.length
    ·simp only [List.getElem_append_left e];exact HQQ.out j e
    simp only [List.length_append,List.length_singleton] at hj
    obtain rfl:j=qs.length:=by omega
    simp only [List.getElem_append_right lRx,Nat.sub_self,List.getElem_singleton]
    exact ⟨HSL.out,fun i hi=>HSS.out i hi⟩),HB6.out⟩
   simp [intOf];omega
  have HB4:=oH (HBD.out hbad);have HB5:=oH (HBW.trans (hb2.mono hsz));clear hb2 hbad k0 HLN HBD;go_wp2_with fail;exact HB4.out _ _ rfl HB5.out
 have hql:qs.length=m:=by omega
 have HR:=oH (show zFy w m n P (.returned (.tuple #[.slice AV m cV,.int .i64 0])) wk from .inl ⟨AV,cV,qs,rfl,⟨hql,fun r hr=>by
  obtain ⟨j,hj,rfl⟩:=List.getElem_of_mem hr
  exact (HQQ.out j hj).1,fun j i hj hi=>(HQQ.out j hj).2 i hi,fun j i hj hi=>HFT0.out j i oMx hi⟩,by rw [<-hql];exact HOWN.out,HBW.out⟩)
 rw [<-hql] at HR;have HQL:=oH hql;clear hql;go_wp2_with fail;rw [<-hQ.out,<-HQL.out];exact HR.out
def zFt (w:World) (m n:Nat) (M:mRx) (e:Ending) (w':World):Prop :=
 (∃ A c,e = .returned (.tuple #[.slice A m c,.int .i64 0])/\zCm w' A m n M/\Below w.heap.size w w') \/
 ((∃ i k,i<m/\k<n/\¬zBd (M i k))/\e = .returned (.tuple #[.slice none 0 0,.int .i64 3])/\Below w.heap.size w w')
def zGs (n:Nat) (M:mRx) (w:World) (e:Ending) (w':World):Prop :=
 (hvR n n n M/\e = .returned (.tuple #[.slice none 0 0,.int .i64 3])/\Below w.heap.size w w') \/
 (¬hvR n n n M/\∃ r:Nat,Rk n n M r/\((r<n/\e = .returned (.tuple #[.slice none 0 0,.int .i64 6])/\Below w.heap.size w w')\/(r=n/\∃ X:Nat->Nat->Rat,(∀ i k,i<n->k<n->mulM n M X i k=idn i k)/\zFt w n n X e w')))
def zIa (n:Nat) (M:mRx):Nat->Nat->Rat:=fun i j=>if j<n then M i j else idn i (j-n)
theorem zIb {n:Nat} {M:mRx} {i j:Nat} (h:j<n):zIa n M i j=M i j:=if_pos h
theorem zIc {n:Nat} {M:mRx} {i k:Nat}:zIa n M i (n+k)=idn i k:=by
 unfold zIa;rw [if_neg oMx,show n+k-n=k by omega]
theorem augI_dig {n:Nat} {M:mRx} (h:DigM 30 n n M):∀ i j,i<n->j<n+n->zAl 30 (zIa n M i j):=fun i j hi _=>by
 by_cases h1:j<n
 ·rw [zIb h1];exact h i j hi h1
 unfold zIa;rw [if_neg h1];unfold idn
 split
 ·exact ⟨by unfold Dig;decide,by unfold Dig;decide⟩
 exact ⟨by unfold Dig;decide,by unfold Dig;decide⟩
open Classical in
theorem RInv_sp {A:oAx} {c n:Nat} {M:mRx} {w:World} (h:zCm w A n n M) (hn1:1<=n) (hn:n<=5) (hd:DigM 30 n n M):Calls Tryz.prog 17 #[.slice A n c] w (zGs n M w):=by
 obtain ⟨j0,hj,hy0,hy1,hy2⟩:=info_parts Tryz.infoRF;obtain ⟨rs,h1,h2⟩:=h;generalize hQ:zGs n M w=Q;replace hQ:=oH hQ;obtain ⟨l1,l2,l3⟩:=h2.len1000 oMx oMx;have HSH:=zEw A rs c w h1 l1 l2 l3;rw [h2.shape hn1 oMx oMx,h2.len] at HSH;replace HSH:=oH HSH;have HHV:=oH (fun W (hW:Below w.heap.size w W)=>zEh (c:=c) (N:=n) (h1.below hW) h2 hn1 hn hn1 oMx hd hn1 oMx);have HRD:=oH (fun W (hW:Below w.heap.size w W)=>zEq A rs c n n M W (h1.below hW) h2 hn1 oMx hn1 oMx);have HDM:=oH hd;clear h1 h2 l1 l2 l3 hd;have HSP:=oH (fun (e:Ending) (w':World) (hH:hvR n n n M) (h:e = .returned (.tuple #[.slice none 0 0,.int .i64 3])/\Below w.heap.size w w')=>(show zGs n M w e w' from .inl ⟨hH,h⟩));have HSQ:=oH (fun (e:Ending) (w':World) (hH:¬hvR n n n M) r (hr:Rk n n M r) (hlt:r<n) (h:e = .returned (.tuple #[.slice none 0 0,.int .i64 6])/\Below w.heap.size w w')=>(show zGs n M w e w' from .inr ⟨hH,r,hr,.inl ⟨hlt,h⟩⟩))
 have HSR:=oH (fun (e:Ending) (w':World) (hH:¬hvR n n n M) r (hr:Rk n n M r) (he:r=n) X (hX:∀ i k,i<n->k<n->mulM n M X i k=idn i k) (h:zFt w n n X e w')=>(show zGs n M w e w' from .inr ⟨hH,r,hr,.inr ⟨he,X,hX,h⟩⟩));have HRK:=oH (fun r (h:Rk n n (zIa n M) r)=>(show Rk n n M r from h.congr fun i k _ hk=>zIb hk))
 have HSO:=oH (fun (Y:mRx) (hY:∀ k,k<n->∀ i,i<n->xBt n (fun j=>zIa n M i j*Y j k)=zIa n M i (n+k))=>(show ∀ i k,i<n->k<n->mulM n M Y i k=idn i k from fun i k hi hk=>by
  rw [<-zIc (n:=n) (M:=M) (i:=i) (k:=k),<-hY k hk i hi]
  exact xBv fun j hj=>by rw [zIb hj]))
 have HIN:=oH (fun i k (hk:k<n)=>(show zIa n M i k=M i k from zIb hk));have HLA:=oH (fun i k=>(show zIa n M i (n+k)=idn i k from zIc));replace HDM:=oH (augI_dig HDM.out);generalize zIa n M=X at *;rw [hQ.out] at HSP HSQ HSR;generalize hvR n n n M=H at *
 go_enter Tryz.func17,Tryz.ntmps17
 go_wp2_with fail;refine HSH.mono ?_;rintro e w1 ⟨rfl,hb1⟩;have HB1:=oH hb1;clear hb1;simp only
 have hnn:((n:Int) != (n:Int))=false:=by simp
 go_wp2_with fail;refine (HHV.out w1 HB1.out).mono ?_;rintro e w2 ⟨rfl,hb2⟩;have HB2:=bTx2 HB1 hb2;clear hb2 hnn
 by_cases hH:H
 ·have hdt:=decide_eq_true hH;rw [hdt];go_wp2_with fail;exact HSP.out _ _ hH ⟨rfl,HB2.out⟩
 have hdf:=decide_eq_false hH;rw [hdf];clear hdf;go_wp2_with fail;refine (HRD.out w2 HB2.out).mono ?_;rintro e w3 ⟨R,cR,rows0,rfl,hrl,htab,hnor,hb3⟩;have HB3:=bTx2 HB2 hb3;have HL0:=oH htab.l;have HT3:=oH (((htab.congr fun i k _ hk=>HIN.out i k hk).mono HB2.size).toX hnor);have HRL:=oH hrl;clear htab hb3 hrl hnor HB1 HB2 HRD HHV HSH HSP;go_wp2_with fail
 go_loopw [33] (fun iv wr=>∃ (i:Nat) (rows:List RwF),iv = .int .i64 (i:Int)/\i<=n/\rows.length=n/\TbX w.heap.size wr (.slice (some ⟨R,0,none⟩) n cR) rows X/\(∀ j,(hj:j<rows.length)->rows[j].us.length=if j<i then n+n else n)/\Below w.heap.size w wr) (fun iv _=>n-(intOf iv).toNat)
 ·exact ⟨0,rows0,rfl,oLx,HRL.out,HT3.out,fun j hj=>by rw [if_neg oMx];exact HL0.out _ (List.getElem_mem hj),HB3.out⟩
 clear HT3 HRL HL0 HB3;obtain ⟨i,rows,rfl,hin,hrl,htab,hul,hbk⟩:=hrel;obtain ⟨wi,rfl⟩:=nWx wr;have HRL:=oH hrl;have HT:=oH htab;have HLL:=oH hul;have HB:=oH hbk;clear htab hul hbk
 by_cases hlt2:i<n
 ·have k2:(i:Int)<(n:Int):=by omega
  go_wp2_with fail
  go_loopw [9] (fun kv wr=>∃ (k:Nat) (rows:List RwF),kv = .int .i64 (k:Int)/\k<=n/\rows.length=n/\TbX w.heap.size wr (.slice (some ⟨R,0,none⟩) n cR) rows X/\(∀ j,(hj:j<rows.length)->rows[j].us.length=if j<i then n+n else if j=i then n+k else n)/\Below w.heap.size w wr) (fun kv _=>n-(intOf kv).toNat)
  ·exact ⟨0,rows,rfl,oLx,HRL.out,HT.out,fun j hj=>by
   rw [HLL.out j hj]
   split
   ·rfl
   split<;>rfl,HB.out⟩
  clear HRL HT HLL HB hrl;obtain ⟨k,rows,rfl,hkn,hrl,htab,hul,hbk⟩:=hrel;obtain ⟨wk,rfl⟩:=nWx wr;have HRL:=oH hrl;have HT:=oH htab;have HLL:=oH hul;have HB:=oH hbk
  by_cases hlt3:k<n
  ·have hir:i<rows.length:=by omega
   have hus:=hul i hir;rw [if_neg (Nat.lt_irrefl i),if_pos rfl] at hus;obtain ⟨rr,hr⟩:=eXx (rows[i]);have HRE:=oH hr;rw [hr] at hus;obtain ⟨rg,rc,us⟩:=rr;obtain ⟨L,hL⟩:=eXx (n+k);replace hus:us.length=L:=hus.trans hL;have HUL:=oH hus;have HSF:=oH (show RwF.self ⟨rg,rc,us⟩ = .slice (some ⟨rg,0,none⟩) L rc from zYx hus);have hp5:=htab.rowAt hrl hir;rw [HRE.out,HSF.out] at hp5;obtain ⟨z,hz⟩:∃ z:Int,(if i=k then 1 else 0)=z:=⟨_,rfl⟩
   have hz0 : -9223372036854775808<=z:=by rw [<-hz];split<;>omega
   have hz1:z<=9223372036854775807:=by rw [<-hz];split<;>omega
   have hzq:X i L=(z:Rat):=by rw [<-hL,HLA.out,<-hz];unfold idn;split<;>rfl
   have HRD:=oH (fun W=>zDo z W hz0 hz1)
   have hGR:∀ (Wa w8:World),TbX w.heap.size Wa (.slice (some ⟨R,0,none⟩) n cR) rows X->∀ (g2 cap2:Nat) (u:FrV),zBt Wa u.val (z:Rat)->w8.ownsRow w.heap.size 87 4 (.slice (some ⟨g2,0,none⟩) (L+1) cap2) (L+1) (frc us++u.four)->Wa.grownBy w8 (Value.slice (some ⟨rg,0,none⟩) L rc).ownBlock->NoI w8 (.slice (some ⟨g2,0,none⟩) (L+1) cap2)->((Value.slice (some ⟨rg,0,none⟩) L rc).ownBlock=some g2\/g2=Wa.heap.size)->TbX w.heap.size (w8.setCell ⟨R,i,none⟩ (.slice (some ⟨g2,0,none⟩) (L+1) cap2)) (.slice (some ⟨R,0,none⟩) n cR) (rows.set i ⟨g2,cap2,us++[u]⟩) X/\Below w.heap.size Wa (w8.setCell ⟨R,i,none⟩ (.slice (some ⟨g2,0,none⟩) (L+1) cap2)):=by
    intro Wa w8 ht g2 cap2 u hu h1 h2 h3 h4
    have e1:RwF.self ⟨g2,cap2,us++[u]⟩ = .slice (some ⟨g2,0,none⟩) (L+1) cap2:=zYx (by simp only [List.length_append,List.length_singleton];omega)
    have ht':TbX w.heap.size Wa (.slice (some ⟨R,0,none⟩) rows.length cR) rows X:=by rw [HRL.out];exact ht
    have h9:=ht'.grow (w6:=w8) hir (r2:=⟨g2,cap2,us++[u]⟩) (u:=u) (z:=(z:Rat)) (by rw [HRE.out]) hu (by rw [HRE.out];show X i us.length=(z:Rat);rw [HUL.out];exact hzq) (by rw [e1,show (us++[u]).length=L+1 by simp only [List.length_append,List.length_singleton];omega,zNv];exact h1) (by rw [HRE.out,HSF.out];exact h2) (by rw [e1];exact h3) (by rw [HRE.out];exact h4.imp (fun h5=>by injection h5 with h6) id);rw [e1,HRL.out] at h9;exact ⟨h9.1,h9.2.2⟩
   have HGR:=oH hGR
   have hKB:∀ W',Below wk.heap.size wk W'->(W'.cell? ⟨R,i,none⟩=some (.slice (some ⟨rg,0,none⟩) L rc)):=fun W' hW=>kP hW hp5
   have HWz:=oH (show Below wk.heap.size wk wk.drew from bRx.drew);have KSz:=oH (hKB _ HWz.out);have KB:=oH hKB
   have k1:(0:Int)<=(i:Int):=by omega
   have k3:(k:Int)<(n:Int):=by omega
   have hL10:L<=10:=by omega
   have HZE:=oH hz;clear htab hul hbk hr hp5 hGR hKB hrl hzq hz0 hz1 hz
   go_upto_if 43 with (fail)
   go_cut [10] (fun nv wcut=>nv = .int .i64 z/\wk=wcut)
   case first =>
    by_cases hik:i=k
    ·have hd2:((i:Int)==(k:Int))=true:=by simp;omega
     have hz1:=HZE.out;rw [if_pos hik] at hz1;go_wp2_with fail
     go_meet
     exact ⟨by rw [<-hz1],rfl⟩
    have hd2:((i:Int)==(k:Int))=false:=by simp;omega
    have hz1:=HZE.out;rw [if_neg hik] at hz1;go_wp2_with fail
    go_meet
    exact ⟨by rw [<-hz1],rfl⟩
   case rest =>
    obtain ⟨rfl,rfl⟩:=hcut;go_wp2_with fail;refine xGe (S:=(fun w'=>w'.cell? ⟨R,i,none⟩=some (.slice (some ⟨rg,0,none⟩) L rc))) 11 (by kernel_rfl) rfl (by kernel_rfl) (by kernel_rfl) rfl (by exact KSz.out) (fun hHeld=>?_);simp only [List.pop_toArray,List.dropLast_cons_cons,List.dropLast_singleton];refine tkH 0 ?_;refine tkH 1 ?_;refine tkH 2 ?_;refine tkH 3 ?_;refine tkH 4 ?_;refine tkH 5 ?_;refine tkH 6 ?_
    try simp only [Act.put,tkA,tkB,tkC]
    refine tkS 7 fun K hK=>?_
    go_simp
    (go_at_call 50;(with_reducible refine (HRD.out _).mono ?_);rintro e wa ⟨va,rfl,hv,hb⟩;have hw:Below wk.heap.size wk wa:=HWz.out.trans (hb.mono HWz.out.size);have HTA:=oH (HT.out.below hw);have HVA:=oH hv;have HBA:=bTx2 HB hw;have KSa:=oH (KB.out wa hw);obtain ⟨xa,xb',Xa,Xb,la,ca,lb,cb,rfl⟩:=hv.slice;have hbl:Below wa.heap.size wa (wa.alloc (.cells #[.bool xa,.slice Xa la ca,.bool xb',.slice Xb lb cb] 87)):=bA;have HTB:=oH (HTA.out.below hbl);have HVB:=oH (HVA.out.below hbl);have HBB:=bTx2 HBA hbl;have KSb:=oH (KB.out _ (hw.trans (hbl.mono hw.size)));have HOA:=oH (show (wa.alloc (.cells #[.bool xa,.slice Xa la ca,.bool xb',.slice Xb lb cb] 87)).ownsRow w.heap.size 87 4 (.slice (some ⟨rg,0,none⟩) L rc) L (frc us) from by have h9:=HTB.out.r _ (List.getElem_mem hir);rw [HRE.out,HSF.out,HUL.out] at h9;exact h9);have HNA:=oH (show NoI (wa.alloc (.cells #[.bool xa,.slice Xa la ca,.bool xb',.slice Xb lb cb] 87)) (.slice (some ⟨rg,0,none⟩) L rc) from by have h9:=HTB.out.nor _ (List.getElem_mem hir);rw [HRE.out,HSF.out] at h9;exact h9);have hsB:=HBB.out.size;clear hb hw hv hbl)
    go_wp2_with fail;refine hK.out _ _ ?_ (fun hHeld=>?_)
    ·first|exact KSz.out|exact KSa.out|exact KSb.out|exact u6
    clear hK K
    try simp only [Act.put,tkA,tkB,tkC]
    refine tkS 8 fun K hK=>?_
    go_simp
    refine hK.out _ _ ?_ (fun hHeld=>?_)
    ·first|exact KSz.out|exact KSa.out|exact KSb.out|exact u6
    clear hK K
    try simp only [Act.put,tkA,tkB,tkC]
    refine tkS 9 fun K hK=>?_
    (refine xAx _ (by rfl) _ _ _ (by rfl) w.heap.size 87 j0 _ 4 64 Tryz.underlying83 hj hy0 hy1 hy2 rfl dCx (.slice (some ⟨rg,0,none⟩) L rc) L (frc us) (by go_simp) HOA.out ⟨wa.heap.size,0,none⟩ 1 1 (FrV.four ⟨xa,Xa,la,ca,xb',Xb,lb,cb⟩) (by go_simp) rfl (World.news_of_block (cs:=#[.bool xa,.slice Xa la ca,.bool xb',.slice Xb lb cb]) (t:=87) (fr:=(0,0)) (heap_alloc_new wa _)) zNk oMx (by unfold maxLen;omega) oMx hsB HNA.out zNw zNj ?_;intro g2 cap2 w8 hown8 hgrow8 hno8 hgg8;have hgr:(wa.alloc (.cells #[.bool xa,.slice Xa la ca,.bool xb',.slice Xb lb cb] 87)).grownBy w8 rows[i].self.ownBlock:=(by rw [HRE.out,HSF.out];exact hgrow8);have hrm:=HTB.rowMid HRL.out hir hgr;rw [HRE.out,HSF.out] at hrm;have u6:=hrm.1;have u7:=hrm.2;have HB8:=oH (HBB.grown hgrow8 hsB (fun k hk=>(HOA.lt k hk).1));have HG:=oH (HGR.out (wa.alloc (.cells #[.bool xa,.slice Xa la ca,.bool xb',.slice Xb lb cb] 87)) w8 HTB.out g2 cap2 ⟨xa,Xa,la,ca,xb',Xb,lb,cb⟩ HVB.out hown8 hgrow8 hno8 hgg8);clear hown8 hgrow8 hno8 hgg8 hrm hgr)
    refine hK.out _ _ ?_ (fun hHeld=>?_)
    ·first|exact KSz.out|exact KSa.out|exact KSb.out|exact u6
    clear hK K
    try simp only [Act.put,tkA,tkB,tkC]
    refine tkH 10 ?_
    try simp only [Act.put,tkA,tkB,tkC]
    refine wpAnyH_done (by kernel_rfl) ?_ _;simp only [xCo,List.getElem_toArray,List.getElem_cons_succ,List.getElem_cons_zero];go_wp2_with fail;go_roundw
    ·exact ⟨k+1,_,by go_num,oMx,by rw [List.length_set];exact HRL.out,HG.1,fun j hj=>by
     have hj':j<rows.length:=by simpa using hj
     by_cases e:j=i
     ·subst e;simp only [List.getElem_set_self];rw [if_neg (Nat.lt_irrefl j),if_pos trivial];simp only [List.length_append,List.length_singleton,HUL.out];omega
     simp only [List.getElem_set_ne (Ne.symm e)]
     rw [HLL.out j hj',if_neg e,if_neg e],HBB.trans HG.2⟩
    simp [intOf];omega
  have hkn2:k=n:=by omega
  have HLN:=oH (fun j (hj:j<rows.length)=>(show rows[j].us.length=if j<i+1 then n+n else n from by
   rw [HLL.out j hj,hkn2]
   by_cases e:j<i
   ·rw [if_pos e,if_pos oMx]
   by_cases e2:j=i
   ·rw [if_neg e,if_pos e2,if_pos oMx]
   rw [if_neg e,if_neg e2,if_neg oMx]))
  have k3:¬(k:Int)<(n:Int):=by omega
  clear htab hul hbk HLL;go_wp2_with fail;go_roundw
  ·exact ⟨i+1,rows,by go_num,oMx,HRL.out,HT.out,HLN.out,HB.out⟩
  simp [intOf];omega
 have hin2:i=n:=by omega
 have k2:¬(i:Int)<(n:Int):=by omega
 have HT6:=oH (HT.toF (n:=n+n) fun r hr=>by
  obtain ⟨j,hj,rfl⟩:=List.getElem_of_mem hr
  rw [HLL.out j hj,if_pos oMx])
 clear HT HLL;go_wp2_with fail;refine (zDj w.heap.size R cR n (n+n) n rows X wi HT6.out hrl hn1 hn oMx oMx HDM.out).mono ?_;rintro e w7 ⟨A7,c7,v7,rows7,F7,psf,ps,vq,odd,rfl, -, -,hg,hdF, -,hv7,hrl7,htab7,hb⟩;obtain ⟨na,nb,A1,A2,l1,c1,l2,c2,rfl⟩:=hv7.slice;have HK7:=oH (HRK.out _ hg.rk);have hrn:=hg.rm;obtain ⟨rk,hrk⟩:=eXx (ps.length);have HY7:=oH (fun he=>HSO.out (fun j k=>F7 j (n+k)) (fun k _=>hg.solves he (n+k)));rw [hrk] at HK7 hrn HY7 hdF ⊢;have HZ7:=oH (fun k j (hk:k<n) (hj:j<n)=>(show Sz 1000000 (F7 k (n+j)) from ((hdF k (n+j) hk oMx).szG).mono (Nat.le_trans (zNy rk oMx) dCx)));clear hrk hg hdF HRK HSO;have hsw:w.heap.size<=wi.heap.size:=HB.size;have hbl:Below w7.heap.size w7 (w7.alloc (.cells #[.bool na,.slice A1 l1 c1,.bool nb,.slice A2 l2 c2] 87)):=bA;have HB7:=oH (HB.trans (hb.trans (hbl.mono (Nat.le_trans hsw hb.size))));have HT7:=oH (htab7.below hbl);have HRL7:=oH hrl7;clear hb hv7 hrl7 htab7 hbl HT6 HB HRL hrl hsw HDM HIN HLA
 go_upto_region 21 with (fail);generalize w7.alloc (.cells #[.bool na,.slice A1 l1 c1,.bool nb,.slice A2 l2 c2] 87)=W at *
 by_cases hrlt:rk<n
 ·have hrlt2:(rk:Int)<(n:Int):=by omega
  go_wp2_with fail;exact HSQ.out _ _ hH rk HK7.out hrlt ⟨rfl,HB7.out⟩
 have hrlt2:¬(rk:Int)<(n:Int):=by omega
 have hre:rk=n:=by omega
 replace HY7:=oH (HY7.out hre);replace HSR:=oH (fun e w' h=>HSR.out e w' hH rk HK7.out hre _ HY7.out h);clear HSQ HK7 hre hrlt k2 hin2;go_upto_region 23 with (fail);clear hrlt2;have ho7:=HT7.o;rw [HRL7.out] at ho7;have HO7:=oH ho7;clear ho7;go_wp2_with fail
 go_loopw [68] (fun iv wr=>∃ i:Nat,iv = .int .i64 (i:Int)/\i<=n/\(∀ j,(hj:j<rows7.length)->wr.cell? ⟨R,j,none⟩=some (if j<i then .slice (some ⟨rows7[j].g,n*4,none⟩) n (rows7[j].cp-n) else .slice (some ⟨rows7[j].g,0,none⟩) (n+n) rows7[j].cp))/\(∀ j,wr.frozen? ⟨R,j,none⟩=false)/\W.grownBy wr (some R)/\(∃ vs,wr.ownsRow w.heap.size 83 1 (.slice (some ⟨R,0,none⟩) n cR) n vs/\(∀ x∈vs,∀ z,x ≠ .int .i64 z))/\∀ v y,zBt W v y->zBt wr v y) (fun iv _=>n-(intOf iv).toNat)
 ·exact ⟨0,rfl,oLx,fun j hj=>by
  rw [if_neg (Nat.not_lt_zero j)]
  exact TbF.cell (show TbF _ _ (.slice (some ⟨R,0,none⟩) rows7.length cR) rows7 (n+n) _ by rw [HRL7.out];exact HT7.out) hj,fun j=>HO7.frozenAt j,World.grownBy.refl _ _,⟨_,HO7.out,fun x hx z e=>by
  rw [List.mem_map] at hx;obtain ⟨a,_,e2⟩:=hx;rw [<-e2] at e
  simp [RwF.val] at e⟩,fun v y h=>h⟩
 obtain ⟨i,rfl,hin,hcc,hff,hgr,⟨vs,hvs,hvi⟩,hnum⟩:=hrel;have HVS:=oH hvs;have HVI:=oH hvi;have HNU:=oH hnum;clear hvs hvi hnum;obtain ⟨wq,rfl⟩:=nWx wr
 by_cases hlt:i<n
 ·have hir:i<rows7.length:=by rw [HRL7.out];exact hlt
  have c0:=hcc i hir;rw [if_neg (Nat.lt_irrefl i)] at c0;have f0:=hff i;have HCC:=oH hcc;have HFF:=oH hff;have HGR:=oH hgr
  have HCP:=oH (show n+n<=rows7[i].cp from by
   have h9:=HT7.r _ (List.getElem_mem hir)
   rcases h9.2 with ⟨hv,h0⟩|⟨g,cap,cur,hv,hB,hg,hle,hm,hs,htake⟩
   ·omega
   simp only [RwF.val] at hv;injection hv with _ _ hv
   omega)
  clear hcc hff hgr;obtain ⟨rg,hrg⟩:=eXx (rows7[i].g);obtain ⟨rc,hrc⟩:=eXx (rows7[i].cp);rw [hrg,hrc] at c0;have hcp:=HCP.out;rw [hrc] at hcp;have HRG:=oH hrg;have HRC:=oH hrc
  have i1:(0:Int)<=(i:Int):=by omega
  have i2:(i:Int)<(n:Int):=by omega
  have i3:(0:Int)<=(n:Int):=by omega
  have i4:(n:Int)<=((n+n:Nat):Int):=by omega
  have i5:((n+n:Nat):Int)<=(rc:Int):=by omega
  clear hrg hrc;go_wp2_with fail;go_roundw
  case rel =>
   refine ⟨i+1,by go_num,oMx,?_,?_,?_,⟨_,(HVS.stored i _).1,fun x hx=>?_⟩,fun v y h=>(HNU.out v y h).row HVS.out HVI.out oMx _⟩
   ·intro j hj
    by_cases e:j=i
    ·subst e;rw [if_pos oMx,HRG.out,HRC.out];exact World.cell?_setCell_same _ _ _ c0
    rw [World.cell?_setCell_other _ _ _ _ (by intro h;injection h with _ h;omega),HCC.out j hj]
    by_cases e2:j<i
    ·rw [if_pos e2,if_pos oMx]
    rw [if_neg e2,if_neg oMx]
   ·intro j
    rw [World.frozen?_setCell];exact HFF.out j
   ·exact zOd HGR.out i _
   rcases List.mem_or_eq_of_mem_set hx with h1|rfl
   ·exact HVI.out x h1
   intro z e;cases e
  simp [intOf];omega
 have hin3:i=n:=by omega
 have x2:¬(i:Int)<(n:Int):=by omega
 have HTO:=oH (show TbO wq R (n*4) n n (fun j=>(rows7.getD j ⟨0,0,[]⟩).g) (fun j=>(rows7.getD j ⟨0,0,[]⟩).cp-n) (fun j k=>F7 j (n+k)) from fun j hj=>by
  have hjr:j<rows7.length:=by rw [HRL7.out];exact hj
  have hc:=hcc j hjr;rw [if_pos oMx] at hc
  have hd:rows7.getD j ⟨0,0,[]⟩=rows7[j]:=by simp [List.getD,hjr]
  have hb:=HT7.blk hjr;simp only [hd];refine ⟨hc,Nat.lt_of_lt_of_le hb.2 hgr.size,fun k hk=>?_⟩;have hr0:W.ownsRow w.heap.size 87 4 (.slice (some ⟨rows7[j].g,0,none⟩) (n+n) rows7[j].cp) (n+n) (frc rows7[j].us):=HT7.r _ (List.getElem_mem hjr);have hr:wq.ownsRow w.heap.size 87 4 (.slice (some ⟨rows7[j].g,0,none⟩) (n+n) rows7[j].cp) (n+n) (frc rows7[j].us):=hr0.kept hgr (zUr hr0 HO7.out dCx);have hl:=HT7.l _ (List.getElem_mem hjr);have hn9:=HNU.out _ _ (HT7.num j hjr (n+k) oMx);obtain ⟨e1,e2,e3,e4⟩:=zNo (us:=rows7[j].us) (i:=n+k) oMx
  have ek:n*4+k*4=(n+k)*4:=by omega
  rw [ek]
  exact ⟨_,(hr.cellAt ((n+k)*4) oMx).trans e1,(hr.cellAt ((n+k)*4+1) oMx).trans e2,(hr.cellAt ((n+k)*4+2) oMx).trans e3,(hr.cellAt ((n+k)*4+3) oMx).trans e4,hn9⟩)
 have HB9:=oH (HB7.grown hgr HB7.size (fun k hk=>by injection hk with hk;have:=HO7.lt R rfl;omega));have HGV:=oH (zEc R cR n n (n*4) _ _ _ wq HTO.out oMx oMx (fun a b ha hb=>HZ7.out a b ha hb));clear hcc hff hgr;go_wp2_with fail;refine HGV.mono ?_;rintro e w9 (⟨A9,c9,qs,rfl,hmf,hmo,hb⟩|⟨hbad,rfl,hb⟩)
 ·have HR:=oH (HSR.out _ _ (.inl ⟨A9,c9,rfl,⟨qs,(show zCk wq.heap.size w9 (.slice A9 qs.length c9) qs by rw [hmf.len];exact hmo).read,hmf⟩,HB9.trans (hb.mono HB9.size)⟩));clear hmf hmo hb;go_wp2_with fail;exact HR.out
 have HR:=oH (HSR.out _ _ (.inr ⟨hbad,rfl,HB9.trans (hb.mono HB9.size)⟩));clear hbad hb;go_wp2_with fail;exact HR.out
theorem zFs.toI {w w':World} {m n:Nat} {M:mRx} {e:Ending} (h:zFs w m n M e w'):zFt w m n M e w':=by
 rcases h with ⟨A,c,rs,he,hmf,ht,hb⟩|h
 ·exact .inl ⟨A,c,he,⟨rs,(show zHe _ w' (.slice A rs.length c) rs by rw [hmf.len];exact ht).read,hmf⟩,hb⟩
 exact .inr h
theorem SpInv.toR {n:Nat} {M:mRx} {w w':World} {e:Ending} (h:SpInv n M w e w'):zGs n M w e w':=by
 rcases h with h|⟨hH,r,hr,h⟩
 ·exact .inl h
 refine .inr ⟨hH,r,hr,?_⟩
 rcases h with h|⟨he,X,hX,h⟩
 ·exact .inl h
 exact .inr ⟨he,X,hX,h.toI⟩
end Go.Proofs.YtbjaplppalcmgaaGreatDoor
