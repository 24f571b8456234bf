import Derived.Test.YtafflnognagadaaGreatDoorZOK
set_option maxHeartbeats 16000000
set_option maxRecDepth 100000
set_option linter.unusedVariables false
set_option linter.unusedSimpArgs false
set_option linter.unusedSectionVars false
namespace Go.Proofs.YtafflnognagadaaGreatDoor
open Go.RowKit
def zIs (A B:Tbl):Tbl:=norm (mulT (-1) A++B)
def zIj (D E:List Tbl):Nat->List Dlt
 | 0=>[]
 | k+1=>zIj D E k++(if zIs (D.getD k []) (E.getD k [])=[] then [] else [((k:Int),zIs (D.getD k []) (E.getD k []))])
theorem zIn (D E:List Tbl) (k:Nat):(zIj D E k).length<=k:=by
 induction k with
 | zero=>exact lRx
 | succ k ih=>unfold zIj;rw [List.length_append];split<;>simp<;>omega
theorem zIp {D E:List Tbl} {k:Nat} (h1:k<D.length) (h2:k<E.length) (h:zIs D[k] E[k]=[]):zIj D E (k+1)=zIj D E k:=by
 rw [zIj,List.getD_eq_getElem?_getD,List.getD_eq_getElem?_getD,List.getElem?_eq_getElem h1,List.getElem?_eq_getElem h2];simp only [Option.getD_some];rw [if_pos h,List.append_nil]
theorem zIq {D E:List Tbl} {k:Nat} (h1:k<D.length) (h2:k<E.length) (h:zIs D[k] E[k]≠[]):zIj D E (k+1)=zIj D E k++[((k:Int),zIs D[k] E[k])]:=by
 rw [zIj,List.getD_eq_getElem?_getD,List.getD_eq_getElem?_getD,List.getElem?_eq_getElem h1,List.getElem?_eq_getElem h2];simp only [Option.getD_some];rw [if_neg h]
theorem Lit.neg {T:List zGg} (h:Lit T):Lit (mulT (-1) T):=⟨by unfold mulT;rw [List.length_map];exact h.1,fun r hr=>by
 unfold mulT at hr;obtain ⟨x,hx,rfl⟩:=List.mem_map.1 hr;have:=h.2 x hx;refine ⟨this.1,?_,?_⟩
 ·show _ <= -1*x.2;omega
 show -1*x.2<=_;omega⟩
theorem zQc (f:Int) (T:List zGg):(mulT f T).length=T.length:=by simp [mulT]
def RetDl (w:World) (er:Int) (l:List Dlt) (e:Ending) (w':World):Prop:=∃ v,e = .returned (.tuple #[v,.int .i64 er])/\Sl zOd w' v l/\Below w.heap.size w w'
theorem zBy {S:zFv} {v u:Value} {D E:List Tbl} {w:World} (henv:Env w) (hin:zBp w S) (hok:zFu S) (hv:Sl zOf w v D) (hD:DbK S D) (hu:Sl zOf w u E) (hE:DbK S E) :
  Calls Tryz.prog 52 #[.agg S.cells,v,u] w (RetDl w 0 (zIj D E D.length)):=by
 obtain ⟨A,c,rfl, -⟩:=hv.form;obtain ⟨Au,cu,rfl, -⟩:=hu.form;have hba:Below w.heap.size w (w.alloc (.cells S.cells 31)):=bA;have HC1:=oH (zCx (henv.below hba) (hin.below hba) hok (hv.below hba) hD);have HC2:=oH (fun (W:World) (hW:Below w.heap.size w W)=>zCx (henv.below hW) (hin.below hW) hok (hu.below hW) hE);have HSB:=oH (show Blk (w.alloc (.cells S.cells 31)) w.heap.size 31 S.cells.toList from Blk.new w _ S.cells.toList);have HBA:=oH hba;have HV:=oH hv;have HU:=oH hu;have HD:=oH hD;have HE:=oH hE;have HSO:=oH hok;have hel:Hid (E.length=D.length):=oH (by rw [hD.len,hE.len])
 have hdl:D.length<=1000:=by have:=hD.len;have:=hok.fine.r2;omega
 clear henv hin hok hv hu hD hE hba;generalize hcs:S.cells=cs at HC1 HC2 HSB HBA ⊢;obtain ⟨q0,q1,q2,q3,hq⟩:∃ a b c d,cs=#[a,b,c,d]:=⟨_,_,_,_,hcs.symm⟩;subst hq;clear hcs
 go_enter Tryz.func52,Tryz.ntmps52
 go_wp2_with fail;refine HC1.mono ?_;rintro e w1 ⟨rfl,hb1⟩;have HW1:=bTx2 HBA hb1;have hs1:=HSB.below hb1;have s0:=hs1.at_ (i:=0) rfl;have s1:=hs1.at_ (i:=1) rfl;have s2:=hs1.at_ (i:=2) rfl;have s3:=hs1.at_ (i:=3) rfl;have HCC:=oH (HC2.out _ HW1.out);clear hb1 hs1 HC1 HC2;go_wp2_with fail;refine HCC.mono ?_;rintro e w2 ⟨rfl,hb2⟩;have HW2:=bTx2 HW1 hb2;clear s0 s1 s2 s3 hb2 HCC HW1 HSB HBA;go_wp2_with fail
 go_loopw [10,27] (fun vo iv wr=>∃ k:Nat,iv = .int .i64 (k:Int)/\k<=D.length/\zCo zOd w2.heap.size wr vo (zIj D E k)/\Below w2.heap.size w2 wr) (fun _ iv _=>D.length-(intOf iv).toNat)
 ·exact ⟨0,rfl,oLx,.nil _ _ _,bRx⟩
 obtain ⟨k,rfl,hk,hown,hbel⟩:=hrel;obtain ⟨Av,cv,rfl, -⟩:=hown.form;have HOWN:=oH hown;have HBEL:=oH hbel;have HBW:=bTx2 HW2 hbel;have hsz:=hbel.size;clear hbel
 by_cases hlt:k<D.length
 ·have hlt2:k<E.length:=by rw [hel.out];exact hlt
  obtain ⟨b1,off1,rfl,hb1,hc1⟩:=HV.sl1 (by intro e;subst e;simp at hlt);obtain ⟨b2,off2,rfl,hb2,hc2⟩:=HU.sl1 (by intro e;subst e;simp at hlt2);obtain ⟨u1,p1,hu1⟩:=hc1 k hlt;obtain ⟨u2,p2,hu2⟩:=hc2 k hlt2;have q1:=(HBW.cell (p:=⟨b1,off1+k,none⟩) hb1).trans p1;have q2:=(HBW.cell (p:=⟨b2,off2+k,none⟩) hb2).trans p2;have hr1:b1<wr.heap.size:=Nat.lt_of_lt_of_le hb1 HBW.size;have hr2:b2<wr.heap.size:=Nat.lt_of_lt_of_le hb2 HBW.size;have HTA:=oH (hu1.below HBW.out);have HTB:=oH (hu2.below HBW.out);have HLA:=oH (HD.litT HSO.out hlt);have HLB:=oH (HE.litT HSO.out hlt2);have h60:=(HD.tab k hlt).2.1;have h61:=(HE.tab k hlt2).2.1;have HNN:=oH (fun (h:zIs D[k] E[k]=[])=>zIp hlt hlt2 h);have HNS:=oH (fun (h:zIs D[k] E[k]≠[])=>zIq hlt hlt2 h);have HLE:=oH (zIn D E k);obtain ⟨A0,c0,rfl, -⟩:=hu1.form;obtain ⟨B0,c1,rfl, -⟩:=hu2.form;clear hc1 hc2 p1 p2 hu1 hu2 hown;generalize D[k]=TA at *;generalize E[k]=TB at *
  have HLS:=oH (HLA.neg.append HLB.out (by rw [zQc];omega));obtain ⟨N,hN⟩:=eXx (zIs TA TB);have HNX:=oH (show norm (mulT (-1) TA++TB)=N from hN);rw [hN] at HNN HNS;clear hN;generalize zIj D E k=L at *
  have KB:Hid (∀ W,Below wr.heap.size wr W->W.cell? ⟨b1,off1+k,none⟩=some (.slice A0 TA.length c0)/\W.cell? ⟨b2,off2+k,none⟩=some (.slice B0 TB.length c1)):=oH fun W hW=>⟨(hW.cell (p:=⟨b1,off1+k,none⟩) (by simp;omega)).trans q1,(hW.cell (p:=⟨b2,off2+k,none⟩) (by simp;omega)).trans q2⟩
  have HWz:=oH (Below.refl wr.heap.size wr).drew;clear q1 q2;go_wp2_with fail;refine wp_region_held_drew (S:=(fun w'=>w'.cell? ⟨b1,off1+k,none⟩=some (.slice A0 TA.length c0)/\w'.cell? ⟨b2,off2+k,none⟩=some (.slice B0 TB.length c1))) (by kernel_rfl) (by exact KB.out _ HWz.out) (fun hHeld=>?_);refine tkH 0 ?_;refine tkH 1 ?_;refine tkH 2 ?_;refine tkH 3 ?_;refine tkH 5 ?_;refine tkH 6 ?_;refine tkH 7 ?_;refine tkH 8 ?_
  try simp only [Act.put,tkA,tkB,tkC]
  refine tkS 4 fun K hK=>?_
  go_simp
  (go_at_call 69;(with_reducible refine (zAn (-1) (.inr rfl) (HTA.out.below HWz.out) HLA.out).mono ?_);rintro e wa ⟨va,rfl,ho,hb⟩;have hw:Below wr.heap.size wr wa:=HWz.out.trans (hb.mono HWz.out.size);have HWa:=oH hw;obtain ⟨Aa,cva,rfl, -⟩:=ho.form;have HOa:=oH ho;clear ho;clear hb hw)
  go_wp2_with fail;refine hK.out _ _ ?_ (fun hHeld=>?_)
  ·first|with_reducible exact KB.out _ HWc.out|with_reducible exact KB.out _ HWb.out|with_reducible exact KB.out _ HWa.out
  clear hK K
  try simp only [Act.put,tkA,tkB,tkC]
  refine tkS 9 fun K hK=>?_
  (refine zWf _ _ _ (by rfl) (by rfl) Tryz.underlying43 Tryz.kiRow (by go_simp) (HOa.out) (by go_simp) (HTB.below HWa.out) (by have:=HLA.1;have:=HLB.1;rw [zQc];omega) (HWa.size) ?_;intro v' wb hap;have HOb:=oH hap.own;have HWb:Hid (Below wr.heap.size wr wb):=oH (hap.bel HWa.out);clear hap)
  refine hK.out _ _ ?_ (fun hHeld=>?_)
  ·first|with_reducible exact KB.out _ HWc.out|with_reducible exact KB.out _ HWb.out|with_reducible exact KB.out _ HWa.out
  clear hK K
  try simp only [Act.put,tkA,tkB,tkC]
  refine tkS 10 fun K hK=>?_
  go_simp
  (go_at_call 68;(with_reducible refine (zCa HOb.out.sl HLS.out).mono ?_);rintro e wc ⟨vc,rfl,ho,hb⟩;have hw:Below wr.heap.size wr wc:=HWb.out.trans (hb.mono HWb.out.size);have HWc:=oH hw;rw [HNX.out] at ho;obtain ⟨An,cn,rfl, -⟩:=ho.form;have HOc:=oH ho.sl;clear ho;clear hb hw)
  go_wp2_with fail;refine hK.out _ _ ?_ (fun hHeld=>?_)
  ·first|with_reducible exact KB.out _ HWc.out|with_reducible exact KB.out _ HWb.out|with_reducible exact KB.out _ HWa.out
  clear hK K
  try simp only [Act.put,tkA,tkB,tkC]
  refine tkH 11 ?_
  try simp only [Act.put,tkA,tkB,tkC]
  refine wpAnyH_done (by kernel_rfl) ?_ _;have HOW:=oH (HOWN.below HWc.out);have HB3:=oH (HBEL.trans (HWc.mono hsz))
  by_cases hN0:N=[]
  ·have E1:=oH (HNN.out hN0);have hd2:=decide_eq_false (show ¬0<N.length by subst hN0;simp);clear hN0;go_wp2_with fail;go_roundw
   ·exact ⟨k+1,by go_num,oMx,by rw [E1.out];exact HOW.out,HB3.out⟩
   simp [intOf];omega
  have E1:=oH (HNS.out hN0);have hd2:=decide_eq_true (List.length_pos_iff.2 hN0);have hs3:=HB3.size;clear hN0
  go_wp2_with (at_builtin;refine xAn _ _ _ rfl rfl Tryz.underlying49 Tryz.kiDel (HOW.alloc _) (Sl.new (K:=zOd) (x:=((k:Int),N)) rfl ⟨_,rfl,HOc.out⟩) (by have:=HLE.out;simp only [List.length_singleton];omega) (Nat.le_trans hs3 sMx) ?_)
  intro v' w7 hap
  have HAP:Hid (zCo zOd w2.heap.size w7 v' (L++[((k:Int),N)])):=oH hap.own;have HB7:=oH (hap.bel (HB3.alloc hs3 _));clear hap;go_wp2_with fail;go_roundw
  ·exact ⟨k+1,by go_num,oMx,by rw [E1.out];exact HAP.out,HB7.out⟩
  simp [intOf];omega
 obtain rfl:k=D.length:=by omega
 go_wp2_with fail;go_ret2
 exact ⟨_,rfl,hown.sl,HBW.out⟩
theorem zCu {S:zFv} {fi a b:Int} {ub uc:Value} {D:List Tbl} {l:List Chn} {w:World} (henv:Env w) (hin:zBp w S) (hok:zFu S) (hub:Sl zOf w ub D) (huc:Sl zOc w uc l) (hH:zBj S fi D l) (ha:atB fi l a=true) (hb:atB fi l b=true) :
  Calls Tryz.prog 28 #[.agg S.cells,.agg #[.int .i64 fi,ub,uc],.int .i64 a,.int .i64 b] w (RetDl w 0 (zIj (atD fi D l a) (atD fi D l b) (atD fi D l a).length)):=by
 obtain ⟨Ab,cb,rfl, -⟩:=hub.form;obtain ⟨Ac,cc,rfl, -⟩:=huc.form;have hba:Below w.heap.size w ((w.alloc (.cells S.cells 31)).alloc (.cells #[.int .i64 fi,.slice Ab D.length cb,.slice Ac l.length cc] 37)):=(bA).alloc sMx _
 have HAT:=oH (fun (x:Int) (hx:atB fi l x=true) (W:World) (hW:Below w.heap.size w W)=>(show Calls Tryz.prog 14 #[.agg S.cells,.agg #[.int .i64 fi,.slice Ab D.length cb,.slice Ac l.length cc],.int .i64 x] W (zFk W 0 (atD fi D l x)) from by
  have h:=zCs (v:=x) (henv.below hW) (hin.below hW) hok (hub.below hW) (huc.below hW) hH;rw [hx] at h
  exact h))
 have HDK:Hid (∀ x,atB fi l x=true->DbK S (atD fi D l x)):=oH fun x hx=>by
  obtain ⟨i,rfl,hi⟩:=zHg hx;rw [zHk hi];exact hH.db hi
 have HJB:=oH (fun (W:World) (hW:Below w.heap.size w W) (v u:Value) (h1:Sl zOf W v (atD fi D l a)) (h2:Sl zOf W u (atD fi D l b))=>zBy (henv.below hW) (hin.below hW) hok h1 (HDK.out a ha) h2 (HDK.out b hb));have HSB:=oH (show Blk ((w.alloc (.cells S.cells 31)).alloc (.cells #[.int .i64 fi,.slice Ab D.length cb,.slice Ac l.length cc] 37)) w.heap.size 31 S.cells.toList from (Blk.new w _ S.cells.toList).alloc _);have HHB:=oH (show Blk ((w.alloc (.cells S.cells 31)).alloc (.cells #[.int .i64 fi,.slice Ab D.length cb,.slice Ac l.length cc] 37)) (w.heap.size+1) 37 [.int .i64 fi,.slice Ab D.length cb,.slice Ac l.length cc] from Blk.new' sMx _ [_,_,_]);have HBA:=oH hba;have HA1:=oH (HAT.out a ha _ hba);have HA2:=oH (HAT.out b hb);clear henv hin hok hub huc hH hba HAT HDK ha hb;generalize hcs:S.cells=cs at HA1 HA2 HJB HSB HHB HBA ⊢;obtain ⟨q0,q1,q2,q3,hq⟩:∃ a b c d,cs=#[a,b,c,d]:=⟨_,_,_,_,hcs.symm⟩
 subst hq;clear hcs;generalize atD fi D l a=DA at *;generalize atD fi D l b=DB at *
 go_enter Tryz.func28,Tryz.ntmps28
 go_wp2_with fail;generalize ((w.alloc (.cells #[q0,q1,q2,q3] 31)).alloc (.cells #[.int .i64 fi,.slice Ab D.length cb,.slice Ac l.length cc] 37))=wz at *;refine HA1.mono ?_;rintro e w1 ⟨v1,rfl,hs1,hb1⟩;obtain ⟨A1,c1,rfl, -⟩:=hs1.form;have HX1:=oH hb1;have HW1:=bTx2 HBA hb1;have HS1:=oH hs1;have hsb:=HSB.below hb1;have hhb:=HHB.below hb1;have s0:=hsb.at_ (i:=0) rfl;have s1:=hsb.at_ (i:=1) rfl;have s2:=hsb.at_ (i:=2) rfl;have s3:=hsb.at_ (i:=3) rfl;have k0:=hhb.at_ (i:=0) rfl;have k1:=hhb.at_ (i:=1) rfl;have k2:=hhb.at_ (i:=2) rfl;have HC:=oH (HA2.out _ HW1.out);clear hs1 hb1 hsb hhb HA1 HA2;go_wp2_with fail;refine HC.mono ?_;rintro e w2 ⟨v2,rfl,hs2,hb2⟩;obtain ⟨A2,c2,rfl, -⟩:=hs2.form;have HX2:=bTx2 HX1 hb2;have HW2:=bTx2 HW1 hb2;clear s0 s1 s2 s3 k0 k1 k2 HC;have hsb:=HSB.below HX2.out;have s0:=hsb.at_ (i:=0) rfl;have s1:=hsb.at_ (i:=1) rfl;have s2:=hsb.at_ (i:=2) rfl;have s3:=hsb.at_ (i:=3) rfl
 have HC:=oH (HJB.out _ HW2.out _ _ (HS1.below hb2) hs2);clear hs2 hb2 hsb HJB;go_wp2_with fail;refine HC.mono ?_;rintro e w3 ⟨v3,rfl,hs3,hb3⟩;obtain ⟨A3,c3,rfl, -⟩:=hs3.form;have HF:=bTx2 HW2 hb3;have HS3:=oH hs3;clear hs3 hb3 s0 s1 s2 s3 HC;go_wp2_with fail;go_ret2
 exact ⟨_,rfl,HS3.out,HF.out⟩
theorem zJk {x:Dlt}:∀ {l:List Dlt} {D:List Tbl},zJj D l=0->zJj D (l++[x])=zJj (zJi D l) [x]/\zJi D (l++[x])=zJi (zJi D l) [x]
 | [],D,_=>⟨rfl,rfl⟩
 | y::l,D,h=>by
  rw [List.cons_append];unfold zJj at h
  split at h
  ·cases h
  rename_i hy
  split at h
  ·rename_i h2
   have ih:=zJk (x:=x) h
   have e1:zJi D (y::l)=zJi (zHc D y.1.toNat y.2) l:=by rw [zJi,if_neg hy,if_pos h2]
   rw [e1];refine ⟨?_,?_⟩
   ·rw [zJj,if_neg hy,if_pos h2];exact ih.1
   rw [zJi,if_neg hy,if_pos h2];exact ih.2
  rename_i h2;exact absurd h h2
theorem zJp {D:List Tbl} {x:Dlt} (hx:x.2≠[]) (h:zHd D x.1.toNat x.2=0):zJj D [x]=0/\zJi D [x]=zHc D x.1.toNat x.2:=by
 refine ⟨?_,?_⟩
 ·rw [zJj,if_neg hx,if_pos h];rfl
 rw [zJi,if_neg hx,if_pos h];rfl
theorem zJr {D:List Tbl} {x:Dlt} (h:zJj D [x]=0):x.2≠[]/\zHd D x.1.toNat x.2=0/\zJi D [x]=zHc D x.1.toNat x.2:=by
 unfold zJj at h
 split at h
 ·cases h
 rename_i hx
 split at h
 ·rename_i h2;exact ⟨hx,h2,(zJp hx h2).2⟩
 rename_i h2;exact absurd h h2
theorem zJq {D:List Tbl} {x:Dlt} (h:zJj D [x]≠0):x.2=[]\/zHd D x.1.toNat x.2≠0:=by
 by_cases hx:x.2=[]
 ·exact .inl hx
 exact .inr fun h2=>h (zJp hx h2).1
theorem zJs:∀ {l:List Dlt} {D:List Tbl} {k:Nat} (hk:k<l.length),zJj D l=0->l[k].2≠[]/\zHd (zJi D (l.take k)) l[k].1.toNat l[k].2=0/\zJi D (l.take (k+1))=zHc (zJi D (l.take k)) l[k].1.toNat l[k].2
 | y::l,D,k,hk,h=>by
  unfold zJj at h
  split at h
  ·cases h
  rename_i hy
  split at h
  ·rename_i h2
   cases k with
   | zero =>
    refine ⟨hy,h2,?_⟩
    show zJi D [y]=zHc D y.1.toNat y.2
    exact (zJp hy h2).2
   | succ k =>
    have ih:=zJs (k:=k) (by rw [List.length_cons] at hk;omega) h
    have e:∀ m,zJi D ((y::l).take (m+1))=zJi (zHc D y.1.toNat y.2) (l.take m):=fun m=>by
     rw [List.take_succ_cons,zJi,if_neg hy,if_pos h2]
    rw [e,e,List.getElem_cons_succ];exact ih
  rename_i h2;exact absurd h h2
theorem zUy {T:List zGg} (h:Srt T) {r:zGg} (hr:r∈T):sem T r.1=r.2:=by
 induction T with
 | nil=>cases hr
 | cons x T ih =>
  have hp:=List.pairwise_cons.1 h;have hn:=List.nodup_cons.1 (zWe h)
  rcases List.mem_cons.1 hr with rfl|hr
  ·rw [sem,if_pos rfl,zVa fun y hy e=>hn.1 (List.mem_map.2 ⟨y,hy,e⟩)];omega
  rw [sem,if_neg fun e=>hn.1 (List.mem_map.2 ⟨r,hr,e.symm⟩),ih hp.2 hr];omega
theorem sem_bd {T:List zGg} (h:Srt T) {lo hi:Int} (hb:∀ r∈T,lo<=r.2/\r.2<=hi) (h0:lo<=0) (h1:0<=hi) (k:List ByteArray):lo<=sem T k/\sem T k<=hi:=by
 by_cases hk:∃ r∈T,r.1=k
 ·obtain ⟨r,hr,rfl⟩:=hk;rw [zUy h hr];exact hb r hr
 rw [zVa fun r hr e=>hk ⟨r,hr,e⟩];exact ⟨h0,h1⟩
theorem zUz (f:Int) (T:List zGg) (k:List ByteArray):sem (mulT f T) k=f*sem T k:=by
 unfold mulT
 induction T with
 | nil=>simp [sem]
 | cons r T ih =>
  rw [List.map_cons,sem,sem,ih,Int.mul_add]
  congr 1
  split<;>simp
theorem mulT_srt {f:Int} {T:List zGg} (h:Srt T):Srt (mulT f T):=by
 unfold mulT Srt;rw [List.pairwise_map];exact h
theorem mulT_nz {T:List zGg} (h:NZ T):NZ (mulT (-1) T):=fun r hr=>by
 obtain ⟨x,hx,rfl⟩:=List.mem_map.1 hr;have:=h x hx
 show -1*x.2≠0
 omega
section
variable {S:zFv} {D E:List Tbl} {A B:Tbl} {rel k:Nat}
theorem zUw (A B:Tbl) (k:List ByteArray):sem (zIs A B) k=sem B k-sem A k:=by
 unfold zIs;rw [zVb,zUv,zUz];omega
theorem btw_back (A B:Tbl):zIs B A=mulT (-1) (zIs A B) :=
 zQq (mulT_srt (zQr _)) (mulT_nz (zQp _)) fun k=>by
  rw [zUv,zUz,zUz]
  show -1*sem B k+sem A k = -1*sem (zIs A B) k
  rw [zUw];omega
theorem zIk (D E:List Tbl) (k:Nat):zIj E D k=(zIj D E k).map fun x=>(x.1,mulT (-1) x.2):=by
 induction k with
 | zero=>rfl
 | succ k ih =>
  rw [zIj,zIj,List.map_append,ih,btw_back (D.getD k []) (E.getD k [])]
  congr 1
  by_cases h:zIs (D.getD k []) (E.getD k [])=[]
  ·rw [h];rfl
  rw [if_neg h,if_neg (by unfold mulT;exact fun e=>h (List.map_eq_nil_iff.1 e))];rfl
theorem zGh.mulT {at1:List (ByteArray × Int)} {xs:List Nat} (f:Int) (h:zGh at1 xs A):zGh at1 xs (mulT f A):=fun r hr=>by
 obtain ⟨x,hx,rfl⟩:=List.mem_map.1 hr;exact h x hx
theorem zIx (hA:zGi S rel A) (hB:zGi S rel B):zGi S rel (zIs A B):=⟨hA.lt,((hA.g.mulT _).append hB.g).norm,zQr _,zQp _⟩
theorem zIu (A B:Tbl):(zIs A B).length<=A.length+B.length:=by
 have:=zQo (Go.Proofs.YtafflnognagadaaGreatDoor.mulT (-1) A++B);rw [List.length_append,zQc] at this;exact this
theorem zIy (hA:Srt A) (hB:Srt B) (h1:∀ r∈A,1<=r.2/\r.2<=100) (h2:∀ r∈B,1<=r.2/\r.2<=100):∀ r∈zIs A B, -100<=r.2/\r.2<=100:=fun r hr=>by
 have e:=zUy (zQr (Go.Proofs.YtafflnognagadaaGreatDoor.mulT (-1) A++B)) hr;have e2:sem (zIs A B) r.1=r.2:=e;rw [zUw] at e2;have a1:=sem_bd hA (lo:=0) (hi:=100) (fun r hr=>by have:=h1 r hr;omega) dCx dCx r.1;have a2:=sem_bd hB (lo:=0) (hi:=100) (fun r hr=>by have:=h2 r hr;omega) dCx dCx r.1;omega
theorem zIv (hB:Srt B) (hz:NZ B):norm (A++zIs A B)=B:=zQq hB hz fun k=>by
 rw [zUv,zUw];omega
theorem zLr {low:Int} {T:Tbl} (h:∀ r∈T,low<=r.2/\r.2<=100):zLo low T=0:=by
 unfold zLo;rw [if_neg]
 intro e
 obtain ⟨r,hr,hb⟩:=List.any_eq_true.1 e;have:=h r hr;unfold zHv at hb;rw [Bool.or_eq_true,decide_eq_true_eq,decide_eq_true_eq] at hb;omega
theorem any_okI {T:Tbl} (h:∀ r∈T,0<=r.2/\r.2<=100):T.any (zHv 0)=false:=by
 have:=zLr h;unfold zLo at this
 cases he:T.any (zHv 0) with
 | false=>rfl
 | true=>rw [he] at this;cases this
theorem zIt {W:List Tbl} (hA:zGi S rel A) (hB:zGi S rel B) (hl:B.length<=60) (h1:∀ r∈A,1<=r.2/\r.2<=100) (h2:∀ r∈B,1<=r.2/\r.2<=100) (hW:W.getD rel []=A):zHd W rel (zIs A B)=0/\zHc W rel (zIs A B)=W.set rel B:=by
 have e:zQh W rel (zIs A B)=B:=by unfold zQh;rw [hW];exact zIv hB.srt hB.nz
 have:=zKn (D:=W) (rel:=rel) (T:=zIs A B) (zLr (zIy hA.srt hB.srt h1 h2)) (by rw [e];exact any_okI fun r hr=>by have:=h2 r hr;omega) (by rw [e];omega);rw [e] at this;exact this
theorem btw_dlt (hok:zFu S) (hA:zGi S rel A) (hB:zGi S rel B) (la:A.length<=60) (lb:B.length<=60) (h1:∀ r∈A,1<=r.2/\r.2<=100) (h2:∀ r∈B,1<=r.2/\r.2<=100):DltK S ((rel:Int),zIs A B) :=
 ⟨⟨rel,rfl,zIx hA hB⟩,by have:=zIu A B;show (zIs A B).length<=120;omega,(zIx hA hB).lit hok (by have:=zIu A B;omega) (zLr (zIy hA.srt hB.srt h1 h2))⟩
theorem DbK.getD (h:DbK S D) {i:Nat} (hi:i<D.length):zGi S i (D.getD i [])/\(D.getD i []).length<=60/\∀ r∈D.getD i [],1<=r.2/\r.2<=100:=by
 rw [List.getD_eq_getElem?_getD,List.getElem?_eq_getElem hi];exact h.tab i hi
theorem zIo {x:Dlt} (h:x∈zIj D E k):∃ i:Nat,x.1=(i:Int)/\i<k/\x.2=zIs (D.getD i []) (E.getD i [])/\x.2≠[]:=by
 induction k with
 | zero=>cases h
 | succ k ih =>
  rw [zIj] at h
  rcases List.mem_append.1 h with h|h
  ·obtain ⟨i,e,hi,h2⟩:=ih h;exact ⟨i,e,oMx,h2⟩
  split at h
  ·cases h
  rename_i hn
  rw [List.mem_singleton] at h;subst h;exact ⟨k,rfl,oMx,rfl,hn⟩
theorem btwN_asc (D E:List Tbl) (k:Nat):(zIj D E k).Pairwise fun a b=>a.1<b.1:=by
 induction k with
 | zero=>exact .nil
 | succ k ih =>
  rw [zIj];refine List.pairwise_append.2 ⟨ih,by split<;>simp,fun a ha b hb=>?_⟩;obtain ⟨i,e,hi, -⟩:=zIo ha
  split at hb
  ·cases hb
  rw [List.mem_singleton] at hb;subst hb
  show a.1<(k:Int)
  omega
theorem zIl (hok:zFu S) (hD:DbK S D) (hE:DbK S E) (hk:k<=D.length):zAg S (zIj D E k):=by
 have hl:E.length=D.length:=hE.len.trans hD.len.symm;refine ⟨fun x hx=>?_,btwN_asc D E k,by have:=zIn D E k;have:=hD.len;have:=hok.fine.r2;omega⟩;obtain ⟨i,e,hi,e2, -⟩:=zIo hx;have a:=hD.getD (i:=i) oMx;have b:=hE.getD (i:=i) oMx;have:=btw_dlt hok a.1 b.1 a.2.1 b.2.1 a.2.2 b.2.2;rw [<-e2,<-e] at this;exact this
theorem zIm (hD:DbK S D) (hE:DbK S E):∀ {k:Nat},k<=D.length->zJj D (zIj D E k)=0/\(zJi D (zIj D E k)).length=D.length/\∀ i,(zJi D (zIj D E k)).getD i []=if i<k then E.getD i [] else D.getD i []
 | 0,_=>⟨rfl,rfl,fun i=>rfl⟩
 | k+1,hk=>by
  have hl:E.length=D.length:=hE.len.trans hD.len.symm;obtain ⟨h1,h2,h3⟩:=zIm hD hE (k:=k) oMx;have a:=hD.getD (i:=k) oMx;have b:=hE.getD (i:=k) oMx;have hg:=h3 k;rw [if_neg oMx] at hg;have hap:=zIt a.1 b.1 b.2.1 a.2.2 b.2.2 hg;rw [zIj]
  by_cases hn:zIs (D.getD k []) (E.getD k [])=[]
  ·have heq:D.getD k []=E.getD k []:=by
    have h5:=zIv (A:=D.getD k []) b.1.srt b.1.nz;rw [hn,List.append_nil,zQm a.1.srt a.1.nz] at h5;exact h5
   rw [if_pos hn,List.append_nil];refine ⟨h1,h2,fun i=>?_⟩;rw [h3]
   by_cases hi:i<k
   ·rw [if_pos hi,if_pos oMx]
   rw [if_neg hi]
   split
   ·obtain rfl:i=k:=by omega
    exact heq
   rfl
  rw [if_neg hn];have hs:=zJk (x:=((k:Int),zIs (D.getD k []) (E.getD k []))) h1;have ho:=zJp (D:=zJi D (zIj D E k)) (x:=((k:Int),zIs (D.getD k []) (E.getD k []))) hn (by show zHd _ (k:Int).toNat _=0;rw [Int.toNat_natCast];exact hap.1);rw [hs.1,hs.2,ho.2]
  show _/\(zHc _ (k:Int).toNat _).length=_/\∀ i,(zHc _ (k:Int).toNat _).getD i []=_
  rw [Int.toNat_natCast,hap.2];refine ⟨ho.1,by rw [List.length_set];exact h2,fun i=>?_⟩;rw [List.getD_eq_getElem?_getD,List.getElem?_set]
  by_cases hi:k=i
  ·subst hi;rw [if_pos rfl,if_pos oMx,if_pos oMx]
   rfl
  rw [if_neg hi,<-List.getD_eq_getElem?_getD,h3]
  by_cases h6:i<k
  ·rw [if_pos h6,if_pos oMx]
  rw [if_neg h6,if_neg oMx]
theorem getD_ext {D E:List Tbl} (hl:D.length=E.length) (h:∀ i,D.getD i []=E.getD i []):D=E:=by
 refine List.ext_getElem hl fun i h1 h2=>?_
 have:=h i;rw [List.getD_eq_getElem?_getD,List.getD_eq_getElem?_getD,List.getElem?_eq_getElem h1,List.getElem?_eq_getElem h2] at this;exact this
theorem zIr (hD:DbK S D) (hE:DbK S E):zJj D (zIj D E D.length)=0/\zJi D (zIj D E D.length)=E:=by
 have hl:E.length=D.length:=hE.len.trans hD.len.symm;obtain ⟨h1,h2,h3⟩:=zIm hD hE lRx;refine ⟨h1,getD_ext oMx fun i=>?_⟩;rw [h3]
 split
 ·rfl
 rw [List.getD_eq_getElem?_getD,List.getD_eq_getElem?_getD,List.getElem?_eq_none oMx,List.getElem?_eq_none oMx]
theorem zQl (S:zFv):DbK S (List.replicate S.rs.length []):=⟨List.length_replicate,fun i hi=>by
 rw [List.getElem_replicate]
 exact ⟨⟨by rw [List.length_replicate] at hi;exact hi,(fun _ h=>by cases h),.nil,(fun _ h=>by cases h)⟩,dCx,fun _ h=>by cases h⟩⟩
theorem zIw (hs:Srt A) (hz:NZ A):zIs [] A=A:=zQm hs hz
end
section
variable {S:zFv} {D E:List Tbl} {l:List Dlt} {k:Nat}
theorem zJl:∀ {l:List Dlt} {D:List Tbl} (k:Nat),zJj D l=0->zJj D (l.take k)=0
 | [],D,k,_=>by rw [List.take_nil];rfl
 | y::l,D,0,_=>rfl
 | y::l,D,k+1,h=>by
  unfold zJj at h
  split at h
  ·cases h
  rename_i hy
  split at h
  ·rename_i h2
   rw [List.take_succ_cons,zJj,if_neg hy,if_pos h2];exact zJl k h
  rename_i h2;exact absurd h h2
theorem zAg.take (h:zAg S l) (k:Nat):zAg S (l.take k):=⟨fun x hx=>h.all x (List.mem_of_mem_take hx),h.asc.sublist (List.take_sublist _ _),by rw [List.length_take];have:=h.len;omega⟩
theorem zTi (n k:Nat):(List.replicate n ([]:Tbl)).getD k []=[]:=by
 rw [List.getD_eq_getElem?_getD,List.getElem?_replicate]
 split<;>rfl
theorem zHw (n:Nat) (hD:DbK S D) (hk:k<D.length) (h:D[k]=[]):zIj (List.replicate n []) D (k+1)=zIj (List.replicate n []) D k:=by
 rw [zIj,zTi,List.getD_eq_getElem?_getD,List.getElem?_eq_getElem hk,Option.getD_some,h];rw [if_pos (zIw (A:=[]) .nil (fun _ h=>by cases h)),List.append_nil]
theorem zHx (n:Nat) (hD:DbK S D) (hk:k<D.length) (h:D[k]≠[]):zIj (List.replicate n []) D (k+1)=zIj (List.replicate n []) D k++[((k:Int),D[k])]:=by
 have e:=zIw (hD.tab k hk).1.srt (hD.tab k hk).1.nz;rw [zIj,zTi,List.getD_eq_getElem?_getD,List.getElem?_eq_getElem hk,Option.getD_some,e,if_neg h]
end
theorem btwN_wt {S:zFv} {D E:List Tbl} (hD:DbK S D) (hE:DbK S E) {x:Dlt} (h:x∈zIj D E D.length):∀ r∈x.2, -100<=r.2/\r.2<=100:=by
 obtain ⟨i, -,hi,e, -⟩:=zIo h;have hl:E.length=D.length:=hE.len.trans hD.len.symm;have a:=hD.getD (i:=i) hi;have b:=hE.getD (i:=i) oMx;rw [e];exact zIy a.1.srt b.1.srt a.2.2 b.2.2
end Go.Proofs.YtafflnognagadaaGreatDoor
