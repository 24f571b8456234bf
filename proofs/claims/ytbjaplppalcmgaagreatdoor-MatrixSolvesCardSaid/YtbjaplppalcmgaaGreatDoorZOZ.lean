import Derived.Test.YtbjaplppalcmgaaGreatDoorZOW
import Derived.Deep.Slices
set_option maxHeartbeats 16000000
set_option maxRecDepth 100000
set_option linter.unusedVariables false
set_option linter.unusedSimpArgs false
set_option linter.unusedSectionVars false
namespace Go.Proofs.YtbjaplppalcmgaaGreatDoor
open Go.RowKit
theorem REq_of (A A':oAx) (rs rs':List zGh) (c c':Nat) (w:World) (h:zCj w A rs) (h':zCj w A' rs') (he:rs.map (·.ss)=rs'.map (·.ss)) (hm:rs.length<=1000) (hn:∀ r∈rs,r.ss.length<=1000) :
  Calls Tryz.prog 24 #[.slice A rs.length c,.slice A' rs'.length c'] w fun e w'=>e = .returned (.bool true)/\Below w.heap.size w w':=by
 obtain ⟨m,hM⟩:=eXx (rs.length)
 have hM':rs'.length=m:=by
  have:=congrArg List.length he;rw [List.length_map,List.length_map] at this;omega
 rw [hM,hM'];have HM:=oH h;have HM':=oH h';have HL:=oH hM;have HL':=oH hM';have HN:=oH hn
 have HEE:=oH (fun i (h1:i<rs.length) (h2:i<rs'.length)=>(show rs'[i].ss=rs[i].ss from by
  have e1:=congrArg (fun l=>l[i]?) he;simp only [List.getElem?_map,List.getElem?_eq_getElem h1,List.getElem?_eq_getElem h2,Option.map_some,Option.some.injEq] at e1
  exact e1.symm))
 rw [hM] at hm;clear h h' he hM hM' hn
 have hnn:((m:Int) != (m:Int))=false:=by simp
 go_enter Tryz.func24,Tryz.ntmps24
 go_wp2_with fail;clear hnn
 go_loopw [13] (fun iv wr=>∃ i:Nat,iv = .int .i64 (i:Int)/\i<=m/\Below w.heap.size w wr) (fun iv _=>m-(intOf iv).toNat)
 ·exact ⟨0,rfl,oLx,bRx⟩
 obtain ⟨i,rfl,hi,hbw⟩:=hrel;obtain ⟨wk,rfl⟩:=nWx wr;have HBW:=oH hbw
 by_cases hlt:i<m
 ·have hi1:i<rs.length:=by rw [HL.out];exact hlt
  have hi2:i<rs'.length:=by rw [HL'.out];exact hlt
  obtain ⟨b,off,rfl,hb,hc⟩:=HM.some (by intro e;subst e;simp at hi1);obtain ⟨b',off',rfl,hb',hc'⟩:=HM'.some (by intro e;subst e;simp at hi2);have c0:=(hbw.cell (p:=⟨b,off+i,none⟩) hb).trans (hc i hi1);have c1:=(hbw.cell (p:=⟨b',off'+i,none⟩) hb').trans (hc' i hi2);have hs1:=(HM.i _ (List.getElem_mem hi1)).below hbw;have hs2:=(HM'.i _ (List.getElem_mem hi2)).below hbw;have hee:=HEE.out i hi1 hi2;have hn1:=HN.out _ (List.getElem_mem hi1);rw [hee] at hs2 c1
  have HSM:=oH (fun W (hW:Below wk.heap.size wk W)=>(show Calls Tryz.prog 15 #[.slice rs[i].ad rs[i].ss.length rs[i].cp,.slice rs'[i].ad rs[i].ss.length rs'[i].cp] W (fun e w'=>e = .returned (.bool true)/\Below W.heap.size W w') from by
   have:=zGi rs[i].ad rs'[i].ad rs[i].ss rs[i].ss rs[i].cp rs'[i].cp W (hs1.below hW) (hs2.below hW) hn1 hn1;rw [decide_eq_true rfl] at this
   exact this))
  generalize rs[i].ad=ad at *;generalize rs'[i].ad=ad' at *;generalize rs[i].cp=cp at *;generalize rs'[i].cp=cp' at *;generalize rs[i].ss.length=n at *;have KB:=oH (fun W' (hW:Below wk.heap.size wk W')=>(show W'.cell? ⟨b,off+i,none⟩=some (.slice ad n cp)/\W'.cell? ⟨b',off'+i,none⟩=some (.slice ad' n cp') from ⟨kP hW c0,kP hW c1⟩));have HWz:=oH (show Below wk.heap.size wk wk.drew from bRx.drew);have KSz:=oH (KB.out _ HWz.out)
  have x1:(0:Int)<=(i:Int):=by omega
  have x2:(i:Int)<(m:Int):=by omega
  clear hc hc' hs1 hs2 hee hbw c0 c1 hn1;go_wp2_with fail;refine wp_region_held_drew (S:=(fun w'=>w'.cell? ⟨b,off+i,none⟩=some (.slice ad n cp)/\w'.cell? ⟨b',off'+i,none⟩=some (.slice ad' n cp'))) (by kernel_rfl) (by exact KSz.out) (fun hHeld=>?_);refine tkH 0 ?_;refine tkH 1 ?_;refine tkH 2 ?_;refine tkH 3 ?_;refine tkH 4 ?_;refine tkH 5 ?_;refine tkH 6 ?_;refine tkH 7 ?_
  try simp only [Act.put,tkA,tkB,tkC]
  refine tkS 8 fun K hK=>?_
  go_simp
  (go_at_call 15;(with_reducible refine (HSM.out _ HWz.out).mono ?_);rintro e wa ⟨rfl,hb⟩;have hw:=HWz.out.trans (hb.mono HWz.out.size);have HWa:=oH hw;have KSa:=oH (KB.out wa hw);clear hb hw)
  go_wp2_with fail;refine hK.out _ _ ?_ (fun hHeld=>?_)
  ·with_reducible exact KSa.out
  clear hK K
  try simp only [Act.put,tkA,tkB,tkC]
  refine tkH 9 ?_
  try simp only [Act.put,tkA,tkB,tkC]
  refine wpAnyH_done (by kernel_rfl) ?_ _;go_wp2_with fail;go_roundw
  ·exact ⟨i+1,by go_num,oMx,HBW.trans (HWa.mono HBW.size)⟩
  simp [intOf];omega
 clear hbw;go_wp2_with fail;go_ret
 exact ⟨rfl,HBW.out⟩
theorem xFy {P:Program} {w:World} {ops:Array Oper} {rest:List Oper} {o:Oper} {a:Act} {Q:Exit->Act->World->Prop} (hgd:o.guard=none) (s x:Operand) (t:TypeId)
  (ho:o.op = .call { callee := .builtin .append,args:=#[s,x],argTypes:=#[t,t] }) (e:TypeId) (i:TypeInfo) (ht:P.underlying t=some (.slice e)) (hi:P.info? e=some i)
  (hs:a.eval s = .slice none 0 0) (ad:oAx) (cp:Nat) (hx:a.eval x = .slice ad 0 cp) (h:wpList P ops Q rest (a.put o.dst (.slice none 0 0)) w):wpList P ops Q (o::rest) a w:=by
 refine wpList_plain hgd fun K hK=>?_
 have hrun:(Builtin.append_ #[t,t] o.type #[.slice none 0 0,.slice ad 0 cp]).run P w = .ok (.slice none 0 0) w:=by
  cases ad<;>simp [Builtin.append_,run_underlying ht,sizeOf,typeInfo,hi,Builtin.lenOf,Builtin.firstCells,loadCells,loadCellsFrom]
 unfold Oper.wp
 simp [execOp,ho,resolve,invoke,builtin,hs,hx,hrun,Result.andThen]
 exact hK _ _ h
structure Sh4 (rs:List zGh):Prop where
 m:rs.length<=4
 n:∀ r∈rs,r.ss.length<=4
 t:∀ r∈rs,∀ s∈r.ss,s.size<=30
def zFk (B b:Nat) (w:World) (e:Ending) (w':World):Prop:=∃ A c rs,e = .returned (.slice A rs.length c)/\zHe B w' (.slice A rs.length c) rs/\Sht rs/\Src w' b/\w.grownBy w' (some b)
theorem zZy {q:Rat} (h:zAl 1 q):(zXl q).size<=30:=by
 have hl:∀ x:Int,Dig 1 x->(Lib.itoa x).length<=2:=fun x hx=>by
  have h1:=zOy x;rw [Lib.decDigits_length] at h1;have h2:=zSg 0 x.natAbs hx;omega
 rw [zXr];unfold zXu;have h1:=hl _ h.1;have h2:=hl _ h.2
 split
 ·omega
 rw [List.length_append,List.length_cons];omega
theorem zGx.take {w:World} {A:oAx} {ss:List ByteArray} (h:zGx w A ss) (k:Nat):zGx w A (ss.take k):=fun hn=>by
 obtain ⟨b,off,e,hl,hc⟩:=h (fun e=>hn (by rw [e];simp))
 exact ⟨b,off,e,hl,fun i hi=>by
  rw [hc i (by simp at hi;omega)]
  simp⟩
theorem zGf.take {B:Nat} {w:World} {A:oAx} {ss:List ByteArray} (h:zGf B w A ss) (k:Nat):zGf B w A (ss.take k):=⟨h.s.take k,h.lo⟩
structure BentS (B b:Nat) (w W:World) (rs:List zGh) (g cg:Nat) (A:oAx) (c:Nat) (ts:List ByteArray):Prop where
 top:zHe B W (.slice (some ⟨g,0,none⟩) rs.length cg) rs
 row:zGf B W A ts
 few:ts.length<=14/\∀ s∈ts,s.size<=30
 src:Src W b
 gr:w.grownBy W (some b)
 gw:w.heap.size<=g
theorem BentS.done {B b g cg c i:Nat} {w W:World} {rs:List zGh} {A:oAx} {ts:List ByteArray} (h:BentS B b w W rs g cg A c ts) (hb:b<w.heap.size) (hi:i<rs.length) (hs:Sh4 rs):zFk B b w (.returned (.slice (some ⟨g,0,none⟩) rs.length cg)) (W.setCell ⟨g,i,none⟩ (.slice A ts.length c)):=by
 have hl:(rs.set i ⟨A,c,ts⟩).length=rs.length:=List.length_set;refine ⟨some ⟨g,0,none⟩,cg,rs.set i ⟨A,c,ts⟩,by rw [hl],by rw [hl];exact h.top.set hi (r:=⟨A,c,ts⟩) h.row,⟨by rw [hl];exact Nat.le_trans hs.m dCx,fun r hr=>?_,fun r hr=>?_⟩,?_,?_⟩
 ·rcases List.mem_or_eq_of_mem_set hr with h1|rfl
  ·exact Nat.le_trans (hs.n r h1) dCx
  exact h.few.1
 ·rcases List.mem_or_eq_of_mem_set hr with h1|rfl
  ·exact hs.t r h1
  exact h.few.2
 ·have hbel:Below w.heap.size W (W.setCell ⟨g,i,none⟩ (.slice A ts.length c)):=bRx.setCell (p:=⟨g,i,none⟩) h.gw _;exact h.src.above hbel.size (fun k hk=>hbel.block k oMx)
 have hbel:Below w.heap.size W (W.setCell ⟨g,i,none⟩ (.slice A ts.length c)):=bRx.setCell (p:=⟨g,i,none⟩) h.gw _;exact ⟨hbel.os.trans h.gr.os,hbel.tape.trans h.gr.tape,hbel.output.trans h.gr.output,Nat.le_trans h.gr.size hbel.size,fun k hk hne=>(hbel.block k hk).trans (h.gr.block k hk hne)⟩
theorem Bent_any (B b:Nat) (A:oAx) (c:Nat) (rs:List zGh) (w:World) (h:zHe B w (.slice A rs.length c) rs) (hs4:Sh4 rs) (hs:Src w b) (hbB:b<B) (hB:B<=w.heap.size) :
  Calls Tryz.prog 11 #[.pointer (some ⟨b,0,none⟩),.slice A rs.length c] w (zFk B b w):=by
 obtain ⟨i0,hi,hz0,hz1,hz2⟩:=info_parts Tryz.infoRats;obtain ⟨j0,hj,hy0,hy1,hy2⟩:=info_parts Tryz.infoRat;generalize hQ:zFk B b w=Q;replace hQ:=oH hQ;have HS:=oH hs;have HT:=oH h;have HS4:=oH hs4;have hbw:=hs.lt;have hm4:=hs4.m;clear h hs4 hs
 go_enter Tryz.func11,Tryz.ntmps11
 rcases Nat.eq_zero_or_pos rs.length with h0|h0
 ·obtain rfl:rs=[]:=List.eq_nil_of_length_eq_zero h0;clear h0 hm4;simp only [List.length_nil]
  go_wp2_with (at_builtin;refine xFy rfl _ _ 24 rfl 25 i0 Tryz.underlying24 hi rfl A c rfl ?_)
  go_wp2_with fail;refine (zCn b 3 w HS.out dCx dCx).mono ?_;rintro e w2 ⟨r,rfl,hr,hs2,hg2⟩;have HG2:=oH hg2;have HR:=oH (zFe b r w2 hs2 oMx)
  have hr3:r<=2:=by omega
  clear hs2 hg2 hr;go_wp2_with fail;refine HR.mono ?_;rintro e w3 ⟨v3,qs,rfl,hql,hqs,hown3,hs3,hg3⟩;have HS3:=oH hs3;have HG3:=oH (zOe HG2.out hg3);obtain ⟨A3,c3,rfl, -⟩:=zUj hown3;have HO3:=oH (zGf.of_own (zUl hown3 (show w.heap.size<=w2.heap.size from HG2.size)));have HQL:=oH hql
  have HQS:=oH (fun s (hs:s∈qs.map zXl)=>(show s.size<=30 by
   obtain ⟨q,hq,rfl⟩:=List.mem_map.1 hs
   exact zZy (hqs q hq).dig))
  have hz3:=HG3.size;have HLN:=oH (show (qs.map zXl).length<=14 by rw [List.length_map,hql];omega);clear hs3 hg3 hown3 hqs hql;generalize qs.map zXl=ts at *
  go_wp2_with (at_builtin;refine wpList_append_own _ rfl _ _ 24 rfl w.heap.size 25 i0 (.slice none 0 0) 1 24 Tryz.underlying24 hi hz0 hz1 hz2 rfl dCx _ _ _ rfl (World.ownsRow_nil _ _ _ _) ⟨w3.heap.size,0,none⟩ 1 1 [_] rfl rfl zTu zZu (by unfold maxLen;omega) oMx (by simp;omega) ?_)
  intro v' w6 hown6 hgrow6 _
  obtain ⟨A6,c6,rfl, -⟩:=zUj hown6;have hbel:Below w3.heap.size w3 w6:=zIl (V := .slice none 0 0) bRx lRx hgrow6 (fun k hk=>by cases hk)
  have HF:=oH (show zFk B b w (.returned (.slice A6 1 c6)) w6 from ⟨A6,c6,[⟨A3,c3,ts⟩],rfl,⟨zUl hown6 hB,fun r hr=>by
   rw [List.mem_singleton] at hr;subst hr
   exact (HO3.mono hB).below hbel⟩,⟨(show 1<=5 by decide),fun r hr=>by rw [List.mem_singleton] at hr;subst hr;exact HLN.out,fun r hr=>by rw [List.mem_singleton] at hr;subst hr;exact HQS.out⟩,HS3.below hbel,zOa HG3.out hbel⟩)
  clear hown6 hgrow6 hbel;go_wp2_with fail;rw [<-hQ.out];exact HF.out
 obtain ⟨gA,rfl⟩:=zUi HT.o h0;have HNW:=oH HT.news
 go_wp2_with (at_builtin;refine wpList_append_own _ rfl _ _ 24 rfl w.heap.size 25 i0 (.slice none 0 0) 1 24 Tryz.underlying24 hi hz0 hz1 hz2 rfl dCx _ _ _ rfl (World.ownsRow_nil _ _ _ _) ⟨gA,0,none⟩ rs.length c (zXe rs) rfl (by rw [zXg,Nat.mul_one]) HNW.out rowt_one (by unfold maxLen;omega) oMx lRx ?_)
 intro v1 w1 hown1 hgrow1 _
 try rw [Nat.zero_add,List.nil_append] at hown1
 obtain ⟨A1,c1,rfl, -⟩:=zUj hown1;obtain ⟨g,rfl⟩:=zUi hown1 h0;have hb1:Below w.heap.size w w1:=zIp hgrow1;have HT1:=oH (zHe.copy (c:=c) (g:=g) (e:=0) (fun r hr=>HT.i r hr) hB hown1 hb1);have hg0:w.heap.size<=g:=(hown1.lt g rfl).1;have HS1:=oH (HS.below hb1);have HG1:=oH (zOb hb1 (some b))
 have x1:((rs.length:Int)==0)=false:=by rw [beq_eq_false_iff_ne];omega
 clear hown1 hgrow1 hb1;go_wp2_with fail;refine (zCn b (rs.length:Int) w1 HS1.out oMx oMx).mono ?_;rintro e w2 ⟨i,rfl,hi2,hs2,hg2⟩
 have hil:i<rs.length:=by omega
 have ht2:=HT1.grown hg2 hbB;have HG2:=oH (zOe HG1.out hg2);have hsz2:=HG2.size;have HS2:=oH hs2;have HT2:=oH ht2;have ci:=(ht2.top hil).1;have HRI:=oH (ht2.i _ (List.getElem_mem hil));have hrl:=HS4.n _ (List.getElem_mem hil);have HRT:=oH (HS4.t _ (List.getElem_mem hil));have HMK:=oH (fun (W:World) (A:oAx) (c:Nat) (ts:List ByteArray) (hg:w2.grownBy W (some b)) (hr:zGf B W A ts) (hf:ts.length<=14/\∀ s∈ts,s.size<=30) (hs:Src W b)=>(show BentS B b w W rs g c1 A c ts from ⟨HT2.grown hg hbB,hr,hf,hs,zOe HG2.out hg,hg0⟩))
 have i1:(0:Int)<=(i:Int):=by omega
 have i2:(i:Int)<(rs.length:Int):=by omega
 clear hs2 hg2 ht2;generalize rs[i].ad=ad at *;generalize rs[i].cp=cp at *;generalize rs[i].ss=ss at *
 rcases Nat.eq_zero_or_pos ss.length with hn0|hn0
 ·rw [hn0] at ci;clear HRI HRT hn0
  go_wp2_with (at_builtin;refine xFy rfl _ _ 25 rfl 43 j0 Tryz.underlying25 hj rfl ad cp rfl ?_)
  go_wp2_with fail;refine (zCn b 2 w2 HS2.out dCx dCx).mono ?_;rintro e w3 ⟨r,rfl,hr,hs3,hg3⟩;have hsz3:=hg3.size
  by_cases hr0:r=0
  ·subst hr0
   go_wp2_with (at_builtin;refine wpList_append_own _ rfl _ _ 25 rfl w3.heap.size 43 j0 (.string ⟨#[]⟩) 1 16 Tryz.underlying25 hj hy0 hy1 hy2 rfl dCx _ _ _ rfl (World.ownsRow_nil _ _ _ _) ⟨w3.heap.size,0,none⟩ 1 1 [_] rfl rfl zTu zTv (by unfold maxLen;omega) oMx sMx ?_)
   intro v4 w4 hown4 hgrow4 _
   obtain ⟨A4,c4,rfl, -⟩:=zUj hown4;have hb4:Below w3.heap.size w3 w4:=zIl (V := .slice none 0 0) bRx lRx hgrow4 (fun k hk=>by cases hk);have HBS:=oH (HMK.out w4 A4 c4 [⟨#[49]⟩] (zOa hg3 hb4) (zGf.of_own (zUl hown4 oMx)) ⟨dCx,fun s hs=>by rw [List.mem_singleton] at hs;subst hs;decide⟩ (hs3.below hb4));obtain ⟨q0,q1⟩:=HBS.top.top hil;have HF:=oH (HBS.done hbw hil HS4.out);clear hown4 hgrow4 hb4 hs3 hg3;go_wp2_with fail;rw [<-hQ.out];exact HF.out
  have hr1:((r:Int)==0)=false:=by rw [beq_eq_false_iff_ne];omega
  have HG3:=oH hg3;have HS3:=oH hs3;clear hs3 hg3;go_wp2_with fail;refine (zCn b 1 w3 HS3.out dCx dCx).mono ?_;rintro e w4 ⟨k,rfl,hk,hs4,hg4⟩
  obtain rfl:k=0:=by omega
  have HBS:=oH (HMK.out w4 none 0 [] (zOe HG3.out hg4) (zGf.nil _ _) ⟨dCx,fun s hs=>by cases hs⟩ hs4);obtain ⟨q0,q1⟩:=HBS.top.top hil;have HF:=oH (HBS.done hbw hil HS4.out);clear hs4 hg4;go_wp2_with fail;rw [<-hQ.out];exact HF.out
 obtain ⟨b1,o1,rfl, -, -⟩:=HRI.s (by intro e;subst e;simp at hn0);have HSI:=oH (xBq HRI.s);have HLS:=oH (show (sv ss).length=ss.length*1 by rw [xCg];omega)
 go_wp2_with (at_builtin;refine wpList_append_own _ rfl _ _ 25 rfl w2.heap.size 43 j0 (.string ⟨#[]⟩) 1 16 Tryz.underlying25 hj hy0 hy1 hy2 rfl dCx _ _ _ rfl (World.ownsRow_nil _ _ _ _) ⟨b1,o1,none⟩ ss.length cp (sv ss) rfl HLS.out HSI.out sv_one (by unfold maxLen;omega) oMx lRx ?_)
 intro v3 w3 hown3 hgrow3 _
 try rw [Nat.zero_add,List.nil_append] at hown3
 have hb3:Below w2.heap.size w2 w3:=zIp hgrow3;obtain ⟨A3,c3,rfl,hc3⟩:=zUj hown3;obtain ⟨gl,rfl⟩:=zUi hown3 hn0;have HO3:=oH hown3;have HG3:=oH (zOb hb3 (some b));have HS3:=oH (HS2.below hb3);have hbl2:=HS2.lt
 have x2:decide ((ss.length:Int)>0)=true:=by simp;omega
 clear hown3 hgrow3 hb3 HSI HLS HRI ci;go_wp2_with fail;refine (zCn b 2 w3 HS3.out dCx dCx).mono ?_;rintro e w4 ⟨r,rfl,hr,hs4,hg4⟩;have HS4':=oH hs4;have HG4:=oH (zOe HG3.out hg4);have HO4:=oH (zUq HO3.out hg4 oMx);clear hs4 hg4
 by_cases hr0:r=0
 ·subst hr0;go_wp2_with fail;refine (zCn b (ss.length:Int) w4 HS4'.out oMx oMx).mono ?_;rintro e w5 ⟨k,rfl,hk,hs5,hg5⟩
  have hkl:k<ss.length:=by omega
  have HS5:=oH hs5;have HG5:=oH (zOe HG4.out hg5);have HO5:=oH (zUq HO4.out hg5 oMx);clear hs5 hg5;go_wp2_with fail;refine (zCr b w5 HS5.out).mono ?_;rintro e w6 ⟨s,rfl,hsz,hs6,hg6⟩;have HG6:=oH (zOe HG5.out hg6);have ho6:=zUq HO5.out hg6 oMx;have HO6:=oH ho6;have e0:=(ho6.cellAt k oMx).trans (xCf hkl);have e1:=ho6.frozenAt k
  have k1:(0:Int)<=(k:Int):=by omega
  have hlo:=(ho6.lt gl rfl).1
  have HBS:=oH (HMK.out (w6.setCell ⟨gl,k,none⟩ (.string s)) (some ⟨gl,0,none⟩) c3 (ss.set k s) (by
   have hbel:Below w2.heap.size w6 (w6.setCell ⟨gl,k,none⟩ (.string s)):=bRx.setCell (p:=⟨gl,k,none⟩) hlo _
   exact ⟨hbel.os.trans HG6.os,hbel.tape.trans HG6.tape,hbel.output.trans HG6.output,Nat.le_trans HG6.size hbel.size,fun j hj hne=>(hbel.block j hj).trans (HG6.block j hj hne)⟩) (zGf.of_own (zUl (show (w6.setCell ⟨gl,k,none⟩ (.string s)).ownsRow w2.heap.size 43 1 (.slice (some ⟨gl,0,none⟩) (ss.set k s).length c3) (ss.set k s).length (sv (ss.set k s)) by
    rw [List.length_set,sv_set]
    exact (ho6.stored k _).1) oMx)) ⟨by rw [List.length_set];omega,fun x hx=>by
    rcases List.mem_or_eq_of_mem_set hx with h1|rfl
    ·exact HRT.out x h1
    omega⟩ (by
   have hbel:Below w2.heap.size w6 (w6.setCell ⟨gl,k,none⟩ (.string s)):=bRx.setCell (p:=⟨gl,k,none⟩) hlo _
   exact hs6.above hbel.size (fun j hj=>hbel.block j oMx)))
  obtain ⟨q0,q1⟩:=HBS.top.top hil;have HF:=oH (HBS.done hbw hil HS4.out);rw [List.length_set] at HF;replace HF:=oH HF.out;clear hs6 hg6 ho6;go_wp2_with fail;rw [<-hQ.out];exact HF.out
 have hr1:((r:Int)==0)=false:=by rw [beq_eq_false_iff_ne];omega
 go_wp2_with fail;refine (zCn b 2 w4 HS4'.out dCx dCx).mono ?_;rintro e w5 ⟨r2,rfl,hr2,hs5,hg5⟩;have HS5:=oH hs5;have HG5:=oH (zOe HG4.out hg5);have HO5:=oH (zUq HO4.out hg5 oMx);have hsz5:=HG5.size;clear hs5 hg5
 by_cases hr20:r2=0
 ·subst hr20
  go_wp2_with (at_builtin;refine wpList_append_own _ rfl _ _ 25 rfl w2.heap.size 43 j0 (.string ⟨#[]⟩) 1 16 Tryz.underlying25 hj hy0 hy1 hy2 rfl dCx _ _ _ rfl (HO5.alloc _) ⟨w5.heap.size,0,none⟩ 1 1 [_] rfl rfl zTu zTv (by unfold maxLen;omega) oMx (by simp;omega) ?_)
  intro v6 w6 hown6 hgrow6 _
  obtain ⟨A6,c6,rfl, -⟩:=zUj hown6;obtain ⟨ho6,hk6,hs6,hg6⟩:=xAe HO5.out hsz5 hown6 hgrow6
  have HBS:=oH (HMK.out w6 A6 c6 (ss++[⟨#[49]⟩]) (hg6 w2 (some b) lRx HG5.out) (zGf.of_own (zUl (by rw [List.length_append,List.length_singleton] at ho6 ⊢;exact ho6) oMx)) ⟨by simp;omega,fun x hx=>by
   rcases List.mem_append.1 hx with h1|h1
   ·exact HRT.out x h1
   rw [List.mem_singleton] at h1;subst h1;decide⟩ (HS5.above hs6 (fun j hj=>hk6 j oMx)))
  obtain ⟨q0,q1⟩:=HBS.top.top hil;have HF:=oH (HBS.done hbw hil HS4.out);rw [List.length_append,List.length_singleton] at HF;replace HF:=oH HF.out;clear hown6 hgrow6 ho6 hk6 hs6 hg6;go_wp2_with fail;rw [<-hQ.out];exact HF.out
 have hr3:((r2:Int)==0)=false:=by rw [beq_eq_false_iff_ne];omega
 have hw:IntKind.i64.wrap ((ss.length:Int)+1)=(ss.length:Int)+1:=IntWalk.i64_in _ oMx;go_wp2_with fail;refine (zCn b ((ss.length:Int)+1) w5 HS5.out oMx oMx).mono ?_;rintro e w6 ⟨k,rfl,hk,hs6,hg6⟩
 have hkl:k<=ss.length:=by omega
 have ho6:=zUq HO5.out hg6 oMx;have HBS:=oH (HMK.out w6 (some ⟨gl,0,none⟩) c3 (ss.take k) (zOe HG5.out hg6) ((zGf.of_own (zUl ho6 oMx)).take k) ⟨by simp;omega,fun x hx=>HRT.out x (List.mem_of_mem_take hx)⟩ hs6);obtain ⟨q0,q1⟩:=HBS.top.top hil;have HF:=oH (HBS.done hbw hil HS4.out);rw [List.length_take,Nat.min_eq_left hkl] at HF;replace HF:=oH HF.out
 have k1:(0:Int)<=(k:Int):=by omega
 have k2:(k:Int)<=(c3:Int):=by omega
 clear hs6 hg6 ho6;go_wp2_with fail;rw [<-hQ.out];exact HF.out
open Go.ChangeShapes Go.WideShapes Go.ChangeAt Go.RowKit Go.WideElems
theorem cellsRow:Tryz.prog.cellsOf 25=1:=by kernel_rfl
theorem ltMat:24<Tryz.prog.types.size:=of_decide_eq_true (by kernel_rfl)
theorem readMat:Tryz.prog.readableRec 24=true:=by kernel_rfl
instance:Inhabited zGh:=⟨⟨none,0,[]⟩⟩
section
variable {H:Type} {enc:TypeId × Value->H}
theorem row_in {W:World} {fuel:Nat} {v:Value} {x:DataW H × List MemPlace} (hf:DataW.trod enc Tryz.prog W 0 (fun _=>true) true fuel 25 [v]=some x) :
  ∃ r:zGh,v = .slice r.ad r.ss.length r.cp/\zGx W r.ad r.ss/\r.ss.length<=9223372036854775807/\∀ s∈r.ss,s.size<=9223372036854775807:=by
 rcases open_strings Tryz.underlying25 Tryz.underlying43 zJg hf with ⟨hcs,hx⟩|⟨a,len,cap,ss,hcs,_,hl,hm,hz,hx,hcell,hwz⟩
 ·obtain rfl:v = .slice none 0 0:=by simpa using hcs
  exact ⟨⟨none,0,[]⟩,rfl,fun h=>absurd rfl h,dCx,by simp⟩
 obtain rfl:v = .slice (some a) len cap:=by simpa using hcs
 have hzc:ss.length=cap:=by simpa using hz
 have hm':cap<=9223372036854775807:=hm;refine ⟨⟨some a,cap,ss.take len⟩,?_,?_,by simp;omega,fun s hs=>hwz s (List.mem_of_mem_take hs)⟩
 ·show _=Value.slice (some a) (ss.take len).length cap
  rw [List.length_take,Nat.min_eq_left oMx]
 intro hne
 have h0:0<len:=by
  rcases Nat.eq_zero_or_pos len with h|h
  ·subst h;exact absurd sMx hne
  exact h
 obtain ⟨b,off,spot⟩:=a;have hspot:spot=none:=World.cell?_spot (hcell 0 oMx);subst hspot
 have hlt:b<W.heap.size:=by
  have h1:=hcell 0 oMx
  rcases Nat.lt_or_ge b W.heap.size with hl'|hg'
  ·exact hl'
  exfalso
  rw [Lib.add_plain] at h1;unfold World.cell? at h1;rw [Array.getElem?_eq_none hg'] at h1
  simp at h1
 refine ⟨b,off,rfl,hlt,fun i hi=>?_⟩;have:=hcell i (by simp at hi;omega);rw [Lib.add_plain] at this;rw [this,List.getD_eq_getElem?_getD,List.getElem?_eq_getElem (by simp at hi;omega)]
 simp
theorem mat_in {W:World} {base:Nat} {v:Value} {d:DataW H} {p:List MemPlace} (hv:Value.okWide Tryz.prog W .any base 24 v)
  (h:DataW.Trod enc Tryz.prog W 0 (fun _=>true) true 24 v d p) :
  ∃ (A:oAx) (rs:List zGh) (c:Nat),v = .slice A rs.length c/\zCj W A rs/\rs.length<=9223372036854775807/\(∀ r∈rs,r.ss.length<=9223372036854775807)/\(∀ r∈rs,∀ s∈r.ss,s.size<=9223372036854775807) /\
   ∀ W',Below W.heap.size W W'->∀ sp:Nat->Bool,(∀ x∈p,sp x.block=true)->DataW.Trod enc Tryz.prog W' 0 sp true 24 v d p:=by
 have hag:=zHt readMat ltMat h;obtain ⟨a0,len,cap,rfl⟩:=okWide_slice Tryz.underlying24 hv;obtain ⟨fuel,hf⟩:=h
 rcases Go.Deep.open_slice1 Tryz.underlying24 cellsRow hf with ⟨hcs,hx⟩|⟨a,len',cap',m,n,V,D,Pl,hcs,_,hl,hm,hmm,hx,hV⟩
 ·obtain ⟨rfl,rfl,rfl⟩:a0=none/\len=0/\cap=0:=by simpa [Value.cells] using hcs
  exact ⟨none,[],0,rfl,⟨zHh.nil _ _,fun r hr=>by cases hr⟩,dCx,by simp,by simp,hag⟩
 obtain ⟨rfl,rfl,rfl⟩:a0=some a/\len=len'/\cap=cap':=by simpa [Value.cells] using hcs
 have hm':cap<=9223372036854775807:=hm
 have hmc:m=cap:=by rw [hmm];rfl
 obtain ⟨f,hfr⟩:=Go.Deep.choose_lt (α:=zGh) (n:=len) (p:=fun i r=>V i = .slice r.ad r.ss.length r.cp/\zGx W r.ad r.ss/\r.ss.length<=9223372036854775807/\∀ s∈r.ss,s.size<=9223372036854775807) (fun i hi=>row_in (hV i oMx).2)
 have hmem:∀ r∈(List.range len).map f,∃ i,i<len/\f i=r:=fun r hr=>by
  obtain ⟨i,hi,rfl⟩:=List.mem_map.1 hr;exact ⟨i,List.mem_range.1 hi,rfl⟩
 refine ⟨some a,(List.range len).map f,cap,by simp,⟨fun hne=>?_,fun r hr=>?_⟩,by simp;omega,fun r hr=>?_,fun r hr=>?_,hag⟩
 ·have h0:0<len:=by
   rcases Nat.eq_zero_or_pos len with h|h
   ·subst h;exact absurd (by simp [zXe]) hne
   exact h
  obtain ⟨b,off,spot⟩:=a
  have hc:=fun i (hi:i<len)=>(hV i oMx).1
  have hspot:spot=none:=World.cell?_spot (hc 0 h0);subst hspot
  have hlt:b<W.heap.size:=by
   have h1:=hc 0 h0
   rcases Nat.lt_or_ge b W.heap.size with hl'|hg'
   ·exact hl'
   exfalso
   rw [Lib.add_plain] at h1;unfold World.cell? at h1;rw [Array.getElem?_eq_none hg'] at h1
   simp at h1
  refine ⟨b,off,rfl,hlt,fun i hi=>?_⟩
  have hi':i<len:=by simpa [zXe] using hi
  have h1:=hc i hi';rw [Lib.add_plain] at h1;rw [h1,(hfr i hi').1]
  simp [zXe]
 ·obtain ⟨i,hi,rfl⟩:=hmem r hr;exact (hfr i hi).2.1
 ·obtain ⟨i,hi,rfl⟩:=hmem r hr;exact (hfr i hi).2.2.1
 obtain ⟨i,hi,rfl⟩:=hmem r hr;exact (hfr i hi).2.2.2
end
end Go.Proofs.YtbjaplppalcmgaaGreatDoor
