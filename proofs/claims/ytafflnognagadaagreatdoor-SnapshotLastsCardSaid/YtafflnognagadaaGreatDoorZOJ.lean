import Derived.Test.YtafflnognagadaaGreatDoorZOI
import Derived.RangeFuncNested
import Derived.RangeFuncBound
import Derived.Shelf.RegionOpen
import Derived.OwnWalkIn
import Derived.LoopNIn
import Derived.LoopIn
set_option maxHeartbeats 16000000
set_option maxRecDepth 100000
set_option linter.unusedVariables false
set_option linter.unusedSimpArgs false
set_option linter.unusedSectionVars false
namespace Go.Proofs.YtafflnognagadaaGreatDoor
open Go.RowKit
def seqPost (Kp:World->World->Prop) (I:World->Prop) (W:World):Exit->Act->World->Prop
 | .normal,_,W'=>KeepsOthers W W'/\Kp W W'/\I W'
 | _,_,_=>False
theorem xAm {F:Fence} {n:Nat} {P:Program} {g:Operand} {ps:Array Tmp} {assign body:Code} {Q:Exit->Act->World->Prop} {a:Act} {w:World} {gf:Nat} {lb:Array Value} {N:Nat}
  {encs:Value->Array Value} {X:Nat->Value->World->Prop} {Kp:World->World->Prop} {I:Nat->World->Prop} {a1:Value->Act}
  (hro:F.round=none) (h1:1<=n) (hg:a.eval g = .func (.func gf) #[] lb) (hFg:F.fn gf) (eg:∀ args w,(callFunc gf args).run P w = .ok (.enter gf args) w)
  (hseq:∀ (l:Nat) (J:Nat->World->Prop) (W:World),Below w.heap.size w W->(∀ k A B,J k A->Below A.heap.size A B->J k B) ->
   (∀ k v W1,k<N->X k v W1->J k W1->YieldAt F (n-1-1) P l (encs v) W1 fun e W'=>e = .returned (.bool true)/\J (k+1) W'/\Kp W1 W')->J 0 W ->
   CallsIn F (n-1) P gf (#[.func (.yield l) #[] #[]]++lb) W fun e W'=>(∃ v,e = .returned v)/\J N W')
  (hps:∀ v,(encs v).size=ps.size)
  (hKt:∀ {A B C:World},Kp A B->Kp B C->Kp A C)
  (hKb:∀ (W:World) (l:Nat) (o o':Obj),w.heap.size<=l->W.heap[l]? = some o->o.isCells=false->Kp W (W.putObj l o'))
  (hXb:∀ k v (W:World) (l:Nat) (o o':Obj),X k v W->W.heap[l]? = some o->o.isCells=false->X k v (W.putObj l o'))
  (hIb:∀ k (W:World) (l:Nat) (o o':Obj),w.heap.size<=l->I k W->W.heap[l]? = some o->o.isCells=false->I k (W.putObj l o'))
  (hIa:∀ k (A B:World),I k A->Below A.heap.size A B->I k B)
  (h0:I 0 w)
  (hassign:∀ (l:Nat) (v:Value) (W:World) (K:Act->World->Prop),K (a1 v) W ->
   assign.wpIn (F.inRound l) (n-1-1) P (Exit.then K (fun _ _ _=>False)) { tmps:=(ps.zip (encs v)).foldl (fun t (p,u)=>t.setIfInBounds p u) a.tmps,defers:=[] } W)
  (hbody:∀ (l k:Nat) (v:Value) (W:World),k<N->X k v W->I k W->body.wpIn (F.inRound l) (n-1-1) P (seqPost Kp (I (k+1)) W) (a1 v) W)
  (hdone:∀ (D:Nat) (W:World),w.heap.size<=D->I N W->W.heap[D]? = some (.deferred (some []))->Q .normal { a with defers:={ target := .collected D,args:=#[] }::a.defers } W) :
  (Code.rangeFunc g ps assign body).wpIn F n P Q a w:=by
 refine wpIn_rangeFunc fun fn hfn=>?_
 rw [hro]
 obtain ⟨rc,hrc⟩:∃ rc:LoopState->Option Code->Loop,rc=fun st pe=>{ state:=st,pending:=pe,fn,tmps:=a.tmps,params:=ps,assign,body,defers:=w.heap.size }:=⟨_,rfl⟩
 have hen:(Instr.enterLoop fn a.tmps ps assign body none).run P w = .ok (w.heap.size+1,[{ target := .collected w.heap.size,args:=#[] }]) ((w.alloc (.deferred (some []))).alloc (.loop (rc .ready none))):=by
  rw [hrc];exact run_enterLoop_outer _ _ _ _ _
 have hb1:Below w.heap.size w ((w.alloc (.deferred (some []))).alloc (.loop (rc .ready none))):=((Below.refl _ w).alloc lRx _).alloc sMx _
 have hL1:((w.alloc (.deferred (some []))).alloc (.loop (rc .ready none))).heap[w.heap.size+1]? = some (.loop (rc .ready none)):=by
  have h:=World.alloc_heap_new (w.alloc (.deferred (some []))) (.loop (rc .ready none))
  rwa [World.size_alloc] at h
 have hD1:((w.alloc (.deferred (some []))).alloc (.loop (rc .ready none))).heap[w.heap.size]? = some (.deferred (some [])):=(Below.heap_alloc _ _ _ sMx).trans (World.alloc_heap_new w _);generalize (w.alloc (.deferred (some []))).alloc (.loop (rc .ready none))=W1 at *;refine ⟨w.heap.size+1,[{ target := .collected w.heap.size,args:=#[] }],W1,{ target := .fn (.func gf) lb,args:=#[.func (.yield (w.heap.size+1)) #[] #[]] },W1,gf,#[.func (.yield (w.heap.size+1)) #[] #[]]++lb,W1,hen,?_,?_,?_,fun _=>h1,?_⟩
 ·simp only [resolve,hg]
  simp [go_sem]
 ·intro f' hf'
  simp [Target.leads] at hf'
  subst hf';exact hFg
 ·simp [invoke,go_sem,eg]
 refine (hseq (w.heap.size+1) (fun k W=>I k W/\W.heap[w.heap.size+1]? = some (.loop (rc .ready none))/\W.heap[w.heap.size]? = some (.deferred (some []))) W1 hb1
  (fun k A B hs hb=>⟨hIa k A B hs.1 hb,(hb.block _ (Array.getElem?_eq_some_iff.1 hs.2.1).1).trans hs.2.1,(hb.block _ (Array.getElem?_eq_some_iff.1 hs.2.2).1).trans hs.2.2⟩) ?_ ⟨hIa 0 _ _ h0 hb1,hL1,hD1⟩).mono ?_
 ·rintro k v W hkN hx ⟨hi,hl,hd⟩;have hlt:w.heap.size+1<W.heap.size:=(Array.getElem?_eq_some_iff.1 hl).1;have hy:=run_yield (P:=P) (args:=encs v) hl (by rw [hrc];exact hps v);rw [hrc] at hy;refine ⟨fn,_,assign,body,hy,roundIn_of_wpIn hfn (hassign _ v W _ ⟨_,run_beginRound hl (by rw [hrc]),?_⟩)⟩;refine wpIn_mono (hbody _ k v _ hkN (hXb k v W _ _ _ hx hl rfl) (hIb k W _ _ _ oMx hi hl rfl)) ?_;rintro e a3 W3 hp
  cases e with
  | normal =>
   obtain ⟨hk3,hkp3,hi3⟩:=hp;have hl3:=hk3.same _ _ (World.putObj_heap_same hlt) rfl;have hd3:=hk3.same _ _ ((World.putObj_heap_other oMx).trans hd) rfl;have hr:=run_endRound (P:=P) none hl3;rw [hrc] at hr;refine ⟨_,_,hr,rfl,⟨hIb _ _ _ _ _ oMx hi3 hl3 rfl,?_,(World.putObj_heap_other oMx).trans hd3⟩,hKt (hKt (hKb _ _ _ _ oMx hl rfl) hkp3) (hKb _ _ _ _ oMx hl3 rfl)⟩;rw [hrc];exact World.putObj_heap_same (Array.getElem?_eq_some_iff.1 hl3).1
  | ret=>exact hp.elim
  | exit id=>exact hp.elim
  | goto t=>exact hp.elim
  | panic ch=>exact hp.elim
  | outgrown=>exact hp.elim
 rintro e W2 ⟨⟨v,rfl⟩,hi,hl,hd⟩;exact ⟨none,_,by have h:=run_endLoop (P:=P) hl (by rw [hrc];simp);rw [hrc] at h;exact h,hdone _ _ lRx (hIb _ _ _ _ _ oMx hi hl rfl) ((World.putObj_heap_other oMx).trans hd)⟩
end Go.Proofs.YtafflnognagadaaGreatDoor
namespace Go.Proofs.YtafflnognagadaaGreatDoor
open Go.RowKit Go.Shelf
attribute [local go_sem] Oper.semAt_some
def zCd (n0:Nat) (W W':World):Prop:=Below n0 W W'/\KpT [34,4,3] W W'
theorem zCd.trans {n0:Nat} {A B C:World} (h:zCd n0 A B) (k:zCd n0 B C):zCd n0 A C:=⟨h.1.trans k.1,h.2.trans k.2⟩
theorem zCd.blk {n0 g t:Nat} {W W':World} {cs:List Value} (h:zCd n0 W W') (hb:Blk W g t cs) (ht:t ∉ [34,4,3]):Blk W' g t cs:=(h.2.2 g _ t _ hb ht).trans hb
theorem Vers_of {cs:Array Value} {fi:Int} {ub uc:Value} {w:World} (hcs:cs.size=4):Calls Tryz.prog 57 #[.agg cs,.agg #[.int .i64 fi,ub,uc]] w fun e w' =>
  e = .returned (.func (.func 71) #[] #[.pointer (some ⟨w.heap.size+1,0,none⟩),.pointer (some ⟨w.heap.size,0,none⟩)])/\w'=(w.alloc (.cells cs 31)).alloc (.cells #[.int .i64 fi,ub,uc] 37):=by
 go_enter Tryz.func57,Tryz.ntmps57
 go_wp2_with fail;go_ret
 exact ⟨rfl,rfl⟩
theorem zGu {S:zFv} {fi:Int} {ub uc:Value} {D:List Tbl} {l:List Chn} {wA:World} (n n0 lp Bh Bs:Nat) (hn:1<=n) (J:Nat->World->Prop)
  (henv:Env wA) (hin:zBp wA S) (hok:zFu S) (hub:Sl zOf wA ub D) (huc:Sl zOc wA uc l) (hH:zBj S fi D l) (hn0:wA.heap.size<=n0)
  (hJ:∀ k A B,J k A->Below A.heap.size A B->J k B)
  (hY:∀ k v W1,k<l.length+1->Sl zOf W1 v (zZm D l k)->J k W1->YieldAt Fence.wide (n-1) Tryz.prog lp #[v,.int .i64 0] W1 fun e W'=>e = .returned (.bool true)/\J (k+1) W'/\zCd n0 W1 W')
  (W:World) (hA:Below wA.heap.size wA W) (hbs:Blk W Bs 31 S.cells.toList) (hbh:Blk W Bh 37 [.int .i64 fi,ub,uc]) (h0:J 0 W) :
  CallsIn Fence.wide n Tryz.prog 71 #[.func (.yield lp) #[] #[],.pointer (some ⟨Bh,0,none⟩),.pointer (some ⟨Bs,0,none⟩)] W fun e W'=>(∃ v,e = .returned v)/\J (l.length+1) W':=by
 obtain ⟨Ab,cb,rfl, -⟩:=hub.form;obtain ⟨Ac,cc,rfl, -⟩:=huc.form;have HA:=oH hA;have HBS:=oH hbs;have HBH:=oH hbh;have HU:=oH huc;have HUB:=oH hub;have HHK:=oH hH;have HJ0:=oH h0;have HJ:=oH hJ;have HY:=oH hY;have HCHK:=oH (fun (W':World) (hW:Below wA.heap.size wA W')=>zCx (henv.below hW) (hin.below hW) hok (hub.below hW) hH.base)
 have HCHG:=oH (fun (W':World) (k:Nat) (hk:k<l.length) (vd ud:Value) (tb:Int) (hW:Below wA.heap.size wA W') (h1:Sl zOf W' vd (zZm D l k)) (h2:Sl zOd W' ud l[k].2) (h3:0<=tb) (h4:tb<=l[k].1)=>(show Calls Tryz.prog 39 #[.agg S.cells,vd,.int .i64 tb,.agg #[.int .i64 l[k].1,ud]] W' (zFk W' 0 (zZm D l (k+1))) by
  have h:=zCy (henv.below hW) (hin.below hW) hok h1 (hH.db oMx) h2 (hH.chg _ (List.getElem_mem hk)) h3 h4 (hH.t0 _ (List.getElem_mem hk)).2;rw [hH.ok.at_ k hk,<-zZt hk] at h
  exact h))
 have hf0:=hH.f0;have hf1:=hH.f1;have hll:=hH.len;have d0:decide (fi<0)=false:=decide_eq_false oMx;have d1:decide (1000000<fi)=false:=decide_eq_false oMx;have d2:decide ((24:Int)<(l.length:Int))=false:=decide_eq_false oMx;have k0:=hbh.at_ (i:=0) rfl;have k1:=hbh.at_ (i:=1) rfl;have k2:=hbh.at_ (i:=2) rfl;have s0:=hbs.at_ (i:=0) rfl;have s1:=hbs.at_ (i:=1) rfl;have s2:=hbs.at_ (i:=2) rfl;have s3:=hbs.at_ (i:=3) rfl;clear henv hin hok hub huc hH hJ hY hA hbs hbh h0;unfold zFv.cells at HBS HCHK HCHG;obtain ⟨at1,aa,ca,rs,ar,cr,fs,af,cf,lb⟩:=S;simp only at HBS HCHK HCHG s0 s1 s2 s3;refine callsIn_of_wp Tryz.func71 rfl trivial ?_ rfl;simp only [Tryz.ntmps71,List.size_toArray,List.length_cons,List.length_nil,Nat.reduceAdd,Nat.reduceSub,Array.replicate_succ,Array.replicate_zero,List.push_toArray,List.append_toArray,List.nil_append,List.cons_append]
 gi_wp2
 refine ⟨trivial,(callsIn_wide.2 (HCHK.out W HA.out)).mono ?_⟩;rintro e w1 ⟨rfl,hb1⟩;have HA1:=bTx2 HA hb1;have HBS1:=oH (HBS.below hb1);have HBH1:=oH (HBH.below hb1);have hJ1:=HJ.out 0 W w1 HJ0.out hb1;clear k0 k1 k2 s0 s1 s2 s3 hb1 HBS HBH HA HJ0 HCHK;have k0:=HBH1.at_ (i:=0) rfl;have k1:=HBH1.at_ (i:=1) rfl;have k2:=HBH1.at_ (i:=2) rfl;obtain ⟨fn,tmps,assign,body,hy,hR⟩:=HY.out 0 (.slice Ab D.length cb) w1 oMx (HUB.below HA1.out) hJ1
 gi_wp2
 refine hR.mono ?_;rintro e w2 ⟨rfl,hJ2,hk2⟩;have HA2:=oH (HA1.trans (hk2.1.mono hn0));have HBS2:=oH (hk2.blk HBS1.out dCx);have HBH2:=oH (hk2.blk HBH1.out dCx);have HU2:=oH ((HUB.below HA1.out).kp hk2.2 dCx);have HJ2:=oH hJ2;clear k0 k1 k2 hy hR hJ1 hJ2 hk2 HBS1 HBH1 HA1;have k2:=HBH2.at_ (i:=2) rfl
 gi_wp2
 gi_loopw [4,5,43] (fun vd tv iv wr=>∃ (k:Nat) (tb:Int),tv = .int .i64 tb/\iv = .int .i64 (k:Int)/\k<=l.length/\Sl zOf wr vd (zZm D l k)/\0<=tb/\(∀ c∈l.drop k,tb<=c.1)/\J (k+1) wr/\Below wA.heap.size wA wr/\Blk wr Bs 31 [.slice aa at1.length ca,.slice ar rs.length cr,.slice af fs.length cf,.int .i64 lb]/\Blk wr Bh 37 [.int .i64 fi,.slice Ab D.length cb,.slice Ac l.length cc]) (fun _ _ iv _=>l.length-(intOf iv).toNat)
 ·exact ⟨0,0,rfl,rfl,oLx,HU2.out,Int.le_refl _,fun c hc=>(HHK.t0 c hc).1,HJ2.out,HA2.out,HBS2.out,HBH2.out⟩
 obtain ⟨k,tb,rfl,rfl,hk,hsl,htb,hall,hJk,hbw,hbs,hbh⟩:=hrel;obtain ⟨Ad,cd,rfl, -⟩:=hsl.form;have HSL:=oH hsl;have HBW:=oH hbw;have HJK:=oH hJk;have HBS3:=oH hbs;have HBH3:=oH hbh;have HALL:=oH hall;clear k2 hsl hJk hbw hbs hbh hall
 by_cases hlt:k<l.length
 ·obtain ⟨b,off,rfl,hb,hc⟩:=HU.isl2 (by intro e;subst e;simp at hlt);obtain ⟨u1,p0,p1,hu1⟩:=hc k hlt;have c0:=(HBW.cell (p:=⟨b,off+k*2,none⟩) hb).trans p0;have c1:wr.cell? ⟨b,off+k*2+1,none⟩=_:=(HBW.cell (p:=⟨b,off+k*2+1,none⟩) hb).trans p1;have hba:Below wr.heap.size wr (wr.alloc (.cells #[.int .i64 l[k].1,u1] 54)):=bA;have htk:tb<=l[k].1:=HALL.out _ (by rw [List.drop_eq_getElem_cons hlt];exact List.mem_cons_self);have HCALL:=oH (HCHG.out _ k hlt _ u1 tb (HBW.trans (hba.mono HBW.size)) (HSL.below hba) ((hu1.below HBW.out).below hba) htb htk)
  have HTN:=oH (show 0<=l[k].1/\∀ c∈l.drop (k+1),l[k].1<=c.1 from ⟨(HHK.t0 _ (List.getElem_mem hlt)).1,fun c hc=>by
   have h:=HHK.asc.sublist (List.drop_sublist k l);rw [List.drop_eq_getElem_cons hlt] at h
   exact (List.pairwise_cons.1 h).1 c hc⟩)
  obtain ⟨t,ht⟩:=eXx (l[k].1);rw [ht] at c0 HCALL HTN hba;obtain ⟨Au,cu,rfl, -⟩:=hu1.form;generalize l[k].2.length=m at *;have HBC:=oH (Blk.new wr 54 [.int .i64 t,.slice Au m cu]);have HBA:=oH hba;have hwr1:Bs<wr.heap.size:=HBS3.lt;have s0:=HBS3.at_ (i:=0) rfl;have s1:=HBS3.at_ (i:=1) rfl;have s2:=HBS3.at_ (i:=2) rfl;have s3:=HBS3.at_ (i:=3) rfl;clear hc p0 p1 hu1 hba ht htk
  gi_wp2
  refine ⟨trivial,(callsIn_wide.2 HCALL.out).mono ?_⟩;rintro e w5 ⟨v2,rfl,hs2,hb5⟩;obtain ⟨A2,c2,rfl, -⟩:=hs2.form;have HW5:=bTx2 HBA hb5;have HBC5:=oH (HBC.below hb5);have HS2:=oH hs2;have HA5:=bTx2 HBW HW5;have HBS5:=oH (HBS3.below HW5.out);have HBH5:=oH (HBH3.below HW5.out);have hJ5:=HJ.out _ _ _ HJK.out HW5.out;clear hb5 hs2 c0 c1 s0 s1 s2 s3 HCALL HBC HBS3 HBH3 HSL;obtain ⟨fn,tmps,assign,body,hy,hR⟩:=HY.out (k+1) (.slice A2 (zZm D l (k+1)).length c2) w5 oMx HS2.out hJ5
  gi_wp2
  refine hR.mono ?_;rintro e w6 ⟨rfl,hJ6,hk6⟩;have HK6:=oH hk6;have HJ6:=oH hJ6;have z0:=(hk6.blk HBC5.out dCx).at_ (i:=0) rfl;clear hy hR hJ5 hJ6 hk6
  gi_wp2
  go_roundw
  ·exact ⟨k+1,t,rfl,by go_num,oMx,HS2.kp HK6.2 dCx,HTN.1,HTN.2,HJ6.out,HA5.trans (HK6.1.mono hn0),HK6.blk HBS5.out dCx,HK6.blk HBH5.out dCx⟩
  simp [intOf];omega
 obtain rfl:k=l.length:=by omega
 gi_wp2
 go_end0
 exact ⟨⟨_,rfl⟩,HJK.out⟩
def atB (fi:Int) (l:List Chn) (v:Int):Bool:=decide (fi<=v/\v<=fi+l.length)
def atD (fi:Int) (D:List Tbl) (l:List Chn) (v:Int):List Tbl:=if fi<=v/\v<=fi+l.length then zZm D l (v-fi).toNat else []
theorem Blk.putObj {W:World} {g t j:Nat} {cs:List Value} {o o':Obj} (h:Blk W g t cs) (hj:W.heap[j]? = some o) (ho:o.isCells=false):Blk (W.putObj j o') g t cs :=
 (World.putObj_heap_other (fun e=>by unfold Blk at h;rw [e,hj] at h;injection h with h;subst h;cases ho)).trans h
theorem KpT.putObj {es:List Nat} {W:World} {j:Nat} {o o':Obj} (hj:W.heap[j]? = some o) (ho:o.isCells=false):KpT es W (W.putObj j o') :=
 ⟨by rw [World.putObj_size];exact lRx,fun i cs t fr hi _=>World.putObj_heap_other (fun e=>by rw [e,hj] at hi;injection hi with hi;subst hi;cases ho)⟩
theorem KeepsOthers.of_below {W W':World} (h:Below W.heap.size W W'):KeepsOthers W W':=⟨h.size,fun k o hk _=>(h.block k (Array.getElem?_eq_some_iff.1 hk).1).trans hk⟩
theorem zCd.of_below {n0:Nat} {W W':World} (h:Below W.heap.size W W') (hn:n0<=W.heap.size):zCd n0 W W':=⟨h.mono hn,.of_below h⟩
theorem zCd.put {n0 g t:Nat} {W:World} {cs:List Value} {i:Nat} {u:Value} (hb:Blk W g t cs) (hn:n0<=g) (ht:t∈[34,4,3]):zCd n0 W (W.setCell ⟨g,i,none⟩ u) :=
 ⟨(Below.refl n0 W).setCell (p:=⟨g,i,none⟩) hn u,KpT.of_grown (zMz g i u) fun k hk=>by injection hk with hk;subst hk;exact ⟨_,_,_,hb,ht⟩⟩
structure AtI (w:World) (Bf Bn:Nat) (fi v:Int) (D:List Tbl) (l:List Chn) (k:Nat) (W:World):Prop where
 bel:Below w.heap.size w W
 b2:Blk W (w.heap.size+1+1) 3 [.int .i64 v]
 r3:Blk W (w.heap.size+1+1+1) 34 [.slice none 0 0]
 r4:Blk W (w.heap.size+1+1+1+1) 4 [.bool false]
 r5:Blk W (w.heap.size+1+1+1+1+1) 39 [.int .i64 0]
 out:∃ A n c,Blk W (w.heap.size+1+1+1+1+1+1) 34 [.slice A n c]/\Sl zOf W (.slice A n c) (if fi<=v/\v<fi+k then zZm D l (v-fi).toNat else [])
 fnd:Blk W Bf 4 [.bool (decide (fi<=v/\v<fi+k))]
 cnt:Blk W Bn 3 [.int .i64 (fi+k)]
section
variable {w W W':World} {Bf Bn k j:Nat} {fi v:Int} {D:List Tbl} {l:List Chn} {o o':Obj}
theorem AtI.put (h:AtI w Bf Bn fi v D l k W) (hj:w.heap.size<=j) (hl:W.heap[j]? = some o) (ho:o.isCells=false):AtI w Bf Bn fi v D l k (W.putObj j o'):=by
 obtain ⟨A,n,c,h1,h2⟩:=h.out;exact ⟨h.bel.grown (grownBy_putObj' W j o') h.bel.size (fun k e=>by cases e;exact hj),h.b2.putObj hl ho,h.r3.putObj hl ho,h.r4.putObj hl ho,h.r5.putObj hl ho,⟨A,n,c,h1.putObj hl ho,h2.kp (KpT.putObj (es:=[]) hl ho) sMx⟩,h.fnd.putObj hl ho,h.cnt.putObj hl ho⟩
theorem AtI.below (h:AtI w Bf Bn fi v D l k W) (hb:Below W.heap.size W W'):AtI w Bf Bn fi v D l k W':=by
 obtain ⟨A,n,c,h1,h2⟩:=h.out;exact ⟨h.bel.trans (hb.mono h.bel.size),h.b2.below hb,h.r3.below hb,h.r4.below hb,h.r5.below hb,⟨A,n,c,h1.below hb,h2.below hb⟩,h.fnd.below hb,h.cnt.below hb⟩
theorem AtI.pass (h:AtI w Bf Bn fi v D l k W) (hv:fi+k≠v) (hn:w.heap.size+1+1+1+1+1+1<Bn) (hne:Bf≠Bn) :
  zCd w.heap.size W (W.setCell ⟨Bn,0,none⟩ (.int .i64 (fi+(k+1:Nat))))/\AtI w Bf Bn fi v D l (k+1) (W.setCell ⟨Bn,0,none⟩ (.int .i64 (fi+(k+1:Nat)))):=by
 have hk:=zCd.put (n0:=w.heap.size) (i:=0) (u := .int .i64 (fi+(k+1:Nat))) h.cnt oMx dCx;obtain ⟨A,n,c,h1,h2⟩:=h.out
 have e:(fi<=v/\v<fi+((k+1:Nat):Int))↔(fi<=v/\v<fi+(k:Int)):=by omega
 refine ⟨hk,⟨h.bel.trans hk.1,h.b2.far (by simp;omega) _,h.r3.far (by simp;omega) _,h.r4.far (by simp;omega) _,h.r5.far (by simp;omega) _,⟨A,n,c,h1.far (by simp;omega) _,?_⟩,?_,h.cnt.set 0 _⟩⟩
 ·simp only [e];exact h2.kp hk.2 dCx
 simp only [e];exact h.fnd.far hne _
theorem AtI.hit {A:oAx} {n c:Nat} (h:AtI w Bf Bn fi v D l k W) (hv:fi+k=v) (hs:Sl zOf W (.slice A n c) (zZm D l k)) (hn:w.heap.size+1+1+1+1+1+1<Bn) (hf:w.heap.size+1+1+1+1+1+1<Bf) (hne:Bf≠Bn) :
  zCd w.heap.size W (((W.setCell ⟨w.heap.size+1+1+1+1+1+1,0,none⟩ (.slice A n c)).setCell ⟨Bf,0,none⟩ (.bool true)).setCell ⟨Bn,0,none⟩ (.int .i64 (fi+(k+1:Nat)))) /\
   AtI w Bf Bn fi v D l (k+1) (((W.setCell ⟨w.heap.size+1+1+1+1+1+1,0,none⟩ (.slice A n c)).setCell ⟨Bf,0,none⟩ (.bool true)).setCell ⟨Bn,0,none⟩ (.int .i64 (fi+(k+1:Nat)))):=by
 obtain ⟨A0,n0,c0,h1,h2⟩:=h.out
 have g1:∀ {g t:Nat} {cs:List Value},Blk W g t cs->g≠w.heap.size+1+1+1+1+1+1->g≠Bf->g≠Bn->Blk (((W.setCell ⟨w.heap.size+1+1+1+1+1+1,0,none⟩ (.slice A n c)).setCell ⟨Bf,0,none⟩ (.bool true)).setCell ⟨Bn,0,none⟩ (.int .i64 (fi+(k+1:Nat)))) g t cs:=fun hb e1 e2 e3=>((hb.far e1 _).far e2 _).far e3 _
 have k1:=zCd.put (n0:=w.heap.size) (i:=0) (u := .slice A n c) h1 oMx dCx;have k2:=zCd.put (n0:=w.heap.size) (i:=0) (u := .bool true) (h.fnd.far (p:=⟨w.heap.size+1+1+1+1+1+1,0,none⟩) (by simp;omega) (.slice A n c)) oMx dCx;have k3:=zCd.put (n0:=w.heap.size) (i:=0) (u := .int .i64 (fi+(k+1:Nat))) ((h.cnt.far (p:=⟨w.heap.size+1+1+1+1+1+1,0,none⟩) (by simp;omega) (.slice A n c)).far (p:=⟨Bf,0,none⟩) (fun e=>hne e.symm) (.bool true)) oMx dCx;have hk:=(k1.trans k2).trans k3
 have e:(fi<=v/\v<fi+((k+1:Nat):Int))=True:=by simp;omega
 have ek:(v-fi).toNat=k:=by omega
 refine ⟨hk,⟨h.bel.trans hk.1,g1 h.b2 oMx oMx oMx,g1 h.r3 oMx oMx oMx,g1 h.r4 oMx oMx oMx,g1 h.r5 oMx oMx oMx,⟨A,n,c,((h1.set 0 _).far (by simp;omega) _).far (by simp;omega) _,?_⟩,?_,((h.cnt.far (by simp;omega) _).far (fun e=>hne e.symm) _).set 0 _⟩⟩
 ·simp only [e,if_true,ek];exact hs.kp hk.2 dCx
 simp only [e,decide_true];exact ((h.fnd.far (by simp;omega) _).set 0 _).far hne _
end
theorem zHm {w:World} {q0 q1 q2 q3 ub uc:Value} {fi v:Int} {D:List Tbl} {l:List Chn}:AtI w (w.heap.size+1+1+1+1+1+1+1) (w.heap.size+1+1+1+1+1+1+1+1) fi v D l 0 (((((((((((w.alloc (.cells #[q0,q1,q2,q3] 31)).alloc (.cells #[.int .i64 fi,ub,uc] 37)).alloc (.cells #[.int .i64 v] 3)).alloc (.cells #[.slice none 0 0] 34)).alloc (.cells #[.bool false] 4)).alloc (.cells #[.int .i64 0] 39)).alloc (.cells #[.slice none 0 0] 34)).alloc (.cells #[.bool false] 4)).alloc (.cells #[.int .i64 fi] 3)).alloc (.cells #[q0,q1,q2,q3] 31)).alloc (.cells #[.int .i64 fi,ub,uc] 37)).drew/\Blk (((((((((((w.alloc (.cells #[q0,q1,q2,q3] 31)).alloc (.cells #[.int .i64 fi,ub,uc] 37)).alloc (.cells #[.int .i64 v] 3)).alloc (.cells #[.slice none 0 0] 34)).alloc (.cells #[.bool false] 4)).alloc (.cells #[.int .i64 0] 39)).alloc (.cells #[.slice none 0 0] 34)).alloc (.cells #[.bool false] 4)).alloc (.cells #[.int .i64 fi] 3)).alloc (.cells #[q0,q1,q2,q3] 31)).alloc (.cells #[.int .i64 fi,ub,uc] 37)).drew (w.heap.size+1+1+1+1+1+1+1+1+1) 31 [q0,q1,q2,q3]/\Blk (((((((((((w.alloc (.cells #[q0,q1,q2,q3] 31)).alloc (.cells #[.int .i64 fi,ub,uc] 37)).alloc (.cells #[.int .i64 v] 3)).alloc (.cells #[.slice none 0 0] 34)).alloc (.cells #[.bool false] 4)).alloc (.cells #[.int .i64 0] 39)).alloc (.cells #[.slice none 0 0] 34)).alloc (.cells #[.bool false] 4)).alloc (.cells #[.int .i64 fi] 3)).alloc (.cells #[q0,q1,q2,q3] 31)).alloc (.cells #[.int .i64 fi,ub,uc] 37)).drew (w.heap.size+1+1+1+1+1+1+1+1+1+1) 37 [.int .i64 fi,ub,uc]/\(((((((((((w.alloc (.cells #[q0,q1,q2,q3] 31)).alloc (.cells #[.int .i64 fi,ub,uc] 37)).alloc (.cells #[.int .i64 v] 3)).alloc (.cells #[.slice none 0 0] 34)).alloc (.cells #[.bool false] 4)).alloc (.cells #[.int .i64 0] 39)).alloc (.cells #[.slice none 0 0] 34)).alloc (.cells #[.bool false] 4)).alloc (.cells #[.int .i64 fi] 3)).alloc (.cells #[q0,q1,q2,q3] 31)).alloc (.cells #[.int .i64 fi,ub,uc] 37)).drew.heap.size=w.heap.size+1+1+1+1+1+1+1+1+1+1+1:=by
 have e:(fi<=v/\v<fi+((0:Nat):Int))=False:=by simp
 refine ⟨⟨((((((((((((Below.refl w.heap.size w).alloc sMx _).alloc sMx _).alloc (by simp;omega) _).alloc (by simp;omega) _).alloc (by simp;omega) _).alloc (by simp;omega) _).alloc (by simp;omega) _).alloc (by simp;omega) _).alloc (by simp;omega) _).alloc (by simp;omega) _).alloc (by simp;omega) _).drew,(Blk.alloc (Blk.alloc (Blk.alloc (Blk.alloc (Blk.alloc (Blk.alloc (Blk.alloc (Blk.alloc (Blk.new' sMx _ [_]) _) _) _) _) _) _) _) _).drew,(Blk.alloc (Blk.alloc (Blk.alloc (Blk.alloc (Blk.alloc (Blk.alloc (Blk.alloc (Blk.new' sMx _ [_]) _) _) _) _) _) _) _).drew,(Blk.alloc (Blk.alloc (Blk.alloc (Blk.alloc (Blk.alloc (Blk.alloc (Blk.new' sMx _ [_]) _) _) _) _) _) _).drew,(Blk.alloc (Blk.alloc (Blk.alloc (Blk.alloc (Blk.alloc (Blk.new' sMx _ [_]) _) _) _) _) _).drew,⟨none,0,0,(Blk.alloc (Blk.alloc (Blk.alloc (Blk.alloc (Blk.new' sMx _ [_]) _) _) _) _).drew,by simp only [e,if_false];exact .nil _ _ _ _⟩,by simp only [e,decide_false];exact (Blk.alloc (Blk.alloc (Blk.alloc (Blk.new' sMx _ [_]) _) _) _).drew,by rw [Int.natCast_zero,Int.add_zero];exact (Blk.alloc (Blk.alloc (Blk.new' sMx _ [_]) _) _).drew⟩,(Blk.alloc (Blk.new' sMx _ [_,_,_,_]) _).drew,(Blk.new' sMx _ [_,_,_]).drew,by simp⟩
theorem zHn {w:World} {q0 q1 q2 q3 ub uc:Value} {fi v:Int} {D:List Tbl} {l:List Chn}:AtI w (w.heap.size+1+1+1+1+1+1+1+1) (w.heap.size+1+1+1+1+1+1+1) fi v D l 0 (((((((((((w.alloc (.cells #[q0,q1,q2,q3] 31)).alloc (.cells #[.int .i64 fi,ub,uc] 37)).alloc (.cells #[.int .i64 v] 3)).alloc (.cells #[.slice none 0 0] 34)).alloc (.cells #[.bool false] 4)).alloc (.cells #[.int .i64 0] 39)).alloc (.cells #[.slice none 0 0] 34)).alloc (.cells #[.int .i64 fi] 3)).alloc (.cells #[.bool false] 4)).alloc (.cells #[q0,q1,q2,q3] 31)).alloc (.cells #[.int .i64 fi,ub,uc] 37)).drew/\Blk (((((((((((w.alloc (.cells #[q0,q1,q2,q3] 31)).alloc (.cells #[.int .i64 fi,ub,uc] 37)).alloc (.cells #[.int .i64 v] 3)).alloc (.cells #[.slice none 0 0] 34)).alloc (.cells #[.bool false] 4)).alloc (.cells #[.int .i64 0] 39)).alloc (.cells #[.slice none 0 0] 34)).alloc (.cells #[.int .i64 fi] 3)).alloc (.cells #[.bool false] 4)).alloc (.cells #[q0,q1,q2,q3] 31)).alloc (.cells #[.int .i64 fi,ub,uc] 37)).drew (w.heap.size+1+1+1+1+1+1+1+1+1) 31 [q0,q1,q2,q3]/\Blk (((((((((((w.alloc (.cells #[q0,q1,q2,q3] 31)).alloc (.cells #[.int .i64 fi,ub,uc] 37)).alloc (.cells #[.int .i64 v] 3)).alloc (.cells #[.slice none 0 0] 34)).alloc (.cells #[.bool false] 4)).alloc (.cells #[.int .i64 0] 39)).alloc (.cells #[.slice none 0 0] 34)).alloc (.cells #[.int .i64 fi] 3)).alloc (.cells #[.bool false] 4)).alloc (.cells #[q0,q1,q2,q3] 31)).alloc (.cells #[.int .i64 fi,ub,uc] 37)).drew (w.heap.size+1+1+1+1+1+1+1+1+1+1) 37 [.int .i64 fi,ub,uc]/\(((((((((((w.alloc (.cells #[q0,q1,q2,q3] 31)).alloc (.cells #[.int .i64 fi,ub,uc] 37)).alloc (.cells #[.int .i64 v] 3)).alloc (.cells #[.slice none 0 0] 34)).alloc (.cells #[.bool false] 4)).alloc (.cells #[.int .i64 0] 39)).alloc (.cells #[.slice none 0 0] 34)).alloc (.cells #[.int .i64 fi] 3)).alloc (.cells #[.bool false] 4)).alloc (.cells #[q0,q1,q2,q3] 31)).alloc (.cells #[.int .i64 fi,ub,uc] 37)).drew.heap.size=w.heap.size+1+1+1+1+1+1+1+1+1+1+1:=by
 have e:(fi<=v/\v<fi+((0:Nat):Int))=False:=by simp
 refine ⟨⟨((((((((((((Below.refl w.heap.size w).alloc sMx _).alloc sMx _).alloc (by simp;omega) _).alloc (by simp;omega) _).alloc (by simp;omega) _).alloc (by simp;omega) _).alloc (by simp;omega) _).alloc (by simp;omega) _).alloc (by simp;omega) _).alloc (by simp;omega) _).alloc (by simp;omega) _).drew,(Blk.alloc (Blk.alloc (Blk.alloc (Blk.alloc (Blk.alloc (Blk.alloc (Blk.alloc (Blk.alloc (Blk.new' sMx _ [_]) _) _) _) _) _) _) _) _).drew,(Blk.alloc (Blk.alloc (Blk.alloc (Blk.alloc (Blk.alloc (Blk.alloc (Blk.alloc (Blk.new' sMx _ [_]) _) _) _) _) _) _) _).drew,(Blk.alloc (Blk.alloc (Blk.alloc (Blk.alloc (Blk.alloc (Blk.alloc (Blk.new' sMx _ [_]) _) _) _) _) _) _).drew,(Blk.alloc (Blk.alloc (Blk.alloc (Blk.alloc (Blk.alloc (Blk.new' sMx _ [_]) _) _) _) _) _).drew,⟨none,0,0,(Blk.alloc (Blk.alloc (Blk.alloc (Blk.alloc (Blk.new' sMx _ [_]) _) _) _) _).drew,by simp only [e,if_false];exact .nil _ _ _ _⟩,by simp only [e,decide_false];exact (Blk.alloc (Blk.alloc (Blk.new' sMx _ [_]) _) _).drew,by rw [Int.natCast_zero,Int.add_zero];exact (Blk.alloc (Blk.alloc (Blk.alloc (Blk.new' sMx _ [_]) _) _) _).drew⟩,(Blk.alloc (Blk.new' sMx _ [_,_,_,_]) _).drew,(Blk.new' sMx _ [_,_,_]).drew,by simp⟩
theorem AtI.fin {w W:World} {Bf Bn k D0:Nat} {fi v:Int} {D:List Tbl} {l:List Chn} (h:AtI w Bf Bn fi v D l k W) (hD:W.heap[D0]? = some (.deferred (some []))) (hle:w.heap.size<=D0) (A:oAx) (n c:Nat) (b:Bool) :
  ((((W.setCell ⟨w.heap.size+1+1+1,0,none⟩ (.slice A n c)).setCell ⟨w.heap.size+1+1+1+1,0,none⟩ (.bool b)).setCell ⟨w.heap.size+1+1+1+1+1,0,none⟩ (.int .i64 0)).drew).heap[D0]? = some (.deferred (some [])) /\
   ((((W.setCell ⟨w.heap.size+1+1+1,0,none⟩ (.slice A n c)).setCell ⟨w.heap.size+1+1+1+1,0,none⟩ (.bool b)).setCell ⟨w.heap.size+1+1+1+1+1,0,none⟩ (.int .i64 0)).drew.putObj D0 (.deferred none)).cell? ⟨w.heap.size+1+1+1,0,none⟩=some (.slice A n c) /\
   ((((W.setCell ⟨w.heap.size+1+1+1,0,none⟩ (.slice A n c)).setCell ⟨w.heap.size+1+1+1+1,0,none⟩ (.bool b)).setCell ⟨w.heap.size+1+1+1+1+1,0,none⟩ (.int .i64 0)).drew.putObj D0 (.deferred none)).cell? ⟨w.heap.size+1+1+1+1,0,none⟩=some (.bool b) /\
   ((((W.setCell ⟨w.heap.size+1+1+1,0,none⟩ (.slice A n c)).setCell ⟨w.heap.size+1+1+1+1,0,none⟩ (.bool b)).setCell ⟨w.heap.size+1+1+1+1+1,0,none⟩ (.int .i64 0)).drew.putObj D0 (.deferred none)).cell? ⟨w.heap.size+1+1+1+1+1,0,none⟩=some (.int .i64 0) /\
   Below w.heap.size w ((((W.setCell ⟨w.heap.size+1+1+1,0,none⟩ (.slice A n c)).setCell ⟨w.heap.size+1+1+1+1,0,none⟩ (.bool b)).setCell ⟨w.heap.size+1+1+1+1+1,0,none⟩ (.int .i64 0)).drew.putObj D0 (.deferred none)) /\
   ∀ X,Sl zOf W (.slice A n c) X->Sl zOf ((((W.setCell ⟨w.heap.size+1+1+1,0,none⟩ (.slice A n c)).setCell ⟨w.heap.size+1+1+1+1,0,none⟩ (.bool b)).setCell ⟨w.heap.size+1+1+1+1+1,0,none⟩ (.int .i64 0)).drew.putObj D0 (.deferred none)) (.slice A n c) X:=by
 have hK:W.heap[D0]? = some (.deferred (some []))->((((W.setCell ⟨w.heap.size+1+1+1,0,none⟩ (.slice A n c)).setCell ⟨w.heap.size+1+1+1+1,0,none⟩ (.bool b)).setCell ⟨w.heap.size+1+1+1+1+1,0,none⟩ (.int .i64 0)).drew).heap[D0]? = some (.deferred (some [])):=fun h=>(((KeepsOthers.setCell _ _ _).trans (KeepsOthers.setCell _ _ _)).trans (KeepsOthers.setCell _ _ _)).same _ _ h rfl
 have hd:=hK hD;have b3:=(((h.r3.set 0 (.slice A n c)).far (p:=⟨w.heap.size+1+1+1+1,0,none⟩) (by simp;try omega) (.bool b)).far (p:=⟨w.heap.size+1+1+1+1+1,0,none⟩) (by simp;try omega) (.int .i64 0)).drew;have b4:=(((h.r4.far (p:=⟨w.heap.size+1+1+1,0,none⟩) (by simp;try omega) (.slice A n c)).set 0 (.bool b)).far (p:=⟨w.heap.size+1+1+1+1+1,0,none⟩) (by simp;try omega) (.int .i64 0)).drew;have b5:=(((h.r5.far (p:=⟨w.heap.size+1+1+1,0,none⟩) (by simp;try omega) (.slice A n c)).far (p:=⟨w.heap.size+1+1+1+1,0,none⟩) (by simp;try omega) (.bool b)).set 0 (.int .i64 0)).drew
 have hs:∀ (X:World) k u,w.heap.size<=k->Below w.heap.size X (X.setCell ⟨k,0,none⟩ u):=fun X k u hk=>(Below.refl _ X).setCell (p:=⟨k,0,none⟩) hk u
 refine ⟨hd,(b3.putObj hd rfl).at_ (i:=0) rfl,(b4.putObj hd rfl).at_ (i:=0) rfl,(b5.putObj hd rfl).at_ (i:=0) rfl,?_,fun X hX=>?_⟩
 ·have h1:Below w.heap.size w ((((W.setCell ⟨w.heap.size+1+1+1,0,none⟩ (.slice A n c)).setCell ⟨w.heap.size+1+1+1+1,0,none⟩ (.bool b)).setCell ⟨w.heap.size+1+1+1+1+1,0,none⟩ (.int .i64 0)).drew):=(((h.bel.trans (hs _ _ _ oMx)).trans (hs _ _ _ oMx)).trans (hs _ _ _ oMx)).drew;exact h1.grown (grownBy_putObj' _ D0 _) h1.size (fun k e=>by cases e;exact hle)
 have k1:=zCd.put (n0:=w.heap.size) (i:=0) (u := .slice A n c) h.r3 oMx dCx;have k2:=zCd.put (n0:=w.heap.size) (i:=0) (u := .bool b) (h.r4.far (p:=⟨w.heap.size+1+1+1,0,none⟩) (by simp;try omega) (.slice A n c)) oMx dCx
 have k3:KpT [39] ((W.setCell ⟨w.heap.size+1+1+1,0,none⟩ (.slice A n c)).setCell ⟨w.heap.size+1+1+1+1,0,none⟩ (.bool b)) (((W.setCell ⟨w.heap.size+1+1+1,0,none⟩ (.slice A n c)).setCell ⟨w.heap.size+1+1+1+1,0,none⟩ (.bool b)).setCell ⟨w.heap.size+1+1+1+1+1,0,none⟩ (.int .i64 0)) :=
  KpT.of_grown (zMz _ 0 _) fun k hk=>by injection hk with hk;subst hk;exact ⟨_,_,_,(h.r5.far (p:=⟨w.heap.size+1+1+1,0,none⟩) (by simp;try omega) (.slice A n c)).far (p:=⟨w.heap.size+1+1+1+1,0,none⟩) (by simp;try omega) (.bool b),by simp⟩
 exact (((hX.kp (k1.trans k2).2 dCx).kp k3 dCx).below bRx.drew).kp (KpT.putObj (es:=[]) hd rfl) sMx
theorem gen_wp {P:Program} {c:Code} {Q:Exit->Act->World->Prop} {a:Act} {W:World} {F:World->Prop} (h:F W) (k:∀ W',F W'->c.wp P Q a W'):c.wp P Q a W:=k W h
theorem zCt {S:zFv} {fi v:Int} {ub uc:Value} {D:List Tbl} {l:List Chn} {w:World} (henv:Env w) (hin:zBp w S) (hok:zFu S) (hub:Sl zOf w ub D) (huc:Sl zOc w uc l) (hH:zBj S fi D l) :
  Calls Tryz.prog 36 #[.agg S.cells,.agg #[.int .i64 fi,ub,uc],.int .i64 v] w fun e w'=>∃ vd,e = .returned (.tuple #[vd,.bool (atB fi l v),.int .i64 0])/\Sl zOf w' vd (atD fi D l v)/\Below w.heap.size w w':=by
 obtain ⟨Ab,cb,rfl, -⟩:=hub.form;obtain ⟨Ac,cc,rfl, -⟩:=huc.form;have HEV:=oH henv;have HIN:=oH hin;have HSO:=oH hok;have HUB:=oH hub;have HUC:=oH huc;have HHK:=oH hH;have hf0:=hH.f0;have hf1:=hH.f1;have hll:=hH.len;have HVS:=oH (fun (W:World)=>Vers_of (cs:=S.cells) (fi:=fi) (ub := .slice Ab D.length cb) (uc := .slice Ac l.length cc) (w:=W) (by simp [zFv.cells]));clear henv hin hok hub huc hH;generalize hcs:S.cells=cs at HVS ⊢;have HCS:=oH hcs;have hz:∃ a b c d,cs=#[a,b,c,d]:=⟨_,_,_,_,hcs.symm⟩;obtain ⟨q0,q1,q2,q3,rfl⟩:=hz;clear hcs;refine (callsIn_wide (n:=5)).1 (callsIn_of_wp_marks Tryz.func36 rfl trivial (wpIn_wide.2 ?_) rfl);simp only [Tryz.ntmps36,List.size_toArray,List.length_cons,List.length_nil,Nat.reduceAdd,Nat.reduceSub,Array.replicate_succ,Array.replicate_zero,List.push_toArray,List.append_toArray,List.nil_append,List.cons_append];go_wp2_with fail
 go_region
 all_goals go_wp2_with fail
 all_goals refine (HVS.out _).mono ?_
 all_goals rintro e w1 ⟨rfl,rfl⟩
 all_goals go_wp2_with fail
 ·refine gen_wp (F:=fun W=>AtI w (w.heap.size+1+1+1+1+1+1+1) (w.heap.size+1+1+1+1+1+1+1+1) fi v D l 0 W/\Blk W (w.heap.size+1+1+1+1+1+1+1+1+1) 31 [q0,q1,q2,q3]/\Blk W (w.heap.size+1+1+1+1+1+1+1+1+1+1) 37 [.int .i64 fi,.slice Ab D.length cb,.slice Ac l.length cc]/\W.heap.size=w.heap.size+1+1+1+1+1+1+1+1+1+1+1) zHm ?_
  intro wz hF
  obtain ⟨hI0,hbs,hbh,hsz⟩:=hF;refine (wpIn_wide (n:=5)).1 (xAm (N:=l.length+1) (encs:=fun x=>#[x,.int .i64 0]) (X:=fun k x W=>Sl zOf W x (zZm D l k)) (Kp:=zCd w.heap.size) (I:=AtI w (w.heap.size+1+1+1+1+1+1+1) (w.heap.size+1+1+1+1+1+1+1+1) fi v D l) (a1:=fun x=>{ tmps:=#[.agg #[q0,q1,q2,q3],.agg #[.int .i64 fi,.slice Ab D.length cb,.slice Ac l.length cc],.int .i64 v,.pointer (some ⟨w.heap.size,0,none⟩),.pointer (some ⟨w.heap.size+1,0,none⟩),.pointer (some ⟨w.heap.size+1+1,0,none⟩),.pointer (some ⟨w.heap.size+1+1+1,0,none⟩),.pointer (some ⟨w.heap.size+1+1+1+1,0,none⟩),.pointer (some ⟨w.heap.size+1+1+1+1+1,0,none⟩),.pointer (some ⟨w.heap.size+1+1+1+1+1+1,0,none⟩),.pointer (some ⟨w.heap.size+1+1+1+1+1+1+1,0,none⟩),.pointer (some ⟨w.heap.size+1+1+1+1+1+1+1+1,0,none⟩),x,.int .i64 0,.pointer (some ⟨w.heap.size+1,0,none⟩),.int .i64 fi,.agg #[q0,q1,q2,q3],.agg #[.int .i64 fi,.slice Ab D.length cb,.slice Ac l.length cc],.func (.func 71) #[] #[.pointer (some ⟨w.heap.size+1+1+1+1+1+1+1+1+1+1,0,none⟩),.pointer (some ⟨w.heap.size+1+1+1+1+1+1+1+1+1,0,none⟩)],x,.int .i64 0,undef,undef,undef,undef,undef,undef,undef,undef,undef,undef,undef,undef],defers:=[] }) rfl dCx rfl trivial (enters_of Tryz.func71 (by kernel_rfl) rfl) ?seq (fun _=>rfl) (fun h k=>h.trans k) ?kb (fun k x W j o o' h hl ho=>h.kp (KpT.putObj (es:=[]) hl ho) sMx) (fun k W j o o' hle h hl ho=>h.put oMx hl ho) (fun k A B h hb=>h.below hb) hI0 ?assign ?body ?done)
  case seq =>
   intro lp J W hW hJ hY h0
   exact zGu (S:=S) 4 w.heap.size lp (w.heap.size+1+1+1+1+1+1+1+1+1+1) (w.heap.size+1+1+1+1+1+1+1+1+1) dCx J HEV.out HIN.out HSO.out HUB.out HUC.out HHK.out lRx hJ (fun k x W1 hk hx hj=>hY k x W1 hk hx hj) W (hI0.bel.trans (hW.mono hI0.bel.size)) (by rw [HCS.out];exact hbs.below hW) (hbh.below hW) h0
  case kb =>
   intro W j o o' hle hl ho
   exact ⟨(Below.refl _ W).grown (grownBy_putObj' W j o') (by have:=(Array.getElem?_eq_some_iff.1 hl).1;omega) (fun k e=>by cases e;omega),KpT.putObj hl ho⟩
  case assign =>
   intro j x W K hK
   gi_wp2
   exact hK
  case body =>
   intro j k x W hk hX hI
   obtain ⟨A5,c5,rfl, -⟩:=hX.form
   have hg:IntKind.i64.wrap (fi+(k:Int)+1)=fi+((k+1:Nat):Int):=by rw [IntWalk.i64_in _ oMx];omega
   have n0:=hI.cnt.at_ (i:=0) rfl;have v0:=hI.b2.at_ (i:=0) rfl
   by_cases hv:fi+(k:Int)=v
   ·have hq:((fi+(k:Int))==v)=true:=by rw [beq_iff_eq];exact hv
    have HC:=oH (zAp hX ((HHK.db (k:=k) oMx).lit HSO.out));have HV:=oH hv;clear hv
    gi_wp2
    refine ⟨trivial,(CallsIn.inRound j (callsIn_wide.2 HC.out)).mono ?_⟩;rintro e w5 ⟨vo,rfl,ho,hb⟩;obtain ⟨A6,c6,rfl, -⟩:=ho.form;have hI5:=hI.below hb;have HH:=oH (hI5.hit HV.out ho.sl oMx oMx oMx);obtain ⟨A0,m0,c0,hob, -⟩:=hI5.out;have n1:=hI5.cnt.at_ (i:=0) rfl;have n2:=hI5.cnt.fr 0;have o1:=hob.at_ (i:=0) rfl;have o2:=hob.fr 0;have u1:=hI5.fnd.at_ (i:=0) rfl;have u2:=hI5.fnd.fr 0;have HKO:=oH (KeepsOthers.of_below hb);have HKA:=oH (zCd.of_below hb hI.bel.size);clear ho hb hI5 hob n0 v0 hX hI HC hq
    gi_wp2
    exact ⟨(((HKO.trans (KeepsOthers.setCell _ _ _)).trans (KeepsOthers.setCell _ _ _)).trans (KeepsOthers.setCell _ _ _)),HKA.trans HH.1,HH.2⟩
   have hq:((fi+(k:Int))==v)=false:=by rw [beq_eq_false_iff_ne];exact hv
   have HH:=oH (hI.pass hv oMx oMx);have n2:=hI.cnt.fr 0;clear hX hI
   gi_wp2
   exact ⟨KeepsOthers.setCell _ _ _,HH.1,HH.2⟩
  case done =>
   intro D0 W hle hI hD
   obtain ⟨A0,m0,c0,hob,hos⟩:=hI.out;have o1:=hob.at_ (i:=0) rfl;have u1:=hI.fnd.at_ (i:=0) rfl;have x3:=hI.r3.at_ (i:=0) rfl;have x4:=hI.r4.at_ (i:=0) rfl;have x5:=hI.r5.at_ (i:=0) rfl;have y3:=hI.r3.fr 0;have y4:=hI.r4.fr 0;have y5:=hI.r5.fr 0
   have ht:(fi<=v/\v<fi+((l.length+1:Nat):Int))=(fi<=v/\v<=fi+(l.length:Int)):=by simp only [eq_iff_iff];omega
   have HT:=oH ht;have HBQ:=oH (show atB fi l v=decide (fi<=v/\v<fi+((l.length+1:Nat):Int)) by unfold atB;simp only [ht]);have HOS:Hid (Sl zOf W (.slice A0 m0 c0) (atD fi D l v)):=oH (by unfold atD;simp only [ht] at hos;exact hos);generalize decide (fi<=v/\v<fi+((l.length+1:Nat):Int))=bq at *;have HF:=oH (hI.fin hD oMx A0 m0 c0 bq);clear hI hos hob hD ht;go_wp2_with fail
   go_region
   all_goals go_wp2_with fail
   all_goals
    refine ⟨by simp,.inl ⟨_,_,rfl,run_takeDeferred HF.1,?_⟩⟩;obtain ⟨-,z3,z4,z5,hbl,hsl⟩:=HF.out;refine ⟨.tuple #[.slice A0 m0 c0,.bool bq,.int .i64 0],?_,⟨_,by rw [HBQ.out],hsl _ HOS.out,hbl⟩⟩
    simp [results,Tryz.f36,go_sem,z3,z4,z5]
 refine gen_wp (F:=fun W=>AtI w (w.heap.size+1+1+1+1+1+1+1+1) (w.heap.size+1+1+1+1+1+1+1) fi v D l 0 W/\Blk W (w.heap.size+1+1+1+1+1+1+1+1+1) 31 [q0,q1,q2,q3]/\Blk W (w.heap.size+1+1+1+1+1+1+1+1+1+1) 37 [.int .i64 fi,.slice Ab D.length cb,.slice Ac l.length cc]/\W.heap.size=w.heap.size+1+1+1+1+1+1+1+1+1+1+1) zHn ?_
 intro wz hF
 obtain ⟨hI0,hbs,hbh,hsz⟩:=hF;refine (wpIn_wide (n:=5)).1 (xAm (N:=l.length+1) (encs:=fun x=>#[x,.int .i64 0]) (X:=fun k x W=>Sl zOf W x (zZm D l k)) (Kp:=zCd w.heap.size) (I:=AtI w (w.heap.size+1+1+1+1+1+1+1+1) (w.heap.size+1+1+1+1+1+1+1) fi v D l) (a1:=fun x=>{ tmps:=#[.agg #[q0,q1,q2,q3],.agg #[.int .i64 fi,.slice Ab D.length cb,.slice Ac l.length cc],.int .i64 v,.pointer (some ⟨w.heap.size,0,none⟩),.pointer (some ⟨w.heap.size+1,0,none⟩),.pointer (some ⟨w.heap.size+1+1,0,none⟩),.pointer (some ⟨w.heap.size+1+1+1,0,none⟩),.pointer (some ⟨w.heap.size+1+1+1+1,0,none⟩),.pointer (some ⟨w.heap.size+1+1+1+1+1,0,none⟩),.pointer (some ⟨w.heap.size+1+1+1+1+1+1,0,none⟩),.pointer (some ⟨w.heap.size+1+1+1+1+1+1+1+1,0,none⟩),.pointer (some ⟨w.heap.size+1+1+1+1+1+1+1,0,none⟩),x,.int .i64 0,.pointer (some ⟨w.heap.size+1,0,none⟩),.int .i64 fi,.agg #[q0,q1,q2,q3],.agg #[.int .i64 fi,.slice Ab D.length cb,.slice Ac l.length cc],.func (.func 71) #[] #[.pointer (some ⟨w.heap.size+1+1+1+1+1+1+1+1+1+1,0,none⟩),.pointer (some ⟨w.heap.size+1+1+1+1+1+1+1+1+1,0,none⟩)],x,.int .i64 0,undef,undef,undef,undef,undef,undef,undef,undef,undef,undef,undef,undef],defers:=[] }) rfl dCx rfl trivial (enters_of Tryz.func71 (by kernel_rfl) rfl) ?seq (fun _=>rfl) (fun h k=>h.trans k) ?kb (fun k x W j o o' h hl ho=>h.kp (KpT.putObj (es:=[]) hl ho) sMx) (fun k W j o o' hle h hl ho=>h.put oMx hl ho) (fun k A B h hb=>h.below hb) hI0 ?assign ?body ?done)
 case seq =>
  intro lp J W hW hJ hY h0
  exact zGu (S:=S) 4 w.heap.size lp (w.heap.size+1+1+1+1+1+1+1+1+1+1) (w.heap.size+1+1+1+1+1+1+1+1+1) dCx J HEV.out HIN.out HSO.out HUB.out HUC.out HHK.out lRx hJ (fun k x W1 hk hx hj=>hY k x W1 hk hx hj) W (hI0.bel.trans (hW.mono hI0.bel.size)) (by rw [HCS.out];exact hbs.below hW) (hbh.below hW) h0
 case kb =>
  intro W j o o' hle hl ho
  exact ⟨(Below.refl _ W).grown (grownBy_putObj' W j o') (by have:=(Array.getElem?_eq_some_iff.1 hl).1;omega) (fun k e=>by cases e;omega),KpT.putObj hl ho⟩
 case assign =>
  intro j x W K hK
  gi_wp2
  exact hK
 case body =>
  intro j k x W hk hX hI
  obtain ⟨A5,c5,rfl, -⟩:=hX.form
  have hg:IntKind.i64.wrap (fi+(k:Int)+1)=fi+((k+1:Nat):Int):=by rw [IntWalk.i64_in _ oMx];omega
  have n0:=hI.cnt.at_ (i:=0) rfl;have v0:=hI.b2.at_ (i:=0) rfl
  by_cases hv:fi+(k:Int)=v
  ·have hq:((fi+(k:Int))==v)=true:=by rw [beq_iff_eq];exact hv
   have HC:=oH (zAp hX ((HHK.db (k:=k) oMx).lit HSO.out));have HV:=oH hv;clear hv
   gi_wp2
   refine ⟨trivial,(CallsIn.inRound j (callsIn_wide.2 HC.out)).mono ?_⟩;rintro e w5 ⟨vo,rfl,ho,hb⟩;obtain ⟨A6,c6,rfl, -⟩:=ho.form;have hI5:=hI.below hb;have HH:=oH (hI5.hit HV.out ho.sl oMx oMx oMx);obtain ⟨A0,m0,c0,hob, -⟩:=hI5.out;have n1:=hI5.cnt.at_ (i:=0) rfl;have n2:=hI5.cnt.fr 0;have o1:=hob.at_ (i:=0) rfl;have o2:=hob.fr 0;have u1:=hI5.fnd.at_ (i:=0) rfl;have u2:=hI5.fnd.fr 0;have HKO:=oH (KeepsOthers.of_below hb);have HKA:=oH (zCd.of_below hb hI.bel.size);clear ho hb hI5 hob n0 v0 hX hI HC hq
   gi_wp2
   exact ⟨(((HKO.trans (KeepsOthers.setCell _ _ _)).trans (KeepsOthers.setCell _ _ _)).trans (KeepsOthers.setCell _ _ _)),HKA.trans HH.1,HH.2⟩
  have hq:((fi+(k:Int))==v)=false:=by rw [beq_eq_false_iff_ne];exact hv
  have HH:=oH (hI.pass hv oMx oMx);have n2:=hI.cnt.fr 0;clear hX hI
  gi_wp2
  exact ⟨KeepsOthers.setCell _ _ _,HH.1,HH.2⟩
 case done =>
  intro D0 W hle hI hD
  obtain ⟨A0,m0,c0,hob,hos⟩:=hI.out;have o1:=hob.at_ (i:=0) rfl;have u1:=hI.fnd.at_ (i:=0) rfl;have x3:=hI.r3.at_ (i:=0) rfl;have x4:=hI.r4.at_ (i:=0) rfl;have x5:=hI.r5.at_ (i:=0) rfl;have y3:=hI.r3.fr 0;have y4:=hI.r4.fr 0;have y5:=hI.r5.fr 0
  have ht:(fi<=v/\v<fi+((l.length+1:Nat):Int))=(fi<=v/\v<=fi+(l.length:Int)):=by simp only [eq_iff_iff];omega
  have HT:=oH ht;have HBQ:=oH (show atB fi l v=decide (fi<=v/\v<fi+((l.length+1:Nat):Int)) by unfold atB;simp only [ht]);have HOS:Hid (Sl zOf W (.slice A0 m0 c0) (atD fi D l v)):=oH (by unfold atD;simp only [ht] at hos;exact hos);generalize decide (fi<=v/\v<fi+((l.length+1:Nat):Int))=bq at *;have HF:=oH (hI.fin hD oMx A0 m0 c0 bq);clear hI hos hob hD ht;go_wp2_with fail
  go_region
  all_goals go_wp2_with fail
  all_goals
   refine ⟨by simp,.inl ⟨_,_,rfl,run_takeDeferred HF.1,?_⟩⟩;obtain ⟨-,z3,z4,z5,hbl,hsl⟩:=HF.out;refine ⟨.tuple #[.slice A0 m0 c0,.bool bq,.int .i64 0],?_,⟨_,by rw [HBQ.out],hsl _ HOS.out,hbl⟩⟩
   simp [results,Tryz.f36,go_sem,z3,z4,z5]
end Go.Proofs.YtafflnognagadaaGreatDoor
namespace Go.Proofs.YtafflnognagadaaGreatDoor
open Go.RowKit
theorem Sl.store {α:Type} {K:Kind α} {g t i:Nat} {w:World} {v u:Value} {cs:List Value} {xs:List α} (h:Sl K w v xs) (hb:Blk w g t cs) (ht:∀ s∈K.t::K.ts,s ∉ [t]):Sl K (w.setCell ⟨g,i,none⟩ u) v xs :=
 h.kp (KpT.of_grown (zMz g i u) fun k hk=>by injection hk with hk;subst hk;exact ⟨_,_,_,hb,by simp⟩) ht
theorem zIc {w:World} {g t:Nat} {a0 a1 a2:Value} (h:Blk w g t [a0,a1,a2]) (u0 u1 u2:Value):Blk (((w.setCell ⟨g,0,none⟩ u0).setCell ⟨g,1,none⟩ u1).setCell ⟨g,2,none⟩ u2) g t [u0,u1,u2] /\
  KpT [t] w (((w.setCell ⟨g,0,none⟩ u0).setCell ⟨g,1,none⟩ u1).setCell ⟨g,2,none⟩ u2)/\∀ B,B<=g->Below B w (((w.setCell ⟨g,0,none⟩ u0).setCell ⟨g,1,none⟩ u1).setCell ⟨g,2,none⟩ u2):=by
 have h1:=h.set 0 u0;have h2:=h1.set 1 u1
 have k:∀ {W:World} {cs:List Value} (_:Blk W g t cs) (i:Nat) (u:Value),KpT [t] W (W.setCell ⟨g,i,none⟩ u):=fun hb i u=>KpT.of_grown (zMz g i u) fun k hk=>by injection hk with hk;subst hk;exact ⟨_,_,_,hb,by simp⟩
 exact ⟨h2.set 2 u2,((k h 0 u0).trans (k h1 1 u1)).trans (k h2 2 u2),fun B hB=>(((Below.refl B w).setCell (p:=⟨g,0,none⟩) hB u0).setCell (p:=⟨g,1,none⟩) hB u1).setCell (p:=⟨g,2,none⟩) hB u2⟩
def zFl (w:World) (er fi:Int) (D:List Tbl) (l:List Chn) (e:Ending) (w':World):Prop:=∃ vb vc,e = .returned (.tuple #[.agg #[.int .i64 fi,vb,vc],.int .i64 er])/\Sl zOf w' vb D/\Sl zOc w' vc l/\Below w.heap.size w w'
theorem zDg {fi:Int} {ub:Value} {A:oAx} {n c:Nat} {w:World} (h0:0<=fi) (h1:fi<=1000000) (hn:n<=1000):Calls Tryz.prog 15 #[.agg #[.int .i64 fi,ub,.slice A n c]] w fun e w'=>e = .returned (.int .i64 (fi+n))/\Below w.heap.size w w':=by
 have hg:IntKind.i64.wrap (fi+(n:Int))=fi+(n:Int):=IntWalk.i64_in _ oMx
 go_enter Tryz.func15,Tryz.ntmps15
 go_wp2_with fail;go_ret
 exact ⟨rfl,bA⟩
theorem zEe {fi:Int} {ub:Value} {A:oAx} {n c:Nat} {w:World} (h0:0<=fi) (h1:fi<=1000000) (hn:n<=1000):Calls Tryz.prog 24 #[.agg #[.int .i64 fi,ub,.slice A n c]] w fun e w'=>e = .returned (.int .i64 (fi+n))/\Below w.heap.size w w':=by
 have hg:IntKind.i64.wrap (fi+(n:Int))=fi+(n:Int):=IntWalk.i64_in _ oMx
 go_enter Tryz.func24,Tryz.ntmps24
 go_wp2_with fail;go_ret
 exact ⟨rfl,bA⟩
theorem zCs {S:zFv} {fi v:Int} {ub uc:Value} {D:List Tbl} {l:List Chn} {w:World} (henv:Env w) (hin:zBp w S) (hok:zFu S) (hub:Sl zOf w ub D) (huc:Sl zOc w uc l) (hH:zBj S fi D l) :
  Calls Tryz.prog 14 #[.agg S.cells,.agg #[.int .i64 fi,ub,uc],.int .i64 v] w (zFk w (if atB fi l v then 0 else 64) (atD fi D l v)):=by
 obtain ⟨Ab,cb,rfl, -⟩:=hub.form;obtain ⟨Ac,cc,rfl, -⟩:=huc.form;have hba:Below w.heap.size w ((w.alloc (.cells S.cells 31)).alloc (.cells #[.int .i64 fi,.slice Ab D.length cb,.slice Ac l.length cc] 37)):=(bA).alloc sMx _;have HC:=oH (zCt (v:=v) (henv.below hba) (hin.below hba) hok (hub.below hba) (huc.below hba) hH);have HBA:=oH hba;have HNO:=oH (fun (h:atB fi l v=false)=>(show atD fi D l v=[] from if_neg (of_decide_eq_false h)));obtain ⟨bq,hbq⟩:=eXx (atB fi l v);rw [hbq] at HC HNO ⊢;obtain ⟨er,her⟩:∃ er:Int,(if bq=true then 0 else 64)=er:=⟨_,rfl⟩;have HER:=oH her;rw [her];clear her henv hin hok hub huc hH hba hbq;generalize hcs:S.cells=cs at HC HBA ⊢;obtain ⟨q0,q1,q2,q3,hq⟩:∃ a b c d,cs=#[a,b,c,d]:=⟨_,_,_,_,hcs.symm⟩;subst hq;clear hcs
 go_enter Tryz.func14,Tryz.ntmps14
 go_wp2_with fail;refine HC.mono ?_;rintro e w2 ⟨vd,rfl,hs,hb⟩;obtain ⟨Ad,cd,rfl, -⟩:=hs.form;have HS:=oH hs;have HB:=bTx2 HBA hb;clear hs hb HC
 cases bq
 ·have E:=oH (HNO.out rfl);go_wp2_with fail;go_ret2
  exact ⟨_,by rw [<-HER.out];rfl,by rw [E.out];exact .nil _ _ _ _,HB.out⟩
 go_wp2_with fail;go_ret2
 exact ⟨_,by rw [<-HER.out];rfl,HS.out,HB.out⟩
theorem zCw {S:zFv} {fi:Int} {ub uc:Value} {D:List Tbl} {l:List Chn} {w:World} (henv:Env w) (hin:zBp w S) (hok:zFu S) (hub:Sl zOf w ub D) (huc:Sl zOc w uc l) (hH:zBj S fi D l) :
  Calls Tryz.prog 27 #[.agg S.cells,.agg #[.int .i64 fi,ub,uc]] w fun e w'=>e = .returned (.int .i64 0)/\Below w.heap.size w w':=by
 obtain ⟨Ab,cb,rfl, -⟩:=hub.form;obtain ⟨Ac,cc,rfl, -⟩:=huc.form;have hba:Below w.heap.size w ((w.alloc (.cells S.cells 31)).alloc (.cells #[.int .i64 fi,.slice Ab D.length cb,.slice Ac l.length cc] 37)):=(bA).alloc sMx _;have HC:=oH (zCt (v := -1) (henv.below hba) (hin.below hba) hok (hub.below hba) (huc.below hba) hH);have HBA:=oH hba;obtain ⟨bq,hbq⟩:=eXx (atB fi l (-1));rw [hbq] at HC;clear henv hin hok hub huc hH hba hbq;generalize hcs:S.cells=cs at HC HBA ⊢;obtain ⟨q0,q1,q2,q3,hq⟩:∃ a b c d,cs=#[a,b,c,d]:=⟨_,_,_,_,hcs.symm⟩;subst hq;clear hcs
 go_enter Tryz.func27,Tryz.ntmps27
 go_wp2_with fail;refine HC.mono ?_;rintro e w2 ⟨vd,rfl,hs,hb⟩;obtain ⟨Ad,cd,rfl, -⟩:=hs.form;have HB:=bTx2 HBA hb;clear hs hb HC;go_wp2_with fail;go_ret
 exact ⟨rfl,HB.out⟩
theorem zDh {S:zFv} {v:Value} {D:List Tbl} {w:World} (henv:Env w) (hin:zBp w S) (hok:zFu S) (hv:Sl zOf w v D) (hD:DbK S D) :
  Calls Tryz.prog 20 #[.agg S.cells,v] w (zFl w 0 0 D []):=by
 obtain ⟨A,c,rfl, -⟩:=hv.form;have hba:Below w.heap.size w ((w.alloc (.cells S.cells 31)).alloc (.cells #[.int .i64 0,.slice none 0 0,.slice none 0 0] 37)):=(bA).alloc sMx _;have HC:=oH (zCx (henv.below hba) (hin.below hba) hok (hv.below hba) hD);have HBA:=oH hba;have HR:=oH (show Blk ((w.alloc (.cells S.cells 31)).alloc (.cells #[.int .i64 0,.slice none 0 0,.slice none 0 0] 37)) (w.heap.size+1) 37 [.int .i64 0,.slice none 0 0,.slice none 0 0] from Blk.new' sMx _ [_,_,_]);have HV:=oH hv;have HL:=oH (hD.lit hok);clear henv hin hok hv hD hba;generalize hcs:S.cells=cs at HC HBA HR ⊢;obtain ⟨z0,z1,z2,z3,hq⟩:∃ a b c d,cs=#[a,b,c,d]:=⟨_,_,_,_,hcs.symm⟩;subst hq;clear hcs
 go_enter Tryz.func20,Tryz.ntmps20
 go_wp2_with fail;refine HC.mono ?_;rintro e w2 ⟨rfl,hb⟩;have HB2:=bTx2 HBA hb;have HR2:=oH (HR.below hb);have HCP:=oH (zAp (HV.below HB2.out) HL.out);clear hb HC HR;go_wp2_with fail;refine HCP.mono ?_;rintro e w3 ⟨v3,rfl,ho,hb⟩;obtain ⟨A3,c3,rfl, -⟩:=ho.form;have HB3:=bTx2 HB2 hb;have hr:=HR2.below hb;have HO:=oH ho.sl;have r0:=hr.at_ (i:=0) rfl;have r1:=hr.at_ (i:=1) rfl;have r2:=hr.at_ (i:=2) rfl;have f0:=hr.fr 0;have f1:=hr.fr 1;have f2:=hr.fr 2;have H3:=oH (zIc hr (.int .i64 0) (.slice A3 D.length c3) (.slice none 0 0));clear hr ho hb HR2 HCP;go_wp2_with fail;have q0:=H3.1.at_ (i:=0) rfl;have q1:=H3.1.at_ (i:=1) rfl;have q2:=H3.1.at_ (i:=2) rfl;exact bodyPost_ret (v := .tuple #[.agg #[.int .i64 0,.slice A3 D.length c3,.slice none 0 0],.int .i64 0]) (by simp [results,Tryz.results20,go_sem,q0,q1,q2]) rfl ⟨_,_,rfl,HO.kp H3.2.1 dCx,.nil _ _ _ _,HB3.trans (H3.2.2 _ oMx)⟩
theorem RNew_of {S:zFv} {v:Value} {D:List Tbl} {w:World} (hin:zBp w S) (hok:zFu S) (hlow:zCg S) (hv:Sl zOf w v D) (hD:DbK S D) :
  Calls Tryz.prog 32 #[.agg S.cells,v] w (zFl w 0 0 D []):=by
 obtain ⟨A,c,rfl, -⟩:=hv.form;have hba:Below w.heap.size w ((w.alloc (.cells S.cells 31)).alloc (.cells #[.int .i64 0,.slice none 0 0,.slice none 0 0] 37)):=(bA).alloc sMx _;have HC:=oH (zDs (hin.below hba) hok hlow (hv.below hba) hD);have HBA:=oH hba;have HR:=oH (show Blk ((w.alloc (.cells S.cells 31)).alloc (.cells #[.int .i64 0,.slice none 0 0,.slice none 0 0] 37)) (w.heap.size+1) 37 [.int .i64 0,.slice none 0 0,.slice none 0 0] from Blk.new' sMx _ [_,_,_]);have HV:=oH hv;have HL:=oH (hD.lit hok);clear hlow hin hok hv hD hba;generalize hcs:S.cells=cs at HC HBA HR ⊢;obtain ⟨z0,z1,z2,z3,hq⟩:∃ a b c d,cs=#[a,b,c,d]:=⟨_,_,_,_,hcs.symm⟩;subst hq;clear hcs
 go_enter Tryz.func32,Tryz.ntmps32
 go_wp2_with fail;refine HC.mono ?_;rintro e w2 ⟨rfl,hb⟩;have HB2:=bTx2 HBA hb;have HR2:=oH (HR.below hb);have HCP:=oH (zDx (HV.below HB2.out) HL.out);clear hb HC HR;go_wp2_with fail;refine HCP.mono ?_;rintro e w3 ⟨v3,rfl,ho,hb⟩;obtain ⟨A3,c3,rfl, -⟩:=ho.form;have HB3:=bTx2 HB2 hb;have hr:=HR2.below hb;have HO:=oH ho.sl;have r0:=hr.at_ (i:=0) rfl;have r1:=hr.at_ (i:=1) rfl;have r2:=hr.at_ (i:=2) rfl;have f0:=hr.fr 0;have f1:=hr.fr 1;have f2:=hr.fr 2;have H3:=oH (zIc hr (.int .i64 0) (.slice A3 D.length c3) (.slice none 0 0));clear hr ho hb HR2 HCP;go_wp2_with fail;have q0:=H3.1.at_ (i:=0) rfl;have q1:=H3.1.at_ (i:=1) rfl;have q2:=H3.1.at_ (i:=2) rfl;exact bodyPost_ret (v := .tuple #[.agg #[.int .i64 0,.slice A3 D.length c3,.slice none 0 0],.int .i64 0]) (by simp [results,Tryz.results32,go_sem,q0,q1,q2]) rfl ⟨_,_,rfl,HO.kp H3.2.1 dCx,.nil _ _ _ _,HB3.trans (H3.2.2 _ oMx)⟩
def xAa:List Chn->Int->Nat
 | [],_=>0
 | c::l,t=>if t<c.1 then 0 else xAa l t+1
theorem verN_le (l:List Chn) (t:Int):xAa l t<=l.length:=by
 induction l with
 | nil=>exact lRx
 | cons c l ih=>unfold xAa;split<;>simp<;>omega
theorem xAc {t:Int}:∀ {l:List Chn} {k:Nat} (h:k<l.length),(∀ j (hj:j<l.length),j<k->¬t<l[j].1)->t<l[k].1->xAa l t=k
 | c::l,0,_,_,h2=>by unfold xAa;exact if_pos h2
 | c::l,k+1,h,h1,h2=>by
  unfold xAa;rw [if_neg (show ¬t<c.1 from h1 0 sMx oMx),xAc (l:=l) (k:=k) (by simpa using h) (fun j hj hjk=>h1 (j+1) (by simp;omega) oMx) (by simpa using h2)]
theorem xAb {t:Int}:∀ {l:List Chn},(∀ j (hj:j<l.length),¬t<l[j].1)->xAa l t=l.length
 | [],_=>rfl
 | c::l,h=>by
  unfold xAa;rw [if_neg (show ¬t<c.1 from h 0 sMx),xAb (l:=l) fun j hj=>h (j+1) (by simp;omega)]
  rfl
theorem zDm {fi t:Int} {ub uc:Value} {l:List Chn} {w:World} (huc:Sl zOc w uc l) (h0:0<=fi) (h1:fi<=1000000) (hn:l.length<=24) :
  Calls Tryz.prog 21 #[.agg #[.int .i64 fi,ub,uc],.int .i64 t] w fun e w'=>e = .returned (.int .i64 (fi+(xAa l t:Nat)))/\Below w.heap.size w w':=by
 obtain ⟨Ac,cc,rfl, -⟩:=huc.form;have HU:=oH huc;have HBA:=oH (show Below w.heap.size w (w.alloc (.cells #[.int .i64 fi,ub,.slice Ac l.length cc] 37)) from bA);have HBH:=oH (show Blk (w.alloc (.cells #[.int .i64 fi,ub,.slice Ac l.length cc] 37)) w.heap.size 37 [.int .i64 fi,ub,.slice Ac l.length cc] from Blk.new w _ [_,_,_]);clear huc
 go_enter Tryz.func21,Tryz.ntmps21
 go_wp2_with fail;generalize w.alloc (.cells #[.int .i64 fi,ub,.slice Ac l.length cc] 37)=wz at *
 go_loopw [10] (fun iv wr=>∃ k:Nat,iv = .int .i64 (k:Int)/\k<=l.length/\(∀ j,(hj:j<l.length)->j<k->¬t<l[j].1)/\Below wz.heap.size wz wr) (fun iv _=>l.length-(intOf iv).toNat)
 ·exact ⟨0,rfl,oLx,fun _ _ h=>absurd h oMx,bRx⟩
 obtain ⟨k,rfl,hk,hno,hbel⟩:=hrel;have HNO:=oH hno;have HBEL:=oH hbel;have HBW:=bTx2 HBA hbel;have hbh:=HBH.below hbel;have k0:=hbh.at_ (i:=0) rfl;have k1:=hbh.at_ (i:=1) rfl;have k2:=hbh.at_ (i:=2) rfl;clear hbel hno hbh
 by_cases hlt:k<l.length
 ·obtain ⟨b,off,rfl,hb,hc⟩:=HU.isl2 (by intro e;subst e;simp at hlt);obtain ⟨u1,p0,p1,hu1⟩:=hc k hlt;have c0:=(HBW.cell (p:=⟨b,off+k*2,none⟩) hb).trans p0;have c1:wr.cell? ⟨b,off+k*2+1,none⟩=_:=(HBW.cell (p:=⟨b,off+k*2+1,none⟩) hb).trans p1;have HAT:=oH (xAc (t:=t) hlt HNO.out)
  have HNX:=oH (fun (h:¬t<l[k].1)=>(show ∀ j,(hj:j<l.length)->j<k+1->¬t<l[j].1 from fun j hj hjk=>by
   by_cases e:j=k
   ·subst e;exact h
   exact HNO.out j hj oMx))
  obtain ⟨Au,cu,rfl, -⟩:=hu1.form;generalize l[k].1=s at *;generalize l[k].2.length=m at *;have hbl:w.heap.size<wr.heap.size:=Nat.lt_of_lt_of_le HBH.lt HBEL.size;have HBB:=oH ((Below.refl wr.heap.size wr).alloc lRx (.cells #[.int .i64 s,.slice Au m cu] 54));have hg:IntKind.i64.wrap (fi+(k:Int))=fi+(k:Int):=IntWalk.i64_in _ oMx;clear hc p0 p1 hu1
  by_cases ht:t<s
  ·have E:=oH (HAT.out ht);have hd:=decide_eq_true ht;go_wp2_with fail;go_ret
   exact ⟨by rw [E.out];rfl,HBW.trans (HBB.mono HBW.size)⟩
  have HN:=oH (HNX.out ht);have hd:=decide_eq_false ht;go_wp2_with fail;go_roundw
  ·exact ⟨k+1,by go_num,oMx,HN.out,HBEL.trans (HBB.mono HBEL.size)⟩
  simp [intOf];omega
 obtain rfl:k=l.length:=by omega
 have E:=oH (xAb (t:=t) (l:=l) fun j hj=>HNO.out j hj hj);have HL:=oH (zDg (ub:=ub) (A:=Ac) (n:=l.length) (c:=cc) (w:=wr) h0 h1 oMx);go_wp2_with fail;refine HL.mono ?_;rintro e w5 ⟨rfl,hb5⟩;have HB5:=bTx2 HBW hb5;clear hb5;go_wp2_with fail;go_ret
 exact ⟨by rw [E.out];rfl,HB5.out⟩
end Go.Proofs.YtafflnognagadaaGreatDoor
