import Derived.Test.YtfjjcoggoomlbaaGreatDoorZMH
set_option maxHeartbeats 16000000
set_option maxRecDepth 100000
set_option linter.unusedVariables false
set_option linter.unusedSimpArgs false
set_option linter.unusedSectionVars false
namespace Go.Proofs.YtfjjcoggoomlbaaGreatDoor
open Go.RowKit
structure zCy (rs:List zGk) (m n:Nat) (M:mRx):Prop where
 len:rs.length=m
 row:∀ r∈rs,r.ss.length=n
 cel:∀ i k,(hi:i<rs.length)->(hk:k<rs[i].ss.length)->rs[i].ss[k]=zYy (M i k)
 fit:∀ i k,i<m->k<n->zBt (M i k)
section
variable {rs:List zGk} {m n k0:Nat} {M N:mRx}
theorem zCy.rowAt (h:zCy rs m n M) {i:Nat} (hi:i<rs.length):rs[i].ss.length=n:=h.row _ (List.getElem_mem hi)
theorem zCy.fine (h:zCy rs m n M) (hm:m<=12) (hn:n<=12) (h0:m=0->n=0):zBr rs n:=by
 refine ⟨by rw [h.len];exact hm,hn,h.row,fun r hr s hs=>?_,fun e=>h0 (by rw [<-h.len,e];rfl)⟩;obtain ⟨i,hi,rfl⟩:=List.getElem_of_mem hr;obtain ⟨k,hk,rfl⟩:=List.getElem_of_mem hs;have hl:=h.rowAt hi;have hf:=h.fit i k (by rw [<-h.len];exact hi) oMx;rw [h.cel i k hi hk];refine ⟨xFo hf,?_⟩;rw [zZg];have:=zZl hf;omega
theorem zCy.q (h:zCy rs m n M) {i k:Nat} (hi:i<m) (hk:k<n):zSj rs i k=M i k:=by
 have hi':i<rs.length:=by rw [h.len];exact hi
 have hk':k<rs[i].ss.length:=by rw [h.rowAt hi'];exact hk
 rw [zSk hi' hk',h.cel i k hi' hk',xFq (h.fit i k hi hk)]
theorem zCy.congr (h:zCy rs m n M) (e:∀ i k,i<m->k<n->M i k=N i k):zCy rs m n N:=by
 refine ⟨h.len,h.row,fun i k hi hk=>?_,fun i k hi hk=>by rw [<-e i k hi hk];exact h.fit i k hi hk⟩;have hl:=h.rowAt hi;have:=h.len;rw [h.cel i k hi hk,e i k oMx oMx]
theorem zCy.light (h:zCy rs m n M) (hm:m<=4) (hn:n<=4) (hk1:1<=k0) (hk:k0<=8) (hd:∀ i k,i<m->k<n->zAv k0 (M i k)):¬600<zOt rs n:=by
 have hlen:=h.len
 have hL:∀ l∈zSg rs,l.length<=4/\∀ q∈l,zAv k0 q:=fun l hl=>by
  obtain ⟨r,hr,rfl⟩:=List.mem_map.1 hl;refine ⟨by rw [List.length_map,h.row r hr];exact hn,fun q hq=>?_⟩;obtain ⟨s,hs,rfl⟩:=List.mem_map.1 hq;obtain ⟨i,hi,rfl⟩:=List.getElem_of_mem hr;obtain ⟨k,hk,rfl⟩:=List.getElem_of_mem hs;have hl:=h.rowAt hi;rw [h.cel i k hi hk,xFq (h.fit i k oMx oMx)];exact hd i k oMx oMx
 have hlL:(zSg rs).length=m:=by unfold zSg;rw [List.length_map,hlen]
 have hD:Dig (1+4*(4*k0)) (zSc rs):=by
  have h1:=zLu (a:=1) (d:=1) (m:=zSg rs) (by unfold Dig;decide) hL;refine h1.mono ?_;rw [hlL];have:m*(4*k0)<=4*(4*k0):=Nat.mul_le_mul_right _ hm;omega
 have hQ:∀ i k,zAv k0 (zSj rs i k):=fun i k=>by
  by_cases hi:i<m
  ·by_cases hk:k<n
   ·rw [h.q hi hk];exact hd i k hi hk
   have h0:zSj rs i k=0:=by
    unfold zSj;rw [List.getD_eq_getElem?_getD]
    have h9:((zSg rs).getD i []).length<=n:=by
     rw [List.getD_eq_getElem?_getD]
     rcases h2:(zSg rs)[i]? with _|l
     ·simp
     obtain ⟨r,hr,rfl⟩:=List.mem_map.1 (List.mem_of_getElem? h2);have:=h.row r hr
     simp
     omega
    rw [List.getElem?_eq_none oMx]
    rfl
   rw [h0];exact zMv.mono hk1
  have h0:zSj rs i k=0:=by
   unfold zSj;rw [List.getD_eq_getElem?_getD (l:=zSg rs),List.getElem?_eq_none (l:=zSg rs) oMx]
   rfl
  rw [h0];exact zMv.mono hk1
 have hdig:digT (zSc rs) (zSh rs) rs.length n<=1+17*k0:=by
  refine zTf ?_ fun i k hi hk=>?_
  ·have:=zMt (k:=4*(4*k0)) (by rw [Nat.add_comm];exact hD);omega
  have h1:Dig (k0+4*(4*k0)+1) (zSh rs i k):=by
   have:=zJj hD (hQ i k);rw [show k0+4*(4*k0)+1=k0+(1+4*(4*k0)) by omega];exact this
  have:=zMt h1
  show nd (zSh rs i k)<=_
  omega
 unfold zOt
 have h2:max rs.length n<=4:=by omega
 have h3:=Nat.mul_le_mul h2 hdig;omega
end
def celQ (qss:List (List Rat)) (i k:Nat):Rat:=(qss.getD i []).getD k 0
section
variable {rs:List zGk} {m n:Nat} {M:mRx}
end
def lowZ (M:mRx) (r:Nat):Nat->Nat->Rat:=fun a c=>if a<r/\c<a then 0 else M a c
def plusM (M:mRx) (i k:Nat) (f:Rat):Nat->Nat->Rat:=upd M i (fun c=>M i c+f*M k c)
structure zGi (B:Nat) (w:World) (A:oAx) (ss:List ByteArray):Prop where
 s:zGw w A ss
 lo:∀ g off x,A=some ⟨g,off,x⟩->B<=g/\g<w.heap.size
section
variable {B b:Nat} {w w':World} {A:oAx} {ss:List ByteArray}
theorem zGi.of_own {e c:Nat} (h:w.ownsRow B e 1 (.slice A ss.length c) ss.length (sv ss)):zGi B w A ss:=by
 obtain ⟨A',c',e1, -,hs,hl⟩:=zVy h;injection e1 with e1;subst e1;refine ⟨hs,fun g off x e2=>?_⟩
 rcases h.2 with ⟨hv,h0⟩|⟨g0,cap,cur,hv,hB,_⟩
 ·rw [e2] at hv;injection hv with hv
  cases hv
 rw [e2] at hv;injection hv with hv;injection hv with hv;injection hv with hv;subst hv;exact h.lt g (by rw [e2];rfl)
theorem zGi.up (h:zGi B w A ss) (hs:w.heap.size<=w'.heap.size) (hk:∀ i,B<=i->i<w.heap.size->w'.heap[i]? = w.heap[i]?):zGi B w' A ss:=by
 refine ⟨fun hn=>?_,fun g off x e=>by have:=h.lo g off x e;omega⟩;obtain ⟨g,off,e,hg,hc⟩:=h.s hn;refine ⟨g,off,e,oMx,fun i hi=>?_⟩;rw [World.cell?_of_block (w:=w) (hk g (h.lo _ _ _ e).1 hg)];exact hc i hi
theorem zGi.below (h:zGi B w A ss) (hb:Below w.heap.size w w'):zGi B w' A ss:=h.up hb.size fun i _ hi=>hb.block i hi
theorem zGi.grown (h:zGi B w A ss) (hg:w.grownBy w' (some b)) (hb:b<B):zGi B w' A ss:=h.up hg.size fun i h1 h2=>hg.block i h2 (fun e=>by injection e with e;omega)
theorem zGi.mono {B':Nat} (h:zGi B w A ss) (hb:B'<=B):zGi B' w A ss:=⟨h.s,fun g off x e=>by have:=h.lo g off x e;omega⟩
theorem zGi.over (h:zGi B w A ss) {p:Addr} {u:Value} (hc:w.cell? p=some u) (hu:∀ s,u ≠ .string s) (x:Value):zGi B (w.setCell p x) A ss:=by
 refine ⟨fun hn=>?_,fun g off x e=>by have:=h.lo g off x e;simpa using this⟩;obtain ⟨g,off,e,hg,hk⟩:=h.s hn;refine ⟨g,off,e,by simpa using hg,fun i hi=>?_⟩;rw [World.cell?_setCell_other]
 ·exact hk i hi
 intro e2
 subst e2;rw [hk i hi] at hc;injection hc with hc;exact hu _ hc.symm
theorem zGi.far (h:zGi B w A ss) {g:Nat} (hg:∀ off x,A≠some ⟨g,off,x⟩) (j:Nat) (x:Value):zGi B (w.setCell ⟨g,j,none⟩ x) A ss:=by
 refine ⟨fun hn=>?_,fun g off x e=>by have:=h.lo g off x e;simpa using this⟩;obtain ⟨g',off,e,hg',hk⟩:=h.s hn;refine ⟨g',off,e,by simpa using hg',fun i hi=>?_⟩;rw [World.cell?_setCell_other]
 ·exact hk i hi
 intro e2
 injection e2 with e3;exact hg off none (by rw [e,e3])
end
structure zHg (B:Nat) (w:World) (V:Value) (rs:List zGk):Prop where
 o:w.ownsRow B 29 1 V rs.length (zYr rs)
 i:∀ r∈rs,zGi B w r.ad r.ss
section
variable {B b:Nat} {w w':World} {V:Value} {rs:List zGk}
theorem zDa.topM (h:zDa B w V rs):zHg B w V rs:=⟨h.o,fun r hr=>zGi.of_own (h.i r hr)⟩
theorem zHg.below (h:zHg B w V rs) (hb:Below w.heap.size w w'):zHg B w' V rs:=⟨zVn h.o hb,fun r hr=>(h.i r hr).below hb⟩
theorem zHg.alloc (h:zHg B w V rs) (o:Obj):zHg B (w.alloc o) V rs:=h.below (bRx.alloc lRx o)
theorem zHg.grown (h:zHg B w V rs) (hg:w.grownBy w' (some b)) (hb:b<B):zHg B w' V rs:=⟨zVr h.o hg hb,fun r hr=>(h.i r hr).grown hg hb⟩
theorem zHg.mono {B':Nat} (h:zHg B w V rs) (hb:B'<=B):zHg B' w V rs:=⟨zVm h.o hb,fun r hr=>(h.i r hr).mono hb⟩
theorem zHg.read {A:oAx} {c:Nat} (h:zHg B w (.slice A rs.length c) rs):zCz w A rs:=⟨zVl h.o,fun r hr=>(h.i r hr).s⟩
theorem zYu (rs:List zGk) (i:Nat) (r:zGk):zYr (rs.set i r)=(zYr rs).set i (.slice r.ad r.ss.length r.cp):=by simp [zYr,List.map_set]
theorem zHg.top {g c:Nat} (h:zHg B w (.slice (some ⟨g,0,none⟩) rs.length c) rs) {i:Nat} (hi:i<rs.length):w.cell? ⟨g,i,none⟩=some (.slice rs[i].ad rs[i].ss.length rs[i].cp)/\w.frozen? ⟨g,i,none⟩=false:=by
 refine ⟨?_,h.o.frozenAt i⟩;rw [h.o.cellAt i oMx,zYs hi]
theorem zHg.set {g c:Nat} (h:zHg B w (.slice (some ⟨g,0,none⟩) rs.length c) rs) {i:Nat} (hi:i<rs.length) {r:zGk} (hr:zGi B w r.ad r.ss):zHg B (w.setCell ⟨g,i,none⟩ (.slice r.ad r.ss.length r.cp)) (.slice (some ⟨g,0,none⟩) rs.length c) (rs.set i r):=by
 have hk:=(h.top hi).1;refine ⟨?_,fun a ha=>?_⟩
 ·rw [List.length_set,zYu];exact (h.o.stored i _).1
 rcases List.mem_or_eq_of_mem_set ha with h1|rfl
 ·exact (h.i a h1).over hk (fun s e=>by cases e) _
 exact hr.over hk (fun s e=>by cases e) _
end
theorem xDc {w:World} {b off:Nat} {ss:List ByteArray} (h:zGw w (some ⟨b,off,none⟩) ss):∀ (j:Nat) (u:Value),(sv ss)[j]? = some u->w.cell? ((⟨b,off,none⟩:Addr).add j)=some u:=fun j u hj=>by
 have hadd:(⟨b,off,none⟩:Addr).add j=⟨b,off+j,none⟩:=by unfold Addr.add;split<;>simp_all
 have hj':j<ss.length:=by have:=(List.getElem?_eq_some_iff.1 hj).1;rwa [xDy] at this
 obtain ⟨b',off',e, -,hc⟩:=h (by intro e;subst e;simp at hj');injection e with e;injection e with e1 e2;subst e1 e2;rw [hadd,hc j hj'];unfold sv at hj;rw [List.getElem?_map,List.getElem?_eq_getElem hj'] at hj;exact hj
theorem sv_one {ss:List ByteArray}:∀ u∈sv ss,u.oneCell'=true:=fun u hu=>by
 obtain ⟨s, -,rfl⟩:=List.mem_map.1 hu
 rfl
theorem zGi.nil (B:Nat) (w:World):zGi B w none []:=⟨fun h=>absurd rfl h,fun g off x e=>by cases e⟩
structure UpS (B:Nat) (W0 wr:World) (U cU:Nat) (rs:List zGk) (r g cp:Nat) (ts:List ByteArray):Prop where
 top:wr.ownsRow B 29 1 (.slice (some ⟨U,0,none⟩) rs.length cU) rs.length (zYr (rs.set r ⟨some ⟨g,0,none⟩,cp,ts⟩))
 row:wr.ownsRow B 39 1 (.slice (some ⟨g,0,none⟩) ts.length cp) ts.length (sv ts)
 oth:∀ j,(hj:j<rs.length)->j≠r->zGi B wr rs[j].ad rs[j].ss/\∀ off x,rs[j].ad≠some ⟨g,off,x⟩
 bel:Below B W0 wr
theorem sv_set (ss:List ByteArray) (i:Nat) (s:ByteArray):sv (ss.set i s)=(sv ss).set i (.string s):=by simp [sv,List.map_set]
theorem xDx {ss:List ByteArray} {i:Nat} (h:i<ss.length):(sv ss)[i]? = some (.string ss[i]):=by simp [sv,h]
section
variable {B:Nat} {W0 wr w':World} {U cU:Nat} {rs:List zGk} {r g cp:Nat} {ts:List ByteArray}
theorem UpS.put (h:UpS B W0 wr U cU rs r g cp ts) (c:Nat) (s:ByteArray):UpS B W0 (wr.setCell ⟨g,c,none⟩ (.string s)) U cU rs r g cp (ts.set c s):=by
 have h1:=h.row.stored c (.string s);rw [<-sv_set] at h1;have ht:=h.top.kept h1.2 (zVs h.top h.row dCx);refine ⟨?_,by rw [List.length_set];exact h1.1,fun j hj hne=>⟨(h.oth j hj hne).1.far (h.oth j hj hne).2 c _,(h.oth j hj hne).2⟩,h.bel.setCell (p:=⟨g,c,none⟩) (h.row.lt g rfl).1 _⟩;rw [zYu] at ht ⊢;simp only [List.length_set];exact ht
theorem UpS.below (h:UpS B W0 wr U cU rs r g cp ts) (hB:B<=wr.heap.size) (hb:Below wr.heap.size wr w'):UpS B W0 w' U cU rs r g cp ts :=
 ⟨zVn h.top hb,zVn h.row hb,fun j hj hne=>⟨(h.oth j hj hne).1.below hb,(h.oth j hj hne).2⟩,h.bel.trans (hb.mono hB)⟩
theorem UpS.done (h:UpS B W0 wr U cU rs r g cp ts):zHg B wr (.slice (some ⟨U,0,none⟩) rs.length cU) (rs.set r ⟨some ⟨g,0,none⟩,cp,ts⟩):=by
 refine ⟨by rw [List.length_set];exact h.top,fun a ha=>?_⟩;obtain ⟨j,hj,rfl⟩:=List.getElem_of_mem ha
 have hj':j<rs.length:=by simpa using hj
 by_cases e:j=r
 ·subst e;rw [List.getElem_set_self];exact zGi.of_own h.row
 rw [List.getElem_set_ne (Ne.symm e)];exact (h.oth j hj' e).1
theorem UpS.start {c:Nat} (h:zHg B wr (.slice (some ⟨U,0,none⟩) rs.length cU) rs) (hr:r<rs.length) (hown:w'.ownsRow wr.heap.size 39 1 (.slice (some ⟨g,0,none⟩) ts.length cp) ts.length (sv ts)) (hb:Below wr.heap.size wr w') (hB:B<=wr.heap.size) (hbel:Below B W0 wr) :
  UpS B W0 (w'.setCell ⟨U,r,none⟩ (.slice (some ⟨g,0,none⟩) ts.length cp)) U cU rs r g cp ts:=by
 have h1:=h.below hb;have hg:=(hown.lt g rfl).1;have h2:=h1.set hr (r:=⟨some ⟨g,0,none⟩,cp,ts⟩) ((zGi.of_own hown).mono hB);have hU:=(h.o.lt U rfl);have ho2:=hown.kept (h1.o.stored r (.slice (some ⟨g,0,none⟩) ts.length cp)).2 (zVs hown h1.o dCx);refine ⟨by have:=h2.o;rw [List.length_set] at this;exact this,zVm ho2 hB,fun j hj hne=>⟨?_,fun off x e=>?_⟩,(hbel.trans (hb.mono hB)).setCell (p:=⟨U,r,none⟩) hU.1 _⟩
 ·have:=h2.i rs[j] (by
   rw [List.mem_iff_getElem]
   exact ⟨j,by simpa using hj,List.getElem_set_ne (Ne.symm hne) _⟩)
  exact this
 have:=(h.i _ (List.getElem_mem hj)).lo _ _ _ e;omega
end
theorem xEl {x y:ByteArray} (h:x≠y):(x.toList==y.toList)=false:=by
 rw [beq_eq_false_iff_ne,Lib.toList_data,Lib.toList_data]
 intro e
 apply h
 cases x
 cases y
 simp only at e;rw [ByteArray.mk.injEq,<-Array.toList_inj];exact e
theorem zGl (A B:oAx) (xs ys:List ByteArray) (c d:Nat) (w:World) (h:zGw w A xs) (h2:zGw w B ys) (hl:xs.length<=1000) (hl2:ys.length<=1000):Calls Tryz.prog 29 #[.slice A xs.length c,.slice B ys.length d] w fun e w'=>e = .returned (.bool (decide (xs=ys)))/\Below w.heap.size w w':=by
 have HC:=oH h;have HD:=oH h2;clear h h2
 by_cases hll:xs.length=ys.length
 ·have HLL:=oH hll
  have hn:((xs.length:Int) != (ys.length:Int))=false:=by rw [hll];simp
  have hll2:xs.length<=ys.length:=by omega
  clear hll
  go_enter Tryz.func29,Tryz.ntmps29
  go_wp2_with fail;clear hn
  go_loopw [13] (fun iv wr=>∃ k m:Nat,iv = .int .i64 (k:Int)/\k<=xs.length/\xs.take k=ys.take k/\wr=w.drewN m) (fun iv _=>xs.length-(intOf iv).toNat)
  ·exact ⟨0,0,rfl,oLx,rfl,rfl⟩
  obtain ⟨k,m,rfl,hk,hall,rfl⟩:=hrel;have HALL:=oH hall;clear hall
  by_cases hlt:k<xs.length
  ·obtain ⟨b,off,rfl,hb,hc⟩:=HC.out (by intro e;subst e;simp at hlt);obtain ⟨b',off',rfl,hb',hc'⟩:=HD.out (by intro e;rw [e] at hll2;simp only [List.length_nil] at hll2;omega)
   have hky:k<ys.length:=by omega
   have hck:=hc k hlt;have hck':=hc' k hky;have HN:=oH (fun (h:xs[k]≠ys[k])=>show decide (xs=ys)=false from decide_eq_false fun e=>h (by simp only [e]))
   have HS:=oH (fun (h:xs[k]=ys[k])=>show xs.take (k+1)=ys.take (k+1) by
    rw [List.take_succ_eq_append_getElem hlt,List.take_succ_eq_append_getElem hky,HALL.out,h])
   generalize xs[k]=x at *;generalize ys[k]=y at *;clear hc hc'
   by_cases hxy:x=y
   ·have E:=oH (HS.out hxy);subst hxy;clear HS HN;go_wp2_with fail
    go_quiet (fail)
    go_wp2_with fail;go_roundw
    ·exact ⟨k+1,_,by go_num,oMx,E.out,rfl⟩
    simp [intOf];omega
   have E:=oH (HN.out hxy);have hne:(x.toList==y.toList)=false:=xEl hxy;clear HS HN;go_wp2_with fail
   go_quiet (fail)
   go_wp2_with fail;go_ret
   exact ⟨by rw [E.out];rfl,below_drewN (below_drewN bRx _) _⟩
  have E:=oH (show decide (xs=ys)=true from decide_eq_true (by
   have h1:=HALL.out;have h2:=HLL.out;rw [List.take_of_length_le oMx,List.take_of_length_le oMx] at h1
   exact h1))
  go_wp2_with fail;go_ret
  exact ⟨by rw [E.out];rfl,below_drewN bRx _⟩
 have E:=oH (show decide (xs=ys)=false from decide_eq_false fun e=>hll (by rw [e]))
 have hn:((xs.length:Int) != (ys.length:Int))=true:=by rw [bne,Bool.not_eq_true',beq_eq_false_iff_ne];omega
 clear hll
 go_enter Tryz.func29,Tryz.ntmps29
 go_wp2_with fail;go_ret
 exact ⟨by rw [E.out];rfl,bRx⟩
theorem t_d {n:Nat} (h:n<10):zYy ((n:Int):Rat)=⟨#[UInt8.ofNat (48+n)]⟩:=by
 rw [zZa];unfold str;rw [zPe h]
theorem t_m2:zYy (-2)=⟨#[45,50]⟩:=by
 rw [show (-2:Rat)=((-2:Int):Rat) from rfl,zZa];unfold str;rw [show (-2:Int) = -((2:Nat):Int) from rfl,itoa_nd dCx dCx]
 rfl
theorem xBt {z:Int} (h:z.natAbs<1000000000):zBt (z:Rat):=zNp (by rw [Rat.num_intCast];exact h) (by rw [Rat.den_intCast];decide)
def xFe (a b c d:Int) (i k:Nat):Int:=if i=0 then (if k=0 then a else if k=1 then b else 0) else if i=1 then (if k=0 then c else if k=1 then d else 0) else 0
def zYo (A0 A1:oAx) (c0 c1:Nat) (a b c d:Nat):List zGk:=[⟨A0,c0,[⟨#[UInt8.ofNat (48+a)]⟩,⟨#[UInt8.ofNat (48+b)]⟩]⟩,⟨A1,c1,[⟨#[UInt8.ofNat (48+c)]⟩,⟨#[UInt8.ofNat (48+d)]⟩]⟩]
section
variable {A0 A1:oAx} {c0 c1 a b c d:Nat} (ha:a<10) (hb:b<10) (hc:c<10) (hd:d<10)
include ha hb hc hd
theorem zYq:zCy (zYo A0 A1 c0 c1 a b c d) 2 2 (fun i k=>(xFe a b c d i k:Rat)):=by
 refine ⟨rfl,fun r hr=>?_,fun i k hi hk=>?_,fun i k hi hk=>?_⟩
 ·simp [zYo] at hr
  rcases hr with rfl|rfl<;>rfl
 ·have hi':i<2:=hi
  have h2:i=0\/i=1:=by omega
  rcases h2 with rfl|rfl
  ·have hk':k<2:=hk
   have h3:k=0\/k=1:=by omega
   rcases h3 with rfl|rfl
   ·exact (t_d ha).symm
   exact (t_d hb).symm
  have hk':k<2:=hk
  have h3:k=0\/k=1:=by omega
  rcases h3 with rfl|rfl
  ·exact (t_d hc).symm
  exact (t_d hd).symm
 refine xBt ?_;unfold xFe
 split<;>split<;>(try split)<;>(try split)<;>omega
theorem zYp:¬600<zOt (zYo A0 A1 c0 c1 a b c d) 2:=(zYq ha hb hc hd).light (k0:=1) dCx dCx dCx dCx fun i k _ _=>by
 refine zAv.ofInt ?_ dCx;unfold Dig xFe
 split<;>split<;>(try split)<;>(try split)<;>omega
end
def solE (i k:Nat):Int:=if k=2 then (if i<2 then 1 else 0) else xFe 2 0 0 4 i k
theorem zRq (W:World) (A B C D E F:Value):Below W.heap.size W (((W.alloc (.cells #[A,B] 39)).alloc (.cells #[C,D] 39)).alloc (.cells #[E,F] 29)):=((bA).alloc sMx _).alloc (by simp;omega) _
theorem zRr (W:World) (a b c d:Nat):zCz (((W.alloc (.cells #[.string ⟨#[UInt8.ofNat (48+a)]⟩,.string ⟨#[UInt8.ofNat (48+b)]⟩] 39)).alloc (.cells #[.string ⟨#[UInt8.ofNat (48+c)]⟩,.string ⟨#[UInt8.ofNat (48+d)]⟩] 39)).alloc (.cells #[.slice (some ⟨W.heap.size,0,none⟩) 2 2,.slice (some ⟨W.heap.size+1,0,none⟩) 2 2] 29)) (some ⟨W.heap.size+1+1,0,none⟩) (zYo (some ⟨W.heap.size,0,none⟩) (some ⟨W.heap.size+1,0,none⟩) 2 2 a b c d):=by
 obtain ⟨sa,hsa⟩:∃ s:ByteArray,⟨#[UInt8.ofNat (48+a)]⟩=s:=⟨_,rfl⟩;obtain ⟨sb,hsb⟩:∃ s:ByteArray,⟨#[UInt8.ofNat (48+b)]⟩=s:=⟨_,rfl⟩;obtain ⟨sc,hsc⟩:∃ s:ByteArray,⟨#[UInt8.ofNat (48+c)]⟩=s:=⟨_,rfl⟩;obtain ⟨sd,hsd⟩:∃ s:ByteArray,⟨#[UInt8.ofNat (48+d)]⟩=s:=⟨_,rfl⟩;unfold zYo;rw [hsa,hsb,hsc,hsd];have h0:=((Blk.new W 39 [.string sa,.string sb]).alloc (.cells #[.string sc,.string sd] 39)).alloc (.cells #[.slice (some ⟨W.heap.size,0,none⟩) 2 2,.slice (some ⟨W.heap.size+1,0,none⟩) 2 2] 29);have h1:=(Blk.new' (w:=W.alloc (.cells #[.string sa,.string sb] 39)) (g:=W.heap.size+1) sMx 39 [.string sc,.string sd]).alloc (.cells #[.slice (some ⟨W.heap.size,0,none⟩) 2 2,.slice (some ⟨W.heap.size+1,0,none⟩) 2 2] 29);have h2:=Blk.new' (w:=(W.alloc (.cells #[.string sa,.string sb] 39)).alloc (.cells #[.string sc,.string sd] 39)) (g:=W.heap.size+1+1) sMx 29 [.slice (some ⟨W.heap.size,0,none⟩) 2 2,.slice (some ⟨W.heap.size+1,0,none⟩) 2 2]
 refine ⟨fun _=>⟨W.heap.size+1+1,0,rfl,h2.lt,fun i hi=>?_⟩,fun r hr=>?_⟩
 ·rw [Nat.zero_add];refine h2.at_ ?_;have h9:i<2:=hi
  have h8:i=0\/i=1:=by omega
  rcases h8 with rfl|rfl<;>rfl
 have h9:r=⟨some ⟨W.heap.size,0,none⟩,2,[sa,sb]⟩\/r=⟨some ⟨W.heap.size+1,0,none⟩,2,[sc,sd]⟩:=by simpa using hr
 rcases h9 with rfl|rfl
 ·exact zGw.two h0
 exact zGw.two h1
theorem rows_rep (n:Nat):zYr (List.replicate n (zGk.mk none 0 []))=(madeCells #[.slice none 0 0] (n*1)).toList:=by
 apply List.ext_getElem?
 intro j
 by_cases hj:j<n
 ·rw [zYs (by simpa using hj)]
  simp [madeCells,hj,Nat.mod_one]
 rw [List.getElem?_eq_none (by rw [zYt];simp;omega),List.getElem?_eq_none (by simp [madeCells];omega)]
theorem strs_rep (n:Nat):sv (List.replicate n ⟨#[]⟩)=(madeCells #[.string ⟨#[]⟩] (n*1)).toList:=by
 apply List.ext_getElem?
 intro j
 by_cases hj:j<n
 ·rw [xDx (by simpa using hj)]
  simp [madeCells,hj,Nat.mod_one]
 rw [List.getElem?_eq_none (by rw [xDy];simp;omega),List.getElem?_eq_none (by simp [madeCells];omega)]
theorem xAa (n:Nat) (hn:n<=1000000) (w:World):(Instr.makeSlice 27 (.int .i64 (n:Int)) (.int .i64 (n:Int))).run Tryz.prog w = .ok (.slice (some ⟨w.heap.size,0,none⟩) n n) (w.alloc (.cells (zYr (List.replicate n (zGk.mk none 0 []))).toArray 29)):=by
 obtain ⟨i0,hi,hz0,hz1,hz2⟩:=info_parts Tryz.infoRats;have hr:=run_make (P:=Tryz.prog) w 27 29 i0 (.slice none 0 0) Tryz.underlying27 hi hz0 .i64 .i64 n n oMx (Int.le_refl _) (by rw [hz2];omega) oMx
 have hm:madeCells (Value.slice none 0 0).cells (n*1)=(zYr (List.replicate n (zGk.mk none 0 []))).toArray:=by
  rw [rows_rep];rfl
 simp only [Int.toNat_natCast,hz1,hm] at hr;exact hr
theorem xAb (n:Nat) (hn:n<=1000000) (w:World):(Instr.makeSlice 29 (.int .i64 (n:Int)) (.int .i64 (n:Int))).run Tryz.prog w = .ok (.slice (some ⟨w.heap.size,0,none⟩) n n) (w.alloc (.cells (sv (List.replicate n ⟨#[]⟩)).toArray 39)):=by
 obtain ⟨i0,hi,hz0,hz1,hz2⟩:=info_parts Tryz.infoRat;have hr:=run_make (P:=Tryz.prog) w 29 39 i0 (.string ⟨#[]⟩) Tryz.underlying29 hi hz0 .i64 .i64 n n oMx (Int.le_refl _) (by rw [hz2];omega) oMx
 have hm:madeCells (Value.string ⟨#[]⟩).cells (n*1)=(sv (List.replicate n ⟨#[]⟩)).toArray:=by
  rw [strs_rep];rfl
 simp only [Int.toNat_natCast,hz1,hm] at hr;exact hr
theorem zRz (w:World) (n:Nat) (hn:n<=1000000):(w.alloc (.cells (zYr (List.replicate n (zGk.mk none 0 []))).toArray 29)).ownsRow w.heap.size 29 1 (.slice (some ⟨w.heap.size,0,none⟩) n n) n (zYr (List.replicate n (zGk.mk none 0 []))) :=
 ⟨by rw [zYt];simp,.inr ⟨w.heap.size,n,_,rfl,lRx,heap_alloc_new w _,lRx,by unfold maxLen;omega,by simp [zYt],by rw [List.take_of_length_le (by simp [zYt])]⟩⟩
theorem zSa (w:World) (n:Nat) (hn:n<=1000000):(w.alloc (.cells (sv (List.replicate n ⟨#[]⟩)).toArray 39)).ownsRow w.heap.size 39 1 (.slice (some ⟨w.heap.size,0,none⟩) n n) n (sv (List.replicate n ⟨#[]⟩)) :=
 ⟨by rw [xDy];simp,.inr ⟨w.heap.size,n,_,rfl,lRx,heap_alloc_new w _,lRx,by unfold maxLen;omega,by simp [xDy],by rw [List.take_of_length_le (by simp [xDy])]⟩⟩
def RetMx (w:World) (m n:Nat) (M:mRx) (e:Ending) (w':World):Prop :=
 (∃ A c rs,e = .returned (.tuple #[.slice A m c,.int .i64 0])/\zCy rs m n M/\zHg w.heap.size w' (.slice A m c) rs/\Below w.heap.size w w') \/
 ((∃ i k,i<m/\k<n/\¬zBt (M i k))/\e = .returned (.tuple #[.slice none 0 0,.int .i64 3])/\Below w.heap.size w w')
structure BuiA (B:Nat) (W0 wr:World) (U m n:Nat) (M:mRx) (i:Nat) (rs:List zGk):Prop where
 top:zHg B wr (.slice (some ⟨U,0,none⟩) rs.length m) rs
 len:rs.length=m
 row:∀ j,(h:j<rs.length)->j<i->rs[j].ss.length=n/\∀ k,(hk:k<rs[j].ss.length)->rs[j].ss[k]=zYy (M j k)
 fit:∀ j k,j<i->k<n->zBt (M j k)
 bel:Below B W0 wr
 B0:B<=W0.heap.size
structure BuiB (B:Nat) (W0 wr:World) (U m n:Nat) (M:mRx) (i k:Nat) (rs:List zGk) (g cp:Nat) (ts:List ByteArray):Prop where
 up:UpS B W0 wr U m rs i g cp ts
 len:rs.length=m
 im:i<m
 tl:ts.length=n
 row:∀ j,(h:j<rs.length)->j<i->rs[j].ss.length=n/\∀ k,(hk:k<rs[j].ss.length)->rs[j].ss[k]=zYy (M j k)
 fit:∀ j k,j<i->k<n->zBt (M j k)
 cel:∀ c,(h:c<ts.length)->c<k->ts[c]=zYy (M i c)
 fit2:∀ c,c<k->zBt (M i c)
 B0:B<=W0.heap.size
section
variable {B U m n i k g cp:Nat} {W0 wr w':World} {M:mRx} {rs:List zGk} {ts:List ByteArray}
theorem BuiA.start (w:World) (m n:Nat) (M:mRx) (hm:m<=1000000):BuiA w.heap.size w (w.alloc (.cells (zYr (List.replicate m (zGk.mk none 0 []))).toArray 29)) w.heap.size m n M 0 (List.replicate m (zGk.mk none 0 [])):=by
 refine ⟨⟨?_,fun r hr=>?_⟩,by simp,fun j h hj=>absurd hj oMx,fun j k hj=>absurd hj oMx,bA,lRx⟩
 ·rw [List.length_replicate];exact zRz w m hm
 rw [(List.mem_replicate.1 hr).2];exact zGi.nil _ _
theorem BuiA.row_ (h:BuiA B W0 wr U m n M i rs) (hi:i<m) (hn:n<=1000000):BuiB B W0 ((wr.alloc (.cells (sv (List.replicate n ⟨#[]⟩)).toArray 39)).setCell ⟨U,i,none⟩ (.slice (some ⟨wr.heap.size,0,none⟩) n n)) U m n M i 0 rs wr.heap.size n (List.replicate n ⟨#[]⟩):=by
 have hB:B<=wr.heap.size:=Nat.le_trans h.B0 h.bel.size;have h1:=UpS.start (ts:=List.replicate n (⟨#[]⟩:ByteArray)) (cp:=n) (W0:=W0) (r:=i) (g:=wr.heap.size) h.top (by rw [h.len];exact hi) (c:=m) (by rw [List.length_replicate];exact zSa wr n hn) (bA) hB h.bel;rw [List.length_replicate] at h1;exact ⟨h1,h.len,hi,by simp,h.row,h.fit,fun c _ hc=>absurd hc oMx,fun c hc=>absurd hc oMx,h.B0⟩
theorem BuiB.below (h:BuiB B W0 wr U m n M i k rs g cp ts) (hb:Below wr.heap.size wr w'):BuiB B W0 w' U m n M i k rs g cp ts :=
 ⟨h.up.below (Nat.le_trans h.B0 h.up.bel.size) hb,h.len,h.im,h.tl,h.row,h.fit,h.cel,h.fit2,h.B0⟩
theorem BuiB.put (h:BuiB B W0 wr U m n M i k rs g cp ts) (hf:zBt (M i k)):BuiB B W0 (wr.setCell ⟨g,k,none⟩ (.string (zYy (M i k)))) U m n M i (k+1) rs g cp (ts.set k (zYy (M i k))):=by
 refine ⟨h.up.put k _,h.len,h.im,by rw [List.length_set];exact h.tl,h.row,h.fit,fun c hc hck=>?_,fun c hc=>?_,h.B0⟩
 ·by_cases e:c=k
  ·subst e;rw [List.getElem_set_self]
  rw [List.getElem_set_ne (Ne.symm e)];exact h.cel c (by simpa using hc) oMx
 by_cases e:c=k
 ·subst e;exact hf
 exact h.fit2 c oMx
theorem BuiB.top (h:BuiB B W0 wr U m n M i k rs g cp ts):wr.cell? ⟨U,i,none⟩=some (.slice (some ⟨g,0,none⟩) n cp)/\wr.frozen? ⟨U,i,none⟩=false/\wr.frozen? ⟨g,k,none⟩=false/\∀ hk:k<ts.length,wr.cell? ⟨g,k,none⟩=some (.string ts[k]):=by
 refine ⟨?_,h.up.top.frozenAt i,h.up.row.frozenAt k,fun hk=>(h.up.row.cellAt k oMx).trans (xDx hk)⟩
 have hi:i<rs.length:=by rw [h.len];exact h.im
 rw [h.up.top.cellAt i oMx,zYs (by rw [List.length_set];exact hi),List.getElem_set_self];simp only [h.tl]
theorem BuiB.next (h:BuiB B W0 wr U m n M i k rs g cp ts) (hk:n<=k):BuiA B W0 wr U m n M (i+1) (rs.set i ⟨some ⟨g,0,none⟩,cp,ts⟩):=by
 have hd:=h.up.done;refine ⟨by rw [List.length_set];exact hd,by rw [List.length_set];exact h.len,fun j hj hji=>?_,fun j c hj hc=>?_,h.up.bel,h.B0⟩
 ·by_cases e:j=i
  ·subst e;simp only [List.getElem_set_self];exact ⟨h.tl,fun c hc=>h.cel c hc (by have:=h.tl;omega)⟩
  simp only [List.getElem_set_ne (Ne.symm e)];exact h.row j (by simpa using hj) oMx
 by_cases e:j=i
 ·subst e;exact h.fit2 c oMx
 exact h.fit j c oMx hc
theorem BuiA.done (h:BuiA B W0 wr U m n M i rs) (hi:m<=i):zCy rs m n M/\zHg B wr (.slice (some ⟨U,0,none⟩) m m) rs:=by
 have hl:=h.len;refine ⟨⟨hl,fun r hr=>?_,fun j k hj hk=>(h.row j hj oMx).2 k hk,fun j k hj hk=>h.fit j k oMx hk⟩,?_⟩
 ·obtain ⟨j,hj,rfl⟩:=List.getElem_of_mem hr;exact (h.row j hj oMx).1
 have:=h.top;rw [hl] at this;exact this
end
def zHf (s:ByteArray):Prop:=∃ z:Int,s=zYy (z:Rat)/\z.natAbs<=3
theorem zSf {rs:List zGk} {m n:Nat} (hl:rs.length=m) (hr:∀ r∈rs,r.ss.length=n) (ht:∀ r∈rs,∀ s∈r.ss,∃ q,s=zYy q/\zBt q):zCy rs m n (zSj rs):=by
 have key:∀ i k,(hi:i<rs.length)->(hk:k<rs[i].ss.length)->rs[i].ss[k]=zYy (zSj rs i k)/\zBt (zSj rs i k):=fun i k hi hk=>by
  obtain ⟨q,e,hf⟩:=ht _ (List.getElem_mem hi) _ (List.getElem_mem hk);rw [zSk hi hk,e,xFq hf];exact ⟨rfl,hf⟩
 refine ⟨hl,hr,fun i k hi hk=>(key i k hi hk).1,fun i k hi hk=>?_⟩
 have hi':i<rs.length:=by omega
 exact (key i k hi' (by rw [hr _ (List.getElem_mem hi')];exact hk)).2
theorem xEn {s:ByteArray} (h:zHf s):∃ q,s=zYy q/\zBt q:=by
 obtain ⟨z,e,hz⟩:=h;exact ⟨z,e,(zAv.ofInt (d:=1) (by unfold Dig;omega) dCx).fits dCx dCx⟩
theorem thin_q {rs:List zGk} {m n:Nat} (hl:rs.length=m) (hr:∀ r∈rs,r.ss.length=n) (ht:∀ r∈rs,∀ s∈r.ss,zHf s):∀ i k,i<m->k<n->∃ z:Int,zSj rs i k=z/\z.natAbs<=3:=fun i k hi hk=>by
 have hi':i<rs.length:=by omega
 have hk':k<rs[i].ss.length:=by rw [hr _ (List.getElem_mem hi')];exact hk
 obtain ⟨z,e,hz⟩:=ht _ (List.getElem_mem hi') _ (List.getElem_mem hk');refine ⟨z,?_,hz⟩;rw [zSk hi' hk',e,xFq ((zAv.ofInt (d:=1) (by unfold Dig;omega) dCx).fits dCx dCx)]
def xEo:List Int:=[0,0,1,2, -1,3]
theorem xEp (i:Nat):(xEo.getD i 0).natAbs<=3:=by
 by_cases h:i<xEo.length
 ·have:∀ s∈xEo,s.natAbs<=3:=by decide
  rw [List.getD_eq_getElem?_getD,List.getElem?_eq_getElem h];exact this _ (List.getElem_mem h)
 rw [List.getD_eq_getElem?_getD,List.getElem?_eq_none oMx]
 decide
def zGg (w:World) (b m n:Nat) (e:Ending) (w':World):Prop:=∃ (v:Value) (rs:List zGk),e = .returned v/\rs.length=m/\(∀ r∈rs,r.ss.length=n/\∀ s∈r.ss,zHf s)/\zDa w.heap.size w' v rs/\Src w' b/\w.grownBy w' (some b)
theorem Thin_any (b m n:Nat) (w:World) (hs:Src w b) (hm:m<=1000) (hn:n<=1000) (hn1:1<=n\/m=0):Calls Tryz.prog 32 #[.pointer (some ⟨b,0,none⟩),.int .i64 (m:Int),.int .i64 (n:Int)] w (zGg w b m n):=by
 obtain ⟨i0,hi,hz0,hz1,hz2⟩:=info_parts Tryz.infoRats;obtain ⟨j0,hj,hy0,hy1,hy2⟩:=info_parts Tryz.infoRat
 have HPK:=oH (fun (W:World) (g:Nat) (hW:Blk W g 3 (xEo.map (Value.int .i64))) (hS:Src W b) (hg:g≠b)=>zDj b g 6 (fun i=>xEo.getD i 0) W hS (fun i hi=>by
  rw [hW.cell,List.getElem?_map,List.getD_eq_getElem?_getD,List.getElem?_eq_getElem (show i<xEo.length from hi)];rfl) hg hW.lt oMx oMx)
 generalize hQ:zGg w b m n=Q;replace hQ:=oH hQ;have HS:=oH hs;have hbw:=hs.lt;clear hs
 go_enter Tryz.func32,Tryz.ntmps32
 go_wp2_with fail
 go_loopw [7,8] (fun v iv wr=>∃ (rs:List zGk),iv = .int .i64 (rs.length:Int)/\rs.length<=m/\(∀ r∈rs,r.ss.length=n/\∀ s∈r.ss,zHf s)/\zDa w.heap.size wr v rs/\Src wr b/\w.grownBy wr (some b)) (fun _ iv _=>m-(intOf iv).toNat)
 ·exact ⟨[],rfl,oLx,fun r hr=>(by simp at hr),zDa.zero _ _,HS.out,⟨rfl,rfl,rfl,lRx,fun _ _ _=>rfl⟩⟩
 obtain ⟨rs,rfl,hrm,hrt,hown,hsr,hgr⟩:=hrel;obtain ⟨wk,rfl⟩:=nWx wr;obtain ⟨AV,cV,rfl, -⟩:=zVk hown.o;have HRT:=oH hrt;have HOWN:=oH hown;have HSR:=oH hsr;have HGR:=oH hgr;have hsz:=hgr.size;clear hrt hown hsr hgr
 by_cases hlt:rs.length<m
 ·have hn2:1<=n:=by omega
  go_upto_region 5 with (fail)
  go_cut [22] (fun c wc=>∃ bb:Bool,c = .bool bb/\(bb=true->0<rs.length)/\zDa w.heap.size wc (.slice AV rs.length cV) rs/\Src wc b/\w.grownBy wc (some b))
  case first =>
   by_cases h0:0<rs.length
   ·have hx:(0:Int)<(rs.length:Int):=by omega
    go_wp2_with fail;refine (zDc b 4 wk HSR.out dCx dCx).mono ?_;rintro e w2 ⟨r,rfl,hr,hs2,hg2⟩;have HS2:=oH hs2;have HG2:=oH (zOq HGR.out hg2);have HM2:=oH (HOWN.grown hg2 hbw);clear hs2 hg2;obtain ⟨bb,hbb⟩:∃ bb:Bool,((r:Int)==3)=bb:=⟨_,rfl⟩;go_wp2_with fail
    go_meet
    exact ⟨_,rfl,fun _=>h0,HM2.out,HS2.out,HG2.out⟩
   have hx:¬(0:Int)<(rs.length:Int):=by omega
   go_wp2_with fail
   go_meet
   exact ⟨false,rfl,fun e=>(by cases e),HOWN.out,HSR.out,HGR.out⟩
  case rest =>
   obtain ⟨bb,rfl,hb0,hown,hsr,hgr⟩:=hcut;obtain ⟨wd,rfl⟩:=nWx wc;clear HOWN HSR HGR;have HOWN:=oH hown;have HSR:=oH hsr;have HGR:=oH hgr;have hszd:=hgr.size;clear hown hsr hgr
   cases bb
   ·clear hb0;go_wp2_with fail
    go_loopw [9,10] (fun v kv wr=>∃ (ss:List ByteArray),kv = .int .i64 (ss.length:Int)/\ss.length<=n/\(∀ s∈ss,zHf s)/\wr.ownsRow wd.heap.size 39 1 v ss.length (sv ss)/\Src wr b/\wd.grownBy wr (some b)) (fun _ kv _=>n-(intOf kv).toNat)
    ·exact ⟨[],rfl,oLx,by simp,World.ownsRow_nil _ _ _ _,HSR.out,World.grownBy.refl _ _⟩
    obtain ⟨ss,rfl,hsn,hst,hown,hsr,hgr⟩:=hrel;obtain ⟨wq,rfl⟩:=nWx wr;have HST:=oH hst;have HO:=oH hown;have HSQ:=oH hsr;have HGQ:=oH hgr;have hszq:=hgr.size;have hbd:=hsr.lt
    by_cases hlt2:ss.length<n
    ·clear hst hown hsr hgr;have hbl:Below wq.heap.size wq (wq.alloc (.cells #[.int .i64 0,.int .i64 0,.int .i64 1,.int .i64 2,.int .i64 (-1),.int .i64 3] 3)):=bA;have HPP:=oH (HPK.out (wq.alloc (.cells #[.int .i64 0,.int .i64 0,.int .i64 1,.int .i64 2,.int .i64 (-1),.int .i64 3] 3)) wq.heap.size (Blk.new wq 3 (xEo.map (Value.int .i64))) (HSQ.below hbl) oMx);have HO1:=oH (zVn HO.out hbl);have HG1:=oH (zOn HGQ.out hbl);clear hbl;go_wp2_with fail;refine HPP.mono ?_;rintro e w2 ⟨i,hi6,rfl,hs2,hg2⟩;have hz3:=xEp i;have HS2:=oH hs2;have HG2:=oH (zOq HG1.out hg2);have HO2:=oH (zVr HO1.out hg2 oMx);generalize xEo.getD i 0=z at *;clear hs2 hg2;go_wp2_with fail;refine (zEi z w2 oMx oMx).mono ?_;rintro e w3 ⟨rfl,hb3⟩;have HS3:=oH (HS2.below hb3);have HG3:=oH (zOn HG2.out hb3);have HO3:=oH (zVn HO2.out hb3);have hsz3:wd.heap.size<=w3.heap.size:=HG3.size;have HZT:=oH (show zHf (str z) from ⟨z,(zZa z).symm,hz3⟩)
     generalize str z=sz at *;clear hb3
     go_wp2_with (at_builtin;refine wpList_append_own _ rfl _ _ 29 rfl wd.heap.size 39 j0 (.string ⟨#[]⟩) 1 16 Tryz.underlying29 hj hy0 hy1 hy2 rfl dCx _ _ _ rfl (HO3.alloc _) ⟨w3.heap.size,0,none⟩ 1 1 [_] rfl rfl zUw zUx (by unfold maxLen;omega) oMx (by simp;omega) ?_)
     intro v4 w4 hown4 hgrow4 _
     obtain ⟨ho4,hk4,hs4,hg4⟩:=xBx HO3.out hsz3 hown4 hgrow4;have HO4:=oH ho4;have HS4:=oH (HS3.above hs4 (fun i hi=>hk4 i oMx));have HG4:=oH (hg4 wd (some b) lRx HG3.out);clear hown4 hgrow4 ho4 hk4 hs4 hg4;go_wp2_with fail;go_roundw
     ·exact ⟨ss++[sz],by simp only [List.length_append,List.length_singleton];go_num,by simp;omega,fun x hx=>(List.mem_append.1 hx).elim (HST.out x) (fun h=>by rw [List.mem_singleton.1 h];exact HZT.out),HO4.out,HS4.out,HG4.out⟩
     simp [intOf];omega
    have HSL:=oH (show ss.length=n by omega);obtain ⟨A5,c5,rfl, -⟩:=zVk hown;have HNEW:=oH (zVm hown hszd);have HMO:=oH (HOWN.grown hgr hbw);have HG5:=oH (zOq HGR.out hgr);have HS5:=oH hsr;have hsz5:=HG5.size;obtain ⟨w5,rfl⟩:=nWx wq;clear hst hown hsr hgr HO HSQ HGQ
    go_wp2_with (at_builtin;refine wpList_append_own _ rfl _ _ 27 rfl w.heap.size 29 i0 (.slice none 0 0) 1 24 Tryz.underlying27 hi hz0 hz1 hz2 rfl dCx _ _ _ rfl (HMO.o.alloc _) ⟨w5.heap.size,0,none⟩ 1 1 [_] rfl rfl zUw xBn (by unfold maxLen;omega) oMx (by simp;omega) ?_)
    intro v' w6 hown6 hgrow6 _
    have hlt2:∀ k,(Value.slice AV rs.length cV).ownBlock=some k->w.heap.size<=k:=fun k hk=>(HMO.o.lt k hk).1
    have hbel:Below w.heap.size w5 w6:=zIj bRx hsz5 hgrow6 hlt2;have HM6:=oH ((HMO.below (bA)).push (r:=⟨A5,c5,ss⟩) (zVn HNEW.out (bA)) (hown6) hgrow6);have HS6:=oH (HS5.above hbel.size (fun i hi=>hbel.block i oMx));have HG6:=oH (show w.grownBy w6 (some b) from ⟨hbel.os.trans HG5.os,hbel.tape.trans HG5.tape,hbel.output.trans HG5.output,Nat.le_trans HG5.size hbel.size,fun k hk hne=>(hbel.block k hk).trans (HG5.block k hk hne)⟩);clear hown6 hgrow6 hbel hlt2;go_wp2_with fail;go_roundw
    ·exact ⟨rs++[⟨A5,c5,ss⟩],by simp only [List.length_append,List.length_singleton];go_num,by simp;omega,fun r hr=>(List.mem_append.1 hr).elim (HRT.out r) (fun h=>by rw [List.mem_singleton.1 h];exact ⟨HSL.out,HST.out⟩),HM6.out,HS6.out,HG6.out⟩
    simp [intOf];omega
   have h0:=hb0 rfl;clear hb0;go_wp2_with fail;refine (zDc b (rs.length:Int) wd HSR.out oMx oMx).mono ?_;rintro e w2 ⟨j,rfl,hjr,hs2,hg2⟩;have HS2:=oH hs2;have HG2:=oH (zOq HGR.out hg2);have HM2:=oH (HOWN.grown hg2 hbw)
   have hj':j<rs.length:=by omega
   have hsz2:=HG2.size;obtain ⟨gV,rfl⟩:=zVj HM2.o h0;have hTP:=HM2.topM;obtain ⟨cj, -⟩:=hTP.top hj';have hlj:=(HRT.out _ (List.getElem_mem hj')).1;have HST:=oH (HRT.out _ (List.getElem_mem hj')).2;obtain ⟨b1,o1,e1, -, -⟩:=(hTP.i _ (List.getElem_mem hj')).s (by intro e;rw [e] at hlj;simp at hlj;omega);have HSI:=oH (xDc (by rw [<-e1];exact (hTP.i _ (List.getElem_mem hj')).s));have HLS:=oH (show (sv rs[j].ss).length=n*1 by rw [xDy];omega);have HSL:=oH hlj;rw [e1,hlj] at cj
   have j1:(0:Int)<=(j:Int):=by omega
   clear hs2 hg2 hTP hlj e1;generalize rs[j].cp=cpj at *;generalize rs[j].ss=ss at *
   go_wp2_with (at_builtin;refine wpList_append_own _ rfl _ _ 29 rfl w2.heap.size 39 j0 (.string ⟨#[]⟩) 1 16 Tryz.underlying29 hj hy0 hy1 hy2 rfl dCx _ _ _ rfl (World.ownsRow_nil _ _ _ _) ⟨b1,o1,none⟩ n cpj (sv ss) rfl HLS.out HSI.out sv_one (by unfold maxLen;omega) oMx lRx ?_)
   intro vR w5 hown5 hgrow5 _
   have hb5:Below w2.heap.size w2 w5:=zIo hgrow5;obtain ⟨A5,c5,rfl, -⟩:=zVk hown5;have HNEW:=oH (show w5.ownsRow w.heap.size 39 1 (.slice A5 ss.length c5) ss.length (sv ss) by rw [HSL.out];exact zVm hown5 hsz2);have HMO:=oH (HM2.below hb5);have HS5:=oH (HS2.below hb5);have HG5:=oH (zOn HG2.out hb5);have hsz5:=HG5.size;clear hown5 hgrow5 hb5 cj
   go_wp2_with (at_builtin;refine wpList_append_own _ rfl _ _ 27 rfl w.heap.size 29 i0 (.slice none 0 0) 1 24 Tryz.underlying27 hi hz0 hz1 hz2 rfl dCx _ _ _ rfl (HMO.o.alloc _) ⟨w5.heap.size,0,none⟩ 1 1 [_] rfl rfl zUw xBn (by unfold maxLen;omega) oMx (by simp;omega) ?_)
   intro v' w6 hown6 hgrow6 _
   have hlt2:∀ k,(Value.slice (some ⟨gV,0,none⟩) rs.length cV).ownBlock=some k->w.heap.size<=k:=fun k hk=>(HMO.o.lt k hk).1
   have hbel:Below w.heap.size w5 w6:=zIj bRx hsz5 hgrow6 hlt2;have HM6:=oH ((HMO.below (bA)).push (r:=⟨A5,c5,ss⟩) (zVn HNEW.out (bA)) (by rw [HSL.out];exact hown6) hgrow6);have HS6:=oH (HS5.above hbel.size (fun i hi=>hbel.block i oMx));have HG6:=oH (show w.grownBy w6 (some b) from ⟨hbel.os.trans HG5.os,hbel.tape.trans HG5.tape,hbel.output.trans HG5.output,Nat.le_trans HG5.size hbel.size,fun k hk hne=>(hbel.block k hk).trans (HG5.block k hk hne)⟩);clear hown6 hgrow6 hbel hlt2;go_wp2_with fail;go_roundw
   ·exact ⟨rs++[⟨A5,c5,ss⟩],by simp only [List.length_append,List.length_singleton];go_num,by simp;omega,fun r hr=>(List.mem_append.1 hr).elim (HRT.out r) (fun h=>by rw [List.mem_singleton.1 h];exact ⟨HSL.out,HST.out⟩),HM6.out,HS6.out,HG6.out⟩
   simp [intOf];omega
 have hlm:rs.length=m:=by omega
 have HLM:=oH hlm;have HR:=oH (show zGg w b m n (.returned (.slice AV rs.length cV)) wk from ⟨_,rs,rfl,hlm,HRT.out,HOWN.out,HSR.out,HGR.out⟩);clear hlm;go_wp2_with fail;rw [<-hQ.out];exact HR.out
end Go.Proofs.YtfjjcoggoomlbaaGreatDoor
