import Derived.Test.YtbjaplppalcmgaaGreatDoorZMJ
set_option maxHeartbeats 16000000
set_option maxRecDepth 100000
set_option linter.unusedVariables false
set_option linter.unusedSimpArgs false
set_option linter.unusedSectionVars false
namespace Go.Proofs.YtbjaplppalcmgaaGreatDoor
open Go.RowKit
structure zCi (rs:List zGh) (m n:Nat) (M:mRx):Prop where
 len:rs.length=m
 row:∀ r∈rs,r.ss.length=n
 cel:∀ i k,(hi:i<rs.length)->(hk:k<rs[i].ss.length)->rs[i].ss[k]=zXl (M i k)
 fit:∀ i k,i<m->k<n->zBd (M i k)
section
variable {rs:List zGh} {m n k0:Nat} {M N:mRx}
theorem zCi.rowAt (h:zCi rs m n M) {i:Nat} (hi:i<rs.length):rs[i].ss.length=n:=h.row _ (List.getElem_mem hi)
theorem zCi.fine (h:zCi rs m n M) (hm:m<=12) (hn:n<=12) (h0:m=0->n=0):zBb rs n:=by
 refine ⟨by rw [h.len];exact hm,hn,h.row,fun r hr s hs=>?_,fun e=>h0 (by rw [<-h.len,e];rfl)⟩;obtain ⟨i,hi,rfl⟩:=List.getElem_of_mem hr;obtain ⟨k,hk,rfl⟩:=List.getElem_of_mem hs;have hl:=h.rowAt hi;have hf:=h.fit i k (by rw [<-h.len];exact hi) oMx;rw [h.cel i k hi hk];refine ⟨xDv hf,?_⟩;rw [zXr];have:=zXw hf;omega
theorem zCi.q (h:zCi rs m n M) {i k:Nat} (hi:i<m) (hk:k<n):zRi rs i k=M i k:=by
 have hi':i<rs.length:=by rw [h.len];exact hi
 have hk':k<rs[i].ss.length:=by rw [h.rowAt hi'];exact hk
 rw [zRj hi' hk',h.cel i k hi' hk',xDy (h.fit i k hi hk)]
theorem zCi.det (h:zCi rs n n M):det rs.length (zRi rs)=det n M:=by
 rw [h.len]
 exact (zLt n).ext _ _ fun r c hr hc=>h.q hr hc
theorem zCi.light (h:zCi rs m n M) (hm:m<=4) (hn:n<=4) (hk1:1<=k0) (hk:k0<=8) (hd:∀ i k,i<m->k<n->zAl k0 (M i k)):¬600<zOh rs n:=by
 have hlen:=h.len
 have hL:∀ l∈zRf rs,l.length<=4/\∀ q∈l,zAl k0 q:=fun l hl=>by
  obtain ⟨r,hr,rfl⟩:=List.mem_map.1 hl;refine ⟨by rw [List.length_map,h.row r hr];exact hn,fun q hq=>?_⟩;obtain ⟨s,hs,rfl⟩:=List.mem_map.1 hq;obtain ⟨i,hi,rfl⟩:=List.getElem_of_mem hr;obtain ⟨k,hk,rfl⟩:=List.getElem_of_mem hs;have hl:=h.rowAt hi;rw [h.cel i k hi hk,xDy (h.fit i k oMx oMx)];exact hd i k oMx oMx
 have hlL:(zRf rs).length=m:=by unfold zRf;rw [List.length_map,hlen]
 have hD:Dig (1+4*(4*k0)) (zQz rs):=by
  have h1:=zLk (a:=1) (d:=1) (m:=zRf rs) (by unfold Dig;decide) hL;refine h1.mono ?_;rw [hlL];have:m*(4*k0)<=4*(4*k0):=Nat.mul_le_mul_right _ hm;omega
 have hQ:∀ i k,zAl k0 (zRi rs i k):=fun i k=>by
  by_cases hi:i<m
  ·by_cases hk:k<n
   ·rw [h.q hi hk];exact hd i k hi hk
   have h0:zRi rs i k=0:=by
    unfold zRi;rw [List.getD_eq_getElem?_getD]
    have h9:((zRf rs).getD i []).length<=n:=by
     rw [List.getD_eq_getElem?_getD]
     rcases h2:(zRf rs)[i]? with _|l
     ·simp
     obtain ⟨r,hr,rfl⟩:=List.mem_map.1 (List.mem_of_getElem? h2);have:=h.row r hr
     simp
     omega
    rw [List.getElem?_eq_none oMx]
    rfl
   rw [h0];exact zMi.mono hk1
  have h0:zRi rs i k=0:=by
   unfold zRi;rw [List.getD_eq_getElem?_getD (l:=zRf rs),List.getElem?_eq_none (l:=zRf rs) oMx]
   rfl
  rw [h0];exact zMi.mono hk1
 have hdig:zMe (zQz rs) (zRg rs) rs.length n<=1+17*k0:=by
  refine zSd ?_ fun i k hi hk=>?_
  ·have:=dig_nd (k:=4*(4*k0)) (by rw [Nat.add_comm];exact hD);omega
  have h1:Dig (k0+4*(4*k0)+1) (zRg rs i k):=by
   have:=celN_dig hD (hQ i k);rw [show k0+4*(4*k0)+1=k0+(1+4*(4*k0)) by omega];exact this
  have:=dig_nd h1
  show nd (zRg rs i k)<=_
  omega
 unfold zOh
 have h2:max rs.length n<=4:=by omega
 have h3:=Nat.mul_le_mul h2 hdig;omega
theorem zCi.detS (h:zCi rs n n M) (hl:¬600<zOh rs n):detS rs=zUa (Proofs.YtbjaplppalcmgaaGreatDoor.det n M)/\zLq rs=zUb (Proofs.YtbjaplppalcmgaaGreatDoor.det n M):=by
 have e:=h.det;rw [<-h.len] at hl;unfold Proofs.YtbjaplppalcmgaaGreatDoor.detS zLq;rw [if_neg hl,if_neg hl,e];exact ⟨rfl,rfl⟩
end
def celQ (qss:List (List Rat)) (i k:Nat):Rat:=(qss.getD i []).getD k 0
section
variable {rs:List zGh} {m n:Nat} {M:mRx}
theorem zCi.det_eq (h:zCi rs n n M) {q:Rat} (hl:¬600<zOh rs n) (hd:Proofs.YtbjaplppalcmgaaGreatDoor.det n M=q) (hf:zBd q):Proofs.YtbjaplppalcmgaaGreatDoor.detS rs=zXl q/\zLq rs=0:=by
 obtain ⟨h1,h2⟩:=h.detS hl;rw [hd] at h1 h2;rw [h1,h2,zUe hf,zUc hf];exact ⟨rfl,rfl⟩
end
def lowZ (M:mRx) (r:Nat):Nat->Nat->Rat:=fun a c=>if a<r/\c<a then 0 else M a c
def plusM (M:mRx) (i k:Nat) (f:Rat):Nat->Nat->Rat:=upd M i (fun c=>M i c+f*M k c)
structure zGf (B:Nat) (w:World) (A:oAx) (ss:List ByteArray):Prop where
 s:zGx w A ss
 lo:∀ g off x,A=some ⟨g,off,x⟩->B<=g/\g<w.heap.size
section
variable {B b:Nat} {w w':World} {A:oAx} {ss:List ByteArray}
theorem zGf.of_own {e c:Nat} (h:w.ownsRow B e 1 (.slice A ss.length c) ss.length (sv ss)):zGf B w A ss:=by
 obtain ⟨A',c',e1, -,hs,hl⟩:=zUw h;injection e1 with e1;subst e1;refine ⟨hs,fun g off x e2=>?_⟩
 rcases h.2 with ⟨hv,h0⟩|⟨g0,cap,cur,hv,hB,_⟩
 ·rw [e2] at hv;injection hv with hv
  cases hv
 rw [e2] at hv;injection hv with hv;injection hv with hv;injection hv with hv;subst hv;exact h.lt g (by rw [e2];rfl)
theorem zGf.up (h:zGf B w A ss) (hs:w.heap.size<=w'.heap.size) (hk:∀ i,B<=i->i<w.heap.size->w'.heap[i]? = w.heap[i]?):zGf B w' A ss:=by
 refine ⟨fun hn=>?_,fun g off x e=>by have:=h.lo g off x e;omega⟩;obtain ⟨g,off,e,hg,hc⟩:=h.s hn;refine ⟨g,off,e,oMx,fun i hi=>?_⟩;rw [World.cell?_of_block (w:=w) (hk g (h.lo _ _ _ e).1 hg)];exact hc i hi
theorem zGf.below (h:zGf B w A ss) (hb:Below w.heap.size w w'):zGf B w' A ss:=h.up hb.size fun i _ hi=>hb.block i hi
theorem zGf.grown (h:zGf B w A ss) (hg:w.grownBy w' (some b)) (hb:b<B):zGf B w' A ss:=h.up hg.size fun i h1 h2=>hg.block i h2 (fun e=>by injection e with e;omega)
theorem zGf.mono {B':Nat} (h:zGf B w A ss) (hb:B'<=B):zGf B' w A ss:=⟨h.s,fun g off x e=>by have:=h.lo g off x e;omega⟩
theorem zGf.over (h:zGf B w A ss) {p:Addr} {u:Value} (hc:w.cell? p=some u) (hu:∀ s,u ≠ .string s) (x:Value):zGf B (w.setCell p x) A ss:=by
 refine ⟨fun hn=>?_,fun g off x e=>by have:=h.lo g off x e;simpa using this⟩;obtain ⟨g,off,e,hg,hk⟩:=h.s hn;refine ⟨g,off,e,by simpa using hg,fun i hi=>?_⟩;rw [World.cell?_setCell_other]
 ·exact hk i hi
 intro e2
 subst e2;rw [hk i hi] at hc;injection hc with hc;exact hu _ hc.symm
theorem zGf.far (h:zGf B w A ss) {g:Nat} (hg:∀ off x,A≠some ⟨g,off,x⟩) (j:Nat) (x:Value):zGf B (w.setCell ⟨g,j,none⟩ x) A ss:=by
 refine ⟨fun hn=>?_,fun g off x e=>by have:=h.lo g off x e;simpa using this⟩;obtain ⟨g',off,e,hg',hk⟩:=h.s hn;refine ⟨g',off,e,by simpa using hg',fun i hi=>?_⟩;rw [World.cell?_setCell_other]
 ·exact hk i hi
 intro e2
 injection e2 with e3;exact hg off none (by rw [e,e3])
end
structure zHe (B:Nat) (w:World) (V:Value) (rs:List zGh):Prop where
 o:w.ownsRow B 25 1 V rs.length (zXe rs)
 i:∀ r∈rs,zGf B w r.ad r.ss
section
variable {B b:Nat} {w w':World} {V:Value} {rs:List zGh}
theorem zCk.topM (h:zCk B w V rs):zHe B w V rs:=⟨h.o,fun r hr=>zGf.of_own (h.i r hr)⟩
theorem zHe.below (h:zHe B w V rs) (hb:Below w.heap.size w w'):zHe B w' V rs:=⟨zUm h.o hb,fun r hr=>(h.i r hr).below hb⟩
theorem zHe.alloc (h:zHe B w V rs) (o:Obj):zHe B (w.alloc o) V rs:=h.below (bRx.alloc lRx o)
theorem zHe.grown (h:zHe B w V rs) (hg:w.grownBy w' (some b)) (hb:b<B):zHe B w' V rs:=⟨zUq h.o hg hb,fun r hr=>(h.i r hr).grown hg hb⟩
theorem zHe.mono {B':Nat} (h:zHe B w V rs) (hb:B'<=B):zHe B' w V rs:=⟨zUl h.o hb,fun r hr=>(h.i r hr).mono hb⟩
theorem zHe.read {A:oAx} {c:Nat} (h:zHe B w (.slice A rs.length c) rs):zCj w A rs:=⟨zUk h.o,fun r hr=>(h.i r hr).s⟩
theorem zXh (rs:List zGh) (i:Nat) (r:zGh):zXe (rs.set i r)=(zXe rs).set i (.slice r.ad r.ss.length r.cp):=by simp [zXe,List.map_set]
theorem zHe.top {g c:Nat} (h:zHe B w (.slice (some ⟨g,0,none⟩) rs.length c) rs) {i:Nat} (hi:i<rs.length):w.cell? ⟨g,i,none⟩=some (.slice rs[i].ad rs[i].ss.length rs[i].cp)/\w.frozen? ⟨g,i,none⟩=false:=by
 refine ⟨?_,h.o.frozenAt i⟩;rw [h.o.cellAt i oMx,zXf hi]
theorem zHe.set {g c:Nat} (h:zHe B w (.slice (some ⟨g,0,none⟩) rs.length c) rs) {i:Nat} (hi:i<rs.length) {r:zGh} (hr:zGf B w r.ad r.ss):zHe B (w.setCell ⟨g,i,none⟩ (.slice r.ad r.ss.length r.cp)) (.slice (some ⟨g,0,none⟩) rs.length c) (rs.set i r):=by
 have hk:=(h.top hi).1;refine ⟨?_,fun a ha=>?_⟩
 ·rw [List.length_set,zXh];exact (h.o.stored i _).1
 rcases List.mem_or_eq_of_mem_set ha with h1|rfl
 ·exact (h.i a h1).over hk (fun s e=>by cases e) _
 exact hr.over hk (fun s e=>by cases e) _
theorem zHe.copy {B' g c:Nat} {e:Nat} (h:∀ r∈rs,zGf B w r.ad r.ss) (hb:B<=B') (ho:w'.ownsRow B' 25 1 V rs.length (zXe rs)) (hg:Below w.heap.size w w'):zHe B w' V rs :=
 ⟨zUl ho hb,fun r hr=>(h r hr).below hg⟩
end
theorem xBq {w:World} {b off:Nat} {ss:List ByteArray} (h:zGx w (some ⟨b,off,none⟩) ss):∀ (j:Nat) (u:Value),(sv ss)[j]? = some u->w.cell? ((⟨b,off,none⟩:Addr).add j)=some u:=fun j u hj=>by
 have hadd:(⟨b,off,none⟩:Addr).add j=⟨b,off+j,none⟩:=by unfold Addr.add;split<;>simp_all
 have hj':j<ss.length:=by have:=(List.getElem?_eq_some_iff.1 hj).1;rwa [xCg] at this
 obtain ⟨b',off',e, -,hc⟩:=h (by intro e;subst e;simp at hj');injection e with e;injection e with e1 e2;subst e1 e2;rw [hadd,hc j hj'];unfold sv at hj;rw [List.getElem?_map,List.getElem?_eq_getElem hj'] at hj;exact hj
theorem sv_one {ss:List ByteArray}:∀ u∈sv ss,u.oneCell'=true:=fun u hu=>by
 obtain ⟨s, -,rfl⟩:=List.mem_map.1 hu
 rfl
theorem rowt_one {rs:List zGh}:∀ u∈zXe rs,u.oneCell'=true:=fun u hu=>by
 obtain ⟨s, -,rfl⟩:=List.mem_map.1 hu
 rfl
theorem zHe.news {B:Nat} {w:World} {g c:Nat} {rs:List zGh} (h:zHe B w (.slice (some ⟨g,0,none⟩) rs.length c) rs):∀ (j:Nat) (u:Value),(zXe rs)[j]? = some u->w.cell? ((⟨g,0,none⟩:Addr).add j)=some u:=h.o.cells (g:=g) rfl
theorem zGf.nil (B:Nat) (w:World):zGf B w none []:=⟨fun h=>absurd rfl h,fun g off x e=>by cases e⟩
structure UpS (B:Nat) (W0 wr:World) (U cU:Nat) (rs:List zGh) (r g cp:Nat) (ts:List ByteArray):Prop where
 top:wr.ownsRow B 25 1 (.slice (some ⟨U,0,none⟩) rs.length cU) rs.length (zXe (rs.set r ⟨some ⟨g,0,none⟩,cp,ts⟩))
 row:wr.ownsRow B 43 1 (.slice (some ⟨g,0,none⟩) ts.length cp) ts.length (sv ts)
 oth:∀ j,(hj:j<rs.length)->j≠r->zGf B wr rs[j].ad rs[j].ss/\∀ off x,rs[j].ad≠some ⟨g,off,x⟩
 bel:Below B W0 wr
theorem sv_set (ss:List ByteArray) (i:Nat) (s:ByteArray):sv (ss.set i s)=(sv ss).set i (.string s):=by simp [sv,List.map_set]
theorem xCf {ss:List ByteArray} {i:Nat} (h:i<ss.length):(sv ss)[i]? = some (.string ss[i]):=by simp [sv,h]
section
variable {B:Nat} {W0 wr w':World} {U cU:Nat} {rs:List zGh} {r g cp:Nat} {ts:List ByteArray}
theorem UpS.put (h:UpS B W0 wr U cU rs r g cp ts) (c:Nat) (s:ByteArray):UpS B W0 (wr.setCell ⟨g,c,none⟩ (.string s)) U cU rs r g cp (ts.set c s):=by
 have h1:=h.row.stored c (.string s);rw [<-sv_set] at h1;have ht:=h.top.kept h1.2 (zUr h.top h.row dCx);refine ⟨?_,by rw [List.length_set];exact h1.1,fun j hj hne=>⟨(h.oth j hj hne).1.far (h.oth j hj hne).2 c _,(h.oth j hj hne).2⟩,h.bel.setCell (p:=⟨g,c,none⟩) (h.row.lt g rfl).1 _⟩;rw [zXh] at ht ⊢;simp only [List.length_set];exact ht
theorem UpS.below (h:UpS B W0 wr U cU rs r g cp ts) (hB:B<=wr.heap.size) (hb:Below wr.heap.size wr w'):UpS B W0 w' U cU rs r g cp ts :=
 ⟨zUm h.top hb,zUm h.row hb,fun j hj hne=>⟨(h.oth j hj hne).1.below hb,(h.oth j hj hne).2⟩,h.bel.trans (hb.mono hB)⟩
theorem UpS.done (h:UpS B W0 wr U cU rs r g cp ts):zHe B wr (.slice (some ⟨U,0,none⟩) rs.length cU) (rs.set r ⟨some ⟨g,0,none⟩,cp,ts⟩):=by
 refine ⟨by rw [List.length_set];exact h.top,fun a ha=>?_⟩;obtain ⟨j,hj,rfl⟩:=List.getElem_of_mem ha
 have hj':j<rs.length:=by simpa using hj
 by_cases e:j=r
 ·subst e;rw [List.getElem_set_self];exact zGf.of_own h.row
 rw [List.getElem_set_ne (Ne.symm e)];exact (h.oth j hj' e).1
theorem UpS.start {c:Nat} (h:zHe B wr (.slice (some ⟨U,0,none⟩) rs.length cU) rs) (hr:r<rs.length) (hown:w'.ownsRow wr.heap.size 43 1 (.slice (some ⟨g,0,none⟩) ts.length cp) ts.length (sv ts)) (hb:Below wr.heap.size wr w') (hB:B<=wr.heap.size) (hbel:Below B W0 wr) :
  UpS B W0 (w'.setCell ⟨U,r,none⟩ (.slice (some ⟨g,0,none⟩) ts.length cp)) U cU rs r g cp ts:=by
 have h1:=h.below hb;have hg:=(hown.lt g rfl).1;have h2:=h1.set hr (r:=⟨some ⟨g,0,none⟩,cp,ts⟩) ((zGf.of_own hown).mono hB);have hU:=(h.o.lt U rfl);have ho2:=hown.kept (h1.o.stored r (.slice (some ⟨g,0,none⟩) ts.length cp)).2 (zUr hown h1.o dCx);refine ⟨by have:=h2.o;rw [List.length_set] at this;exact this,zUl ho2 hB,fun j hj hne=>⟨?_,fun off x e=>?_⟩,(hbel.trans (hb.mono hB)).setCell (p:=⟨U,r,none⟩) hU.1 _⟩
 ·have:=h2.i rs[j] (by
   rw [List.mem_iff_getElem]
   exact ⟨j,by simpa using hj,List.getElem_set_ne (Ne.symm hne) _⟩)
  exact this
 have:=(h.i _ (List.getElem_mem hj)).lo _ _ _ e;omega
end
theorem text_ne {x y:ByteArray} (h:x≠y):(x.toList==y.toList)=false:=by
 rw [beq_eq_false_iff_ne,Lib.toList_data,Lib.toList_data]
 intro e
 apply h
 cases x
 cases y
 simp only at e;rw [ByteArray.mk.injEq,<-Array.toList_inj];exact e
theorem zGi (A B:oAx) (xs ys:List ByteArray) (c d:Nat) (w:World) (h:zGx w A xs) (h2:zGx w B ys) (hl:xs.length<=1000) (hl2:ys.length<=1000):Calls Tryz.prog 15 #[.slice A xs.length c,.slice B ys.length d] w fun e w'=>e = .returned (.bool (decide (xs=ys)))/\Below w.heap.size w w':=by
 have HC:=oH h;have HD:=oH h2;clear h h2
 by_cases hll:xs.length=ys.length
 ·have HLL:=oH hll
  have hn:((xs.length:Int) != (ys.length:Int))=false:=by rw [hll];simp
  have hll2:xs.length<=ys.length:=by omega
  clear hll
  go_enter Tryz.func15,Tryz.ntmps15
  go_wp2_with fail;clear hn
  go_loopw [13] (fun iv wr=>∃ k m:Nat,iv = .int .i64 (k:Int)/\k<=xs.length/\xs.take k=ys.take k/\wr=w.drewN m) (fun iv _=>xs.length-(intOf iv).toNat)
  ·exact ⟨0,0,rfl,oLx,rfl,rfl⟩
  obtain ⟨k,m,rfl,hk,hall,rfl⟩:=hrel;have HALL:=oH hall;clear hall
  by_cases hlt:k<xs.length
  ·obtain ⟨b,off,rfl,hb,hc⟩:=HC.out (by intro e;subst e;simp at hlt);obtain ⟨b',off',rfl,hb',hc'⟩:=HD.out (by intro e;rw [e] at hll2;simp only [List.length_nil] at hll2;omega)
   have hky:k<ys.length:=by omega
   have hck:=hc k hlt;have hck':=hc' k hky;have HN:=oH (fun (h:xs[k]≠ys[k])=>show decide (xs=ys)=false from decide_eq_false fun e=>h (by simp only [e]))
   have HS:=oH (fun (h:xs[k]=ys[k])=>show xs.take (k+1)=ys.take (k+1) by
    rw [List.take_succ_eq_append_getElem hlt,List.take_succ_eq_append_getElem hky,HALL.out,h])
   generalize xs[k]=x at *;generalize ys[k]=y at *;clear hc hc'
   by_cases hxy:x=y
   ·have E:=oH (HS.out hxy);subst hxy;clear HS HN;go_wp2_with fail
    go_quiet (fail)
    go_wp2_with fail;go_roundw
    ·exact ⟨k+1,_,by go_num,oMx,E.out,rfl⟩
    simp [intOf];omega
   have E:=oH (HN.out hxy);have hne:(x.toList==y.toList)=false:=text_ne hxy;clear HS HN;go_wp2_with fail
   go_quiet (fail)
   go_wp2_with fail;go_ret
   exact ⟨by rw [E.out];rfl,below_drewN (below_drewN bRx _) _⟩
  have E:=oH (show decide (xs=ys)=true from decide_eq_true (by
   have h1:=HALL.out;have h2:=HLL.out;rw [List.take_of_length_le oMx,List.take_of_length_le oMx] at h1
   exact h1))
  go_wp2_with fail;go_ret
  exact ⟨by rw [E.out];rfl,below_drewN bRx _⟩
 have E:=oH (show decide (xs=ys)=false from decide_eq_false fun e=>hll (by rw [e]))
 have hn:((xs.length:Int) != (ys.length:Int))=true:=by rw [bne,Bool.not_eq_true',beq_eq_false_iff_ne];omega
 clear hll
 go_enter Tryz.func15,Tryz.ntmps15
 go_wp2_with fail;go_ret
 exact ⟨by rw [E.out];rfl,bRx⟩
theorem t_d {n:Nat} (h:n<10):zXl ((n:Int):Rat)=⟨#[UInt8.ofNat (48+n)]⟩:=by
 rw [zXn];unfold str;rw [zOu h]
theorem t_m2:zXl (-2)=⟨#[45,50]⟩:=by
 rw [show (-2:Rat)=((-2:Int):Rat) from rfl,zXn];unfold str;rw [show (-2:Int) = -((2:Nat):Int) from rfl,itoa_nd dCx dCx]
 rfl
theorem t_14:zXl (Rat.divInt 1 4)=⟨#[49,47,52]⟩:=zXp (n:=1) (d:=4) (by decide +kernel) (by decide +kernel) dCx (zOu (n:=1) dCx) (zOu (n:=4) dCx)
theorem xAa {z:Int} (h:z.natAbs<1000000000):zBd (z:Rat):=zNd (by rw [Rat.num_intCast];exact h) (by rw [Rat.den_intCast];decide)
theorem xEc {n:Nat} (h:n<10):xDx ⟨#[UInt8.ofNat (48+n)]⟩=((n:Int):Rat):=by
 rw [<-t_d h];exact xDy (xAa oMx)
def xDl (a b c d:Int) (i k:Nat):Int:=if i=0 then (if k=0 then a else if k=1 then b else 0) else if i=1 then (if k=0 then c else if k=1 then d else 0) else 0
def zWw (A0 A1:oAx) (c0 c1:Nat) (a b c d:Nat):List zGh:=[⟨A0,c0,[⟨#[UInt8.ofNat (48+a)]⟩,⟨#[UInt8.ofNat (48+b)]⟩]⟩,⟨A1,c1,[⟨#[UInt8.ofNat (48+c)]⟩,⟨#[UInt8.ofNat (48+d)]⟩]⟩]
section
variable {A0 A1:oAx} {c0 c1 a b c d:Nat} (ha:a<10) (hb:b<10) (hc:c<10) (hd:d<10)
include ha hb hc hd
theorem zXd:zCi (zWw A0 A1 c0 c1 a b c d) 2 2 (fun i k=>(xDl a b c d i k:Rat)):=by
 refine ⟨rfl,fun r hr=>?_,fun i k hi hk=>?_,fun i k hi hk=>?_⟩
 ·simp [zWw] at hr
  rcases hr with rfl|rfl<;>rfl
 ·have hi':i<2:=hi
  have h2:i=0\/i=1:=by omega
  rcases h2 with rfl|rfl
  ·have hk':k<2:=hk
   have h3:k=0\/k=1:=by omega
   rcases h3 with rfl|rfl
   ·exact (t_d ha).symm
   exact (t_d hb).symm
  have hk':k<2:=hk
  have h3:k=0\/k=1:=by omega
  rcases h3 with rfl|rfl
  ·exact (t_d hc).symm
  exact (t_d hd).symm
 refine xAa ?_;unfold xDl
 split<;>split<;>(try split)<;>(try split)<;>omega
theorem zWy:zRf (zWw A0 A1 c0 c1 a b c d)=[[((a:Int):Rat),((b:Int):Rat)],[((c:Int):Rat),((d:Int):Rat)]]:=by
 unfold zRf zWw;simp only [List.map_cons,List.map_nil];rw [xEc ha,xEc hb,xEc hc,xEc hd]
theorem zWx:zQz (zWw A0 A1 c0 c1 a b c d)=1:=by
 unfold zQz;rw [zWy ha hb hc hd];simp only [zLi,zLb,Rat.den_intCast]
 rfl
theorem zWz:zRg (zWw A0 A1 c0 c1 a b c d)=xDl a b c d:=by
 funext i k
 unfold zRg;rw [zWx ha hb hc hd];unfold zRi;rw [zWy ha hb hc hd]
 have h1:∀ z:Int,celN 1 (z:Rat)=z:=fun z=>by
  unfold celN;rw [Rat.num_intCast,Rat.den_intCast]
  show z*(1/1)=z
  omega
 have h0:celN 1 (0:Rat)=0:=h1 0
 match i,k with
 | 0,0=>exact h1 _
 | 0,1=>exact h1 _
 | 0,k+2=>exact h0
 | 1,0=>exact h1 _
 | 1,1=>exact h1 _
 | 1,k+2=>exact h0
 | i+2,k =>
  have e:xDl a b c d (i+2) k=0:=by unfold xDl;rw [if_neg oMx,if_neg oMx]
  rw [e];exact h0
theorem zXb:zBb (zWw A0 A1 c0 c1 a b c d) 2:=(zXd ha hb hc hd).fine dCx dCx (fun h=>by omega)
theorem zXc:¬600<zOh (zWw A0 A1 c0 c1 a b c d) 2:=(zXd ha hb hc hd).light (k0:=1) dCx dCx dCx dCx fun i k _ _=>by
 refine zAl.ofInt ?_ dCx;unfold Dig xDl
 split<;>split<;>(try split)<;>(try split)<;>omega
theorem zXa:detS (zWw A0 A1 c0 c1 a b c d)=zXl (((a:Int)*d-c*b:Int):Rat)/\zLq (zWw A0 A1 c0 c1 a b c d)=0:=by
 refine (zXd ha hb hc hd).det_eq (zXc ha hb hc hd) ?_ (xAa ?_)
 ·simp only [det,xBt,mnr,skp,sgD,xDl];simp only [Rat.intCast_sub,Rat.intCast_mul]
  simp
  grind
 have h1:a*d<=9*9:=Nat.mul_le_mul oMx oMx;have h2:c*b<=9*9:=Nat.mul_le_mul oMx oMx
 have e1:((a:Int)*d)=((a*d:Nat):Int):=by simp
 have e2:((c:Int)*b)=((c*b:Nat):Int):=by simp
 rw [e1,e2];omega
end
theorem ker_ex:(eli 2 (xDl 1 2 2 4) 2).ps=[0]/\(eli 2 (xDl 1 2 2 4) 2).v=1/\(eli 2 (xDl 1 2 2 4) 2).P 0 1=2:=⟨by decide +kernel,by decide +kernel,by decide +kernel⟩
theorem ker_free {a:Nat} (h:zBc [0] a):a=1:=by
 obtain ⟨h1,h2,h3⟩:=h;simp only [List.length_singleton] at h1 h3
 rcases Nat.lt_or_ge a 1 with h4|h4
 ·obtain rfl:a=0:=by omega
  exact absurd ⟨oMx,rfl⟩ h3
 omega
theorem ker_q {s:zAr} (hv:s.v=1) (hP:s.P 0 1=2):(List.range 2).map (zPf s 1)=[-2,1]:=by
 show [zPf s 1 0,zPf s 1 1]=[-2,1]
 unfold zPf;rw [if_neg dCx,if_pos dCx,if_pos rfl,hv,hP]
 rfl
def solE (i k:Nat):Int:=if k=2 then (if i<2 then 1 else 0) else xDl 2 0 0 4 i k
theorem sol_ex:(eli 2 solE 2).ps.length=2/\(eli 2 solE 2).v=8/\(eli 2 solE 2).P 0 2=4/\(eli 2 solE 2).P 1 2=2:=⟨by decide +kernel,by decide +kernel,by decide +kernel,by decide +kernel⟩
theorem zQp (W:World) (A B C D E F:Value):Below W.heap.size W (((W.alloc (.cells #[A,B] 43)).alloc (.cells #[C,D] 43)).alloc (.cells #[E,F] 25)):=((bA).alloc sMx _).alloc (by simp;omega) _
theorem zQq (W:World) (a b c d:Nat):zCj (((W.alloc (.cells #[.string ⟨#[UInt8.ofNat (48+a)]⟩,.string ⟨#[UInt8.ofNat (48+b)]⟩] 43)).alloc (.cells #[.string ⟨#[UInt8.ofNat (48+c)]⟩,.string ⟨#[UInt8.ofNat (48+d)]⟩] 43)).alloc (.cells #[.slice (some ⟨W.heap.size,0,none⟩) 2 2,.slice (some ⟨W.heap.size+1,0,none⟩) 2 2] 25)) (some ⟨W.heap.size+1+1,0,none⟩) (zWw (some ⟨W.heap.size,0,none⟩) (some ⟨W.heap.size+1,0,none⟩) 2 2 a b c d):=by
 obtain ⟨sa,hsa⟩:∃ s:ByteArray,⟨#[UInt8.ofNat (48+a)]⟩=s:=⟨_,rfl⟩;obtain ⟨sb,hsb⟩:∃ s:ByteArray,⟨#[UInt8.ofNat (48+b)]⟩=s:=⟨_,rfl⟩;obtain ⟨sc,hsc⟩:∃ s:ByteArray,⟨#[UInt8.ofNat (48+c)]⟩=s:=⟨_,rfl⟩;obtain ⟨sd,hsd⟩:∃ s:ByteArray,⟨#[UInt8.ofNat (48+d)]⟩=s:=⟨_,rfl⟩;unfold zWw;rw [hsa,hsb,hsc,hsd];have h0:=((Blk.new W 43 [.string sa,.string sb]).alloc (.cells #[.string sc,.string sd] 43)).alloc (.cells #[.slice (some ⟨W.heap.size,0,none⟩) 2 2,.slice (some ⟨W.heap.size+1,0,none⟩) 2 2] 25);have h1:=(Blk.new' (w:=W.alloc (.cells #[.string sa,.string sb] 43)) (g:=W.heap.size+1) sMx 43 [.string sc,.string sd]).alloc (.cells #[.slice (some ⟨W.heap.size,0,none⟩) 2 2,.slice (some ⟨W.heap.size+1,0,none⟩) 2 2] 25);have h2:=Blk.new' (w:=(W.alloc (.cells #[.string sa,.string sb] 43)).alloc (.cells #[.string sc,.string sd] 43)) (g:=W.heap.size+1+1) sMx 25 [.slice (some ⟨W.heap.size,0,none⟩) 2 2,.slice (some ⟨W.heap.size+1,0,none⟩) 2 2]
 refine ⟨fun _=>⟨W.heap.size+1+1,0,rfl,h2.lt,fun i hi=>?_⟩,fun r hr=>?_⟩
 ·rw [Nat.zero_add];refine h2.at_ ?_;have h9:i<2:=hi
  have h8:i=0\/i=1:=by omega
  rcases h8 with rfl|rfl<;>rfl
 have h9:r=⟨some ⟨W.heap.size,0,none⟩,2,[sa,sb]⟩\/r=⟨some ⟨W.heap.size+1,0,none⟩,2,[sc,sd]⟩:=by simpa using hr
 rcases h9 with rfl|rfl
 ·exact zGx.two h0
 exact zGx.two h1
theorem det_ex (W:World) (henv:Env W):Calls Tryz.prog 18 #[.slice (some ⟨W.heap.size+1+1,0,none⟩) 2 2] (((W.alloc (.cells #[.string ⟨#[49]⟩,.string ⟨#[50]⟩] 43)).alloc (.cells #[.string ⟨#[51]⟩,.string ⟨#[52]⟩] 43)).alloc (.cells #[.slice (some ⟨W.heap.size,0,none⟩) 2 2,.slice (some ⟨W.heap.size+1,0,none⟩) 2 2] 25)) fun e w'=>e = .returned (.tuple #[.string ⟨#[45,50]⟩,.int .i64 0])/\Below W.heap.size W w':=by
 have hb:=zQp W (.string ⟨#[49]⟩) (.string ⟨#[50]⟩) (.string ⟨#[51]⟩) (.string ⟨#[52]⟩) (.slice (some ⟨W.heap.size,0,none⟩) 2 2) (.slice (some ⟨W.heap.size+1,0,none⟩) 2 2);have hi:zCj (((W.alloc (.cells #[.string ⟨#[49]⟩,.string ⟨#[50]⟩] 43)).alloc (.cells #[.string ⟨#[51]⟩,.string ⟨#[52]⟩] 43)).alloc (.cells #[.slice (some ⟨W.heap.size,0,none⟩) 2 2,.slice (some ⟨W.heap.size+1,0,none⟩) 2 2] 25)) _ _:=zQq W 1 2 3 4;have h:=zAk _ 2 _ _ hi (zXb dCx dCx dCx dCx) (show 1<=2 by decide) (henv.below hb);obtain ⟨e1,e2⟩:=zXa (A0:=some ⟨W.heap.size,0,none⟩) (A1:=some ⟨W.heap.size+1,0,none⟩) (c0:=2) (c1:=2) (a:=1) (b:=2) (c:=3) (d:=4) dCx dCx dCx dCx;rw [e1,e2,show ((((1:Nat):Int)*((4:Nat):Int)-((3:Nat):Int)*((2:Nat):Int):Int):Rat) = -2 from rfl,t_m2] at h
 exact h.mono fun e w' ⟨h1,h2⟩=>⟨h1,hb.trans (h2.mono hb.size)⟩
theorem ker_ex2 (W:World) (henv:Env W):Calls Tryz.prog 22 #[.slice (some ⟨W.heap.size+1+1,0,none⟩) 2 2] (((W.alloc (.cells #[.string ⟨#[49]⟩,.string ⟨#[50]⟩] 43)).alloc (.cells #[.string ⟨#[50]⟩,.string ⟨#[52]⟩] 43)).alloc (.cells #[.slice (some ⟨W.heap.size,0,none⟩) 2 2,.slice (some ⟨W.heap.size+1,0,none⟩) 2 2] 25)) fun e w'=>∃ A c,e = .returned (.tuple #[.slice A 2 c,.int .i64 0])/\zGx w' A [⟨#[45,50]⟩,⟨#[49]⟩]/\Below W.heap.size W w':=by
 have hb:=zQp W (.string ⟨#[49]⟩) (.string ⟨#[50]⟩) (.string ⟨#[50]⟩) (.string ⟨#[52]⟩) (.slice (some ⟨W.heap.size,0,none⟩) 2 2) (.slice (some ⟨W.heap.size+1,0,none⟩) 2 2);have hi:zCj (((W.alloc (.cells #[.string ⟨#[49]⟩,.string ⟨#[50]⟩] 43)).alloc (.cells #[.string ⟨#[50]⟩,.string ⟨#[52]⟩] 43)).alloc (.cells #[.slice (some ⟨W.heap.size,0,none⟩) 2 2,.slice (some ⟨W.heap.size+1,0,none⟩) 2 2] 25)) _ _:=zQq W 1 2 2 4;have h:=zBw _ 2 2 _ _ hi (zXb dCx dCx dCx dCx) (show 1<=2 by decide) dCx (henv.below hb);rw [decide_eq_false (zXc dCx dCx dCx dCx),zWz dCx dCx dCx dCx] at h
 refine h.mono fun e w' h=>?_
 obtain ⟨k1,k2,k3⟩:=ker_ex
 rcases h with ⟨h1, -⟩|⟨-,a,hf,h1⟩
 ·exact absurd (show (eli 2 (xDl 1 2 2 4) 2).ps.length=2 from h1) (by rw [k1];decide)
 have hf':zBc (eli 2 (xDl 1 2 2 4) 2).ps a:=hf;rw [k1] at hf';obtain rfl:=ker_free hf';have e1:(List.range 2).map (zPf (eli (zWw (some ⟨W.heap.size,0,none⟩) (some ⟨W.heap.size+1,0,none⟩) 2 2 1 2 2 4).length (xDl 1 2 2 4) 2) 1)=[-2,1]:=ker_q (s:=eli 2 (xDl 1 2 2 4) 2) k2 k3;have h1':zGc _ ((List.range 2).map (zPf (eli (zWw (some ⟨W.heap.size,0,none⟩) (some ⟨W.heap.size+1,0,none⟩) 2 2 1 2 2 4).length (xDl 1 2 2 4) 2) 1)) e w':=h1;rw [e1] at h1';have f1:zBd (-2):=xAa (z := -2) dCx;have f2:zBd 1:=xAa (z:=1) dCx
 rcases h1' with ⟨A,c, -,he,hs,hb2⟩|⟨⟨q,hq,hn⟩, -⟩
 ·refine ⟨A,c,he,?_,hb.trans (hb2.mono hb.size)⟩
  have e2:([-2,1]:List Rat).map zXl=[⟨#[45,50]⟩,⟨#[49]⟩]:=by
   rw [List.map_cons,List.map_cons,List.map_nil,t_m2,show zXl 1=⟨#[49]⟩ from t_d (n:=1) dCx]
  rw [e2] at hs;exact hs
 simp at hq
 rcases hq with rfl|rfl
 ·exact absurd f1 hn
 exact absurd f2 hn
theorem sol_P {A0 A1:oAx} {c0 c1:Nat}:xAb (zWw A0 A1 c0 c1 2 0 0 4) [⟨#[49]⟩,⟨#[49]⟩]=solE:=by
 funext i k
 unfold xAb solE;have hv:xDx ⟨#[49]⟩=((1:Int):Rat):=xEc (n:=1) dCx
 have hL:zRf (zJo [⟨#[49]⟩,⟨#[49]⟩])=[[((1:Int):Rat)],[((1:Int):Rat)]]:=by
  unfold zRf zJo;simp only [List.map_cons,List.map_nil];rw [hv]
 have hD:zQz (zJo [⟨#[49]⟩,⟨#[49]⟩])=1:=by
  unfold zQz;rw [hL];simp only [zLi,zLb,Rat.den_intCast]
  rfl
 show (if k=2 then _ else _)=_
 by_cases hk:k=2
 ·rw [if_pos hk,if_pos hk];unfold zRg;rw [hD];unfold zRi;rw [hL]
  match i with
  | 0=>rfl
  | 1=>rfl
  | i+2 =>
   rw [if_neg oMx]
   show celN 1 0=0
   rfl
 rw [if_neg hk,if_neg hk,zWz dCx dCx dCx dCx]
 rfl
theorem sol_D1:zQz (zJo [⟨#[49]⟩,⟨#[49]⟩])=1:=by
 have hv:xDx ⟨#[49]⟩=((1:Int):Rat):=xEc (n:=1) dCx;unfold zQz
 rw [show zRf (zJo [⟨#[49]⟩,⟨#[49]⟩])=[[((1:Int):Rat)],[((1:Int):Rat)]] by
  unfold zRf zJo;simp only [List.map_cons,List.map_nil]
  rw [hv]]
 simp only [zLi,zLb,Rat.den_intCast]
 rfl
theorem colT_mat:zCi (zJo [⟨#[49]⟩,⟨#[49]⟩]) 2 1 (fun _ _=>((1:Int):Rat)):=by
 refine ⟨rfl,fun r hr=>?_,fun i k hi hk=>?_,fun i k _ _=>xAa dCx⟩
 ·obtain ⟨s, -,rfl⟩:=List.mem_map.1 hr
  rfl
 have hi':i<2:=hi
 have h2:i=0\/i=1:=by omega
 rcases h2 with rfl|rfl
 ·have hk':k<1:=hk
  obtain rfl:k=0:=by omega
  exact (t_d (n:=1) dCx).symm
 have hk':k<1:=hk
 obtain rfl:k=0:=by omega
 exact (t_d (n:=1) dCx).symm
theorem sol_q {s:zAr} {D E:Int} (hD:D=1) (hE:E=1) (hv:s.v=8) (h0:s.P 0 2=4) (h1:s.P 1 2=2):[Rat.divInt (s.P 0 2*D) (s.v*E),Rat.divInt (s.P 1 2*D) (s.v*E)]=[Rat.divInt 1 2,Rat.divInt 1 4]:=by
 subst hD hE;rw [hv,h0,h1]
 decide +kernel
theorem sol_ex2 (W:World) (henv:Env W):Calls Tryz.prog 13 #[.slice (some ⟨W.heap.size+1+1,0,none⟩) 2 2,.slice (some ⟨W.heap.size+1+1+1,0,none⟩) 2 2] ((((W.alloc (.cells #[.string ⟨#[50]⟩,.string ⟨#[48]⟩] 43)).alloc (.cells #[.string ⟨#[48]⟩,.string ⟨#[52]⟩] 43)).alloc (.cells #[.slice (some ⟨W.heap.size,0,none⟩) 2 2,.slice (some ⟨W.heap.size+1,0,none⟩) 2 2] 25)).alloc (.cells #[.string ⟨#[49]⟩,.string ⟨#[49]⟩] 43)) fun e w'=>∃ A c,e = .returned (.tuple #[.slice A 2 c,.int .i64 0])/\zGx w' A [⟨#[49,47,50]⟩,⟨#[49,47,52]⟩]/\Below W.heap.size W w':=by
 have hb0:=zQp W (.string ⟨#[50]⟩) (.string ⟨#[48]⟩) (.string ⟨#[48]⟩) (.string ⟨#[52]⟩) (.slice (some ⟨W.heap.size,0,none⟩) 2 2) (.slice (some ⟨W.heap.size+1,0,none⟩) 2 2);have hi0:zCj (((W.alloc (.cells #[.string ⟨#[50]⟩,.string ⟨#[48]⟩] 43)).alloc (.cells #[.string ⟨#[48]⟩,.string ⟨#[52]⟩] 43)).alloc (.cells #[.slice (some ⟨W.heap.size,0,none⟩) 2 2,.slice (some ⟨W.heap.size+1,0,none⟩) 2 2] 25)) _ _:=zQq W 2 0 0 4
 have hsz:(((W.alloc (.cells #[.string ⟨#[50]⟩,.string ⟨#[48]⟩] 43)).alloc (.cells #[.string ⟨#[48]⟩,.string ⟨#[52]⟩] 43)).alloc (.cells #[.slice (some ⟨W.heap.size,0,none⟩) 2 2,.slice (some ⟨W.heap.size+1,0,none⟩) 2 2] 25)).heap.size=W.heap.size+1+1+1:=by simp
 have hk:=Blk.new (((W.alloc (.cells #[.string ⟨#[50]⟩,.string ⟨#[48]⟩] 43)).alloc (.cells #[.string ⟨#[48]⟩,.string ⟨#[52]⟩] 43)).alloc (.cells #[.slice (some ⟨W.heap.size,0,none⟩) 2 2,.slice (some ⟨W.heap.size+1,0,none⟩) 2 2] 25)) 43 [.string ⟨#[49]⟩,.string ⟨#[49]⟩];rw [hsz] at hk;have hb1:Below (((W.alloc (.cells #[.string ⟨#[50]⟩,.string ⟨#[48]⟩] 43)).alloc (.cells #[.string ⟨#[48]⟩,.string ⟨#[52]⟩] 43)).alloc (.cells #[.slice (some ⟨W.heap.size,0,none⟩) 2 2,.slice (some ⟨W.heap.size+1,0,none⟩) 2 2] 25)).heap.size (((W.alloc (.cells #[.string ⟨#[50]⟩,.string ⟨#[48]⟩] 43)).alloc (.cells #[.string ⟨#[48]⟩,.string ⟨#[52]⟩] 43)).alloc (.cells #[.slice (some ⟨W.heap.size,0,none⟩) 2 2,.slice (some ⟨W.heap.size+1,0,none⟩) 2 2] 25)) ((((W.alloc (.cells #[.string ⟨#[50]⟩,.string ⟨#[48]⟩] 43)).alloc (.cells #[.string ⟨#[48]⟩,.string ⟨#[52]⟩] 43)).alloc (.cells #[.slice (some ⟨W.heap.size,0,none⟩) 2 2,.slice (some ⟨W.heap.size+1,0,none⟩) 2 2] 25)).alloc (.cells #[.string ⟨#[49]⟩,.string ⟨#[49]⟩] 43)):=bA
 have hb:=hb0.trans (hb1.mono hb0.size);have hi:=hi0.below hb1
 have h:=zGq _ (some ⟨W.heap.size+1+1+1,0,none⟩) 2 2 _ [⟨#[49]⟩,⟨#[49]⟩] _ hi (zXb dCx dCx dCx dCx) (show 1<=2 by decide) (zGx.two hk) rfl (fun s hs=>by
  have:s=⟨#[49]⟩:=by simpa using hs
  subst this;rw [show (⟨#[49]⟩:ByteArray)=zXl ((1:Int):Rat) from (t_d (n:=1) dCx).symm]
  exact ⟨xDv (xAa dCx),by rw [zXr];have:=zXw (q:=((1:Int):Rat)) (xAa dCx);omega⟩) (henv.below hb)
 have l1:¬600<zOh (zWw (some ⟨W.heap.size,0,none⟩) (some ⟨W.heap.size+1,0,none⟩) 2 2 2 0 0 4) (zWw (some ⟨W.heap.size,0,none⟩) (some ⟨W.heap.size+1,0,none⟩) 2 2 2 0 0 4).length:=zXc dCx dCx dCx dCx
 have l2:¬600<zOh (zJo [⟨#[49]⟩,⟨#[49]⟩]) 1:=colT_mat.light (k0:=1) dCx dCx dCx dCx fun _ _ _ _=>zAl.ofInt (by unfold Dig;decide) dCx
 rw [decide_eq_false l1,decide_eq_false l2,sol_P] at h
 refine h.mono fun e w' h=>?_
 obtain ⟨k0,k1,k2,k3⟩:=sol_ex
 rcases h with ⟨h1, -⟩|⟨-,h1⟩
 ·have h1':(eli 2 solE 2).ps.length<2:=h1;omega
 have e1:(List.range 2).map (xAc (zWw (some ⟨W.heap.size,0,none⟩) (some ⟨W.heap.size+1,0,none⟩) 2 2 2 0 0 4) [⟨#[49]⟩,⟨#[49]⟩] (eli 2 solE 2))=[Rat.divInt 1 2,Rat.divInt 1 4]:=sol_q (s:=eli 2 solE 2) (zWx dCx dCx dCx dCx) sol_D1 k1 k2 k3;have h1':zGc _ ((List.range 2).map (xAc (zWw (some ⟨W.heap.size,0,none⟩) (some ⟨W.heap.size+1,0,none⟩) 2 2 2 0 0 4) [⟨#[49]⟩,⟨#[49]⟩] (eli 2 solE 2))) e w':=h1;rw [e1] at h1';have f1:zBd (Rat.divInt 1 2):=zNd (by decide +kernel) (by decide +kernel);have f2:zBd (Rat.divInt 1 4):=zNd (by decide +kernel) (by decide +kernel)
 rcases h1' with ⟨A,c, -,he,hs,hb2⟩|⟨⟨q,hq,hn⟩, -⟩
 ·refine ⟨A,c,he,?_,hb.trans (hb2.mono hb.size)⟩
  have e2:([Rat.divInt 1 2,Rat.divInt 1 4]:List Rat).map zXl=[⟨#[49,47,50]⟩,⟨#[49,47,52]⟩]:=by
   rw [List.map_cons,List.map_cons,List.map_nil,t_12,t_14]
  rw [e2] at hs;exact hs
 rw [List.mem_cons,List.mem_singleton] at hq
 rcases hq with rfl|rfl
 ·exact absurd f1 hn
 exact absurd f2 hn
theorem Sane3 (w:World) (henv:Env w):Calls Tryz.prog 6 #[] w fun e w'=>e = .returned (.bool true)/\Below w.heap.size w w':=by
 have HE:=oH henv;clear henv
 go_enter Tryz.func6,Tryz.ntmps6
 go_wp2_with fail;refine (det_ex w HE.out).mono ?_;rintro e w1 ⟨rfl,hb⟩;have HB1:=oH hb;clear hb;go_wp2_with fail;refine (ker_ex2 w1 (HE.below HB1.out)).mono ?_;rintro e w2 ⟨A2,c2,rfl,hs2,hb⟩;have HS2:=oH hs2;have HB2:=bTx2 HB1 hb;clear hb hs2;go_wp2_with fail;refine (sol_ex2 w2 (HE.below HB2.out)).mono ?_;rintro e w3 ⟨A3,c3,rfl,hs3,hb⟩;have HS3:=oH hs3;replace HS2:=oH (HS2.below hb);have HB3:=bTx2 HB2 hb;clear hb hs3;have HSA:=oH (zGi A2 (some ⟨w3.heap.size,0,none⟩) [⟨#[45,50]⟩,⟨#[49]⟩] [⟨#[45,50]⟩,⟨#[49]⟩] c2 2 (w3.alloc (.cells #[.string ⟨#[45,50]⟩,.string ⟨#[49]⟩] 43)) (HS2.below (bA)) (zGx.two (Blk.new w3 _ _)) dCx dCx);have HB4:=oH (HB3.alloc HB3.size (.cells #[.string ⟨#[45,50]⟩,.string ⟨#[49]⟩] 43));have HS4:=oH (HS3.below (bRx.alloc lRx (.cells #[.string ⟨#[45,50]⟩,.string ⟨#[49]⟩] 43)));rw [decide_eq_true (show ([⟨#[45,50]⟩,⟨#[49]⟩]:List ByteArray)=[⟨#[45,50]⟩,⟨#[49]⟩] from rfl)] at HSA
 go_wp2_with fail;refine HSA.mono ?_;rintro e w5 ⟨rfl,hb⟩;have HB5:=bTx2 HB4 hb;have HS5:=HS4.below hb;have HSB:=oH (zGi A3 (some ⟨w5.heap.size,0,none⟩) [⟨#[49,47,50]⟩,⟨#[49,47,52]⟩] [⟨#[49,47,50]⟩,⟨#[49,47,52]⟩] c3 2 (w5.alloc (.cells #[.string ⟨#[49,47,50]⟩,.string ⟨#[49,47,52]⟩] 43)) (HS5.below (bA)) (zGx.two (Blk.new w5 _ _)) dCx dCx);have HB6:=oH (HB5.alloc HB5.size (.cells #[.string ⟨#[49,47,50]⟩,.string ⟨#[49,47,52]⟩] 43));rw [decide_eq_true (show ([⟨#[49,47,50]⟩,⟨#[49,47,52]⟩]:List ByteArray)=[⟨#[49,47,50]⟩,⟨#[49,47,52]⟩] from rfl)] at HSB;clear hb HS5;go_wp2_with fail;refine HSB.mono ?_;rintro e w7 ⟨rfl,hb⟩;have HB7:=bTx2 HB6 hb;clear hb;go_wp2_with fail;go_ret
 exact ⟨rfl,HB7.out⟩
theorem rows_rep (n:Nat):zXe (List.replicate n (zGh.mk none 0 []))=(madeCells #[.slice none 0 0] (n*1)).toList:=by
 apply List.ext_getElem?
 intro j
 by_cases hj:j<n
 ·rw [zXf (by simpa using hj)]
  simp [madeCells,hj,Nat.mod_one]
 rw [List.getElem?_eq_none (by rw [zXg];simp;omega),List.getElem?_eq_none (by simp [madeCells];omega)]
theorem strs_rep (n:Nat):sv (List.replicate n ⟨#[]⟩)=(madeCells #[.string ⟨#[]⟩] (n*1)).toList:=by
 apply List.ext_getElem?
 intro j
 by_cases hj:j<n
 ·rw [xCf (by simpa using hj)]
  simp [madeCells,hj,Nat.mod_one]
 rw [List.getElem?_eq_none (by rw [xCg];simp;omega),List.getElem?_eq_none (by simp [madeCells];omega)]
theorem zYn (n:Nat) (hn:n<=1000000) (w:World):(Instr.makeSlice 24 (.int .i64 (n:Int)) (.int .i64 (n:Int))).run Tryz.prog w = .ok (.slice (some ⟨w.heap.size,0,none⟩) n n) (w.alloc (.cells (zXe (List.replicate n (zGh.mk none 0 []))).toArray 25)):=by
 obtain ⟨i0,hi,hz0,hz1,hz2⟩:=info_parts Tryz.infoRats;have hr:=run_make (P:=Tryz.prog) w 24 25 i0 (.slice none 0 0) Tryz.underlying24 hi hz0 .i64 .i64 n n oMx (Int.le_refl _) (by rw [hz2];omega) oMx
 have hm:madeCells (Value.slice none 0 0).cells (n*1)=(zXe (List.replicate n (zGh.mk none 0 []))).toArray:=by
  rw [rows_rep];rfl
 simp only [Int.toNat_natCast,hz1,hm] at hr;exact hr
theorem zYo (n:Nat) (hn:n<=1000000) (w:World):(Instr.makeSlice 25 (.int .i64 (n:Int)) (.int .i64 (n:Int))).run Tryz.prog w = .ok (.slice (some ⟨w.heap.size,0,none⟩) n n) (w.alloc (.cells (sv (List.replicate n ⟨#[]⟩)).toArray 43)):=by
 obtain ⟨i0,hi,hz0,hz1,hz2⟩:=info_parts Tryz.infoRat;have hr:=run_make (P:=Tryz.prog) w 25 43 i0 (.string ⟨#[]⟩) Tryz.underlying25 hi hz0 .i64 .i64 n n oMx (Int.le_refl _) (by rw [hz2];omega) oMx
 have hm:madeCells (Value.string ⟨#[]⟩).cells (n*1)=(sv (List.replicate n ⟨#[]⟩)).toArray:=by
  rw [strs_rep];rfl
 simp only [Int.toNat_natCast,hz1,hm] at hr;exact hr
theorem zQw (w:World) (n:Nat) (hn:n<=1000000):(w.alloc (.cells (zXe (List.replicate n (zGh.mk none 0 []))).toArray 25)).ownsRow w.heap.size 25 1 (.slice (some ⟨w.heap.size,0,none⟩) n n) n (zXe (List.replicate n (zGh.mk none 0 []))) :=
 ⟨by rw [zXg];simp,.inr ⟨w.heap.size,n,_,rfl,lRx,heap_alloc_new w _,lRx,by unfold maxLen;omega,by simp [zXg],by rw [List.take_of_length_le (by simp [zXg])]⟩⟩
theorem zQx (w:World) (n:Nat) (hn:n<=1000000):(w.alloc (.cells (sv (List.replicate n ⟨#[]⟩)).toArray 43)).ownsRow w.heap.size 43 1 (.slice (some ⟨w.heap.size,0,none⟩) n n) n (sv (List.replicate n ⟨#[]⟩)) :=
 ⟨by rw [xCg];simp,.inr ⟨w.heap.size,n,_,rfl,lRx,heap_alloc_new w _,lRx,by unfold maxLen;omega,by simp [xCg],by rw [List.take_of_length_le (by simp [xCg])]⟩⟩
def zFs (w:World) (m n:Nat) (M:mRx) (e:Ending) (w':World):Prop :=
 (∃ A c rs,e = .returned (.tuple #[.slice A m c,.int .i64 0])/\zCi rs m n M/\zHe w.heap.size w' (.slice A m c) rs/\Below w.heap.size w w') \/
 ((∃ i k,i<m/\k<n/\¬zBd (M i k))/\e = .returned (.tuple #[.slice none 0 0,.int .i64 3])/\Below w.heap.size w w')
structure BuiA (B:Nat) (W0 wr:World) (U m n:Nat) (M:mRx) (i:Nat) (rs:List zGh):Prop where
 top:zHe B wr (.slice (some ⟨U,0,none⟩) rs.length m) rs
 len:rs.length=m
 row:∀ j,(h:j<rs.length)->j<i->rs[j].ss.length=n/\∀ k,(hk:k<rs[j].ss.length)->rs[j].ss[k]=zXl (M j k)
 fit:∀ j k,j<i->k<n->zBd (M j k)
 bel:Below B W0 wr
 B0:B<=W0.heap.size
structure zAc (B:Nat) (W0 wr:World) (U m n:Nat) (M:mRx) (i k:Nat) (rs:List zGh) (g cp:Nat) (ts:List ByteArray):Prop where
 up:UpS B W0 wr U m rs i g cp ts
 len:rs.length=m
 im:i<m
 tl:ts.length=n
 row:∀ j,(h:j<rs.length)->j<i->rs[j].ss.length=n/\∀ k,(hk:k<rs[j].ss.length)->rs[j].ss[k]=zXl (M j k)
 fit:∀ j k,j<i->k<n->zBd (M j k)
 cel:∀ c,(h:c<ts.length)->c<k->ts[c]=zXl (M i c)
 fit2:∀ c,c<k->zBd (M i c)
 B0:B<=W0.heap.size
section
variable {B U m n i k g cp:Nat} {W0 wr w':World} {M:mRx} {rs:List zGh} {ts:List ByteArray}
theorem BuiA.start (w:World) (m n:Nat) (M:mRx) (hm:m<=1000000):BuiA w.heap.size w (w.alloc (.cells (zXe (List.replicate m (zGh.mk none 0 []))).toArray 25)) w.heap.size m n M 0 (List.replicate m (zGh.mk none 0 [])):=by
 refine ⟨⟨?_,fun r hr=>?_⟩,by simp,fun j h hj=>absurd hj oMx,fun j k hj=>absurd hj oMx,bA,lRx⟩
 ·rw [List.length_replicate];exact zQw w m hm
 rw [(List.mem_replicate.1 hr).2];exact zGf.nil _ _
theorem BuiA.row_ (h:BuiA B W0 wr U m n M i rs) (hi:i<m) (hn:n<=1000000):zAc B W0 ((wr.alloc (.cells (sv (List.replicate n ⟨#[]⟩)).toArray 43)).setCell ⟨U,i,none⟩ (.slice (some ⟨wr.heap.size,0,none⟩) n n)) U m n M i 0 rs wr.heap.size n (List.replicate n ⟨#[]⟩):=by
 have hB:B<=wr.heap.size:=Nat.le_trans h.B0 h.bel.size;have h1:=UpS.start (ts:=List.replicate n (⟨#[]⟩:ByteArray)) (cp:=n) (W0:=W0) (r:=i) (g:=wr.heap.size) h.top (by rw [h.len];exact hi) (c:=m) (by rw [List.length_replicate];exact zQx wr n hn) (bA) hB h.bel;rw [List.length_replicate] at h1;exact ⟨h1,h.len,hi,by simp,h.row,h.fit,fun c _ hc=>absurd hc oMx,fun c hc=>absurd hc oMx,h.B0⟩
theorem zAc.below (h:zAc B W0 wr U m n M i k rs g cp ts) (hb:Below wr.heap.size wr w'):zAc B W0 w' U m n M i k rs g cp ts :=
 ⟨h.up.below (Nat.le_trans h.B0 h.up.bel.size) hb,h.len,h.im,h.tl,h.row,h.fit,h.cel,h.fit2,h.B0⟩
theorem zAc.put (h:zAc B W0 wr U m n M i k rs g cp ts) (hf:zBd (M i k)):zAc B W0 (wr.setCell ⟨g,k,none⟩ (.string (zXl (M i k)))) U m n M i (k+1) rs g cp (ts.set k (zXl (M i k))):=by
 refine ⟨h.up.put k _,h.len,h.im,by rw [List.length_set];exact h.tl,h.row,h.fit,fun c hc hck=>?_,fun c hc=>?_,h.B0⟩
 ·by_cases e:c=k
  ·subst e;rw [List.getElem_set_self]
  rw [List.getElem_set_ne (Ne.symm e)];exact h.cel c (by simpa using hc) oMx
 by_cases e:c=k
 ·subst e;exact hf
 exact h.fit2 c oMx
theorem zAc.top (h:zAc B W0 wr U m n M i k rs g cp ts):wr.cell? ⟨U,i,none⟩=some (.slice (some ⟨g,0,none⟩) n cp)/\wr.frozen? ⟨U,i,none⟩=false/\wr.frozen? ⟨g,k,none⟩=false/\∀ hk:k<ts.length,wr.cell? ⟨g,k,none⟩=some (.string ts[k]):=by
 refine ⟨?_,h.up.top.frozenAt i,h.up.row.frozenAt k,fun hk=>(h.up.row.cellAt k oMx).trans (xCf hk)⟩
 have hi:i<rs.length:=by rw [h.len];exact h.im
 rw [h.up.top.cellAt i oMx,zXf (by rw [List.length_set];exact hi),List.getElem_set_self];simp only [h.tl]
theorem zAc.next (h:zAc B W0 wr U m n M i k rs g cp ts) (hk:n<=k):BuiA B W0 wr U m n M (i+1) (rs.set i ⟨some ⟨g,0,none⟩,cp,ts⟩):=by
 have hd:=h.up.done;refine ⟨by rw [List.length_set];exact hd,by rw [List.length_set];exact h.len,fun j hj hji=>?_,fun j c hj hc=>?_,h.up.bel,h.B0⟩
 ·by_cases e:j=i
  ·subst e;simp only [List.getElem_set_self];exact ⟨h.tl,fun c hc=>h.cel c hc (by have:=h.tl;omega)⟩
  simp only [List.getElem_set_ne (Ne.symm e)];exact h.row j (by simpa using hj) oMx
 by_cases e:j=i
 ·subst e;exact h.fit2 c oMx
 exact h.fit j c oMx hc
theorem BuiA.done (h:BuiA B W0 wr U m n M i rs) (hi:m<=i):zCi rs m n M/\zHe B wr (.slice (some ⟨U,0,none⟩) m m) rs:=by
 have hl:=h.len;refine ⟨⟨hl,fun r hr=>?_,fun j k hj hk=>(h.row j hj oMx).2 k hk,fun j k hj hk=>h.fit j k oMx hk⟩,?_⟩
 ·obtain ⟨j,hj,rfl⟩:=List.getElem_of_mem hr;exact (h.row j hj oMx).1
 have:=h.top;rw [hl] at this;exact this
end
theorem zAd (r a t:Nat) (m n:Nat) (M:mRx) (w:World) (hm:m<=12) (hn:n<=12) (hs:∀ i k,i<m->k<n->Sz 5000000 (M i k)) (henv:Env w)
  (hc:∀ W,Below w.heap.size w W->∀ i k,i<m->k<n->Calls Tryz.prog 49 #[.int .i64 (i:Int),.int .i64 (k:Int),.pointer (some ⟨r,0,none⟩),.pointer (some ⟨a,0,none⟩),.pointer (some ⟨t,0,none⟩)] W (zFp W (M i k))) :
  Calls Tryz.prog 48 #[.int .i64 (m:Int),.int .i64 (n:Int),(.func (.func 49) #[] #[.pointer (some ⟨r,0,none⟩),.pointer (some ⟨a,0,none⟩),.pointer (some ⟨t,0,none⟩)])] w (zFs w m n M):=by
 have hmk:=zYn m oMx;have hmk2:=zYo n oMx;generalize hQ:zFs w m n M=Q;replace hQ:=oH hQ;have HS:=oH hs;have HE:=oH henv;have HC:=oH hc;clear hs henv hc
 go_enter Tryz.func48,Tryz.ntmps48
 go_wp2_with fail;have HA0:=oH (BuiA.start w m n M oMx);generalize (w.alloc (.cells (zXe (List.replicate m (zGh.mk none 0 []))).toArray 25))=W1 at *;generalize hU:w.heap.size=U at *;replace hU:=oH hU
 go_loopw [17] (fun iv wr=>∃ (i:Nat) (rs:List zGh),iv = .int .i64 (i:Int)/\i<=m/\BuiA w.heap.size w wr U m n M i rs) (fun iv _=>m-(intOf iv).toNat)
 ·exact ⟨0,_,rfl,oLx,by have:=HA0.out;rw [hU.out];exact this⟩
 obtain ⟨i,rs,rfl,hi,hba⟩:=hrel;have HBA:=oH hba;have hml:=hba.len;clear HA0 hmk
 by_cases hlt:i<m
 ·have i1:(0:Int)<=(i:Int):=by omega
  have i2:(i:Int)<(m:Int):=by omega
  have f0:=(hba.top.alloc (.cells (sv (List.replicate n ⟨#[]⟩)).toArray 43)).top (i:=i) oMx;have HBB:=oH (hba.row_ hlt oMx);obtain ⟨f0a,f0b⟩:=f0;have HBm:=oH hba.bel;clear hba;go_wp2_with fail;generalize ((wr.alloc (.cells (sv (List.replicate n ⟨#[]⟩)).toArray 43)).setCell ⟨U,i,none⟩ (.slice (some ⟨wr.heap.size,0,none⟩) n n))=W2 at *;generalize wr.heap.size=g0 at *;clear f0a f0b HBA HBm
  go_loopw [30] (fun kv wk=>∃ (k:Nat) (ts:List ByteArray),kv = .int .i64 (k:Int)/\k<=n/\zAc w.heap.size w wk U m n M i k rs g0 n ts) (fun kv _=>n-(intOf kv).toNat)
  ·exact ⟨0,_,rfl,oLx,HBB.out⟩
  clear HBB;obtain ⟨k,ts,rfl,hk,hbb⟩:=hrel;obtain ⟨wk,rfl⟩:=nWx wr;have HBK:=oH hbb
  by_cases hlt2:k<n
  ·have HCC:=oH (HC.out wk (by have:=hbb.up.bel;rw [hU.out] at this;exact this) i k hlt hlt2);have HFT:=oH (fun (V:Value) (W:World) (hV:zBo W V (M i k)) (hE:Env W)=>zAw V (M i k) W hV (HS.out i k hlt hlt2) hE);have HPT:=oH (fun (W:World) (h:zAc w.heap.size w W U m n M i k rs g0 n ts) (hf:zBd (M i k))=>h.put hf);have HNO:=oH (fun (hf:¬zBd (M i k)) (W:World) (hb:Below w.heap.size w W)=>(show zFs w m n M (.returned (.tuple #[.slice none 0 0,.int .i64 3])) W from .inr ⟨⟨i,k,hlt,hlt2,hf⟩,rfl,hb⟩));generalize M i k=q at *;clear hbb;go_wp2_with fail;refine HCC.mono ?_;rintro e w5 ⟨v,rfl,hv,hb5⟩;have HB5:=oH (HBK.below hb5);have HV5:=oH hv;clear hv hb5;go_wp2_with fail;refine (HFT.out v w5 HV5.out (HE.below HB5.up.bel)).mono ?_;rintro e w6 ⟨rfl,hb6⟩;have HB6:=oH (HB5.below hb6);clear hb6
   by_cases hfit:zBd q
   ·rw [zUe hfit,zUc hfit];obtain ⟨c0,f0,f1,c1⟩:=HB6.top;replace c1:=c1 (by rw [HB6.tl];exact hlt2);generalize hto:ts[k]'(by rw [HB6.tl];exact hlt2)=told at *;clear hto;have HB7:=oH (HPT.out w6 HB6.out hfit)
    have k1:(0:Int)<=(k:Int):=by omega
    have k2:(k:Int)<(n:Int):=by omega
    generalize zXl q=s at *;clear hfit;go_wp2_with fail;go_roundw
    ·exact ⟨k+1,_,by go_num,oMx,HB7.out⟩
    simp [intOf];omega
   rw [zUf hfit,zUd hfit];have HR:=oH (HNO.out hfit w6 HB6.up.bel);clear hfit;go_wp2_with fail;rw [<-hQ.out];exact HR.out
  have HN:=oH (hbb.next oMx);clear hbb;go_wp2_with fail;go_roundw
  ·exact ⟨i+1,_,by go_num,oMx,HN.out⟩
  simp [intOf];omega
 obtain ⟨hmf,htp⟩:=hba.done oMx;have HR:=oH (show zFs w m n M (.returned (.tuple #[.slice (some ⟨U,0,none⟩) m m,.int .i64 0])) wr from .inl ⟨_,_,rs,rfl,hmf,htp,hba.bel⟩);clear hba hmf htp;go_wp2_with fail;rw [<-hQ.out];exact HR.out
def zHd (s:ByteArray):Prop:=∃ z:Int,s=zXl (z:Rat)/\z.natAbs<=3
theorem zRd {rs:List zGh} {m n:Nat} (hl:rs.length=m) (hr:∀ r∈rs,r.ss.length=n) (ht:∀ r∈rs,∀ s∈r.ss,∃ q,s=zXl q/\zBd q):zCi rs m n (zRi rs):=by
 have key:∀ i k,(hi:i<rs.length)->(hk:k<rs[i].ss.length)->rs[i].ss[k]=zXl (zRi rs i k)/\zBd (zRi rs i k):=fun i k hi hk=>by
  obtain ⟨q,e,hf⟩:=ht _ (List.getElem_mem hi) _ (List.getElem_mem hk);rw [zRj hi hk,e,xDy hf];exact ⟨rfl,hf⟩
 refine ⟨hl,hr,fun i k hi hk=>(key i k hi hk).1,fun i k hi hk=>?_⟩
 have hi':i<rs.length:=by omega
 exact (key i k hi' (by rw [hr _ (List.getElem_mem hi')];exact hk)).2
def xCw:List Int:=[0,0,1,2, -1,3]
theorem xCx (i:Nat):(xCw.getD i 0).natAbs<=3:=by
 by_cases h:i<xCw.length
 ·have:∀ s∈xCw,s.natAbs<=3:=by decide
  rw [List.getD_eq_getElem?_getD,List.getElem?_eq_getElem h];exact this _ (List.getElem_mem h)
 rw [List.getD_eq_getElem?_getD,List.getElem?_eq_none oMx]
 decide
def zGd (w:World) (b m n:Nat) (e:Ending) (w':World):Prop:=∃ (v:Value) (rs:List zGh),e = .returned v/\rs.length=m/\(∀ r∈rs,r.ss.length=n/\∀ s∈r.ss,zHd s)/\zCk w.heap.size w' v rs/\Src w' b/\w.grownBy w' (some b)
theorem Thin_any (b m n:Nat) (w:World) (hs:Src w b) (hm:m<=1000) (hn:n<=1000) (hn1:1<=n\/m=0):Calls Tryz.prog 9 #[.pointer (some ⟨b,0,none⟩),.int .i64 (m:Int),.int .i64 (n:Int)] w (zGd w b m n):=by
 obtain ⟨i0,hi,hz0,hz1,hz2⟩:=info_parts Tryz.infoRats;obtain ⟨j0,hj,hy0,hy1,hy2⟩:=info_parts Tryz.infoRat
 have HPK:=oH (fun (W:World) (g:Nat) (hW:Blk W g 3 (xCw.map (Value.int .i64))) (hS:Src W b) (hg:g≠b)=>zDd b g 6 (fun i=>xCw.getD i 0) W hS (fun i hi=>by
  rw [hW.cell,List.getElem?_map,List.getD_eq_getElem?_getD,List.getElem?_eq_getElem (show i<xCw.length from hi)];rfl) hg hW.lt oMx oMx)
 generalize hQ:zGd w b m n=Q;replace hQ:=oH hQ;have HS:=oH hs;have hbw:=hs.lt;clear hs
 go_enter Tryz.func9,Tryz.ntmps9
 go_wp2_with fail
 go_loopw [7,8] (fun v iv wr=>∃ (rs:List zGh),iv = .int .i64 (rs.length:Int)/\rs.length<=m/\(∀ r∈rs,r.ss.length=n/\∀ s∈r.ss,zHd s)/\zCk w.heap.size wr v rs/\Src wr b/\w.grownBy wr (some b)) (fun _ iv _=>m-(intOf iv).toNat)
 ·exact ⟨[],rfl,oLx,fun r hr=>(by simp at hr),zCk.zero _ _,HS.out,⟨rfl,rfl,rfl,lRx,fun _ _ _=>rfl⟩⟩
 obtain ⟨rs,rfl,hrm,hrt,hown,hsr,hgr⟩:=hrel;obtain ⟨wk,rfl⟩:=nWx wr;obtain ⟨AV,cV,rfl, -⟩:=zUj hown.o;have HRT:=oH hrt;have HOWN:=oH hown;have HSR:=oH hsr;have HGR:=oH hgr;have hsz:=hgr.size;clear hrt hown hsr hgr
 by_cases hlt:rs.length<m
 ·have hn2:1<=n:=by omega
  go_upto_region 5 with (fail)
  go_cut [22] (fun c wc=>∃ bb:Bool,c = .bool bb/\(bb=true->0<rs.length)/\zCk w.heap.size wc (.slice AV rs.length cV) rs/\Src wc b/\w.grownBy wc (some b))
  case first =>
   by_cases h0:0<rs.length
   ·have hx:(0:Int)<(rs.length:Int):=by omega
    go_wp2_with fail;refine (zCn b 4 wk HSR.out dCx dCx).mono ?_;rintro e w2 ⟨r,rfl,hr,hs2,hg2⟩;have HS2:=oH hs2;have HG2:=oH (zOe HGR.out hg2);have HM2:=oH (HOWN.grown hg2 hbw);clear hs2 hg2;obtain ⟨bb,hbb⟩:∃ bb:Bool,((r:Int)==3)=bb:=⟨_,rfl⟩;go_wp2_with fail
    go_meet
    exact ⟨_,rfl,fun _=>h0,HM2.out,HS2.out,HG2.out⟩
   have hx:¬(0:Int)<(rs.length:Int):=by omega
   go_wp2_with fail
   go_meet
   exact ⟨false,rfl,fun e=>(by cases e),HOWN.out,HSR.out,HGR.out⟩
  case rest =>
   obtain ⟨bb,rfl,hb0,hown,hsr,hgr⟩:=hcut;obtain ⟨wd,rfl⟩:=nWx wc;clear HOWN HSR HGR;have HOWN:=oH hown;have HSR:=oH hsr;have HGR:=oH hgr;have hszd:=hgr.size;clear hown hsr hgr
   cases bb
   ·clear hb0;go_wp2_with fail
    go_loopw [9,10] (fun v kv wr=>∃ (ss:List ByteArray),kv = .int .i64 (ss.length:Int)/\ss.length<=n/\(∀ s∈ss,zHd s)/\wr.ownsRow wd.heap.size 43 1 v ss.length (sv ss)/\Src wr b/\wd.grownBy wr (some b)) (fun _ kv _=>n-(intOf kv).toNat)
    ·exact ⟨[],rfl,oLx,by simp,World.ownsRow_nil _ _ _ _,HSR.out,World.grownBy.refl _ _⟩
    obtain ⟨ss,rfl,hsn,hst,hown,hsr,hgr⟩:=hrel;obtain ⟨wq,rfl⟩:=nWx wr;have HST:=oH hst;have HO:=oH hown;have HSQ:=oH hsr;have HGQ:=oH hgr;have hszq:=hgr.size;have hbd:=hsr.lt
    by_cases hlt2:ss.length<n
    ·clear hst hown hsr hgr;have hbl:Below wq.heap.size wq (wq.alloc (.cells #[.int .i64 0,.int .i64 0,.int .i64 1,.int .i64 2,.int .i64 (-1),.int .i64 3] 3)):=bA;have HPP:=oH (HPK.out (wq.alloc (.cells #[.int .i64 0,.int .i64 0,.int .i64 1,.int .i64 2,.int .i64 (-1),.int .i64 3] 3)) wq.heap.size (Blk.new wq 3 (xCw.map (Value.int .i64))) (HSQ.below hbl) oMx);have HO1:=oH (zUm HO.out hbl);have HG1:=oH (zOa HGQ.out hbl);clear hbl;go_wp2_with fail;refine HPP.mono ?_;rintro e w2 ⟨i,hi6,rfl,hs2,hg2⟩;have hz3:=xCx i;have HS2:=oH hs2;have HG2:=oH (zOe HG1.out hg2);have HO2:=oH (zUq HO1.out hg2 oMx);generalize xCw.getD i 0=z at *;clear hs2 hg2;go_wp2_with fail;refine (zDy z w2 oMx oMx).mono ?_;rintro e w3 ⟨rfl,hb3⟩;have HS3:=oH (HS2.below hb3);have HG3:=oH (zOa HG2.out hb3);have HO3:=oH (zUm HO2.out hb3);have hsz3:wd.heap.size<=w3.heap.size:=HG3.size;have HZT:=oH (show zHd (str z) from ⟨z,(zXn z).symm,hz3⟩)
     generalize str z=sz at *;clear hb3
     go_wp2_with (at_builtin;refine wpList_append_own _ rfl _ _ 25 rfl wd.heap.size 43 j0 (.string ⟨#[]⟩) 1 16 Tryz.underlying25 hj hy0 hy1 hy2 rfl dCx _ _ _ rfl (HO3.alloc _) ⟨w3.heap.size,0,none⟩ 1 1 [_] rfl rfl zTu zTv (by unfold maxLen;omega) oMx (by simp;omega) ?_)
     intro v4 w4 hown4 hgrow4 _
     obtain ⟨ho4,hk4,hs4,hg4⟩:=xAe HO3.out hsz3 hown4 hgrow4;have HO4:=oH ho4;have HS4:=oH (HS3.above hs4 (fun i hi=>hk4 i oMx));have HG4:=oH (hg4 wd (some b) lRx HG3.out);clear hown4 hgrow4 ho4 hk4 hs4 hg4;go_wp2_with fail;go_roundw
     ·exact ⟨ss++[sz],by simp only [List.length_append,List.length_singleton];go_num,by simp;omega,fun x hx=>(List.mem_append.1 hx).elim (HST.out x) (fun h=>by rw [List.mem_singleton.1 h];exact HZT.out),HO4.out,HS4.out,HG4.out⟩
     simp [intOf];omega
    have HSL:=oH (show ss.length=n by omega);obtain ⟨A5,c5,rfl, -⟩:=zUj hown;have HNEW:=oH (zUl hown hszd);have HMO:=oH (HOWN.grown hgr hbw);have HG5:=oH (zOe HGR.out hgr);have HS5:=oH hsr;have hsz5:=HG5.size;obtain ⟨w5,rfl⟩:=nWx wq;clear hst hown hsr hgr HO HSQ HGQ
    go_wp2_with (at_builtin;refine wpList_append_own _ rfl _ _ 24 rfl w.heap.size 25 i0 (.slice none 0 0) 1 24 Tryz.underlying24 hi hz0 hz1 hz2 rfl dCx _ _ _ rfl (HMO.o.alloc _) ⟨w5.heap.size,0,none⟩ 1 1 [_] rfl rfl zTu zZu (by unfold maxLen;omega) oMx (by simp;omega) ?_)
    intro v' w6 hown6 hgrow6 _
    have hlt2:∀ k,(Value.slice AV rs.length cV).ownBlock=some k->w.heap.size<=k:=fun k hk=>(HMO.o.lt k hk).1
    have hbel:Below w.heap.size w5 w6:=zIl bRx hsz5 hgrow6 hlt2;have HM6:=oH ((HMO.below (bA)).push (r:=⟨A5,c5,ss⟩) (zUm HNEW.out (bA)) (hown6) hgrow6);have HS6:=oH (HS5.above hbel.size (fun i hi=>hbel.block i oMx));have HG6:=oH (show w.grownBy w6 (some b) from ⟨hbel.os.trans HG5.os,hbel.tape.trans HG5.tape,hbel.output.trans HG5.output,Nat.le_trans HG5.size hbel.size,fun k hk hne=>(hbel.block k hk).trans (HG5.block k hk hne)⟩);clear hown6 hgrow6 hbel hlt2;go_wp2_with fail;go_roundw
    ·exact ⟨rs++[⟨A5,c5,ss⟩],by simp only [List.length_append,List.length_singleton];go_num,by simp;omega,fun r hr=>(List.mem_append.1 hr).elim (HRT.out r) (fun h=>by rw [List.mem_singleton.1 h];exact ⟨HSL.out,HST.out⟩),HM6.out,HS6.out,HG6.out⟩
    simp [intOf];omega
   have h0:=hb0 rfl;clear hb0;go_wp2_with fail;refine (zCn b (rs.length:Int) wd HSR.out oMx oMx).mono ?_;rintro e w2 ⟨j,rfl,hjr,hs2,hg2⟩;have HS2:=oH hs2;have HG2:=oH (zOe HGR.out hg2);have HM2:=oH (HOWN.grown hg2 hbw)
   have hj':j<rs.length:=by omega
   have hsz2:=HG2.size;obtain ⟨gV,rfl⟩:=zUi HM2.o h0;have hTP:=HM2.topM;obtain ⟨cj, -⟩:=hTP.top hj';have hlj:=(HRT.out _ (List.getElem_mem hj')).1;have HST:=oH (HRT.out _ (List.getElem_mem hj')).2;obtain ⟨b1,o1,e1, -, -⟩:=(hTP.i _ (List.getElem_mem hj')).s (by intro e;rw [e] at hlj;simp at hlj;omega);have HSI:=oH (xBq (by rw [<-e1];exact (hTP.i _ (List.getElem_mem hj')).s));have HLS:=oH (show (sv rs[j].ss).length=n*1 by rw [xCg];omega);have HSL:=oH hlj;rw [e1,hlj] at cj
   have j1:(0:Int)<=(j:Int):=by omega
   clear hs2 hg2 hTP hlj e1;generalize rs[j].cp=cpj at *;generalize rs[j].ss=ss at *
   go_wp2_with (at_builtin;refine wpList_append_own _ rfl _ _ 25 rfl w2.heap.size 43 j0 (.string ⟨#[]⟩) 1 16 Tryz.underlying25 hj hy0 hy1 hy2 rfl dCx _ _ _ rfl (World.ownsRow_nil _ _ _ _) ⟨b1,o1,none⟩ n cpj (sv ss) rfl HLS.out HSI.out sv_one (by unfold maxLen;omega) oMx lRx ?_)
   intro vR w5 hown5 hgrow5 _
   have hb5:Below w2.heap.size w2 w5:=zIp hgrow5;obtain ⟨A5,c5,rfl, -⟩:=zUj hown5;have HNEW:=oH (show w5.ownsRow w.heap.size 43 1 (.slice A5 ss.length c5) ss.length (sv ss) by rw [HSL.out];exact zUl hown5 hsz2);have HMO:=oH (HM2.below hb5);have HS5:=oH (HS2.below hb5);have HG5:=oH (zOa HG2.out hb5);have hsz5:=HG5.size;clear hown5 hgrow5 hb5 cj
   go_wp2_with (at_builtin;refine wpList_append_own _ rfl _ _ 24 rfl w.heap.size 25 i0 (.slice none 0 0) 1 24 Tryz.underlying24 hi hz0 hz1 hz2 rfl dCx _ _ _ rfl (HMO.o.alloc _) ⟨w5.heap.size,0,none⟩ 1 1 [_] rfl rfl zTu zZu (by unfold maxLen;omega) oMx (by simp;omega) ?_)
   intro v' w6 hown6 hgrow6 _
   have hlt2:∀ k,(Value.slice (some ⟨gV,0,none⟩) rs.length cV).ownBlock=some k->w.heap.size<=k:=fun k hk=>(HMO.o.lt k hk).1
   have hbel:Below w.heap.size w5 w6:=zIl bRx hsz5 hgrow6 hlt2;have HM6:=oH ((HMO.below (bA)).push (r:=⟨A5,c5,ss⟩) (zUm HNEW.out (bA)) (by rw [HSL.out];exact hown6) hgrow6);have HS6:=oH (HS5.above hbel.size (fun i hi=>hbel.block i oMx));have HG6:=oH (show w.grownBy w6 (some b) from ⟨hbel.os.trans HG5.os,hbel.tape.trans HG5.tape,hbel.output.trans HG5.output,Nat.le_trans HG5.size hbel.size,fun k hk hne=>(hbel.block k hk).trans (HG5.block k hk hne)⟩);clear hown6 hgrow6 hbel hlt2;go_wp2_with fail;go_roundw
   ·exact ⟨rs++[⟨A5,c5,ss⟩],by simp only [List.length_append,List.length_singleton];go_num,by simp;omega,fun r hr=>(List.mem_append.1 hr).elim (HRT.out r) (fun h=>by rw [List.mem_singleton.1 h];exact ⟨HSL.out,HST.out⟩),HM6.out,HS6.out,HG6.out⟩
   simp [intOf];omega
 have hlm:rs.length=m:=by omega
 have HLM:=oH hlm;have HR:=oH (show zGd w b m n (.returned (.slice AV rs.length cV)) wk from ⟨_,rs,rfl,hlm,HRT.out,HOWN.out,HSR.out,HGR.out⟩);clear hlm;go_wp2_with fail;rw [<-hQ.out];exact HR.out
end Go.Proofs.YtbjaplppalcmgaaGreatDoor
