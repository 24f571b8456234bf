import Derived.Test.YtbjaplppalcmgaaGreatDoorZNM
import Derived.Test.YtbjaplppalcmgaaGreatDoorZMV
set_option maxHeartbeats 16000000
set_option maxRecDepth 100000
set_option linter.unusedVariables false
set_option linter.unusedSimpArgs false
set_option linter.unusedSectionVars false
namespace Go.Proofs.YtbjaplppalcmgaaGreatDoor
def gj (M:mRx):Nat->Nat->Nat->Rat
 | 0=>M
 | c+1=>fun i j=>if i=c then gj M c c j/gj M c c c else gj M c i j-gj M c i c*(gj M c c j/gj M c c c)
section
variable {X:mRx} {c i k m n:Nat}
def dvQ (X:mRx) (c k:Nat):Nat->Nat->Rat:=fun a b=>if a=c/\b<k then X c b/X c c else X a b
def sbQ (X:mRx) (c i k:Nat):Nat->Nat->Rat:=fun a b=>if a=c then X c b/X c c else if a<i\/a=i/\b<k then X a b-X a c*(X c b/X c c) else X a b
end
def gd:Nat->Nat
 | 0=>2
 | c+1=>4*gd c+1
section
variable {M:mRx} {n m:Nat}
def pd:Nat->Nat
 | 0=>1
 | c+1=>pd c+gd c
end
end Go.Proofs.YtbjaplppalcmgaaGreatDoor
namespace Go.Proofs.YtbjaplppalcmgaaGreatDoor
open Go.RowKit
theorem zPz:∀ (n i:Nat),i+1=(limbs n).length->nth (limbs n) i≠0:=by
 intro n
 induction n using Nat.strongRecOn with
 | ind n ih =>
  intro i hi
  by_cases h0:n=0
  ·subst h0;rw [zQo] at hi
   simp at hi
  rw [zQj h0] at hi ⊢
  by_cases h1:n/1000000000=0
  ·rw [h1,zQo] at hi ⊢
   obtain rfl:i=0:=by simpa using hi
   have:n%1000000000≠0:=by omega
   simpa [nth] using this
  obtain ⟨j,rfl⟩:∃ j,i=j+1:=⟨i-1,by
   have:=zQg.2 h1
   simp at hi
   omega⟩
  have:=ih (n/1000000000) oMx j (by simpa using hi)
  simpa [nth] using this
def ZSp (w:World) (v:Value) (n:Nat):Prop:=∀ g cs t fr,v.ownBlock=some g->w.heap[g]? = some (.cells cs t fr)->∀ j x,n<=j->cs[j]? = some x->x = .int .i64 0
theorem ZSp.nil (w:World) (l c n:Nat):ZSp w (.slice none l c) n:=fun g _ _ _ h=>by simp [Value.ownBlock] at h
theorem ZSp.kept {w w':World} {v:Value} {n:Nat} {row:Option Nat} (h:ZSp w v n) (hg:w.grownBy w' row) (hlt:∀ k,v.ownBlock=some k->k<w.heap.size) (hne:v.ownBlock=none\/v.ownBlock≠row):ZSp w' v n:=fun g cs t fr hv hc=>by
 refine h g cs t fr hv ?_
 rw [<-hg.block g (hlt g hv) (by rcases hne with h1|h1; · rw [h1] at hv;cases hv
                                 rw [<-hv];exact h1)]
 exact hc
theorem ZSp.below {w w':World} {v:Value} {n:Nat} (h:ZSp w v n) (hlt:∀ k,v.ownBlock=some k->k<w.heap.size) (hb:Below w.heap.size w w'):ZSp w' v n :=
 h.kept (row:=none) ⟨hb.os,hb.tape,hb.output,hb.size,fun k hk _=>hb.block k hk⟩ hlt (by rcases hv:v.ownBlock with _|g;exact .inl rfl;exact .inr sMx)
theorem zJi {w w':World} {A:oAx} {xs:List Nat} {g0 n:Nat} {cur cur':Array Value} {e e':TypeId} {fr fr':Nat × Nat} (h:zAe .i64 w A xs) (hlast:∀ i,i+1=xs.length->nth xs i≠0)
  (hg0:w.heap[g0]? = some (.cells cur e fr)) (hz:∀ j x,n<=j->cur[j]? = some x->x = .int .i64 0) (hw:w'.heap[g0]? = some (.cells cur' e' fr')) (hk:∀ j,j<n->cur'[j]? = cur[j]?)
  (hb:∀ b,b<w.heap.size->b≠g0->w'.heap[b]? = w.heap[b]?) (hs:w.heap.size<=w'.heap.size):zAe .i64 w' A xs:=fun hne=>by
 obtain ⟨b,off,rfl,hbl,hcell⟩:=h hne;have hpos:0<xs.length:=List.length_pos_iff.2 hne;refine ⟨b,off,rfl,oMx,fun i hi=>?_⟩
 by_cases e1:b=g0
 ·subst e1
  have hin:∀ j,j<xs.length->cur[off+j]? = some (.int .i64 ((nth xs j:Nat):Int)):=fun j hj=>by
   have:=hcell j hj;unfold World.cell? at this
   simpa [hg0] using this
  have hlow:off+(xs.length-1)<n:=by
   rcases Nat.lt_or_ge (off+(xs.length-1)) n with h1|h1
   ·exact h1
   exfalso
   have h2:=hz _ _ h1 (hin (xs.length-1) oMx);injection h2 with _ h2;exact hlast (xs.length-1) oMx oMx
  have:=hin i hi;rw [<-hk (off+i) oMx] at this;unfold World.cell?
  simp [hw,this]
 exact (World.cell?_of_block (w:=w) (a:=⟨b,off+i,none⟩) (hb b hbl e1)).trans (hcell i hi)
theorem spl_lo {cur:Array Value} {n j:Nat} {u:Value} (h:n+1<=cur.size) (hj:j<n):(cur.toList.take n++[u]++cur.toList.drop (n+[u].length))[j]? = cur[j]? :=by
 have hl:(cur.toList.take n).length=n:=by simp;omega
 rw [List.append_assoc,List.getElem?_append_left oMx,List.getElem?_take,if_pos hj,Array.getElem?_toList]
theorem spl_hi {cur:Array Value} {n j:Nat} {u:Value} (h:n+1<=cur.size) (hj:n+1<=j):(cur.toList.take n++[u]++cur.toList.drop (n+[u].length))[j]? = cur[j]? :=by
 have hl:(cur.toList.take n++[u]).length=n+1:=by simp;omega
 rw [List.getElem?_append_right oMx,List.getElem?_drop,hl,Array.getElem?_toList]
 congr 1
 simp
 omega
section
variable {P:Program} (w:World)
theorem zYh (t ty:TypeId) (base:Nat) (e:TypeId) (i:TypeInfo) (ht:P.underlying t=some (.slice e)) (hi:P.info? e=some i) (hz:i.zero=some (.int .i64 0))
  (hsize:i.size=1) (hby:i.bytes=8) (v:Value) (n:Nat) (xs:List Value) (hown:w.ownsRow base e 1 v n xs)
  (ad:Addr) (c:Nat) (u:Value) (hnews:∀ j x,[u][j]? = some x->w.cell? (ad.add j)=some x) (h1:u.oneCell'=true)
  (h63:n+1<=1000000) (hbase:base<=w.heap.size) (hsp:ZSp w v n) :
  ∃ g cap w',(Builtin.append_ #[t,t] ty #[v,.slice (some ad) 1 c]).run P w = .ok (.slice (some ⟨g,0,none⟩) (n+1) cap) w' /\
   w'.ownsRow base e 1 (.slice (some ⟨g,0,none⟩) (n+1) cap) (n+1) (xs++[u])/\w.grownBy w' v.ownBlock/\ZSp w' (.slice (some ⟨g,0,none⟩) (n+1) cap) (n+1) /\
   ∀ A ys,zAe .i64 w A ys->(∀ i,i+1=ys.length->nth ys i≠0)->zAe .i64 w' A ys:=by
 have h1':∀ x∈[u],x.oneCell'=true:=fun x hx=>by rw [List.mem_singleton.1 hx];exact h1
 have hl:[u].length=1*1:=rfl;obtain ⟨g,cap,w',hr,h2,h3,h4,_⟩:=run_append_lies (P:=P) w t ty base e i (.int .i64 0) 1 8 ht hi hz hsize hby rfl dCx v n xs hown ad 1 c [u] hl hnews h1' dCx (by unfold maxLen;omega) oMx hbase _ rfl;refine ⟨g,cap,w',hr,h2,h3,?_⟩;have hsize':=hsize
 rcases hown.2 with ⟨rfl,rfl⟩|⟨g0,cap0,cur,rfl,hb0,hg0,hnc,hcm,hcs,htake⟩
 ·have hr2:=run_append_nil (P:=P) w t ty e i (.int .i64 0) ht hi hz ad 1 c [u] (by rw [hsize];rfl) hnews dCx oMx oMx;rw [hr2] at hr;injection hr with hv hw;injection hv with hv;injection hv with hv;injection hv with hv;subst hw hv;refine ⟨fun g1 cs t1 fr hg1 hc j x hj hx=>?_,fun A ys hA _=>hA.below (bRx.drew.alloc lRx _)⟩
  obtain rfl:w.heap.size=g1:=by simpa [Value.ownBlock] using hg1
  have hc:=(heap_alloc_new w.drew _).symm.trans hc;injection hc with hc;injection hc with hc;subst hc;rw [Array.getElem?_append_right (by simpa using hj)] at hx;have:=xGj (Array.mem_of_getElem? hx)
  simpa [Value.cells] using this
 by_cases hroom:n+1<=cap0
 ·have hr2:=run_append_room (P:=P) w t ty e i ht hi g0 n cap0 cur hg0 ad 1 c [u] (by rw [hsize];rfl) hnews h1' hroom (by rw [hsize];simp;omega);rw [hr2] at hr;injection hr with hv hw;injection hv with hv;injection hv with hv;injection hv with hv;subst hw hv
  have hn1:n+1<=cur.size:=by omega
  refine ⟨fun g1 cs t1 fr hg1 hc j x hj hx=>?_,fun A ys hA hl=>?_⟩
  ·obtain rfl:g0=g1:=by simpa [Value.ownBlock] using hg1
   rw [setRow_heap w g0 cur _ e _ hg0] at hc;injection hc with hc;injection hc with hc;subst hc;refine hsp g0 cur _ _ rfl hg0 j x oMx ?_;rw [<-hx];simp only [hsize,Nat.mul_one,List.getElem?_toArray];exact (spl_hi hn1 hj).symm
  refine zJi hA hl hg0 (hsp g0 cur _ _ rfl hg0) (setRow_heap w g0 cur _ e _ hg0) (fun j hj=>?_) (fun b hb hne=>h3.block b hb (by simpa [Value.ownBlock] using hne)) h3.size;simp only [hsize,Nat.mul_one,List.getElem?_toArray];exact spl_lo hn1 hj
 have holds:∀ j x,xs[j]? = some x->w.cell? ((⟨g0,0,none⟩:Addr).add j)=some x:=hown.cells (g:=g0) rfl;have hr2:=run_append_grow (P:=P) w t ty e i (.int .i64 0) ht hi hz ⟨g0,0,none⟩ n cap0 xs (by rw [hsize];exact hown.1) holds ad 1 c [u] (by rw [hsize];rfl) hnews oMx oMx (growslice_fits oMx (by rw [hby];omega));rw [hr2] at hr;injection hr with hv hw;injection hv with hv;injection hv with hv;injection hv with hv;subst hw hv;refine ⟨fun g1 cs t1 fr hg1 hc j x hj hx=>?_,fun A ys hA _=>hA.below (bRx.drew.alloc lRx _)⟩
 obtain rfl:w.heap.size=g1:=by simpa [Value.ownBlock] using hg1
 have hc:=(heap_alloc_new w.drew _).symm.trans hc;injection hc with hc;injection hc with hc;subst hc
 have hlx:xs.length=n:=by have:=hown.1;omega
 rw [Array.getElem?_append_right (by simpa [hlx] using hj)] at hx;have:=xGj (Array.mem_of_getElem? hx)
 simpa [Value.cells] using this
theorem xGd {o:Oper} {a:Act} {K:Act->World->Prop} {Q:Exit->Act->World->Prop} (s x:Operand) (t:TypeId)
  (ho:o.op = .call { callee := .builtin .append,args:=#[s,x],argTypes:=#[t,t] })
  (base:Nat) (e:TypeId) (i:TypeInfo) (ht:P.underlying t=some (.slice e)) (hi:P.info? e=some i) (hz:i.zero=some (.int .i64 0)) (hsize:i.size=1) (hby:i.bytes=8)
  (v:Value) (n:Nat) (xs:List Value) (hs:a.eval s=v) (hown:w.ownsRow base e 1 v n xs)
  (ad:Addr) (c:Nat) (u:Value) (hx:a.eval x = .slice (some ad) 1 c) (hnews:∀ j x,[u][j]? = some x->w.cell? (ad.add j)=some x) (h1:u.oneCell'=true)
  (h63:n+1<=1000000) (hbase:base<=w.heap.size) (hsp:ZSp w v n)
  (h:∀ g cap w',w'.ownsRow base e 1 (.slice (some ⟨g,0,none⟩) (n+1) cap) (n+1) (xs++[u])->w.grownBy w' v.ownBlock->ZSp w' (.slice (some ⟨g,0,none⟩) (n+1) cap) (n+1)->(∀ A ys,zAe .i64 w A ys->(∀ i,i+1=ys.length->nth ys i≠0)->zAe .i64 w' A ys)->K (a.put o.dst (.slice (some ⟨g,0,none⟩) (n+1) cap)) w'):Oper.wp P o a w K Q:=by
 obtain ⟨g,cap,w',hr,h2,h3,h4,h5⟩:=zYh (P:=P) w t o.type base e i ht hi hz hsize hby v n xs hown ad c u hnews h1 h63 hbase hsp;unfold Oper.wp execOp;simp only [ho,resolve,invoke,builtin,Sem.run_bind,Sem.run_pure,Result.andThen_ok,List.map_toArray,List.map_cons,List.map_nil,hs,hx,hr];exact h g cap w' h2 h3 h4 h5
theorem xFx {ops:Array Oper} {rest:List Oper} {o:Oper} {a:Act} {Q:Exit->Act->World->Prop} (hgd:o.guard=none) (s x:Operand) (t:TypeId)
  (ho:o.op = .call { callee := .builtin .append,args:=#[s,x],argTypes:=#[t,t] })
  (base:Nat) (e:TypeId) (i:TypeInfo) (ht:P.underlying t=some (.slice e)) (hi:P.info? e=some i) (hz:i.zero=some (.int .i64 0)) (hsize:i.size=1) (hby:i.bytes=8)
  (v:Value) (n:Nat) (xs:List Value) (hs:a.eval s=v) (hown:w.ownsRow base e 1 v n xs)
  (ad:Addr) (c:Nat) (u:Value) (hx:a.eval x = .slice (some ad) 1 c) (hnews:∀ j x,[u][j]? = some x->w.cell? (ad.add j)=some x) (h1:u.oneCell'=true)
  (h63:n+1<=1000000) (hbase:base<=w.heap.size) (hsp:ZSp w v n)
  (h:∀ g cap w',w'.ownsRow base e 1 (.slice (some ⟨g,0,none⟩) (n+1) cap) (n+1) (xs++[u])->w.grownBy w' v.ownBlock->ZSp w' (.slice (some ⟨g,0,none⟩) (n+1) cap) (n+1)->(∀ A ys,zAe .i64 w A ys->(∀ i,i+1=ys.length->nth ys i≠0)->zAe .i64 w' A ys)->wpList P ops Q rest (a.put o.dst (.slice (some ⟨g,0,none⟩) (n+1) cap)) w') :
  wpList P ops Q (o::rest) a w :=
 wpList_plain hgd fun _ hK=>xGd w s x t ho base e i ht hi hz hsize hby v n xs hs hown ad c u hx hnews h1 h63 hbase hsp fun g cap w' h2 h3 h4 h5=>hK _ _ (h g cap w' h2 h3 h4 h5)
end
end Go.Proofs.YtbjaplppalcmgaaGreatDoor
namespace Go.Proofs.YtbjaplppalcmgaaGreatDoor
open Go.RowKit
theorem zMz (w:World) (x y:Bool) (A B:oAx) (l c m d:Nat):(Instr.field 87 (.agg #[.bool x,.slice A l c,.bool y,.slice B m d]) 1).run Tryz.prog w = .ok (.agg #[.bool y,.slice B m d]) w:=by kernel_rfl
attribute [local go_sem] zMz
theorem big_noI {x:Bool} {A:oAx} {l c:Nat}:∀ y∈([.bool x,.slice A l c]:List Value),∀ z,y ≠ .int .i64 z:=by
 intro y hy z
 simp at hy
 rcases hy with rfl|rfl<;>(intro e;cases e)
structure KpB (B:Nat) (w W:World):Prop where
 bel:Below B w W
 blk:∀ k,k<w.heap.size->W.heap[k]? = w.heap[k]? \/ Blk w k 85 [.bool false,.slice none 0 0]
theorem KpB.refl (B:Nat) (w:World):KpB B w w:=⟨bRx,fun _ _ => .inl rfl⟩
theorem KpB.alloc {B:Nat} {w W:World} (h:KpB B w W) (hB:B<=w.heap.size) (o:Obj):KpB B w (W.alloc o) :=
 ⟨h.bel.alloc (Nat.le_trans hB h.bel.size) o,fun k hk=>by rw [Below.heap_alloc W o k (Nat.lt_of_lt_of_le hk h.bel.size)];exact h.blk k hk⟩
theorem KpB.drew {B:Nat} {w W:World} (h:KpB B w W):KpB B w W.drew:=⟨h.bel.drew,h.blk⟩
theorem KpB.set {B:Nat} {w W:World} (h:KpB B w W) {g:Nat} (hB:B<=g) (hg:w.heap.size<=g\/Blk w g 85 [.bool false,.slice none 0 0]) (j:Nat) (u:Value):KpB B w (W.setCell ⟨g,j,none⟩ u) :=
 ⟨h.bel.setCell (p:=⟨g,j,none⟩) hB u,fun k hk=>by
  by_cases e:k=g
  ·subst e
   rcases hg with h1|h1
   ·omega
   exact .inr h1
  rw [Below.heap_setCell W ⟨g,j,none⟩ u k e]
  exact h.blk k hk⟩
theorem KpB.big {B:Nat} {w W:World} (h:KpB B w W) {v:Value} {z:Int} (hv:zBm w v z):zBm W v z:=by
 obtain ⟨A,c,e,hl,hx⟩:=hv;refine ⟨A,c,e,hl,fun hne=>?_⟩;obtain ⟨b,off,rfl,hb,hcell⟩:=hx hne;have hs:=h.bel.size;refine ⟨b,off,rfl,oMx,fun i hi=>?_⟩;have h0:=hcell i hi
 rcases h.blk b hb with h1|h1
 ·exact (World.cell?_of_block (w:=w) (a:=⟨b,off+i,none⟩) h1).trans h0
 rw [h1.cell] at h0;exact (big_noI _ (List.mem_of_getElem? h0) _ rfl).elim
theorem q_rel {w w2 W:World} {a:Nat} {x2:Bool} {X2:oAx} {y2 z2:Nat} {q:Int} (KP:KpB w.heap.size w2 W) (c0:W.cell? ⟨a,0,none⟩=some (.bool x2)) (c1:W.cell? ⟨a,1,none⟩=some (.slice X2 y2 z2)) (hn:zBm w2 (.agg #[.bool x2,.slice X2 y2 z2]) q) (hB:Below w.heap.size w w2) :
  ∃ (g:Nat) (nb:Bool) (S:oAx) (l c:Nat),(Value.pointer (some ⟨a,0,none⟩)) = .pointer (some ⟨g,0,none⟩)/\W.cell? ⟨g,0,none⟩=some (.bool nb)/\W.cell? ⟨g,1,none⟩=some (.slice S l c)/\zBm W (.agg #[.bool nb,.slice S l c]) q/\Below w.heap.size w W :=
 ⟨a,x2,X2,y2,z2,rfl,c0,c1,KP.big hn,hB.trans KP.bel⟩
def QBox (w:World) (p q:Nat):Prop:=∃ (nb:Bool) (A:oAx) (l c:Nat),Blk w p 85 [.bool nb,.slice A l c]/\zBm w (.agg #[.bool nb,.slice A l c]) (q:Int)
theorem QBox.below {w w':World} {p q:Nat} (h:QBox w p q) (hb:Below w.heap.size w w'):QBox w' p q:=by
 obtain ⟨nb,A,l,c,h1,h2⟩:=h;exact ⟨nb,A,l,c,h1.below hb,h2.below hb⟩
theorem q_up {q d a b:Nat} (hq:0<q) (hd:0<d) (h1:q<10^a) (h2:d<10^b):0<q*(d/Nat.gcd q d)/\q*(d/Nat.gcd q d)<10^(a+b):=by
 have hg:=Nat.gcd_pos_of_pos_left d hq;have hl:Nat.gcd q d<=d:=Nat.gcd_le_right q hd;refine ⟨Nat.mul_pos hq (Nat.div_pos hl hg),?_⟩;rw [Nat.pow_add];exact Nat.lt_of_le_of_lt (Nat.mul_le_mul_left q (Nat.div_le_self d _)) (Nat.lt_of_lt_of_le (Nat.mul_lt_mul_of_lt_of_le' h1 (Nat.le_of_lt h2) oMx) lRx)
theorem zSe {q a:Nat} (h:q<10^a) (ha:1<=a):Lib.nDigits q<=a:=by
 obtain ⟨k,rfl⟩:∃ k,a=k+1:=⟨a-1,oMx⟩;exact zSg k q h
theorem zIt {q a:Nat} (h:q<10^a) (ha:a<=10000000):(limbs q).length<=10000000 :=
 Nat.le_trans (zQb (k:=a) (Nat.lt_of_lt_of_le h (Nat.pow_le_pow_left dCx a))) ha
end Go.Proofs.YtbjaplppalcmgaaGreatDoor
namespace Go.Proofs.YtbjaplppalcmgaaGreatDoor
open Go.RowKit
def set4 (W:World) (x:Nat) (v:FrV):World:=(((W.setCell ⟨x,0,none⟩ (.bool v.na)).setCell ⟨x,1,none⟩ (.slice v.A v.l v.c)).setCell ⟨x,2,none⟩ (.bool v.nb)).setCell ⟨x,3,none⟩ (.slice v.A' v.l' v.c')
theorem zYz (W:World) (x:Nat) (v:FrV):W.grownBy (set4 W x v) (some x):=zOd (zOd (zOd (zOc x 0 _) 1 _) 2 _) 3 _
theorem zVk (W:World) (g k:Nat) (v:FrV):W.grownBy (put4 W g k v) (some g):=zOd (zOd (zOd (zOc g (k*4) _) (k*4+1) _) (k*4+2) _) (k*4+3) _
theorem zIu {w:World} {x:Nat} {cs:List Value} {t:TypeId} (h:Blk w x t cs) {B e s n:Nat} {v:Value} {vs:List Value} (ho:w.ownsRow B e s v n vs) (hne:e≠t):v.ownBlock=none\/v.ownBlock≠some x:=by
 rcases ho.2 with ⟨hv,_⟩|⟨g,cap,cur,hv,_,hg,_⟩
 ·exact .inl (by rw [hv];rfl)
 refine .inr fun e2=>?_
 rw [hv] at e2
 have:g=x:=by simpa [Value.ownBlock] using e2
 subst this;unfold Blk at h;rw [hg] at h;injection h with h;injection h with _ h;exact hne h
section
variable {B:Nat} {w W W':World} {R L c n:Nat} {rows:List RwF} {P:mRx}
theorem TbF.kept {row:Option Nat} (h:TbF B W (.slice (some ⟨R,0,none⟩) L c) rows n P) (hg:W.grownBy W' row) (hx:∀ r∈rows,some r.g≠row) (hR:some R≠row) (hnum:∀ v y,zBt W v y->zBt W' v y):TbF B W' (.slice (some ⟨R,0,none⟩) L c) rows n P :=
 ⟨h.o.kept hg (.inr hR),fun r hr=>(h.r r hr).kept hg (.inr (hx r hr)),h.l,h.nd,fun i hi k hk=>hnum _ _ (h.num i hi k hk)⟩
end
structure ElS (B H:Nat) (w:World) (R cR n m:Nat) (rows:List RwF) (X:mRx) (xr xd:Nat) (u:FrV) (q:Rat) (v6:Value) (c:Nat) (W:World):Prop where
 tab:TbF B W (.slice (some ⟨R,0,none⟩) n cR) rows m X
 len:rows.length=n
 lo:∀ r∈rows,r.g<H
 res:Blk W xr 87 [.bool false,.slice none 0 0,.bool false,.slice none 0 0]
 det:Blk W xd 87 u.four
 dv:zBt W u.val q
 piv:W.ownsRow H 3 1 v6 c (vn (List.range c))
 zsp:ZSp W v6 c
 bel:Below B w W
section
variable {B H:Nat} {w W W':World} {R cR n m:Nat} {rows:List RwF} {X X':mRx} {xr xd:Nat} {u:FrV} {q:Rat} {v6:Value} {c:Nat}
end
end Go.Proofs.YtbjaplppalcmgaaGreatDoor
namespace Go.Proofs.YtbjaplppalcmgaaGreatDoor
open Go.RowKit
def RetElm (B:Nat) (w:World) (R cR n m:Nat) (M:mRx) (e:Ending) (w':World):Prop:=∃ (A:oAx) (c:Nat) (v:Value) (rows:List RwF),e = .returned (.tuple #[.slice A n c,v])/\zBt w' v (prodR n (dD M))/\rows.length=n/\TbF B w' (.slice (some ⟨R,0,none⟩) n cR) rows m (gj M n)/\Below B w w'
end Go.Proofs.YtbjaplppalcmgaaGreatDoor
