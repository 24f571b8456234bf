import Derived.Test.YtfjjcoggoomlbaaGreatDoorZNA
import Derived.Test.YtfjjcoggoomlbaaGreatDoorZNM
set_option maxHeartbeats 16000000
set_option maxRecDepth 100000
set_option linter.unusedVariables false
set_option linter.unusedSimpArgs false
set_option linter.unusedSectionVars false
namespace Go.Proofs.YtfjjcoggoomlbaaGreatDoor
def gj (M:mRx):Nat->Nat->Nat->Rat
 | 0=>M
 | c+1=>fun i j=>if i=c then gj M c c j/gj M c c c else gj M c i j-gj M c i c*(gj M c c j/gj M c c c)
theorem zOl (M:mRx):∀ (c i j:Nat),c<=i->gj M c i j=xAk M c i j
 | 0,_,_,_=>rfl
 | c+1,i,j,h=>by
  show (if i=c then _ else _)=xAk M c i j-xAk M c i c*xAk M c c j/xAk M c c c
  rw [if_neg oMx,zOl M c i j oMx,zOl M c i c oMx,zOl M c c j oMx,zOl M c c c oMx,Rat.div_def,Rat.div_def,Rat.mul_assoc]
theorem zOk (M:mRx) (c:Nat):gj M c c c=dD M c:=zOl M c c c lRx
section
variable {X:mRx} {c i k m n:Nat}
def dvQ (X:mRx) (c k:Nat):Nat->Nat->Rat:=fun a b=>if a=c/\b<k then X c b/X c c else X a b
theorem dvQ_zero (X:mRx) (c:Nat):dvQ X c 0=X:=by
 funext a b
 unfold dvQ;rw [if_neg oMx]
theorem dvQ_old (X:mRx) (c k:Nat):dvQ X c k c k=X c k:=by
 unfold dvQ;rw [if_neg oMx]
theorem dvQ_step (X:mRx) (c k:Nat):(fun a b=>if a=c/\b=k then X c k/X c c else dvQ X c k a b)=dvQ X c (k+1):=by
 funext a b
 unfold dvQ
 by_cases h:a=c/\b=k
 ·obtain ⟨rfl,rfl⟩:=h;rw [if_pos ⟨rfl,rfl⟩,if_pos oMx]
 rw [if_neg h]
 by_cases h2:a=c/\b<k
 ·rw [if_pos h2,if_pos oMx]
 rw [if_neg h2,if_neg oMx]
def sbQ (X:mRx) (c i k:Nat):Nat->Nat->Rat:=fun a b=>if a=c then X c b/X c c else if a<i\/a=i/\b<k then X a b-X a c*(X c b/X c c) else X a b
theorem xAj (X:mRx) (c m:Nat):∀ a b,b<m->sbQ X c 0 0 a b=dvQ X c m a b:=fun a b hb=>by
 unfold sbQ dvQ
 by_cases h:a=c
 ·rw [if_pos h,if_pos ⟨h,hb⟩]
 rw [if_neg h,if_neg oMx,if_neg oMx]
theorem sbQ_old (X:mRx) (k:Nat) (h:i≠c):sbQ X c i k i k=X i k:=by
 unfold sbQ;rw [if_neg h,if_neg oMx]
theorem sbQ_at (X:mRx) {k b:Nat} (h:i≠c) (hb:k<=b):sbQ X c i k i b=X i b:=by
 unfold sbQ;rw [if_neg h,if_neg oMx]
theorem sbQ_piv (X:mRx) (c i k b:Nat):sbQ X c i k c b=X c b/X c c:=if_pos rfl
theorem sbQ_step (X:mRx) (k:Nat) (h:i≠c):(fun a b=>if a=i/\b=k then X i k-X i c*(X c k/X c c) else sbQ X c i k a b)=sbQ X c i (k+1):=by
 funext a b
 unfold sbQ
 by_cases h1:a=i/\b=k
 ·obtain ⟨rfl,rfl⟩:=h1;rw [if_pos ⟨rfl,rfl⟩,if_neg h,if_pos oMx]
 rw [if_neg h1]
 by_cases h3:a=c
 ·rw [if_pos h3,if_pos h3]
 rw [if_neg h3,if_neg h3]
 by_cases h2:a<i\/a=i/\b<k
 ·rw [if_pos h2,if_pos oMx]
 rw [if_neg h2,if_neg oMx]
theorem sbQ_row (X:mRx) (c i m:Nat):∀ a b,b<m->sbQ X c (i+1) 0 a b=sbQ X c i m a b:=fun a b hb=>by
 unfold sbQ
 by_cases h3:a=c
 ·rw [if_pos h3,if_pos h3]
 rw [if_neg h3,if_neg h3]
 by_cases h:a<i+1\/a=i+1/\b<0
 ·rw [if_pos h,if_pos oMx]
 rw [if_neg h,if_neg oMx]
theorem xAi (h:i=c\/X i c=0):sbQ X c (i+1) 0=sbQ X c i 0:=by
 funext a b
 unfold sbQ
 by_cases h3:a=c
 ·rw [if_pos h3,if_pos h3]
 rw [if_neg h3,if_neg h3]
 by_cases h2:a<i\/a=i/\b<0
 ·rw [if_pos h2,if_pos oMx]
 rw [if_neg h2]
 by_cases h4:a=i
 ·subst h4;rw [if_pos oMx]
  rcases h with h|h
  ·exact absurd h h3
  rw [h];grind
 rw [if_neg oMx]
theorem sbQ_end (M:mRx) (c n:Nat):∀ a b,a<n->gj M (c+1) a b=sbQ (gj M c) c n 0 a b:=fun a b ha=>by
 unfold sbQ
 show (if a=c then _ else _)=_
 by_cases h3:a=c
 ·rw [if_pos h3,if_pos h3]
 rw [if_neg h3,if_neg h3,if_pos (.inl ha)]
end
def gd:Nat->Nat
 | 0=>2
 | c+1=>4*gd c+1
theorem gd_lt:∀ c,c<4->gd c<=149
 | 0,_=>by decide
 | 1,_=>by decide
 | 2,_=>by decide
 | 3,_=>by decide
 | n+4,h=>absurd h oMx
theorem zAv.szD {d:Nat} {q:Rat} (h:zAv d q):Sz d q:=by
 have e:(10:Nat)^d<=1000000000^d:=Nat.pow_le_pow_left dCx d;obtain ⟨h1,h2⟩:=h;unfold Dig at h1 h2;exact ⟨zRc oMx,zRc oMx⟩
section
variable {M:mRx} {n m:Nat}
theorem zOi (h:∀ a b,a<n->b<m->zAv 2 (M a b)) (hnm:n<=m) (hp:∀ t,t<n->dD M t≠0):∀ c,c<=n->∀ a b,a<n->b<m->zAv (gd c) (gj M c a b)
 | 0,_,a,b,ha,hb=>h a b ha hb
 | c+1,hc,a,b,ha,hb=>by
  have ih:=zOi h hnm hp c oMx;have h0:=ih c c oMx oMx
  have hp0:gj M c c c≠0:=by rw [zOk];exact hp c oMx
  have h1:=(ih c b oMx hb).div h0 hp0 rfl rfl
  show zAv (4*gd c+1) (if a=c then _ else _)
  split
  ·exact h1.mono oMx
  exact ((ih a b ha hb).sub ((ih a c ha oMx).mul h1 rfl rfl) rfl rfl).mono oMx
theorem sb_dig {c:Nat} (h:∀ a b,a<n->b<m->zAv 2 (M a b)) (hnm:n<=m) (hp:∀ t,t<n->dD M t≠0) (hc:c<n) {a b:Nat} (ha:a<n) (hb:b<m):zAv (2*gd c) (gj M c a b/gj M c c c)/\zAv (3*gd c) (gj M c a c*(gj M c c b/gj M c c c)):=by
 have ih:=zOi h hnm hp c oMx;have h0:=ih c c oMx oMx
 have hp0:gj M c c c≠0:=by rw [zOk];exact hp c oMx
 exact ⟨((ih a b ha hb).div h0 hp0 rfl rfl).mono oMx,((ih a c ha oMx).mul ((ih c b oMx hb).div h0 hp0 rfl rfl) rfl rfl).mono oMx⟩
def pd:Nat->Nat
 | 0=>1
 | c+1=>pd c+gd c
theorem pd_le:∀ c,c<=4->pd c<=198
 | 0,_=>by decide
 | 1,_=>by decide
 | 2,_=>by decide
 | 3,_=>by decide
 | 4,_=>by decide
 | n+5,h=>absurd h oMx
theorem zWx (h:∀ a b,a<n->b<m->zAv 2 (M a b)) (hnm:n<=m) (hp:∀ t,t<n->dD M t≠0):∀ c,c<=n->zAv (pd c) (zWr c (dD M))
 | 0,_=>(show zAv 1 (1:Rat) from ⟨by unfold Dig;decide,by unfold Dig;decide⟩)
 | c+1,hc=>by
  have ih:=zWx h hnm hp c oMx;have h1:=zOi h hnm hp c oMx c c oMx oMx;rw [zOk] at h1;exact ih.mul h1 rfl rfl
theorem zOj (hp:∀ t,t<n->dD M t≠0):∀ c,c<=n->∀ i j,j<c->gj M c i j=idn i j
 | c+1,hc,i,j,hj=>by
  have hp0:gj M c c c≠0:=by rw [zOk];exact hp c oMx
  show (if i=c then gj M c c j/gj M c c c else gj M c i j-gj M c i c*(gj M c c j/gj M c c c))=_
  rcases Nat.lt_or_ge j c with h1|h1
  ·have e1:=zOj hp c oMx i j h1
   have e2:gj M c c j=0:=by
    rw [zOj hp c oMx c j h1];unfold idn;rw [if_neg oMx]
   by_cases h:i=c
   ·rw [if_pos h,e2];subst h;unfold idn;rw [if_neg oMx]
    grind
   rw [if_neg h,e2,e1]
   grind
  obtain rfl:j=c:=by omega
  by_cases h:i=j
  ·rw [if_pos h];subst h;unfold idn;rw [if_pos rfl]
   grind
  rw [if_neg h];unfold idn;rw [if_neg h]
  grind
theorem zOm {v:Nat->Rat} (h:∀ i,i<n->xDg m (fun j=>M i j*v j)=0):∀ c,c<=n->∀ i,i<n->xDg m (fun j=>gj M c i j*v j)=0
 | 0,_,i,hi=>h i hi
 | c+1,hc,i,hi=>by
  have h0:=zOm h c oMx c oMx;have h1:=zOm h c oMx i hi
  have e1:xDg m (fun j=>gj M c c j/gj M c c c*v j)=0:=by
   have:(fun j=>gj M c c j/gj M c c c*v j)=fun j=>(gj M c c c)⁻¹*(gj M c c j*v j):=by
    funext j
    rw [Rat.div_def]
    grind
   rw [this,xDl,h0]
   grind
  by_cases h2:i=c
  ·have:(fun j=>gj M (c+1) i j*v j)=fun j=>gj M c c j/gj M c c c*v j:=by
    funext j
    show (if i=c then _ else _)*v j=_
    rw [if_pos h2]
   rw [this,e1]
  have:(fun j=>gj M (c+1) i j*v j)=fun j=>gj M c i j*v j+(-(gj M c i c))*(gj M c c j/gj M c c c*v j):=by
   funext j
   show (if i=c then _ else _)*v j=_
   rw [if_neg h2]
   grind
  rw [this,xDh,h1,xDl,e1]
  grind
theorem gj_x {y:Nat->Rat} (hp:∀ t,t<n->dD M t≠0) (h:∀ i,i<n->xDg n (fun j=>M i j*y j)=M i n) {i:Nat} (hi:i<n):gj M n i n=y i:=by
 have h1:=zOm (m:=n+1) (v:=fun j=>if j<n then y j else -1) (fun i hi=>by
  show xDg n (fun j=>M i j*(if j<n then y j else -1))+M i n*(if n<n then y n else -1)=0
  rw [if_neg oMx,xDi (fun j hj=>by rw [if_pos hj]),h i hi]
  grind) n lRx i hi
 have h2:xDg n (fun j=>gj M n i j*(if j<n then y j else -1))+gj M n i n*(if n<n then y n else -1)=0:=h1;rw [if_neg oMx,xDn hi (fun j hj hne=>by rw [zOj hp n lRx i j hj];unfold idn;rw [if_neg (Ne.symm hne)];grind),if_pos hi,zOj hp n lRx i i hi] at h2;unfold idn at h2;rw [if_pos rfl] at h2
 grind
end
end Go.Proofs.YtfjjcoggoomlbaaGreatDoor
namespace Go.Proofs.YtfjjcoggoomlbaaGreatDoor
open Go.RowKit
theorem zRa:∀ (n i:Nat),i+1=(limbs n).length->nth (limbs n) i≠0:=by
 intro n
 induction n using Nat.strongRecOn with
 | ind n ih =>
  intro i hi
  by_cases h0:n=0
  ·subst h0;rw [zRp] at hi
   simp at hi
  rw [zRk h0] at hi ⊢
  by_cases h1:n/1000000000=0
  ·rw [h1,zRp] at hi ⊢
   obtain rfl:i=0:=by simpa using hi
   have:n%1000000000≠0:=by omega
   simpa [nth] using this
  obtain ⟨j,rfl⟩:∃ j,i=j+1:=⟨i-1,by
   have:=zRh.2 h1
   simp at hi
   omega⟩
  have:=ih (n/1000000000) oMx j (by simpa using hi)
  simpa [nth] using this
def ZSp (w:World) (v:Value) (n:Nat):Prop:=∀ g cs t fr,v.ownBlock=some g->w.heap[g]? = some (.cells cs t fr)->∀ j x,n<=j->cs[j]? = some x->x = .int .i64 0
theorem ZSp.nil (w:World) (l c n:Nat):ZSp w (.slice none l c) n:=fun g _ _ _ h=>by simp [Value.ownBlock] at h
theorem ZSp.kept {w w':World} {v:Value} {n:Nat} {row:Option Nat} (h:ZSp w v n) (hg:w.grownBy w' row) (hlt:∀ k,v.ownBlock=some k->k<w.heap.size) (hne:v.ownBlock=none\/v.ownBlock≠row):ZSp w' v n:=fun g cs t fr hv hc=>by
 refine h g cs t fr hv ?_
 rw [<-hg.block g (hlt g hv) (by rcases hne with h1|h1; · rw [h1] at hv;cases hv
                                 rw [<-hv];exact h1)]
 exact hc
theorem ZSp.below {w w':World} {v:Value} {n:Nat} (h:ZSp w v n) (hlt:∀ k,v.ownBlock=some k->k<w.heap.size) (hb:Below w.heap.size w w'):ZSp w' v n :=
 h.kept (row:=none) ⟨hb.os,hb.tape,hb.output,hb.size,fun k hk _=>hb.block k hk⟩ hlt (by rcases hv:v.ownBlock with _|g;exact .inl rfl;exact .inr sMx)
theorem zJm {w w':World} {A:oAx} {xs:List Nat} {g0 n:Nat} {cur cur':Array Value} {e e':TypeId} {fr fr':Nat × Nat} (h:zAi .i64 w A xs) (hlast:∀ i,i+1=xs.length->nth xs i≠0)
  (hg0:w.heap[g0]? = some (.cells cur e fr)) (hz:∀ j x,n<=j->cur[j]? = some x->x = .int .i64 0) (hw:w'.heap[g0]? = some (.cells cur' e' fr')) (hk:∀ j,j<n->cur'[j]? = cur[j]?)
  (hb:∀ b,b<w.heap.size->b≠g0->w'.heap[b]? = w.heap[b]?) (hs:w.heap.size<=w'.heap.size):zAi .i64 w' A xs:=fun hne=>by
 obtain ⟨b,off,rfl,hbl,hcell⟩:=h hne;have hpos:0<xs.length:=List.length_pos_iff.2 hne;refine ⟨b,off,rfl,oMx,fun i hi=>?_⟩
 by_cases e1:b=g0
 ·subst e1
  have hin:∀ j,j<xs.length->cur[off+j]? = some (.int .i64 ((nth xs j:Nat):Int)):=fun j hj=>by
   have:=hcell j hj;unfold World.cell? at this
   simpa [hg0] using this
  have hlow:off+(xs.length-1)<n:=by
   rcases Nat.lt_or_ge (off+(xs.length-1)) n with h1|h1
   ·exact h1
   exfalso
   have h2:=hz _ _ h1 (hin (xs.length-1) oMx);injection h2 with _ h2;exact hlast (xs.length-1) oMx oMx
  have:=hin i hi;rw [<-hk (off+i) oMx] at this;unfold World.cell?
  simp [hw,this]
 exact (World.cell?_of_block (w:=w) (a:=⟨b,off+i,none⟩) (hb b hbl e1)).trans (hcell i hi)
theorem spl_lo {cur:Array Value} {n j:Nat} {u:Value} (h:n+1<=cur.size) (hj:j<n):(cur.toList.take n++[u]++cur.toList.drop (n+[u].length))[j]? = cur[j]? :=by
 have hl:(cur.toList.take n).length=n:=by simp;omega
 rw [List.append_assoc,List.getElem?_append_left oMx,List.getElem?_take,if_pos hj,Array.getElem?_toList]
theorem spl_hi {cur:Array Value} {n j:Nat} {u:Value} (h:n+1<=cur.size) (hj:n+1<=j):(cur.toList.take n++[u]++cur.toList.drop (n+[u].length))[j]? = cur[j]? :=by
 have hl:(cur.toList.take n++[u]).length=n+1:=by simp;omega
 rw [List.getElem?_append_right oMx,List.getElem?_drop,hl,Array.getElem?_toList]
 congr 1
 simp
 omega
section
variable {P:Program} (w:World)
theorem zZx (t ty:TypeId) (base:Nat) (e:TypeId) (i:TypeInfo) (ht:P.underlying t=some (.slice e)) (hi:P.info? e=some i) (hz:i.zero=some (.int .i64 0))
  (hsize:i.size=1) (hby:i.bytes=8) (v:Value) (n:Nat) (xs:List Value) (hown:w.ownsRow base e 1 v n xs)
  (ad:Addr) (c:Nat) (u:Value) (hnews:∀ j x,[u][j]? = some x->w.cell? (ad.add j)=some x) (h1:u.oneCell'=true)
  (h63:n+1<=1000000) (hbase:base<=w.heap.size) (hsp:ZSp w v n) :
  ∃ g cap w',(Builtin.append_ #[t,t] ty #[v,.slice (some ad) 1 c]).run P w = .ok (.slice (some ⟨g,0,none⟩) (n+1) cap) w' /\
   w'.ownsRow base e 1 (.slice (some ⟨g,0,none⟩) (n+1) cap) (n+1) (xs++[u])/\w.grownBy w' v.ownBlock/\ZSp w' (.slice (some ⟨g,0,none⟩) (n+1) cap) (n+1) /\
   ∀ A ys,zAi .i64 w A ys->(∀ i,i+1=ys.length->nth ys i≠0)->zAi .i64 w' A ys:=by
 have h1':∀ x∈[u],x.oneCell'=true:=fun x hx=>by rw [List.mem_singleton.1 hx];exact h1
 have hl:[u].length=1*1:=rfl;obtain ⟨g,cap,w',hr,h2,h3,h4,_⟩:=run_append_lies (P:=P) w t ty base e i (.int .i64 0) 1 8 ht hi hz hsize hby rfl dCx v n xs hown ad 1 c [u] hl hnews h1' dCx (by unfold maxLen;omega) oMx hbase _ rfl;refine ⟨g,cap,w',hr,h2,h3,?_⟩;have hsize':=hsize
 rcases hown.2 with ⟨rfl,rfl⟩|⟨g0,cap0,cur,rfl,hb0,hg0,hnc,hcm,hcs,htake⟩
 ·have hr2:=run_append_nil (P:=P) w t ty e i (.int .i64 0) ht hi hz ad 1 c [u] (by rw [hsize];rfl) hnews dCx oMx oMx;rw [hr2] at hr;injection hr with hv hw;injection hv with hv;injection hv with hv;injection hv with hv;subst hw hv;refine ⟨fun g1 cs t1 fr hg1 hc j x hj hx=>?_,fun A ys hA _=>hA.below (bRx.drew.alloc lRx _)⟩
  obtain rfl:w.heap.size=g1:=by simpa [Value.ownBlock] using hg1
  have hc:=(heap_alloc_new w.drew _).symm.trans hc;injection hc with hc;injection hc with hc;subst hc;rw [Array.getElem?_append_right (by simpa using hj)] at hx;have:=xHz (Array.mem_of_getElem? hx)
  simpa [Value.cells] using this
 by_cases hroom:n+1<=cap0
 ·have hr2:=run_append_room (P:=P) w t ty e i ht hi g0 n cap0 cur hg0 ad 1 c [u] (by rw [hsize];rfl) hnews h1' hroom (by rw [hsize];simp;omega);rw [hr2] at hr;injection hr with hv hw;injection hv with hv;injection hv with hv;injection hv with hv;subst hw hv
  have hn1:n+1<=cur.size:=by omega
  refine ⟨fun g1 cs t1 fr hg1 hc j x hj hx=>?_,fun A ys hA hl=>?_⟩
  ·obtain rfl:g0=g1:=by simpa [Value.ownBlock] using hg1
   rw [setRow_heap w g0 cur _ e _ hg0] at hc;injection hc with hc;injection hc with hc;subst hc;refine hsp g0 cur _ _ rfl hg0 j x oMx ?_;rw [<-hx];simp only [hsize,Nat.mul_one,List.getElem?_toArray];exact (spl_hi hn1 hj).symm
  refine zJm hA hl hg0 (hsp g0 cur _ _ rfl hg0) (setRow_heap w g0 cur _ e _ hg0) (fun j hj=>?_) (fun b hb hne=>h3.block b hb (by simpa [Value.ownBlock] using hne)) h3.size;simp only [hsize,Nat.mul_one,List.getElem?_toArray];exact spl_lo hn1 hj
 have holds:∀ j x,xs[j]? = some x->w.cell? ((⟨g0,0,none⟩:Addr).add j)=some x:=hown.cells (g:=g0) rfl;have hr2:=run_append_grow (P:=P) w t ty e i (.int .i64 0) ht hi hz ⟨g0,0,none⟩ n cap0 xs (by rw [hsize];exact hown.1) holds ad 1 c [u] (by rw [hsize];rfl) hnews oMx oMx (growslice_fits oMx (by rw [hby];omega));rw [hr2] at hr;injection hr with hv hw;injection hv with hv;injection hv with hv;injection hv with hv;subst hw hv;refine ⟨fun g1 cs t1 fr hg1 hc j x hj hx=>?_,fun A ys hA _=>hA.below (bRx.drew.alloc lRx _)⟩
 obtain rfl:w.heap.size=g1:=by simpa [Value.ownBlock] using hg1
 have hc:=(heap_alloc_new w.drew _).symm.trans hc;injection hc with hc;injection hc with hc;subst hc
 have hlx:xs.length=n:=by have:=hown.1;omega
 rw [Array.getElem?_append_right (by simpa [hlx] using hj)] at hx;have:=xHz (Array.mem_of_getElem? hx)
 simpa [Value.cells] using this
theorem xHs {o:Oper} {a:Act} {K:Act->World->Prop} {Q:Exit->Act->World->Prop} (s x:Operand) (t:TypeId)
  (ho:o.op = .call { callee := .builtin .append,args:=#[s,x],argTypes:=#[t,t] })
  (base:Nat) (e:TypeId) (i:TypeInfo) (ht:P.underlying t=some (.slice e)) (hi:P.info? e=some i) (hz:i.zero=some (.int .i64 0)) (hsize:i.size=1) (hby:i.bytes=8)
  (v:Value) (n:Nat) (xs:List Value) (hs:a.eval s=v) (hown:w.ownsRow base e 1 v n xs)
  (ad:Addr) (c:Nat) (u:Value) (hx:a.eval x = .slice (some ad) 1 c) (hnews:∀ j x,[u][j]? = some x->w.cell? (ad.add j)=some x) (h1:u.oneCell'=true)
  (h63:n+1<=1000000) (hbase:base<=w.heap.size) (hsp:ZSp w v n)
  (h:∀ g cap w',w'.ownsRow base e 1 (.slice (some ⟨g,0,none⟩) (n+1) cap) (n+1) (xs++[u])->w.grownBy w' v.ownBlock->ZSp w' (.slice (some ⟨g,0,none⟩) (n+1) cap) (n+1)->(∀ A ys,zAi .i64 w A ys->(∀ i,i+1=ys.length->nth ys i≠0)->zAi .i64 w' A ys)->K (a.put o.dst (.slice (some ⟨g,0,none⟩) (n+1) cap)) w'):Oper.wp P o a w K Q:=by
 obtain ⟨g,cap,w',hr,h2,h3,h4,h5⟩:=zZx (P:=P) w t o.type base e i ht hi hz hsize hby v n xs hown ad c u hnews h1 h63 hbase hsp;unfold Oper.wp execOp;simp only [ho,resolve,invoke,builtin,Sem.run_bind,Sem.run_pure,Result.andThen_ok,List.map_toArray,List.map_cons,List.map_nil,hs,hx,hr];exact h g cap w' h2 h3 h4 h5
theorem xHo {ops:Array Oper} {rest:List Oper} {o:Oper} {a:Act} {Q:Exit->Act->World->Prop} (hgd:o.guard=none) (s x:Operand) (t:TypeId)
  (ho:o.op = .call { callee := .builtin .append,args:=#[s,x],argTypes:=#[t,t] })
  (base:Nat) (e:TypeId) (i:TypeInfo) (ht:P.underlying t=some (.slice e)) (hi:P.info? e=some i) (hz:i.zero=some (.int .i64 0)) (hsize:i.size=1) (hby:i.bytes=8)
  (v:Value) (n:Nat) (xs:List Value) (hs:a.eval s=v) (hown:w.ownsRow base e 1 v n xs)
  (ad:Addr) (c:Nat) (u:Value) (hx:a.eval x = .slice (some ad) 1 c) (hnews:∀ j x,[u][j]? = some x->w.cell? (ad.add j)=some x) (h1:u.oneCell'=true)
  (h63:n+1<=1000000) (hbase:base<=w.heap.size) (hsp:ZSp w v n)
  (h:∀ g cap w',w'.ownsRow base e 1 (.slice (some ⟨g,0,none⟩) (n+1) cap) (n+1) (xs++[u])->w.grownBy w' v.ownBlock->ZSp w' (.slice (some ⟨g,0,none⟩) (n+1) cap) (n+1)->(∀ A ys,zAi .i64 w A ys->(∀ i,i+1=ys.length->nth ys i≠0)->zAi .i64 w' A ys)->wpList P ops Q rest (a.put o.dst (.slice (some ⟨g,0,none⟩) (n+1) cap)) w') :
  wpList P ops Q (o::rest) a w :=
 wpList_plain hgd fun _ hK=>xHs w s x t ho base e i ht hi hz hsize hby v n xs hs hown ad c u hx hnews h1 h63 hbase hsp fun g cap w' h2 h3 h4 h5=>hK _ _ (h g cap w' h2 h3 h4 h5)
end
end Go.Proofs.YtfjjcoggoomlbaaGreatDoor
namespace Go.Proofs.YtfjjcoggoomlbaaGreatDoor
open Go.RowKit
theorem field_Fr (w:World) (x y:Bool) (A B:oAx) (l c m d:Nat):(Instr.field 73 (.agg #[.bool x,.slice A l c,.bool y,.slice B m d]) 1).run Tryz.prog w = .ok (.agg #[.bool y,.slice B m d]) w:=by kernel_rfl
attribute [local go_sem] field_Fr
theorem big_noI {x:Bool} {A:oAx} {l c:Nat}:∀ y∈([.bool x,.slice A l c]:List Value),∀ z,y ≠ .int .i64 z:=by
 intro y hy z
 simp at hy
 rcases hy with rfl|rfl<;>(intro e;cases e)
structure KpB (B:Nat) (w W:World):Prop where
 bel:Below B w W
 blk:∀ k,k<w.heap.size->W.heap[k]? = w.heap[k]? \/ Blk w k 71 [.bool false,.slice none 0 0]
theorem KpB.refl (B:Nat) (w:World):KpB B w w:=⟨bRx,fun _ _ => .inl rfl⟩
theorem KpB.alloc {B:Nat} {w W:World} (h:KpB B w W) (hB:B<=w.heap.size) (o:Obj):KpB B w (W.alloc o) :=
 ⟨h.bel.alloc (Nat.le_trans hB h.bel.size) o,fun k hk=>by rw [Below.heap_alloc W o k (Nat.lt_of_lt_of_le hk h.bel.size)];exact h.blk k hk⟩
theorem KpB.drew {B:Nat} {w W:World} (h:KpB B w W):KpB B w W.drew:=⟨h.bel.drew,h.blk⟩
theorem KpB.set {B:Nat} {w W:World} (h:KpB B w W) {g:Nat} (hB:B<=g) (hg:w.heap.size<=g\/Blk w g 71 [.bool false,.slice none 0 0]) (j:Nat) (u:Value):KpB B w (W.setCell ⟨g,j,none⟩ u) :=
 ⟨h.bel.setCell (p:=⟨g,j,none⟩) hB u,fun k hk=>by
  by_cases e:k=g
  ·subst e
   rcases hg with h1|h1
   ·omega
   exact .inr h1
  rw [Below.heap_setCell W ⟨g,j,none⟩ u k e]
  exact h.blk k hk⟩
theorem KpB.big {B:Nat} {w W:World} (h:KpB B w W) {v:Value} {z:Int} (hv:zCf w v z):zCf W v z:=by
 obtain ⟨A,c,e,hl,hx⟩:=hv;refine ⟨A,c,e,hl,fun hne=>?_⟩;obtain ⟨b,off,rfl,hb,hcell⟩:=hx hne;have hs:=h.bel.size;refine ⟨b,off,rfl,oMx,fun i hi=>?_⟩;have h0:=hcell i hi
 rcases h.blk b hb with h1|h1
 ·exact (World.cell?_of_block (w:=w) (a:=⟨b,off+i,none⟩) h1).trans h0
 rw [h1.cell] at h0;exact (big_noI _ (List.mem_of_getElem? h0) _ rfl).elim
theorem q_rel {w w2 W:World} {a:Nat} {x2:Bool} {X2:oAx} {y2 z2:Nat} {q:Int} (KP:KpB w.heap.size w2 W) (c0:W.cell? ⟨a,0,none⟩=some (.bool x2)) (c1:W.cell? ⟨a,1,none⟩=some (.slice X2 y2 z2)) (hn:zCf w2 (.agg #[.bool x2,.slice X2 y2 z2]) q) (hB:Below w.heap.size w w2) :
  ∃ (g:Nat) (nb:Bool) (S:oAx) (l c:Nat),(Value.pointer (some ⟨a,0,none⟩)) = .pointer (some ⟨g,0,none⟩)/\W.cell? ⟨g,0,none⟩=some (.bool nb)/\W.cell? ⟨g,1,none⟩=some (.slice S l c)/\zCf W (.agg #[.bool nb,.slice S l c]) q/\Below w.heap.size w W :=
 ⟨a,x2,X2,y2,z2,rfl,c0,c1,KP.big hn,hB.trans KP.bel⟩
def QBox (w:World) (p q:Nat):Prop:=∃ (nb:Bool) (A:oAx) (l c:Nat),Blk w p 71 [.bool nb,.slice A l c]/\zCf w (.agg #[.bool nb,.slice A l c]) (q:Int)
theorem QBox.below {w w':World} {p q:Nat} (h:QBox w p q) (hb:Below w.heap.size w w'):QBox w' p q:=by
 obtain ⟨nb,A,l,c,h1,h2⟩:=h;exact ⟨nb,A,l,c,h1.below hb,h2.below hb⟩
theorem q_up {q d a b:Nat} (hq:0<q) (hd:0<d) (h1:q<10^a) (h2:d<10^b):0<q*(d/Nat.gcd q d)/\q*(d/Nat.gcd q d)<10^(a+b):=by
 have hg:=Nat.gcd_pos_of_pos_left d hq;have hl:Nat.gcd q d<=d:=Nat.gcd_le_right q hd;refine ⟨Nat.mul_pos hq (Nat.div_pos hl hg),?_⟩;rw [Nat.pow_add];exact Nat.lt_of_le_of_lt (Nat.mul_le_mul_left q (Nat.div_le_self d _)) (Nat.lt_of_lt_of_le (Nat.mul_lt_mul_of_lt_of_le' h1 (Nat.le_of_lt h2) oMx) lRx)
theorem zTg {q a:Nat} (h:q<10^a) (ha:1<=a):Lib.nDigits q<=a:=by
 obtain ⟨k,rfl⟩:∃ k,a=k+1:=⟨a-1,oMx⟩;exact zTh k q h
theorem zIs {q a:Nat} (h:q<10^a) (ha:a<=10000000):(limbs q).length<=10000000 :=
 Nat.le_trans (zRc (k:=a) (Nat.lt_of_lt_of_le h (Nat.pow_le_pow_left dCx a))) ha
theorem zEn (A:oAx) (rs:List zGk) (c m n N dg:Nat) (M:mRx) (w:World) (h:zCz w A rs) (hmf:zCy rs m n M) (hm1:1<=m) (hm:m<=12) (hn1:1<=n) (hn:n<=12) (hk1:1<=dg) (hd:∀ i k,i<m->k<n->zAv dg (M i k)) (hN:N*(dg*(m*n)+1+dg)<=600) (hN0:1<=N) (hN1:N<=600) :
  Calls Tryz.prog 84 #[.slice A m c,.int .i64 (N:Int)] w fun e w'=>e = .returned (.bool false)/\Below w.heap.size w w':=by
 have HM:=oH h;have HF:=oH hmf;have HD:=oH hd;have HNE:=oH hN
 have hk6:dg*(m*n)+1+dg<=1000000:=by
  have:=Nat.le_trans (Nat.le_mul_of_pos_left (dg*(m*n)+1+dg) hN0) hN;omega
 clear h hmf hd hN
 go_enter Tryz.func84,Tryz.ntmps84
 go_wp2_with fail;refine (zEr 1 w dCx dCx).mono ?_;rintro e w1 ⟨v1,rfl,hv,hb⟩;obtain ⟨nb,A1,l1,c1,rfl⟩:=hv.slice;have hbl:Below w1.heap.size w1 (w1.alloc (.cells #[.bool nb,.slice A1 l1 c1] 71)):=bA;have HQ1:=oH (show QBox (w1.alloc (.cells #[.bool nb,.slice A1 l1 c1] 71)) w1.heap.size 1 from ⟨nb,A1,l1,c1,Blk.new w1 71 [.bool nb,.slice A1 l1 c1],hv.below hbl⟩);have HB1:=bTx2 hb hbl;have HPQ:=oH (show w.heap.size<=w1.heap.size from hb.size);clear hv hb hbl;go_upto_region 2 with (fail);generalize w1.alloc (.cells #[.bool nb,.slice A1 l1 c1] 71)=W1 at *;generalize w1.heap.size=pq at *;go_wp2_with fail
 go_loopw [19] (fun iv wr=>∃ (i q:Nat),iv = .int .i64 (i:Int)/\i<=m/\0<q/\q<10^(dg*(i*n)+1)/\QBox wr pq q/\Below w.heap.size w wr) (fun iv _=>m-(intOf iv).toNat)
 ·exact ⟨0,1,rfl,oLx,dCx,by rw [Nat.zero_mul,Nat.mul_zero];decide,HQ1.out,HB1.out⟩
 clear HQ1 HB1;obtain ⟨i,q,rfl,him,hq0,hqb,hqx,hbr⟩:=hrel;obtain ⟨wi,rfl⟩:=nWx wr;have HQB:=oH hqb;have HQX:=oH hqx;have HBR:=oH hbr;clear hqb hqx hbr
 by_cases hlt:i<m
 ·obtain ⟨b,off,b2,o2,cp,rfl,hb1,hb2,hc,hcr⟩:=zSp HM.out HF.out oMx hlt;have cR:=(HBR.cell hb1).trans hc
  have x1:(0:Int)<=(i:Int):=by omega
  have x2:(i:Int)<(m:Int):=by omega
  have HCR:=oH hcr;have HCI:=oH hc;clear hc hcr;go_wp2_with fail;clear cR
  go_loopw [27] (fun kv wr=>∃ (k q:Nat),kv = .int .i64 (k:Int)/\k<=n/\0<q/\q<10^(dg*(i*n+k)+1)/\QBox wr pq q/\Below w.heap.size w wr) (fun kv _=>n-(intOf kv).toNat)
  ·exact ⟨0,q,rfl,oLx,hq0,HQB.out,HQX.out,HBR.out⟩
  clear HQB HQX HBR hq0;obtain ⟨k,q,rfl,hkn,hq0,hqb,hqx,hbr⟩:=hrel;obtain ⟨wk,rfl⟩:=nWx wr;have HQB:=oH hqb;have HQX:=oH hqx;have HBR:=oH hbr;clear hqb hqx hbr
  by_cases hltk:k<n
  ·have cR:=(HBR.cell hb1).trans HCI.out;have cK:=(HBR.cell (p:=⟨b2,o2+k,none⟩) hb2).trans (HCR.out k hltk);have HRD:=oH (zEc (M i k) wk (HF.fit i k hlt hltk));have HDG:=oH (HD.out i k hlt hltk);have hdp:0<(M i k).den:=(M i k).den_pos;obtain ⟨z,hz⟩:=eXx (M i k);rw [hz] at cK HRD HDG hdp;generalize zYy z=sz at *
   have x3:(0:Int)<=(k:Int):=by omega
   have x4:(k:Int)<(n:Int):=by omega
   clear hz;go_wp2_with fail;refine HRD.mono ?_;rintro e w2 ⟨v2,rfl,hv,hb⟩;obtain ⟨na,n2,A0,A2,l0,c0,l2,c2,rfl, -,hden⟩:=hv.open_;have HQX2:=oH (HQX.below hb);have HB2:=bTx2 HBR hb;have hbl:Below w2.heap.size w2 (w2.alloc (.cells #[.bool n2,.slice A2 l2 c2] 71)):=bA;have HQX3:=oH (HQX2.below hbl);have HB3:=bTx2 HB2 hbl;have HKD:=oH (Blk.new w2 71 [.bool n2,.slice A2 l2 c2]);have HYW:=oH (hden.below hbl)
   have hlp:pq<w2.heap.size:=by obtain ⟨_,_,_,_,hk,_⟩:=HQX2.out;exact hk.lt
   clear hv hb hden hbl cR cK HRD;go_upto_region 9 with (fail);generalize w2.alloc (.cells #[.bool n2,.slice A2 l2 c2] 71)=W at *;generalize w2.heap.size=pd at *;obtain ⟨n1,A1,l1,c1,hka,hxw⟩:=HQX3.out;have KA:=oH hka;have KD:=HKD;have HXW:=oH hxw;have q1:=hka.lt;have q2:=HKD.lt;obtain ⟨x,hx⟩:∃ x:Int,x=(q:Int):=⟨_,rfl⟩;obtain ⟨y,hy⟩:∃ y:Int,y=(z.den:Int):=⟨_,rfl⟩;rw [<-hx] at HXW;rw [<-hy] at HYW;obtain ⟨gg,hgg⟩:∃ gg:Int,gg=((Nat.gcd x.natAbs y.natAbs:Nat):Int):=⟨_,rfl⟩;have HGG:=oH hgg
   have hgN:gg=((Nat.gcd q z.den:Nat):Int):=by rw [hgg,hx,hy,Int.natAbs_natCast,Int.natAbs_natCast]
   have hgp:=Nat.gcd_pos_of_pos_left z.den hq0;have HG0:=oH (show gg≠0 by omega)
   have hdl:z.den<10^dg:=by have:=HDG.2;unfold Dig at this;rwa [Int.natAbs_natCast] at this
   have hkk:dg*(i*n+k)+1+dg<=1000000:=by
    have h1:i*n+k<=m*n:=by
     have:=Nat.mul_le_mul_right n (show i+1<=m by omega);rw [Nat.succ_mul] at this;omega
    have:=Nat.mul_le_mul_left dg h1;omega
   have hlx:(limbs x.natAbs).length<=10000000:=by rw [hx,Int.natAbs_natCast];exact zIs HQB.out oMx
   have hly:(limbs y.natAbs).length<=10000000:=by rw [hy,Int.natAbs_natCast];exact zIs hdl oMx
   have hlg:(limbs gg.natAbs).length<=10000000:=by rw [hgN,Int.natAbs_natCast];exact zIs (Nat.lt_of_le_of_lt (Nat.gcd_le_right _ hdp) hdl) oMx
   have HDL:=oH hdl;have HXQ:=oH hx;have EQ:=oH (show y.tdiv gg=((z.den/Nat.gcd q z.den:Nat):Int) by rw [hy,hgN,Int.ofNat_tdiv]);have HUP:=oH (q_up hq0 hdp HQB.out hdl);have k0:=hka.at_ (i:=0) rfl;have k1:=hka.at_ (i:=1) rfl;have k2:=HKD.at_ (i:=0) rfl;have k3:=HKD.at_ (i:=1) rfl;clear hka hxw hx hy hgg hgN hgp hdl HQX HBR HQX2 HQX3
   go_cut [9] from 28 to 55 (fun v wc=>∃ (g:Nat) (nb:Bool) (S:oAx) (l c:Nat),v = .pointer (some ⟨g,0,none⟩)/\wc.cell? ⟨g,0,none⟩=some (.bool nb)/\wc.cell? ⟨g,1,none⟩=some (.slice S l c)/\zCf wc (.agg #[.bool nb,.slice S l c]) (y.tdiv gg)/\Below W.heap.size W wc)
   case first =>
    have KS0:Hid (W.drew.cell? ⟨pq,0,none⟩=some (.bool n1)/\W.drew.cell? ⟨pq,1,none⟩=some (.slice A1 l1 c1)/\W.drew.cell? ⟨pd,0,none⟩=some (.bool n2)/\W.drew.cell? ⟨pd,1,none⟩=some (.slice A2 l2 c2)):=oH ⟨k0,k1,k2,k3⟩
    have nx00:¬(pq=W.heap.size):=oMx;have nx01:¬(W.heap.size=pq):=oMx;have nx02:¬(pq=W.heap.size+1):=oMx;have nx03:¬(W.heap.size+1=pq):=oMx;have nx04:¬(pd=W.heap.size):=oMx;have nx05:¬(W.heap.size=pd):=oMx;have nx06:¬(pd=W.heap.size+1):=oMx;have nx07:¬(W.heap.size+1=pd):=oMx;skip
    have ng0:=World.new_ne W ⟨pq,0,none⟩ k0;have ng1:=World.new_ne W ⟨pd,0,none⟩ k2
    go_region_held3 (fun w'=>w'.cell? ⟨pq,0,none⟩=some (.bool n1)/\w'.cell? ⟨pq,1,none⟩=some (.slice A1 l1 c1)/\w'.cell? ⟨pd,0,none⟩=some (.bool n2)/\w'.cell? ⟨pd,1,none⟩=some (.slice A2 l2 c2)) (first|with_reducible exact KS0.out|with_reducible exact KS1.out|with_reducible exact KS2.out|(with_reducible refine xAg ?_ _;assumption)|go_keep) (first|(go_at_call 151;(with_reducible refine (zEl _ _ x y _ (HXW.out.below (by first|exact bRx|exact bRx.drew|exact bA|exact (bA).alloc sMx _|exact bA.drew|exact ((bA).alloc sMx _).drew)) (HYW.out.below (by first|exact bRx|exact bRx.drew|exact bA|exact (bA).alloc sMx _|exact bA.drew|exact ((bA).alloc sMx _).drew)) oMx oMx).mono ?_);rintro e w1 ⟨v1,rfl,hv,hb⟩;have HV1:=oH hv;have hbw:Below W.heap.size W w1:=Below.trans (by first|exact bRx|exact bRx.drew|exact bA|exact (bA).alloc sMx _|exact bA.drew|exact ((bA).alloc sMx _).drew) (hb.mono leH);have HY1:=oH (HYW.out.below hbw);have HB1:=oH hbw;(first|(have za1:=((Blk.new W 71 [.bool false,.slice none 0 0]).alloc (.cells #[.bool false,.slice none 0 0] 71)).below (Below.trans bRd (hb.mono leH));have zb1:=(Blk.new' (w:=W.alloc (.cells #[.bool false,.slice none 0 0] 71)) (g:=W.heap.size+1) sMx 71 [.bool false,.slice none 0 0]).below (Below.trans bRd (hb.mono leH));have za10:=za1.at_ (i:=0) rfl;have za11:=za1.at_ (i:=1) rfl;have zb10:=zb1.at_ (i:=0) rfl;have zb11:=zb1.at_ (i:=1) rfl;have ya10:=za1.fr 0;have ya11:=za1.fr 1;have yb10:=zb1.fr 0;have yb11:=zb1.fr 1;have sa1:=za1.lt;have sb1:=zb1.lt;have ZA1:=oH za1;have ZB1:=oH zb1;clear za1 zb1)|(have za1:=(Blk.new W 71 [.bool false,.slice none 0 0]).below (Below.trans bRd (hb.mono leH));have za10:=za1.at_ (i:=0) rfl;have za11:=za1.at_ (i:=1) rfl;have ya10:=za1.fr 0;have ya11:=za1.fr 1;have sa1:=za1.lt;have ZA1:=oH za1;clear za1)|skip);obtain ⟨x1,X1,y1,z1,rfl⟩:=hv.slice;have KA1:=oH (KA.out.below hbw);have KD1:=oH (KD.out.below hbw);have k10:=KA1.out.at_ (i:=0) rfl;have k11:=KA1.out.at_ (i:=1) rfl;have k12:=KD1.out.at_ (i:=0) rfl;have k13:=KD1.out.at_ (i:=1) rfl;have n10:=World.new_ne w1 ⟨pq,0,none⟩ k10;have n11:=World.new_ne w1 ⟨pd,0,none⟩ k12;have q11:=KA1.out.lt;have q12:=KD1.out.lt;have nx10:¬(pq=w1.heap.size):=oMx;have nx11:¬(w1.heap.size=pq):=oMx;have nx12:¬(pq=w1.heap.size+1):=oMx;have nx13:¬(w1.heap.size+1=pq):=oMx;have nx14:¬(pd=w1.heap.size):=oMx;have nx15:¬(w1.heap.size=pd):=oMx;have nx16:¬(pd=w1.heap.size+1):=oMx;have nx17:¬(w1.heap.size+1=pd):=oMx;have KS1:Hid (w1.cell? ⟨pq,0,none⟩=some (.bool n1)/\w1.cell? ⟨pq,1,none⟩=some (.slice A1 l1 c1)/\w1.cell? ⟨pd,0,none⟩=some (.bool n2)/\w1.cell? ⟨pd,1,none⟩=some (.slice A2 l2 c2)):=oH ⟨k10,k11,k12,k13⟩;clear hv hb hbw)|(go_at_call 150;(with_reducible refine (zEs _ _ y gg _ (HY1.out.below (by first|exact bRx|exact bRx.drew|exact bA|exact (bA).alloc sMx _|exact bA.drew|exact ((bA).alloc sMx _).drew)) (by rw [HGG.out];exact HV1.out.below (by first|exact bRx|exact bRx.drew|exact bA|exact (bA).alloc sMx _|exact bA.drew|exact ((bA).alloc sMx _).drew)) oMx oMx HG0.out).mono ?_);rintro e w2 ⟨v2,u2,rfl,hq,hr,hb⟩;have HQ2:=oH hq;have hbw:Below w1.heap.size w1 w2:=Below.trans (by first|exact bRx|exact bRx.drew|exact bA|exact (bA).alloc sMx _|exact bA.drew|exact ((bA).alloc sMx _).drew) (hb.mono leH);have HB2:=bTx2 HB1 hbw;have KA2:=oH (KA1.out.below hbw);have KD2:=oH (KD1.out.below hbw);have k20:=KA2.out.at_ (i:=0) rfl;have k21:=KA2.out.at_ (i:=1) rfl;have k22:=KD2.out.at_ (i:=0) rfl;have k23:=KD2.out.at_ (i:=1) rfl;have n20:=World.new_ne w2 ⟨pq,0,none⟩ k20;have n21:=World.new_ne w2 ⟨pd,0,none⟩ k22;have q21:=KA2.out.lt;have q22:=KD2.out.lt;have nx20:¬(pq=w2.heap.size):=oMx;have nx21:¬(w2.heap.size=pq):=oMx;have nx22:¬(pq=w2.heap.size+1):=oMx;have nx23:¬(w2.heap.size+1=pq):=oMx;have nx24:¬(pd=w2.heap.size):=oMx;have nx25:¬(w2.heap.size=pd):=oMx;have nx26:¬(pd=w2.heap.size+1):=oMx;have nx27:¬(w2.heap.size+1=pd):=oMx;have KS2:Hid (w2.cell? ⟨pq,0,none⟩=some (.bool n1)/\w2.cell? ⟨pq,1,none⟩=some (.slice A1 l1 c1)/\w2.cell? ⟨pd,0,none⟩=some (.bool n2)/\w2.cell? ⟨pd,1,none⟩=some (.slice A2 l2 c2)):=oH ⟨k20,k21,k22,k23⟩;(first|(have ZA1':=oH (ZA1.out.below hbw);have zc0:=ZA1'.out.at_ (i:=0) rfl;have zc1:=ZA1'.out.at_ (i:=1) rfl;have yc0:=ZA1'.out.fr 0;have yc1:=ZA1'.out.fr 1;have sc:=ZA1'.out.lt)|skip);(first|(have ZB1':=oH (ZB1.out.below hbw);have zd0:=ZB1'.out.at_ (i:=0) rfl;have zd1:=ZB1'.out.at_ (i:=1) rfl;have yd0:=ZB1'.out.fr 0;have yd1:=ZB1'.out.fr 1;have sd:=ZB1'.out.lt)|skip);(first|(have za2:=((Blk.new w1 71 [.bool false,.slice none 0 0]).alloc (.cells #[.bool false,.slice none 0 0] 71)).below (Below.trans bRd (hb.mono leH));have zb2:=(Blk.new' (w:=w1.alloc (.cells #[.bool false,.slice none 0 0] 71)) (g:=w1.heap.size+1) sMx 71 [.bool false,.slice none 0 0]).below (Below.trans bRd (hb.mono leH));have za20:=za2.at_ (i:=0) rfl;have za21:=za2.at_ (i:=1) rfl;have zb20:=zb2.at_ (i:=0) rfl;have zb21:=zb2.at_ (i:=1) rfl;have ya20:=za2.fr 0;have ya21:=za2.fr 1;have yb20:=zb2.fr 0;have yb21:=zb2.fr 1;have sa2:=za2.lt;have sb2:=zb2.lt;have ZA2:=oH za2;have ZB2:=oH zb2;clear za2 zb2)|(have za2:=(Blk.new w1 71 [.bool false,.slice none 0 0]).below (Below.trans bRd (hb.mono leH));have za20:=za2.at_ (i:=0) rfl;have za21:=za2.at_ (i:=1) rfl;have ya20:=za2.fr 0;have ya21:=za2.fr 1;have sa2:=za2.lt;have ZA2:=oH za2;clear za2)|skip);obtain ⟨x2,X2,y2,z2,rfl⟩:=hq.slice;obtain ⟨x3,X3,y3,z3,rfl⟩:=hr.slice;clear hq hr hb hbw))
    all_goals go_wp2_with fail
    all_goals go_meet
    all_goals
     have hz1:=HB1.size;have hz2:=HB2.size;refine q_rel (w2:=w2) ?_ ?_ ?_ HQ2.out HB2.out
     ·repeat' first
       | with_reducible exact KpB.refl _ _
       | (with_reducible refine KpB.set ?_ oMx (by first|exact .inl oMx|with_reducible exact .inr ZA1'.out|with_reducible exact .inr ZB1'.out|with_reducible exact .inr ZA2.out|with_reducible exact .inr ZB2.out) _ _)
       | (with_reducible refine KpB.alloc ?_ oMx _)
       | (with_reducible refine KpB.drew ?_)
     ·go_simp
     go_simp
   case rest =>
    obtain ⟨g,nb,S,l,c,rfl,m0,m1,hq,hbel⟩:=hcut;rw [EQ.out] at hq;have HQ:=oH hq;have HX3:=oH (HXW.below hbel);have HKA3:=oH (KA.below hbel);have a0:=HKA3.at_ (i:=0) rfl;have a1:=HKA3.at_ (i:=1) rfl;have HB4:=bTx2 HB3 hbel;clear hq hbel k0 k1 k2 k3
    have hlq:(limbs (((z.den/Nat.gcd q z.den:Nat):Int)).natAbs).length<=100000000:=by rw [Int.natAbs_natCast];exact Nat.le_trans (zIs (Nat.lt_of_le_of_lt (Nat.div_le_self _ _) HDL.out) oMx) dCx
    go_wp2_with fail;refine (zEp _ _ x ((z.den/Nat.gcd q z.den:Nat):Int) _ HX3.out HQ.out oMx hlq).mono ?_;rintro e w5 ⟨v5,rfl,hv,hb⟩;obtain ⟨nb5,A5,l5,c5,rfl⟩:=hv.slice;have KA5:=oH (HKA3.below hb);have HB5:=bTx2 HB4 hb;rw [HXQ.out,<-Int.natCast_mul] at hv;have HV5:=oH hv;have r0:=KA5.at_ (i:=0) rfl;have r1:=KA5.at_ (i:=1) rfl;have f0:=KA5.fr 0;have f1:=KA5.fr 1;clear hv hb a0 a1 m0 m1 hlq;go_upto_region 11 with (fail);have KA6:=oH ((KA5.set 0 (.bool nb5)).set 1 (.slice A5 l5 c5));have HV6:=oH (HV5.set2 KA5.out (.bool nb5) (.slice A5 l5 c5));have HB6:=oH (zIl HB5.out HPQ.out (.bool nb5) (.slice A5 l5 c5));generalize ((w5.setCell ⟨pq,0,none⟩ (.bool nb5)).setCell ⟨pq,1,none⟩ (.slice A5 l5 c5))=W6 at *;have HQ6:=oH (show QBox W6 pq (q*(z.den/Nat.gcd q z.den)) from ⟨nb5,A5,l5,c5,KA6.out,HV6.out⟩);have s0:=KA6.at_ (i:=0) rfl;have s1:=KA6.at_ (i:=1) rfl
    have HEX:=oH (show q*(z.den/Nat.gcd q z.den)<10^(dg*(i*n+(k+1))+1) from by
     have:=HUP.2
     rwa [show dg*(i*n+(k+1))+1=dg*(i*n+k)+1+dg by rw [<-Nat.add_assoc,Nat.mul_add,Nat.mul_one];omega])
    have HPO:=oH HUP.1;generalize q*(z.den/Nat.gcd q z.den)=q' at *
    have hnd:Lib.nDigits q'<=dg*(m*n)+1+dg:=Nat.le_trans (zTg HEX.out oMx) (by
     have h2:i*n+(k+1)<=m*n:=by
      have:=Nat.mul_le_mul_right n (show i+1<=m by omega);rw [Nat.succ_mul] at this;omega
     have:=Nat.mul_le_mul_left dg h2
     omega)
    have hlq6:(limbs ((q':Int)).natAbs).length<=10000000:=by rw [Int.natAbs_natCast];exact zIs HEX.out (by
     have h2:i*n+(k+1)<=m*n:=by
      have:=Nat.mul_le_mul_right n (show i+1<=m by omega);rw [Nat.succ_mul] at this;omega
     have:=Nat.mul_le_mul_left dg h2
     omega)
    have hprod:=Nat.le_trans (Nat.mul_le_mul_left N hnd) HNE.out;have HDC:=oH (zDq _ (q':Int) W6 HV6.out hlq6);rw [Int.natAbs_natCast] at HDC
    have hw:IntKind.i64.wrap ((N:Int)*((Lib.nDigits q':Nat):Int))=((N*Lib.nDigits q':Nat):Int):=by rw [<-Int.natCast_mul];exact IntWalk.i64_in _ oMx
    have hbig:¬600<N*Lib.nDigits q':=by omega
    clear r0 r1 f0 f1 hnd hprod;go_wp2_with fail;refine HDC.mono ?_;rintro e w7 ⟨rfl,hb⟩;have HQ7:=oH (HQ6.below hb);have HB7:=bTx2 HB6 hb;generalize N*Lib.nDigits q'=lmx at *;clear hb s0 s1;go_wp2_with fail;go_roundw
    ·exact ⟨k+1,q',by go_num,oMx,HPO.out,HEX.out,HQ7.out,HB7.out⟩
    simp [intOf];omega
  obtain rfl:k=n:=by omega
  have HEX:=oH (show q<10^(dg*((i+1)*k)+1) from by rw [Nat.succ_mul];exact HQB.out);go_wp2_with fail;go_roundw
  ·exact ⟨i+1,q,by go_num,oMx,hq0,HEX.out,HQX.out,HBR.out⟩
  simp [intOf];omega
 obtain rfl:i=m:=by omega
 go_wp2_with fail
 go_loopw [59] (fun iv wr=>∃ j:Nat,iv = .int .i64 (j:Int)/\j<=i/\Below wi.heap.size wi wr) (fun iv _=>i-(intOf iv).toNat)
 ·exact ⟨0,rfl,oLx,bRx⟩
 obtain ⟨j,rfl,hji,hbj⟩:=hrel;obtain ⟨wj,rfl⟩:=nWx wr
 by_cases hltj:j<i
 ·obtain ⟨b,off,b2,o2,cp,rfl,hb1,hb2,hc,hcr⟩:=zSp HM.out HF.out oMx hltj;have hbw:=HBR.trans (hbj.mono HBR.size);have cR:=(hbw.cell hb1).trans hc;have HCR:=oH hcr;have HCI:=oH hc;have HBJ:=oH hbj
  have x1:(0:Int)<=(j:Int):=by omega
  have x2:(j:Int)<(i:Int):=by omega
  clear hc hcr hbj hbw;go_wp2_with fail;clear cR
  go_loopw [67] (fun kv wr=>∃ k:Nat,kv = .int .i64 (k:Int)/\k<=n/\Below wi.heap.size wi wr) (fun kv _=>n-(intOf kv).toNat)
  ·exact ⟨0,rfl,oLx,HBJ.out⟩
  clear HBJ;obtain ⟨k,rfl,hkn,hbk⟩:=hrel;obtain ⟨wk,rfl⟩:=nWx wr;have HBK:=oH hbk
  by_cases hltk:k<n
  ·have hbw:=HBR.trans (hbk.mono HBR.size);have cR:=(hbw.cell hb1).trans HCI.out;have cK:=(hbw.cell (p:=⟨b2,o2+k,none⟩) hb2).trans (HCR.out k hltk);have HRD:=oH (zEc (M j k) wk (HF.fit j k hltj hltk));have HDG:=oH (HD.out j k hltj hltk);have HQK:=oH (HQX.below hbk);have hdp:0<(M j k).den:=(M j k).den_pos;obtain ⟨z,hz⟩:=eXx (M j k);rw [hz] at cK HRD HDG hdp;generalize zYy z=sz at *
   have x3:(0:Int)<=(k:Int):=by omega
   have x4:(k:Int)<(n:Int):=by omega
   clear hz hbk hbw;go_wp2_with fail;refine HRD.mono ?_;rintro e w2 ⟨v2,rfl,hv,hb⟩;obtain ⟨na,n2,A0,A2,l0,c0,l2,c2,rfl,hnum,hden⟩:=hv.open_;have hbl:Below w2.heap.size w2 (w2.alloc (.cells #[.bool na,.slice A0 l0 c0,.bool n2,.slice A2 l2 c2] 73)):=bA;have HQ3:=oH ((HQK.below hb).below hbl);have HB3:=oH (HBK.trans ((hb.trans (hbl.mono hb.size)).mono HBK.size));have HKX:=oH (Blk.new w2 73 [.bool na,.slice A0 l0 c0,.bool n2,.slice A2 l2 c2]);have HNU:=oH (hnum.below hbl);have HDE:=oH (hden.below hbl);clear hv hb hnum hden hbl cR cK HRD HQK HBK;go_upto_region 22 with (fail);generalize w2.alloc (.cells #[.bool na,.slice A0 l0 c0,.bool n2,.slice A2 l2 c2] 73)=W at *;generalize w2.heap.size=px at *;obtain ⟨n1,A1,l1,c1,hka,hxw⟩:=HQ3.out;have k0:=hka.at_ (i:=0) rfl;have k1:=hka.at_ (i:=1) rfl;have e2:=HKX.at_ (i:=2) rfl;have e3:=HKX.at_ (i:=3) rfl
   have hdl:z.den<10^dg:=by have:=HDG.2;unfold Dig at this;rwa [Int.natAbs_natCast] at this
   have hnl:z.num.natAbs<10^dg:=HDG.1
   have hlx:(limbs ((q:Int)).natAbs).length<=10000000:=by rw [Int.natAbs_natCast];exact zIs HQB.out oMx
   have hly:(limbs ((z.den:Int)).natAbs).length<=10000000:=by rw [Int.natAbs_natCast];exact zIs hdl oMx
   have hdz:(z.den:Int)≠0:=by omega
   have HQU:=oH (zEs _ _ (q:Int) (z.den:Int) W hxw HDE.out hlx hly hdz);have HNL:=oH hnl;clear hka hxw hlx hly hdz hdl hnl HQ3;go_wp2_with fail;refine HQU.mono ?_;rintro e w3 ⟨v3,u3,rfl,hq,hr,hb⟩;have HQ:=oH hq;have HB4:=bTx2 HB3 hb;have HK4:=oH (HKX.below hb);have HN4:=oH (HNU.below hb);obtain ⟨m1,X1,y1,z1,rfl⟩:=hq.slice;obtain ⟨m2,X2,y2,z2,rfl⟩:=hr.slice;clear hq hr hb k0 k1 e2 e3;go_upto_region 23 with (fail);have hbA:Below w3.heap.size w3 ((w3.alloc (.cells #[.bool m1,.slice X1 y1 z1] 71)).alloc (.cells #[.bool m2,.slice X2 y2 z2] 71)):=(bA).alloc sMx _;have HM5:=oH ((Blk.new w3 71 [.bool m1,.slice X1 y1 z1]).alloc (.cells #[.bool m2,.slice X2 y2 z2] 71));have HN5:=oH (HN4.below hbA);have HQ5:=HQ.below hbA;rw [<-Int.ofNat_tdiv] at HQ5;replace HQ5:=oH HQ5;have HK5:=oH (HK4.below hbA);have HB5:=bTx2 HB4 hbA;clear hbA HN4 HQ HK4 HB4;generalize ((w3.alloc (.cells #[.bool m1,.slice X1 y1 z1] 71)).alloc (.cells #[.bool m2,.slice X2 y2 z2] 71))=W5 at *
   generalize w3.heap.size=pm at *;have t0:=HK5.at_ (i:=0) rfl;have t1:=HK5.at_ (i:=1) rfl;have t2:=HM5.at_ (i:=0) rfl;have t3:=HM5.at_ (i:=1) rfl;have hlm:q/z.den<10^(dg*(i*n)+1):=Nat.lt_of_le_of_lt (Nat.div_le_self _ _) HQB.out;have hln:(limbs z.num.natAbs).length<=10000000:=zIs HNL.out oMx
   have hlm2:(limbs (((q/z.den:Nat):Int)).natAbs).length<=100000000:=by rw [Int.natAbs_natCast];exact Nat.le_trans (zIs hlm oMx) dCx
   have hp:(z.num*((q/z.den:Nat):Int)).natAbs<10^(dg*(i*n)+1+dg):=by
    rw [Int.natAbs_mul,Int.natAbs_natCast,Nat.add_comm _ dg,Nat.pow_add];exact Nat.mul_lt_mul'' HNL.out hlm
   have HMC:=oH (zEp _ _ z.num ((q/z.den:Nat):Int) _ HN5.out HQ5.out oMx hlm2);have HHP:=oH hp;generalize z.num*((q/z.den:Nat):Int)=tz at *;clear hlm hln hlm2 hp HN5 HQ5 HK5 HM5;go_wp2_with fail;refine HMC.mono ?_;rintro e w6 ⟨v6,rfl,hv,hb⟩;obtain ⟨nb6,A6,l6,c6,rfl⟩:=hv.slice;have HB6:=bTx2 HB5 hb;have hnd:Lib.nDigits tz.natAbs<=dg*(i*n)+1+dg:=zTg HHP.out oMx;have HDC:=oH (zDq _ tz w6 hv (zIs HHP.out oMx));have hprod:=Nat.le_trans (Nat.mul_le_mul_left N hnd) HNE.out
   have hw:IntKind.i64.wrap ((N:Int)*((Lib.nDigits tz.natAbs:Nat):Int))=((N*Lib.nDigits tz.natAbs:Nat):Int):=by rw [<-Int.natCast_mul];exact IntWalk.i64_in _ oMx
   have hbig:¬600<N*Lib.nDigits tz.natAbs:=by omega
   clear hv hb hnd hprod t0 t1 t2 t3 HMC HB5;go_wp2_with fail;refine HDC.mono ?_;rintro e w7 ⟨rfl,hb⟩;have HB7:=bTx2 HB6 hb;generalize N*Lib.nDigits tz.natAbs=lmx at *;clear hb HB6 HDC;go_wp2_with fail;go_roundw
   ·exact ⟨k+1,by go_num,oMx,HB7.out⟩
   simp [intOf];omega
  replace hbk:=HBK.out;clear HBK;go_wp2_with fail;go_roundw
  ·exact ⟨j+1,by go_num,oMx,hbk⟩
  simp [intOf];omega
 have HBE:=bTx2 HBR hbj
 have hNb:¬600<N:=by omega
 clear hbj;go_wp2_with fail;go_ret
 refine ⟨?_,HBE.out⟩
 congr 2
 simp
 omega
end Go.Proofs.YtfjjcoggoomlbaaGreatDoor
