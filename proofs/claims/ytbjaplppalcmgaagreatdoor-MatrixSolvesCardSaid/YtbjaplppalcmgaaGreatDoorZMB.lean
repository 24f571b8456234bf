import Derived.Test.YtbjaplppalcmgaaGreatDoorZMA
import Derived.Test.YtbjaplppalcmgaaGreatDoorZU
set_option maxHeartbeats 16000000
set_option maxRecDepth 100000
set_option linter.unusedVariables false
set_option linter.unusedSimpArgs false
set_option linter.unusedSectionVars false
namespace Go.Proofs.YtbjaplppalcmgaaGreatDoor
open Go.RowKit
structure zCq where
 nb:Bool
 ad:Option Addr
 l:Nat
 c:Nat
def zCq.val (u:zCq):Value := .agg #[.bool u.nb,.slice u.ad u.l u.c]
def zTd (us:List zCq):List Value:=us.flatMap fun u=>[.bool u.nb,.slice u.ad u.l u.c]
theorem zTf (us:List zCq):(zTd us).length=us.length*2:=by
 induction us with
 | nil=>rfl
 | cons a r ih=>simp only [zTd,List.flatMap_cons,List.length_append] at *;simp only [List.length_cons,List.length_nil];omega
theorem zTi (us:List zCq) (u:zCq):zTd (us++[u])=zTd us++[.bool u.nb,.slice u.ad u.l u.c]:=by simp [zTd]
theorem zTe:∀ {us:List zCq} {i:Nat} (h:i<us.length),(zTd us)[i*2]? = some (.bool us[i].nb)/\(zTd us)[i*2+1]? = some (.slice us[i].ad us[i].l us[i].c)
 | a::r,0,_=>⟨rfl,rfl⟩
 | a::r,i+1,h=>by
  have:=zTe (us:=r) (i:=i) (by simpa using h);rw [show (i+1)*2=i*2+2 by omega,show i*2+2+1=(i*2+1)+2 by omega];exact this
theorem zTh:∀ {us:List zCq} {i:Nat} (_:i<us.length) (u:zCq),((zTd us).set (i*2) (.bool u.nb)).set (i*2+1) (.slice u.ad u.l u.c)=zTd (us.set i u)
 | a::r,0,_,u=>by simp [zTd]
 | a::r,i+1,h,u=>by
  have:=zTh (us:=r) (i:=i) (by simpa using h) u;rw [show (i+1)*2=i*2+1+1 by omega,show i*2+1+1+1=(i*2+1)+1+1 by omega];simp only [zTd,List.flatMap_cons,List.cons_append,List.nil_append,List.set_cons_succ] at this ⊢;rw [this]
theorem numc_one {us:List zCq}:∀ u∈zTd us,u.oneCell'=true:=by
 intro u hu
 unfold zTd at hu;rw [List.mem_flatMap] at hu;obtain ⟨a, -,h⟩:=hu
 simp at h
 rcases h with rfl|rfl<;>rfl
theorem zTg {us:List zCq}:∀ u∈zTd us,∀ z,u ≠ .int .u64 z:=by
 intro u hu z e
 unfold zTd at hu;rw [List.mem_flatMap] at hu;obtain ⟨a, -,h⟩:=hu;subst e
 simp at h
def IsNums (w:World) (us:List zCq) (zs:List Int):Prop:=us.length=zs.length/\∀ i,(h:i<us.length)->(h2:i<zs.length)->zBs w us[i].val zs[i]
theorem zAe.row {w:World} {k:IntKind} {A:oAx} {xs:List Nat} {B e s g n c:Nat} {vs:List Value} (h:zAe k w A xs) (ho:w.ownsRow B e s (.slice (some ⟨g,0,none⟩) n c) n vs) (hn:∀ x∈vs,∀ z,x ≠ .int k z) {j:Nat} (hj:j<n*s) (u:Value):zAe k (w.setCell ⟨g,j,none⟩ u) A xs:=fun hne=>by
 obtain ⟨b,off,rfl,hb,hc⟩:=h hne;refine ⟨b,off,rfl,by simpa using hb,fun i hi=>?_⟩;rw [World.cell?_setCell_other]
 ·exact hc i hi
 intro e
 injection e with e1 e2;have h1:=ho.cellAt j hj;have h2:=hc i hi;rw [<-e1,<-e2,h1] at h2;exact hn _ (List.mem_of_getElem? h2) _ rfl
theorem zBs.row {w:World} {v:Value} {z:Int} {B e s g n c:Nat} {vs:List Value} (h:zBs w v z) (ho:w.ownsRow B e s (.slice (some ⟨g,0,none⟩) n c) n vs) (hn:∀ x∈vs,∀ z,x ≠ .int .u64 z) {j:Nat} (hj:j<n*s) (u:Value):zBs (w.setCell ⟨g,j,none⟩ u) v z:=by
 obtain ⟨s',e1,A,c',e2,hl,hc⟩:=h;exact ⟨s',e1,A,c',e2,hl,hc.row ho hn hj u⟩
structure zGh where
 ad:Option Addr
 cp:Nat
 ss:List ByteArray
def zXe (rs:List zGh):List Value:=rs.map fun r => .slice r.ad r.ss.length r.cp
theorem zXg (rs:List zGh):(zXe rs).length=rs.length:=by simp [zXe]
theorem zXi (rs:List zGh) (r:zGh):zXe (rs++[r])=zXe rs++[.slice r.ad r.ss.length r.cp]:=by simp [zXe]
theorem zXf {rs:List zGh} {i:Nat} (h:i<rs.length):(zXe rs)[i]? = some (.slice rs[i].ad rs[i].ss.length rs[i].cp):=by simp [zXe,h]
structure zCj (w:World) (A:oAx) (rs:List zGh):Prop where
 o:zHh w A (zXe rs)
 i:∀ r∈rs,zGx w r.ad r.ss
theorem zCj.below {w w':World} {A:oAx} {rs:List zGh} (h:zCj w A rs) (hb:Below w.heap.size w w'):zCj w' A rs:=⟨h.o.below hb,fun r hr=>(h.i r hr).below hb⟩
structure zCk (B:Nat) (w:World) (v:Value) (rs:List zGh):Prop where
 o:w.ownsRow B 25 1 v rs.length (zXe rs)
 i:∀ r∈rs,w.ownsRow B 43 1 (.slice r.ad r.ss.length r.cp) r.ss.length (sv r.ss)
theorem zCk.grown {B b:Nat} {w w':World} {v:Value} {rs:List zGh} (h:zCk B w v rs) (hg:w.grownBy w' (some b)) (hb:b<B):zCk B w' v rs:=⟨zUq h.o hg hb,fun r hr=>zUq (h.i r hr) hg hb⟩
def LL (z:Int):Nat:=(limbs z.natAbs).length
theorem zBy (x y:Int):LL (x*y)<=LL x+LL y:=by unfold LL;rw [Int.natAbs_mul];exact zQe _ _
theorem LL_sub {x y:Int} {k:Nat} (hx:LL x<=k) (hy:LL y<=k):LL (x-y)<=k+1:=zQf hx hy
theorem zBx (x y:Int):LL (x/y)<=LL x:=zQd (Int.natAbs_ediv_le_natAbs x y)
def grw (L:Nat):Nat->Nat
 | 0=>L
 | r+1=>2*grw L r+1
theorem grw_eq (L:Nat):∀ r,grw L r+1=2^r*(L+1)
 | 0=>by simp [grw]
 | r+1=>by
  have:=grw_eq L r;rw [Nat.pow_succ,Nat.mul_comm (2^r) 2,Nat.mul_assoc,<-this];simp only [grw];omega
theorem zOf {L r:Nat} (hL:L<=70) (hr:r<=12):grw L r<=300000:=by
 have h1:=grw_eq L r;have h2:2^r<=2^12:=Nat.pow_le_pow_right dCx hr;have h3:=Nat.mul_le_mul h2 (show L+1<=71 by omega)
 have h4:2^12*71=290816:=by decide
 omega
theorem LL_step {P:Nat->Nat->Int} {m p r c L:Nat} {v:Int} (hP:∀ i k,i<m->LL (P i k)<=L) (hp:p<m) (hr:r<m):∀ i k,i<m->LL (xAt P p r c v i k)<=2*L+1:=by
 intro i k hi
 unfold xAt;have h1:=hP p k hp;have h2:=hP p c hp;have h3:=hP _ k (xCi hp hr hi);have h4:=hP _ c (xCi hp hr hi)
 split
 ·omega
 refine Nat.le_trans (zBx _ _) (LL_sub (k:=2*L) ?_ ?_)
 ·exact Nat.le_trans (zBy _ _) oMx
 exact Nat.le_trans (zBy _ _) oMx
theorem zMu {m L:Nat} {N:Nat->Nat->Int} (hN:∀ i k,i<m->LL (N i k)<=L) (hL:LL 1<=L):∀ c,(∀ i k,i<m->LL ((eli m N c).P i k)<=grw L (eli m N c).ps.length)/\LL (eli m N c).v<=grw L (eli m N c).ps.length/\(eli m N c).ps.length<=m
 | 0=>⟨hN,hL,oLx⟩
 | c+1=>by
  obtain ⟨h1,h2,h3⟩:=zMu hN hL c
  show (∀ i k,i<m->LL (((eli m N c).step m c).P i k)<=grw L ((eli m N c).step m c).ps.length)/\LL ((eli m N c).step m c).v<=grw L ((eli m N c).step m c).ps.length/\((eli m N c).step m c).ps.length<=m
  generalize eli m N c=s at *;obtain ⟨k1,k2,_,_⟩:=zTn s.P c (m-s.ps.length) s.ps.length;unfold zAr.step;generalize zTl s.P c (m-s.ps.length) s.ps.length=p at *
  split
  ·rename_i hp
   have e:(s.ps++[c]).length=s.ps.length+1:=by simp
   simp only;rw [e];refine ⟨fun i k hi=>LL_step h1 hp oMx i k hi,?_,oMx⟩;have:=h1 p c hp;simp only [grw];omega
  exact ⟨h1,h2,h3⟩
def NoU (w:World) (v:Value):Prop:=∀ g cs t fr,v.ownBlock=some g->w.heap[g]? = some (.cells cs t fr)->∀ x∈cs,∀ z,x ≠ .int .u64 z
theorem NoU.nil (w:World) (l c:Nat):NoU w (.slice none l c):=fun g _ _ _ h=>by simp [Value.ownBlock] at h
theorem NoU.kept {w w':World} {v:Value} {row:Option Nat} (h:NoU w v) (hg:w.grownBy w' row) (hlt:∀ k,v.ownBlock=some k->k<w.heap.size) (hne:v.ownBlock=none\/v.ownBlock≠row):NoU w' v:=fun g cs t fr hv hc=>by
 refine h g cs t fr hv ?_
 rw [<-hg.block g (hlt g hv) (by rcases hne with h1|h1; · rw [h1] at hv;cases hv
                                 rw [<-hv];exact h1)]
 exact hc
theorem zAe.clean {w w':World} {A:oAx} {xs:List Nat} {v:Value} (h:zAe .u64 w A xs) (hc:NoU w v) (hg:w.grownBy w' v.ownBlock):zAe .u64 w' A xs:=fun hne=>by
 obtain ⟨b,off,rfl,hb,hcell⟩:=h hne;have hs:=hg.size;refine ⟨b,off,rfl,oMx,fun i hi=>?_⟩;have h0:=hcell i hi;refine (World.cell?_of_block (w:=w) (a:=⟨b,off+i,none⟩) (hg.block b hb fun e=>?_)).trans h0;unfold World.cell? at h0
 rcases ho:w.heap[b]? with _|o
 ·simp [ho] at h0
 cases o with
 | cells cs t fr =>
  simp [ho] at h0
  exact hc b cs t fr e.symm ho _ (Array.mem_of_getElem? h0) _ rfl
 | _=>simp [ho] at h0
theorem zBr.clean {w w':World} {u:Value} {n:Nat} {v:Value} (h:zBr w u n) (hc:NoU w v) (hg:w.grownBy w' v.ownBlock):zBr w' u n:=by
 obtain ⟨A,c,e,hl,hx⟩:=h;exact ⟨A,c,e,hl,hx.clean hc hg⟩
theorem zBs.clean {w w':World} {u:Value} {z:Int} {v:Value} (h:zBs w u z) (hc:NoU w v) (hg:w.grownBy w' v.ownBlock):zBs w' u z:=by
 obtain ⟨s,e,hs⟩:=h;exact ⟨s,e,hs.clean hc hg⟩
theorem zBo.clean {w w':World} {u:Value} {q:Rat} {v:Value} (h:zBo w u q) (hc:NoU w v) (hg:w.grownBy w' v.ownBlock):zBo w' u q:=by
 obtain ⟨na,nb,A,A',l,c,l',c',e,h1,h2⟩:=h;exact ⟨na,nb,A,A',l,c,l',c',e,h1.clean hc hg,h2.clean hc hg⟩
theorem xGj {z:Array Value} {n:Nat} {x:Value} (h:x∈Builtin.zeroCells z n):x∈z:=by
 unfold Builtin.zeroCells at h;rw [Array.mem_map] at h;obtain ⟨i,hi,rfl⟩:=h;rw [Array.mem_range] at hi
 have h0:0<z.size:=by
  rcases Nat.eq_zero_or_pos z.size with h1|h1
  ·rw [h1] at hi;omega
  exact h1
 have h2:i%z.size<z.size:=Nat.mod_lt _ h0;rw [getElem!_pos z _ h2];exact Array.getElem_mem h2
section
variable {P:Program} (w:World)
theorem zYf (t ty:TypeId) (base:Nat) (e:TypeId) (i:TypeInfo) (z:Value) (size bytes:Nat) (ht:P.underlying t=some (.slice e)) (hi:P.info? e=some i) (hz:i.zero=some z)
  (hsize:i.size=size) (hby:i.bytes=bytes) (hzs:z.cells.size=size) (hsz:0<size)
  (v:Value) (n:Nat) (xs:List Value) (hown:w.ownsRow base e size v n xs)
  (ad:Addr) (m c:Nat) (news:List Value) (hl:news.length=m*size) (hnews:∀ j u,news[j]? = some u->w.cell? (ad.add j)=some u) (h1:∀ u∈news,u.oneCell'=true)
  (hm:0<m) (h63:n+m<=maxLen) (hbytes:(n+m)*bytes<=140737488355328) (hbase:base<=w.heap.size) (hcl:NoU w v) (hzu:∀ x∈z.cells,∀ y,x ≠ .int .u64 y) (hnu:∀ x∈news,∀ y,x ≠ .int .u64 y) :
  ∃ g cap w',(Builtin.append_ #[t,t] ty #[v,.slice (some ad) m c]).run P w = .ok (.slice (some ⟨g,0,none⟩) (n+m) cap) w' /\
   w'.ownsRow base e size (.slice (some ⟨g,0,none⟩) (n+m) cap) (n+m) (xs++news)/\w.grownBy w' v.ownBlock/\NoU w' (.slice (some ⟨g,0,none⟩) (n+m) cap):=by
 obtain ⟨g,cap,w',hr,h2,h3,h4,_⟩:=run_append_lies (P:=P) w t ty base e i z size bytes ht hi hz hsize hby hzs hsz v n xs hown ad m c news hl hnews h1 hm h63 hbytes hbase _ rfl;refine ⟨g,cap,w',hr,h2,h3,?_⟩
 have hsmall:n+m<=9223372036854775807:=by simp only [maxLen] at h63;omega
 subst hsize hby
 have hxu:∀ x∈xs,∀ y,x ≠ .int .u64 y:=fun x hx y he=>by
  rcases hown.2 with ⟨_,h0⟩|⟨g0,cap0,cur,hv,_,hg0,_,_,_,htake⟩
  ·have:=hown.1;rw [h0,Nat.zero_mul] at this;rw [List.eq_nil_of_length_eq_zero this] at hx;cases hx
  rw [<-htake] at hx;exact hcl g0 cur _ _ (by rw [hv];rfl) hg0 x (Array.mem_toList_iff.1 (List.mem_of_mem_take hx)) y he
 intro g1 cs t1 fr hg1 hc x hx y
 obtain rfl:g=g1:=by simpa [Value.ownBlock] using hg1
 rcases hown.2 with ⟨rfl,rfl⟩|⟨g0,cap0,cur,rfl,hb0,hg0,hnc,hcm,hcs,htake⟩
 ·have hr2:=run_append_nil (P:=P) w t ty e i z ht hi hz ad m c news hl hnews hm oMx (by have:=hbytes;rw [Nat.zero_add] at this;omega);rw [hr2] at hr;injection hr with hv hw;injection hv with hv;injection hv with hv;injection hv with hv;subst hw hv;have hc:=(heap_alloc_new w.drew _).symm.trans hc;injection hc with hc;injection hc with hc;subst hc;rw [Array.mem_append] at hx
  rcases hx with hx|hx
  ·exact hnu x (by simpa using hx) y
  exact hzu x (xGj hx) y
 by_cases hroom:n+m<=cap0
 ·have hfit:n*i.size+news.length<=cur.size:=by rw [hl,hcs,<-Nat.add_mul];exact Nat.mul_le_mul_right _ hroom
  have hr2:=run_append_room (P:=P) w t ty e i ht hi g0 n cap0 cur hg0 ad m c news hl hnews h1 hroom hfit;rw [hr2] at hr;injection hr with hv hw;injection hv with hv;injection hv with hv;injection hv with hv;subst hw hv;rw [setRow_heap w g0 cur _ e _ hg0] at hc;injection hc with hc;injection hc with hc;subst hc
  have hx':x∈cur.toList.take (n*i.size)++news++cur.toList.drop (n*i.size+news.length):=by simpa using hx
  rcases List.mem_append.1 hx' with hx'|hx'
  ·rcases List.mem_append.1 hx' with hx'|hx'
   ·exact hcl g0 cur _ _ rfl hg0 x (Array.mem_toList_iff.1 (List.mem_of_mem_take hx')) y
   exact hnu x hx' y
  exact hcl g0 cur _ _ rfl hg0 x (Array.mem_toList_iff.1 (List.mem_of_mem_drop hx')) y
 have holds:∀ j u,xs[j]? = some u->w.cell? ((⟨g0,0,none⟩:Addr).add j)=some u:=hown.cells (g:=g0) rfl;have hr2:=run_append_grow (P:=P) w t ty e i z ht hi hz ⟨g0,0,none⟩ n cap0 xs hown.1 holds ad m c news hl hnews oMx oMx (growslice_fits oMx hbytes);rw [hr2] at hr;injection hr with hv hw;injection hv with hv;injection hv with hv;injection hv with hv;subst hw hv;have hc:=(heap_alloc_new w.drew _).symm.trans hc;injection hc with hc;injection hc with hc;subst hc;rw [Array.mem_append,Array.mem_append] at hx
 rcases hx with (hx|hx)|hx
 ·exact hxu x (by simpa using hx) y
 ·exact hnu x (by simpa using hx) y
 exact hzu x (xGj hx) y
theorem xGb {o:Oper} {a:Act} {K:Act->World->Prop} {Q:Exit->Act->World->Prop} (s x:Operand) (t:TypeId)
  (ho:o.op = .call { callee := .builtin .append,args:=#[s,x],argTypes:=#[t,t] })
  (base:Nat) (e:TypeId) (i:TypeInfo) (z:Value) (size bytes:Nat) (ht:P.underlying t=some (.slice e)) (hi:P.info? e=some i) (hz:i.zero=some z)
  (hsize:i.size=size) (hby:i.bytes=bytes) (hzs:z.cells.size=size) (hsz:0<size)
  (v:Value) (n:Nat) (xs:List Value) (hs:a.eval s=v) (hown:w.ownsRow base e size v n xs)
  (ad:Addr) (m c:Nat) (news:List Value) (hx:a.eval x = .slice (some ad) m c) (hl:news.length=m*size) (hnews:∀ j u,news[j]? = some u->w.cell? (ad.add j)=some u) (h1:∀ u∈news,u.oneCell'=true)
  (hm:0<m) (h63:n+m<=maxLen) (hbytes:(n+m)*bytes<=140737488355328) (hbase:base<=w.heap.size) (hcl:NoU w v) (hzu:∀ x∈z.cells,∀ y,x ≠ .int .u64 y) (hnu:∀ x∈news,∀ y,x ≠ .int .u64 y)
  (h:∀ g cap w',w'.ownsRow base e size (.slice (some ⟨g,0,none⟩) (n+m) cap) (n+m) (xs++news)->w.grownBy w' v.ownBlock->NoU w' (.slice (some ⟨g,0,none⟩) (n+m) cap)->K (a.put o.dst (.slice (some ⟨g,0,none⟩) (n+m) cap)) w'):Oper.wp P o a w K Q:=by
 obtain ⟨g,cap,w',hr,h2,h3,h4⟩:=zYf (P:=P) w t o.type base e i z size bytes ht hi hz hsize hby hzs hsz v n xs hown ad m c news hl hnews h1 hm h63 hbytes hbase hcl hzu hnu;unfold Oper.wp execOp;simp only [ho,resolve,invoke,builtin,Sem.run_bind,Sem.run_pure,Result.andThen_ok,List.map_toArray,List.map_cons,List.map_nil,hs,hx,hr];exact h g cap w' h2 h3 h4
theorem xFv {ops:Array Oper} {rest:List Oper} {o:Oper} {a:Act} {Q:Exit->Act->World->Prop} (hgd:o.guard=none) (s x:Operand) (t:TypeId)
  (ho:o.op = .call { callee := .builtin .append,args:=#[s,x],argTypes:=#[t,t] })
  (base:Nat) (e:TypeId) (i:TypeInfo) (z:Value) (size bytes:Nat) (ht:P.underlying t=some (.slice e)) (hi:P.info? e=some i) (hz:i.zero=some z)
  (hsize:i.size=size) (hby:i.bytes=bytes) (hzs:z.cells.size=size) (hsz:0<size)
  (v:Value) (n:Nat) (xs:List Value) (hs:a.eval s=v) (hown:w.ownsRow base e size v n xs)
  (ad:Addr) (m c:Nat) (news:List Value) (hx:a.eval x = .slice (some ad) m c) (hl:news.length=m*size) (hnews:∀ j u,news[j]? = some u->w.cell? (ad.add j)=some u) (h1:∀ u∈news,u.oneCell'=true)
  (hm:0<m) (h63:n+m<=maxLen) (hbytes:(n+m)*bytes<=140737488355328) (hbase:base<=w.heap.size) (hcl:NoU w v) (hzu:∀ x∈z.cells,∀ y,x ≠ .int .u64 y) (hnu:∀ x∈news,∀ y,x ≠ .int .u64 y)
  (h:∀ g cap w',w'.ownsRow base e size (.slice (some ⟨g,0,none⟩) (n+m) cap) (n+m) (xs++news)->w.grownBy w' v.ownBlock->NoU w' (.slice (some ⟨g,0,none⟩) (n+m) cap)->wpList P ops Q rest (a.put o.dst (.slice (some ⟨g,0,none⟩) (n+m) cap)) w') :
  wpList P ops Q (o::rest) a w :=
 wpList_plain hgd fun _ hK=>xGb w s x t ho base e i z size bytes ht hi hz hsize hby hzs hsz v n xs hs hown ad m c news hx hl hnews h1 hm h63 hbytes hbase hcl hzu hnu fun g cap w' h2 h3 h4=>hK _ _ (h g cap w' h2 h3 h4)
theorem xAy {ops:Array Oper} {o:Oper} {a:Act} {K:Act->World->Prop} {Q:Exit->Act->World->Prop} {E:Prop} (hgd:o.guard=none) (s x:Operand) (t:TypeId)
  (ho:o.op = .call { callee := .builtin .append,args:=#[s,x],argTypes:=#[t,t] })
  (base:Nat) (e:TypeId) (i:TypeInfo) (z:Value) (size bytes:Nat) (ht:P.underlying t=some (.slice e)) (hi:P.info? e=some i) (hz:i.zero=some z)
  (hsize:i.size=size) (hby:i.bytes=bytes) (hzs:z.cells.size=size) (hsz:0<size)
  (v:Value) (n:Nat) (xs:List Value) (hs:a.eval s=v) (hown:w.ownsRow base e size v n xs)
  (ad:Addr) (m c:Nat) (news:List Value) (hx:a.eval x = .slice (some ad) m c) (hl:news.length=m*size) (hnews:∀ j u,news[j]? = some u->w.cell? (ad.add j)=some u) (h1:∀ u∈news,u.oneCell'=true)
  (hm:0<m) (h63:n+m<=maxLen) (hbytes:(n+m)*bytes<=140737488355328) (hbase:base<=w.heap.size) (hcl:NoU w v) (hzu:∀ x∈z.cells,∀ y,x ≠ .int .u64 y) (hnu:∀ x∈news,∀ y,x ≠ .int .u64 y)
  (h:∀ g cap w',w'.ownsRow base e size (.slice (some ⟨g,0,none⟩) (n+m) cap) (n+m) (xs++news)->w.grownBy w' v.ownBlock->NoU w' (.slice (some ⟨g,0,none⟩) (n+m) cap)->K (a.put o.dst (.slice (some ⟨g,0,none⟩) (n+m) cap)) w') :
  if Region.wanted o (yielded ops a.tmps)=true then Oper.wp P o a w K Q else E:=by
 have hw:Region.wanted o (yielded ops a.tmps)=true:=by simp [Region.wanted,hgd]
 rw [if_pos hw];exact xGb w s x t ho base e i z size bytes ht hi hz hsize hby hzs hsz v n xs hs hown ad m c news hx hl hnews h1 hm h63 hbytes hbase hcl hzu hnu h
end
structure FrV where
 na:Bool
 A:Option Addr
 l:Nat
 c:Nat
 nb:Bool
 A':Option Addr
 l':Nat
 c':Nat
def FrV.val (u:FrV):Value := .agg #[.bool u.na,.slice u.A u.l u.c,.bool u.nb,.slice u.A' u.l' u.c']
def FrV.four (u:FrV):List Value:=[.bool u.na,.slice u.A u.l u.c,.bool u.nb,.slice u.A' u.l' u.c']
def frc (us:List FrV):List Value:=us.flatMap FrV.four
theorem zNp (us:List FrV):(frc us).length=us.length*4:=by
 induction us with
 | nil=>rfl
 | cons a r ih=>simp only [frc,List.flatMap_cons,List.length_append,FrV.four] at *;simp only [List.length_cons,List.length_nil];omega
theorem zNv (us:List FrV) (u:FrV):frc (us++[u])=frc us++u.four:=by simp [frc]
theorem zNo:∀ {us:List FrV} {i:Nat} (h:i<us.length),(frc us)[i*4]? = some (.bool us[i].na)/\(frc us)[i*4+1]? = some (.slice us[i].A us[i].l us[i].c)/\(frc us)[i*4+2]? = some (.bool us[i].nb)/\(frc us)[i*4+3]? = some (.slice us[i].A' us[i].l' us[i].c')
 | a::r,0,_=>⟨rfl,rfl,rfl,rfl⟩
 | a::r,i+1,h=>by
  have:=zNo (us:=r) (i:=i) (by simpa using h);rw [show (i+1)*4=i*4+4 by omega,show i*4+4+1=(i*4+1)+4 by omega,show i*4+4+2=(i*4+2)+4 by omega,show i*4+4+3=(i*4+3)+4 by omega];exact this
theorem zNk {u:FrV}:∀ x∈u.four,x.oneCell'=true:=by intro x hx;simp [FrV.four] at hx;rcases hx with rfl|rfl|rfl|rfl<;>rfl
theorem zNi {u:FrV}:∀ x∈u.four,∀ z,x ≠ .int .u64 z:=by intro x hx z e;subst e;simp [FrV.four] at hx
def zBp (w:World) (us:List FrV) (qs:List Rat):Prop:=us.length=qs.length/\∀ i,(h:i<us.length)->(h2:i<qs.length)->zBo w us[i].val qs[i]
theorem zBp.below {w w':World} {us:List FrV} {qs:List Rat} (h:zBp w us qs) (hb:Below w.heap.size w w'):zBp w' us qs:=⟨h.1,fun i h1 h2=>(h.2 i h1 h2).below hb⟩
theorem zBp.clean {w w':World} {us:List FrV} {qs:List Rat} {v:Value} (h:zBp w us qs) (hc:NoU w v) (hg:w.grownBy w' v.ownBlock):zBp w' us qs:=⟨h.1,fun i h1 h2=>(h.2 i h1 h2).clean hc hg⟩
theorem zBp.nil (w:World):zBp w [] []:=⟨rfl,fun i h=>by simp at h⟩
theorem zBp.push {w:World} {us:List FrV} {qs:List Rat} (h:zBp w us qs) {u:FrV} {q:Rat} (hu:zBo w u.val q):zBp w (us++[u]) (qs++[q]):=by
 refine ⟨by simp [h.1],fun i h1 h2=>?_⟩;rw [List.getElem_append,List.getElem_append];have e:=h.1
 split
 ·rw [dif_pos oMx];exact h.2 i _ _
 rw [dif_neg oMx];simp only [List.length_append,List.length_singleton] at h1
 simpa using hu
theorem NoU.below {w w':World} {v:Value} (h:NoU w v) (hlt:∀ k,v.ownBlock=some k->k<w.heap.size) (hb:Below w.heap.size w w'):NoU w' v :=
 h.kept (row:=none) ⟨hb.os,hb.tape,hb.output,hb.size,fun k hk _=>hb.block k hk⟩ hlt (by rcases hv:v.ownBlock with _|g;exact .inl rfl;exact .inr sMx)
theorem zUm {w w':World} {B e s n:Nat} {v:Value} {xs:List Value} (h:w.ownsRow B e s v n xs) (hb:Below w.heap.size w w'):w'.ownsRow B e s v n xs :=
 h.kept (row:=none) ⟨hb.os,hb.tape,hb.output,hb.size,fun k hk _=>hb.block k hk⟩ (by
  rcases hv:v.ownBlock with _|g
  ·exact .inl rfl
  exact .inr sMx)
theorem Tryz.infoFrac:(Tryz.prog.info? 73).map (fun i=>(i.zero,i.size,i.bytes))=some (some (.agg #[.bool false,.slice none 0 0,.bool false,.slice none 0 0]),4,64):=by kernel_rfl
theorem fz_no:∀ x∈(Value.agg #[.bool false,.slice none 0 0,.bool false,.slice none 0 0]).cells,∀ y,x ≠ .int .u64 y:=by
 intro x hx y e
 subst e
 simp [Value.cells] at hx
def RetFrs (w:World) (qs:List Rat) (e:Ending) (w':World):Prop:=∃ v us,e = .returned v/\w'.ownsRow w.heap.size 73 4 v us.length (frc us)/\NoU w' v/\zBp w' us qs/\Below w.heap.size w w'
theorem zAx (A:oAx) (ss:List ByteArray) (c:Nat) (w:World) (h:zGx w A ss) (hl:ss.length<=1000) (hv:∀ s∈ss,vR s=true) (henv:Env w):Calls Tryz.prog 70 #[.slice A ss.length c] w (RetFrs w (ss.map xDx)):=by
 obtain ⟨i0,hi,hz0,hz1,hz2⟩:=info_parts Tryz.infoFrac;have HS:=oH h;have HV:=oH hv;have HE:=oH henv;clear h hv henv
 go_enter Tryz.func70,Tryz.ntmps70
 go_wp2_with fail
 go_loopw [3,8] (fun v iv wr=>∃ (k:Nat) (us:List FrV),iv = .int .i64 (k:Int)/\k<=ss.length/\us.length=k/\wr.ownsRow w.heap.size 73 4 v k (frc us)/\NoU wr v/\zBp wr us ((ss.take k).map xDx)/\Below w.heap.size w wr) (fun _ iv _=>ss.length-(intOf iv).toNat)
 ·exact ⟨0,[],rfl,oLx,rfl,World.ownsRow_nil _ _ _ _,NoU.nil _ _ _,zBp.nil _,bRx⟩
 obtain ⟨k,us,rfl,hk,hul,hown,hno,hfr,hb⟩:=hrel;have HOWN:=oH hown;have HNO:=oH hno;have HFR:=oH hfr;have HB:=oH hb;have hsz:=hb.size;clear hown hno hfr hb
 by_cases hlt:k<ss.length
 ·obtain ⟨b,off,rfl,hbb,hc⟩:=HS.out (by intro e;subst e;simp at hlt);have hci:=(HB.cell (p:=⟨b,off+k,none⟩) hbb).trans (hc k hlt);have HRD:=oH (FReadS ss[k] wr (HV.out _ (List.getElem_mem hlt)) (HE.below HB.out));have ET:=oH (show (ss.take (k+1)).map xDx=(ss.take k).map xDx++[xDx ss[k]] by rw [List.take_succ_eq_append_getElem hlt,List.map_append];rfl);generalize xDx ss[k]=q at *;generalize ss[k]=s at *;clear hc;go_wp2_with fail;refine HRD.mono ?_;rintro e w2 ⟨v2,rfl,hv2,hb2⟩;have HV2:=oH hv2;have HO2:=oH (zUm HOWN.out hb2);have HN2:=oH (HNO.below (fun k hk=>(HOWN.lt k hk).2) hb2);have HF2:=oH (HFR.below hb2);have HB2:=oH (HB.trans (hb2.mono hsz));have hsz2:=HB2.size;obtain ⟨na,nb,A1,A2,l1,c1,l2,c2,rfl⟩:=hv2.slice;clear hv2 hb2
  go_wp2_with (at_builtin;refine xFv _ rfl _ _ 71 rfl w.heap.size 73 i0 _ 4 64 Tryz.underlying71 hi hz0 hz1 hz2 rfl dCx _ _ _ rfl (HO2.alloc _) ⟨w2.heap.size,0,none⟩ 1 1 (FrV.four ⟨na,A1,l1,c1,nb,A2,l2,c2⟩) rfl rfl (World.news_of_block (cs:=#[.bool na,.slice A1 l1 c1,.bool nb,.slice A2 l2 c2]) (t:=73) (fr:=(0,0)) (heap_alloc_new w2 _)) zNk oMx (by unfold maxLen;omega) oMx (by simp;omega) (HN2.below (fun k hk=>(HO2.lt k hk).2) (bA)) fz_no zNi ?_)
  intro g cap w3 hown3 hgrow3 hcl3
  have HO3:=oH hown3;have HC3:=oH hcl3;have hb3:Below w.heap.size w w3:=(HB2.alloc hsz2 _).grown hgrow3 (by simp;omega) (fun g hg=>(HO2.lt g hg).1);have HB3:=oH hb3;have HF3:=oH (((HF2.below (bA)).clean (HN2.below (fun k hk=>(HO2.lt k hk).2) (bA)) hgrow3).push (u:=⟨na,A1,l1,c1,nb,A2,l2,c2⟩) (q:=q) ((HV2.below (bA)).clean (HN2.below (fun k hk=>(HO2.lt k hk).2) (bA)) hgrow3));clear hown3 hgrow3 hcl3 hb3;go_wp2_with fail;go_roundw
  ·exact ⟨k+1,us++[⟨na,A1,l1,c1,nb,A2,l2,c2⟩],by go_num,oMx,by simp [hul],by rw [zNv];exact HO3.out,HC3.out,by rw [ET.out];exact HF3.out,HB3.out⟩
  simp [intOf];omega
 obtain rfl:k=ss.length:=by omega
 go_wp2_with fail;go_ret
 exact ⟨_,us,rfl,by rw [hul];exact HOWN.out,HNO.out,by have:=HFR.out;rwa [List.take_length] at this,HB.out⟩
theorem zUp {w:World} {B B' e e' s s' n n':Nat} {v v':Value} {xs xs':List Value} (h:w.ownsRow B e s v n xs) (h':w.ownsRow B' e' s' v' n' xs') (hne:e≠e') {g:Nat} (hg:v'.ownBlock=some g):v.ownBlock≠some g:=by
 rcases h.2 with ⟨hv,_⟩|⟨k,cap,cur,hv,hB,hk,_⟩
 ·rw [hv];simp [Value.ownBlock]
 rcases h'.2 with ⟨hv',_⟩|⟨k',cap',cur',hv',hB',hk',_⟩
 ·rw [hv'] at hg;simp [Value.ownBlock] at hg
 rw [hv'] at hg;rw [hv]
 obtain rfl:k'=g:=by simpa [Value.ownBlock] using hg
 intro e2
 obtain rfl:k=k':=by simpa [Value.ownBlock] using e2
 rw [hk] at hk';injection hk' with hk';injection hk' with _ hk';exact hne hk'
structure zGg where
 g:Nat
 cp:Nat
 us:List zCq
def zGg.val (n:Nat) (r:zGg):Value := .slice (some ⟨r.g,0,none⟩) n r.cp
structure zHa (B:Nat) (w:World) (V:Value) (rows:List zGg) (n:Nat) (P:Nat->Nat->Int):Prop where
 o:w.ownsRow B 67 1 V rows.length (rows.map (zGg.val n))
 r:∀ r∈rows,w.ownsRow B 62 2 (r.val n) n (zTd r.us)
 l:∀ r∈rows,r.us.length=n
 nd:(rows.map (·.g)).Nodup
 num:∀ i,(h:i<rows.length)->∀ k,(h2:k<rows[i].us.length)->zBs w rows[i].us[k].val (P i k)
section
variable {B:Nat} {w w':World} {V:Value} {rows:List zGg} {n:Nat} {P:Nat->Nat->Int}
theorem zHa.below (h:zHa B w V rows n P) (hb:Below w.heap.size w w'):zHa B w' V rows n P:=⟨zUm h.o hb,fun r hr=>zUm (h.r r hr) hb,h.l,h.nd,fun i hi k hk=>(h.num i hi k hk).below hb⟩
theorem zHa.cell (h:zHa B w V rows n P) {R c:Nat} (hV:V = .slice (some ⟨R,0,none⟩) rows.length c) {i:Nat} (hi:i<rows.length):w.cell? ⟨R,i,none⟩=some (.slice (some ⟨rows[i].g,0,none⟩) n rows[i].cp):=by
 have ho:=h.o;subst hV;rw [ho.cellAt i oMx]
 simp [zGg.val,hi]
theorem zHa.num_at (h:zHa B w V rows n P) {i k:Nat} (hi:i<rows.length) (hk:k<n):∃ (nb:Bool) (S:oAx) (l c:Nat),w.cell? ⟨rows[i].g,k*2,none⟩=some (.bool nb)/\w.cell? ⟨rows[i].g,k*2+1,none⟩=some (.slice S l c)/\zBs w (.agg #[.bool nb,.slice S l c]) (P i k):=by
 have hr:=h.r _ (List.getElem_mem hi);have hl:=h.l _ (List.getElem_mem hi);have hn:=h.num i hi k oMx;obtain ⟨e1,e2⟩:=zTe (us:=rows[i].us) (i:=k) oMx;refine ⟨_,_,_,_,?_,?_,hn⟩
 ·exact ((World.ownsRow.cellAt (show w.ownsRow B 62 2 (.slice (some ⟨rows[i].g,0,none⟩) n rows[i].cp) n (zTd rows[i].us) from hr) (k*2) oMx)).trans e1
 exact ((World.ownsRow.cellAt (show w.ownsRow B 62 2 (.slice (some ⟨rows[i].g,0,none⟩) n rows[i].cp) n (zTd rows[i].us) from hr) (k*2+1) oMx)).trans e2
theorem zHa.frozen (h:zHa B w V rows n P) {i:Nat} (hi:i<rows.length) (j:Nat):w.frozen? ⟨rows[i].g,j,none⟩=false :=
 World.ownsRow.frozenAt (show w.ownsRow B 62 2 (.slice (some ⟨rows[i].g,0,none⟩) n rows[i].cp) n (zTd rows[i].us) from h.r _ (List.getElem_mem hi)) j
theorem zHa.blk (h:zHa B w V rows n P) {i:Nat} (hi:i<rows.length):B<=rows[i].g/\rows[i].g<w.heap.size:=(h.r _ (List.getElem_mem hi)).lt _ rfl
theorem zHa.store (h:zHa B w V rows n P) {i k:Nat} (hi:i<rows.length) (hk:k<n) {u:zCq} {z:Int} (hu:zBs w u.val z) :
  zHa B ((w.setCell ⟨rows[i].g,k*2,none⟩ (.bool u.nb)).setCell ⟨rows[i].g,k*2+1,none⟩ (.slice u.ad u.l u.c)) V (rows.set i ⟨rows[i].g,rows[i].cp,rows[i].us.set k u⟩) n (fun a b=>if a=i/\b=k then z else P a b) /\
  ∀ v y,zBs w v y->zBs ((w.setCell ⟨rows[i].g,k*2,none⟩ (.bool u.nb)).setCell ⟨rows[i].g,k*2+1,none⟩ (.slice u.ad u.l u.c)) v y:=by
 have hr:w.ownsRow B 62 2 (.slice (some ⟨rows[i].g,0,none⟩) n rows[i].cp) n (zTd rows[i].us):=h.r _ (List.getElem_mem hi);have hl:=h.l _ (List.getElem_mem hi);have hr1:=(hr.stored (k*2) (.bool u.nb)).1;have hg1:=(hr.stored (k*2) (.bool u.nb)).2;have hr2:=(hr1.stored (k*2+1) (.slice u.ad u.l u.c)).1;have hg2:=(hr1.stored (k*2+1) (.slice u.ad u.l u.c)).2;rw [zTh oMx u] at hr2
 have hno1:∀ x∈(zTd rows[i].us).set (k*2) (.bool u.nb),∀ z,x ≠ .int .u64 z:=fun x hx z=>by
  rcases List.mem_or_eq_of_mem_set hx with h1|rfl
  ·exact zTg x h1 z
  intro e;cases e
 have hkeep:∀ v y,zBs w v y->zBs ((w.setCell ⟨rows[i].g,k*2,none⟩ (.bool u.nb)).setCell ⟨rows[i].g,k*2+1,none⟩ (.slice u.ad u.l u.c)) v y:=fun v y hv =>
  (hv.row hr zTg oMx _).row hr1 hno1 oMx _
 have hkept:∀ {e s n':Nat} {v:Value} {xs:List Value},w.ownsRow B e s v n' xs->v.ownBlock≠some rows[i].g->((w.setCell ⟨rows[i].g,k*2,none⟩ (.bool u.nb)).setCell ⟨rows[i].g,k*2+1,none⟩ (.slice u.ad u.l u.c)).ownsRow B e s v n' xs:=fun hx hne =>
  (hx.kept hg1 (.inr hne)).kept hg2 (.inr hne)
 have hlen:(rows.set i ⟨rows[i].g,rows[i].cp,rows[i].us.set k u⟩).length=rows.length:=List.length_set
 have hmap:(rows.set i ⟨rows[i].g,rows[i].cp,rows[i].us.set k u⟩).map (zGg.val n)=rows.map (zGg.val n):=by
  apply List.ext_getElem sMx
  intro a h1 h2
  rw [List.getElem_map,List.getElem_map,List.getElem_set]
  split
  ·rename_i e;subst e;rfl
  rfl
 have hmg:(rows.set i ⟨rows[i].g,rows[i].cp,rows[i].us.set k u⟩).map (·.g)=rows.map (·.g):=by
  apply List.ext_getElem sMx
  intro a h1 h2
  rw [List.getElem_map,List.getElem_map,List.getElem_set]
  split
  ·rename_i e;subst e;rfl
  rfl
 refine ⟨⟨?_,?_,?_,by rw [hmg];exact h.nd,?_⟩,hkeep⟩
 ·rw [hmap,hlen];exact hkept h.o (zUp h.o hr dCx rfl)
 ·intro r hr'
  obtain ⟨a,ha,rfl⟩:=List.getElem_of_mem hr';rw [List.getElem_set]
  split
  ·exact hr2
  rename_i hne
  have ha':a<rows.length:=by simpa using ha
  refine hkept (h.r _ (List.getElem_mem ha')) ?_;have:=(List.pairwise_iff_getElem.1 h.nd)
  have hga:rows[a].g≠rows[i].g:=by
   rcases Nat.lt_or_ge a i with h1|h1
   ·have:=this a i (by simpa using ha') (by simpa using hi) h1
    simpa using this
   have:=this i a (by simpa using hi) (by simpa using ha') oMx
   simpa using Ne.symm (by simpa using this)
  show some rows[a].g≠some rows[i].g
  intro e
  injection e with e;exact hga e
 ·intro r hr'
  rcases List.mem_or_eq_of_mem_set hr' with h1|rfl
  ·exact h.l r h1
  simpa using hl
 intro a ha b hb
 have ha':a<rows.length:=by simpa using ha
 by_cases e:a=i
 ·subst e
  by_cases e2:b=k
  ·subst e2;simp only [List.getElem_set_self,and_self,if_true];exact hkeep _ _ hu
  have hb':b<rows[a].us.length:=by simpa using hb
  have:=hkeep _ _ (h.num a ha' b hb');simp only [e2,and_false,if_false]
  simpa [List.getElem_set,Ne.symm e2] using this
 have hb':b<rows[a].us.length:=by simpa [List.getElem_set,Ne.symm e] using hb
 have:=hkeep _ _ (h.num a ha' b hb');simp only [e,false_and,if_false]
 simpa [List.getElem_set,Ne.symm e] using this
def swr (rows:List zGg) (p r:Nat) (hp:p<rows.length) (hr:r<rows.length):List zGg:=(rows.set p rows[r]).set r rows[p]
theorem xCm (rows:List zGg) (p r:Nat) (hp:p<rows.length) (hr:r<rows.length):(swr rows p r hp hr).length=rows.length:=by simp [swr]
theorem swr_get (rows:List zGg) (p r:Nat) (hp:p<rows.length) (hr:r<rows.length) {i:Nat} (hi:i<rows.length):(swr rows p r hp hr)[i]'(by rw [xCm];exact hi)=rows[sw p r i]'(xCi hp hr hi):=by
 unfold swr;rw [List.getElem_set,List.getElem_set];unfold sw
 by_cases h1:r=i
 ·subst h1
  by_cases h2:r=p
  ·subst h2;simp
  simp [h2]
 by_cases h2:p=i
 ·subst h2;simp [h1]
 simp [h1,h2,Ne.symm h1,Ne.symm h2]
theorem xCn {rows:List zGg} {p r:Nat} {hp:p<rows.length} {hr:r<rows.length} {x:zGg} (h:x∈swr rows p r hp hr):x∈rows:=by
 rcases List.mem_or_eq_of_mem_set h with h1|rfl
 ·rcases List.mem_or_eq_of_mem_set h1 with h2|rfl
  ·exact h2
  exact List.getElem_mem hr
 exact List.getElem_mem hp
theorem zHa.swap {R c:Nat} (h:zHa B w (.slice (some ⟨R,0,none⟩) rows.length c) rows n P) {p r:Nat} (hp:p<rows.length) (hr:r<rows.length) :
  zHa B ((w.setCell ⟨R,p,none⟩ (.slice (some ⟨rows[r].g,0,none⟩) n rows[r].cp)).setCell ⟨R,r,none⟩ (.slice (some ⟨rows[p].g,0,none⟩) n rows[p].cp)) (.slice (some ⟨R,0,none⟩) (swr rows p r hp hr).length c) (swr rows p r hp hr) n (fun i k=>P (sw p r i) k) /\
  ∀ v y,zBs w v y->zBs ((w.setCell ⟨R,p,none⟩ (.slice (some ⟨rows[r].g,0,none⟩) n rows[r].cp)).setCell ⟨R,r,none⟩ (.slice (some ⟨rows[p].g,0,none⟩) n rows[p].cp)) v y:=by
 have ho:=h.o;have hs1:=(ho.stored p (.slice (some ⟨rows[r].g,0,none⟩) n rows[r].cp)).1;have hg1:=(ho.stored p (.slice (some ⟨rows[r].g,0,none⟩) n rows[r].cp)).2;have hs2:=(hs1.stored r (.slice (some ⟨rows[p].g,0,none⟩) n rows[p].cp)).1;have hg2:=(hs1.stored r (.slice (some ⟨rows[p].g,0,none⟩) n rows[p].cp)).2
 have hno:∀ x∈rows.map (zGg.val n),∀ z,x ≠ .int .u64 z:=fun x hx z e=>by
  rw [List.mem_map] at hx;obtain ⟨a,_,e2⟩:=hx;rw [<-e2] at e
  simp [zGg.val] at e
 have hno1:∀ x∈(rows.map (zGg.val n)).set p (.slice (some ⟨rows[r].g,0,none⟩) n rows[r].cp),∀ z,x ≠ .int .u64 z:=fun x hx z=>by
  rcases List.mem_or_eq_of_mem_set hx with h1|rfl
  ·exact hno x h1 z
  intro e;cases e
 have hkeep:∀ v y,zBs w v y->zBs ((w.setCell ⟨R,p,none⟩ (.slice (some ⟨rows[r].g,0,none⟩) n rows[r].cp)).setCell ⟨R,r,none⟩ (.slice (some ⟨rows[p].g,0,none⟩) n rows[p].cp)) v y:=fun v y hv =>
  (hv.row ho hno oMx _).row hs1 hno1 oMx _
 have hmap:((rows.map (zGg.val n)).set p (.slice (some ⟨rows[r].g,0,none⟩) n rows[r].cp)).set r (.slice (some ⟨rows[p].g,0,none⟩) n rows[p].cp)=(swr rows p r hp hr).map (zGg.val n):=by
  unfold swr;rw [List.map_set,List.map_set]
  rfl
 rw [hmap] at hs2;refine ⟨⟨by rw [xCm];exact hs2,fun x hx=>?_,fun x hx=>h.l x (xCn hx),?_,fun i hi k hk=>?_⟩,hkeep⟩
 ·have hx':=h.r x (xCn hx);have hne:=zUp hx' ho dCx rfl;exact (hx'.kept hg1 (.inr hne)).kept hg2 (.inr hne)
 ·have:(swr rows p r hp hr).Perm rows:=List.set_set_perm hp hr;exact (this.map _).nodup_iff.2 h.nd
 have hi':i<rows.length:=by rwa [xCm] at hi
 have e:=swr_get rows p r hp hr hi'
 have hk':k<(rows[sw p r i]'(xCi hp hr hi')).us.length:=by rw [<-e];exact hk
 have:=hkeep _ _ (h.num (sw p r i) (xCi hp hr hi') k hk');simp only [e];exact this
end
end Go.Proofs.YtbjaplppalcmgaaGreatDoor
