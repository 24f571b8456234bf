import Derived.Test.YtbjaplppalcmgaaGreatDoorZMO
set_option maxHeartbeats 16000000
set_option maxRecDepth 100000
set_option linter.unusedVariables false
set_option linter.unusedSimpArgs false
set_option linter.unusedSectionVars false
namespace Go.Proofs.YtbjaplppalcmgaaGreatDoor
open Go.RowKit
def NoI (w:World) (v:Value):Prop:=∀ g cs t fr,v.ownBlock=some g->w.heap[g]? = some (.cells cs t fr)->∀ x∈cs,∀ z,x ≠ .int .i64 z
theorem NoI.nil (w:World) (l c:Nat):NoI w (.slice none l c):=fun g _ _ _ h=>by simp [Value.ownBlock] at h
theorem NoI.kept {w w':World} {v:Value} {row:Option Nat} (h:NoI w v) (hg:w.grownBy w' row) (hlt:∀ k,v.ownBlock=some k->k<w.heap.size) (hne:v.ownBlock=none\/v.ownBlock≠row):NoI w' v:=fun g cs t fr hv hc=>by
 refine h g cs t fr hv ?_
 rw [<-hg.block g (hlt g hv) (by rcases hne with h1|h1; · rw [h1] at hv;cases hv
                                 rw [<-hv];exact h1)]
 exact hc
theorem zJh {w w':World} {A:oAx} {xs:List Nat} {v:Value} (h:zAe .i64 w A xs) (hc:NoI w v) (hg:w.grownBy w' v.ownBlock):zAe .i64 w' A xs:=fun hne=>by
 obtain ⟨b,off,rfl,hb,hcell⟩:=h hne;have hs:=hg.size;refine ⟨b,off,rfl,oMx,fun i hi=>?_⟩;have h0:=hcell i hi;refine (World.cell?_of_block (w:=w) (a:=⟨b,off+i,none⟩) (hg.block b hb fun e=>?_)).trans h0;unfold World.cell? at h0
 rcases ho:w.heap[b]? with _|o
 ·simp [ho] at h0
 cases o with
 | cells cs t fr =>
  simp [ho] at h0
  exact hc b cs t fr e.symm ho _ (Array.mem_of_getElem? h0) _ rfl
 | _=>simp [ho] at h0
theorem zBm.clean {w w':World} {u:Value} {z:Int} {v:Value} (h:zBm w u z) (hc:NoI w v) (hg:w.grownBy w' v.ownBlock):zBm w' u z:=by
 obtain ⟨A,c,e,hl,hx⟩:=h;exact ⟨A,c,e,hl,zJh hx hc hg⟩
theorem zBt.clean {w w':World} {u:Value} {q:Rat} {v:Value} (h:zBt w u q) (hc:NoI w v) (hg:w.grownBy w' v.ownBlock):zBt w' u q:=by
 obtain ⟨na,nb,A,A',l,c,l',c',e,h1,h2⟩:=h;exact ⟨na,nb,A,A',l,c,l',c',e,h1.clean hc hg,h2.clean hc hg⟩
theorem NoI.below {w w':World} {v:Value} (h:NoI w v) (hlt:∀ k,v.ownBlock=some k->k<w.heap.size) (hb:Below w.heap.size w w'):NoI w' v :=
 h.kept (row:=none) ⟨hb.os,hb.tape,hb.output,hb.size,fun k hk _=>hb.block k hk⟩ hlt (by rcases hv:v.ownBlock with _|g;exact .inl rfl;exact .inr sMx)
section
variable {P:Program} (w:World)
theorem zYg (t ty:TypeId) (base:Nat) (e:TypeId) (i:TypeInfo) (z:Value) (size bytes:Nat) (ht:P.underlying t=some (.slice e)) (hi:P.info? e=some i) (hz:i.zero=some z)
  (hsize:i.size=size) (hby:i.bytes=bytes) (hzs:z.cells.size=size) (hsz:0<size)
  (v:Value) (n:Nat) (xs:List Value) (hown:w.ownsRow base e size v n xs)
  (ad:Addr) (m c:Nat) (news:List Value) (hl:news.length=m*size) (hnews:∀ j u,news[j]? = some u->w.cell? (ad.add j)=some u) (h1:∀ u∈news,u.oneCell'=true)
  (hm:0<m) (h63:n+m<=maxLen) (hbytes:(n+m)*bytes<=140737488355328) (hbase:base<=w.heap.size) (hcl:NoI w v) (hzu:∀ x∈z.cells,∀ y,x ≠ .int .i64 y) (hnu:∀ x∈news,∀ y,x ≠ .int .i64 y) :
  ∃ g cap w',(Builtin.append_ #[t,t] ty #[v,.slice (some ad) m c]).run P w = .ok (.slice (some ⟨g,0,none⟩) (n+m) cap) w' /\
   w'.ownsRow base e size (.slice (some ⟨g,0,none⟩) (n+m) cap) (n+m) (xs++news)/\w.grownBy w' v.ownBlock/\NoI w' (.slice (some ⟨g,0,none⟩) (n+m) cap):=by
 obtain ⟨g,cap,w',hr,h2,h3,h4,_⟩:=run_append_lies (P:=P) w t ty base e i z size bytes ht hi hz hsize hby hzs hsz v n xs hown ad m c news hl hnews h1 hm h63 hbytes hbase _ rfl;refine ⟨g,cap,w',hr,h2,h3,?_⟩
 have hsmall:n+m<=9223372036854775807:=by simp only [maxLen] at h63;omega
 subst hsize hby
 have hxu:∀ x∈xs,∀ y,x ≠ .int .i64 y:=fun x hx y he=>by
  rcases hown.2 with ⟨_,h0⟩|⟨g0,cap0,cur,hv,_,hg0,_,_,_,htake⟩
  ·have:=hown.1;rw [h0,Nat.zero_mul] at this;rw [List.eq_nil_of_length_eq_zero this] at hx;cases hx
  rw [<-htake] at hx;exact hcl g0 cur _ _ (by rw [hv];rfl) hg0 x (Array.mem_toList_iff.1 (List.mem_of_mem_take hx)) y he
 intro g1 cs t1 fr hg1 hc x hx y
 obtain rfl:g=g1:=by simpa [Value.ownBlock] using hg1
 rcases hown.2 with ⟨rfl,rfl⟩|⟨g0,cap0,cur,rfl,hb0,hg0,hnc,hcm,hcs,htake⟩
 ·have hr2:=run_append_nil (P:=P) w t ty e i z ht hi hz ad m c news hl hnews hm oMx (by have:=hbytes;rw [Nat.zero_add] at this;omega);rw [hr2] at hr;injection hr with hv hw;injection hv with hv;injection hv with hv;injection hv with hv;subst hw hv;have hc:=(heap_alloc_new w.drew _).symm.trans hc;injection hc with hc;injection hc with hc;subst hc;rw [Array.mem_append] at hx
  rcases hx with hx|hx
  ·exact hnu x (by simpa using hx) y
  exact hzu x (xGj hx) y
 by_cases hroom:n+m<=cap0
 ·have hfit:n*i.size+news.length<=cur.size:=by rw [hl,hcs,<-Nat.add_mul];exact Nat.mul_le_mul_right _ hroom
  have hr2:=run_append_room (P:=P) w t ty e i ht hi g0 n cap0 cur hg0 ad m c news hl hnews h1 hroom hfit;rw [hr2] at hr;injection hr with hv hw;injection hv with hv;injection hv with hv;injection hv with hv;subst hw hv;rw [setRow_heap w g0 cur _ e _ hg0] at hc;injection hc with hc;injection hc with hc;subst hc
  have hx':x∈cur.toList.take (n*i.size)++news++cur.toList.drop (n*i.size+news.length):=by simpa using hx
  rcases List.mem_append.1 hx' with hx'|hx'
  ·rcases List.mem_append.1 hx' with hx'|hx'
   ·exact hcl g0 cur _ _ rfl hg0 x (Array.mem_toList_iff.1 (List.mem_of_mem_take hx')) y
   exact hnu x hx' y
  exact hcl g0 cur _ _ rfl hg0 x (Array.mem_toList_iff.1 (List.mem_of_mem_drop hx')) y
 have holds:∀ j u,xs[j]? = some u->w.cell? ((⟨g0,0,none⟩:Addr).add j)=some u:=hown.cells (g:=g0) rfl;have hr2:=run_append_grow (P:=P) w t ty e i z ht hi hz ⟨g0,0,none⟩ n cap0 xs hown.1 holds ad m c news hl hnews oMx oMx (growslice_fits oMx hbytes);rw [hr2] at hr;injection hr with hv hw;injection hv with hv;injection hv with hv;injection hv with hv;subst hw hv;have hc:=(heap_alloc_new w.drew _).symm.trans hc;injection hc with hc;injection hc with hc;subst hc;rw [Array.mem_append,Array.mem_append] at hx
 rcases hx with (hx|hx)|hx
 ·exact hxu x (by simpa using hx) y
 ·exact hnu x (by simpa using hx) y
 exact hzu x (xGj hx) y
theorem xGc {o:Oper} {a:Act} {K:Act->World->Prop} {Q:Exit->Act->World->Prop} (s x:Operand) (t:TypeId)
  (ho:o.op = .call { callee := .builtin .append,args:=#[s,x],argTypes:=#[t,t] })
  (base:Nat) (e:TypeId) (i:TypeInfo) (z:Value) (size bytes:Nat) (ht:P.underlying t=some (.slice e)) (hi:P.info? e=some i) (hz:i.zero=some z)
  (hsize:i.size=size) (hby:i.bytes=bytes) (hzs:z.cells.size=size) (hsz:0<size)
  (v:Value) (n:Nat) (xs:List Value) (hs:a.eval s=v) (hown:w.ownsRow base e size v n xs)
  (ad:Addr) (m c:Nat) (news:List Value) (hx:a.eval x = .slice (some ad) m c) (hl:news.length=m*size) (hnews:∀ j u,news[j]? = some u->w.cell? (ad.add j)=some u) (h1:∀ u∈news,u.oneCell'=true)
  (hm:0<m) (h63:n+m<=maxLen) (hbytes:(n+m)*bytes<=140737488355328) (hbase:base<=w.heap.size) (hcl:NoI w v) (hzu:∀ x∈z.cells,∀ y,x ≠ .int .i64 y) (hnu:∀ x∈news,∀ y,x ≠ .int .i64 y)
  (h:∀ g cap w',w'.ownsRow base e size (.slice (some ⟨g,0,none⟩) (n+m) cap) (n+m) (xs++news)->w.grownBy w' v.ownBlock->NoI w' (.slice (some ⟨g,0,none⟩) (n+m) cap)->K (a.put o.dst (.slice (some ⟨g,0,none⟩) (n+m) cap)) w'):Oper.wp P o a w K Q:=by
 obtain ⟨g,cap,w',hr,h2,h3,h4⟩:=zYg (P:=P) w t o.type base e i z size bytes ht hi hz hsize hby hzs hsz v n xs hown ad m c news hl hnews h1 hm h63 hbytes hbase hcl hzu hnu;unfold Oper.wp execOp;simp only [ho,resolve,invoke,builtin,Sem.run_bind,Sem.run_pure,Result.andThen_ok,List.map_toArray,List.map_cons,List.map_nil,hs,hx,hr];exact h g cap w' h2 h3 h4
theorem xFw {ops:Array Oper} {rest:List Oper} {o:Oper} {a:Act} {Q:Exit->Act->World->Prop} (hgd:o.guard=none) (s x:Operand) (t:TypeId)
  (ho:o.op = .call { callee := .builtin .append,args:=#[s,x],argTypes:=#[t,t] })
  (base:Nat) (e:TypeId) (i:TypeInfo) (z:Value) (size bytes:Nat) (ht:P.underlying t=some (.slice e)) (hi:P.info? e=some i) (hz:i.zero=some z)
  (hsize:i.size=size) (hby:i.bytes=bytes) (hzs:z.cells.size=size) (hsz:0<size)
  (v:Value) (n:Nat) (xs:List Value) (hs:a.eval s=v) (hown:w.ownsRow base e size v n xs)
  (ad:Addr) (m c:Nat) (news:List Value) (hx:a.eval x = .slice (some ad) m c) (hl:news.length=m*size) (hnews:∀ j u,news[j]? = some u->w.cell? (ad.add j)=some u) (h1:∀ u∈news,u.oneCell'=true)
  (hm:0<m) (h63:n+m<=maxLen) (hbytes:(n+m)*bytes<=140737488355328) (hbase:base<=w.heap.size) (hcl:NoI w v) (hzu:∀ x∈z.cells,∀ y,x ≠ .int .i64 y) (hnu:∀ x∈news,∀ y,x ≠ .int .i64 y)
  (h:∀ g cap w',w'.ownsRow base e size (.slice (some ⟨g,0,none⟩) (n+m) cap) (n+m) (xs++news)->w.grownBy w' v.ownBlock->NoI w' (.slice (some ⟨g,0,none⟩) (n+m) cap)->wpList P ops Q rest (a.put o.dst (.slice (some ⟨g,0,none⟩) (n+m) cap)) w') :
  wpList P ops Q (o::rest) a w :=
 wpList_plain hgd fun _ hK=>xGc w s x t ho base e i z size bytes ht hi hz hsize hby hzs hsz v n xs hs hown ad m c news hx hl hnews h1 hm h63 hbytes hbase hcl hzu hnu fun g cap w' h2 h3 h4=>hK _ _ (h g cap w' h2 h3 h4)
end
theorem zNj {u:FrV}:∀ x∈u.four,∀ z,x ≠ .int .i64 z:=by intro x hx z e;subst e;simp [FrV.four] at hx
theorem zNq {us:List FrV}:∀ u∈frc us,∀ z,u ≠ .int .i64 z:=by
 intro u hu z e
 unfold frc at hu;rw [List.mem_flatMap] at hu;obtain ⟨a, -,h⟩:=hu;exact zNj u h z e
theorem zNw:∀ x∈(Value.agg #[.bool false,.slice none 0 0,.bool false,.slice none 0 0]).cells,∀ y,x ≠ .int .i64 y:=by
 intro x hx y e
 subst e
 simp [Value.cells] at hx
theorem zNt:∀ {us:List FrV} {i:Nat} (_:i<us.length) (u:FrV),((((frc us).set (i*4) (.bool u.na)).set (i*4+1) (.slice u.A u.l u.c)).set (i*4+2) (.bool u.nb)).set (i*4+3) (.slice u.A' u.l' u.c')=frc (us.set i u)
 | a::r,0,_,u=>by simp [frc,FrV.four]
 | a::r,i+1,h,u=>by
  have:=zNt (us:=r) (i:=i) (by simpa using h) u;have e:frc (a::r) = .bool a.na :: .slice a.A a.l a.c :: .bool a.nb :: .slice a.A' a.l' a.c'::frc r:=rfl;have e2:frc ((a::r).set (i+1) u) = .bool a.na :: .slice a.A a.l a.c :: .bool a.nb :: .slice a.A' a.l' a.c'::frc (r.set i u):=rfl;rw [e,e2,<-this,show (i+1)*4=i*4+1+1+1+1 by omega,show i*4+1+1+1+1+1=(i*4+1)+1+1+1+1 by omega,show i*4+1+1+1+1+2=(i*4+2)+1+1+1+1 by omega,show i*4+1+1+1+1+3=(i*4+3)+1+1+1+1 by omega];simp only [List.set_cons_succ]
theorem zBm.row {w:World} {v:Value} {z:Int} {B e s g n c:Nat} {vs:List Value} (h:zBm w v z) (ho:w.ownsRow B e s (.slice (some ⟨g,0,none⟩) n c) n vs) (hn:∀ x∈vs,∀ z,x ≠ .int .i64 z) {j:Nat} (hj:j<n*s) (u:Value):zBm (w.setCell ⟨g,j,none⟩ u) v z:=by
 obtain ⟨A,c,e,hl,hx⟩:=h;exact ⟨A,c,e,hl,hx.row ho hn hj u⟩
theorem zBt.row {w:World} {v:Value} {q:Rat} {B e s g n c:Nat} {vs:List Value} (h:zBt w v q) (ho:w.ownsRow B e s (.slice (some ⟨g,0,none⟩) n c) n vs) (hn:∀ x∈vs,∀ z,x ≠ .int .i64 z) {j:Nat} (hj:j<n*s) (u:Value):zBt (w.setCell ⟨g,j,none⟩ u) v q:=by
 obtain ⟨na,nb,A,A',l,c,l',c',e,h1,h2⟩:=h;exact ⟨na,nb,A,A',l,c,l',c',e,h1.row ho hn hj u,h2.row ho hn hj u⟩
theorem zSi {vs:List Value} {x:Value} {j:Nat} (h:∀ x∈vs,∀ z,x ≠ .int .i64 z) (hx:∀ z,x ≠ .int .i64 z):∀ y∈vs.set j x,∀ z,y ≠ .int .i64 z:=fun y hy z=>by
 rcases List.mem_or_eq_of_mem_set hy with h1|rfl
 ·exact h y h1 z
 exact hx z
structure RwF where
 g:Nat
 cp:Nat
 us:List FrV
def RwF.val (n:Nat) (r:RwF):Value := .slice (some ⟨r.g,0,none⟩) n r.cp
structure TbF (B:Nat) (w:World) (V:Value) (rows:List RwF) (n:Nat) (P:mRx):Prop where
 o:w.ownsRow B 83 1 V rows.length (rows.map (RwF.val n))
 r:∀ r∈rows,w.ownsRow B 87 4 (r.val n) n (frc r.us)
 l:∀ r∈rows,r.us.length=n
 nd:(rows.map (·.g)).Nodup
 num:∀ i,(h:i<rows.length)->∀ k,(h2:k<rows[i].us.length)->zBt w rows[i].us[k].val (P i k)
def put4 (w:World) (g k:Nat) (u:FrV):World:=(((w.setCell ⟨g,k*4,none⟩ (.bool u.na)).setCell ⟨g,k*4+1,none⟩ (.slice u.A u.l u.c)).setCell ⟨g,k*4+2,none⟩ (.bool u.nb)).setCell ⟨g,k*4+3,none⟩ (.slice u.A' u.l' u.c')
section
variable {B:Nat} {w w' w6:World} {V:Value} {rows:List RwF} {n:Nat} {P:mRx}
theorem TbF.below (h:TbF B w V rows n P) (hb:Below w.heap.size w w'):TbF B w' V rows n P:=⟨zUm h.o hb,fun r hr=>zUm (h.r r hr) hb,h.l,h.nd,fun i hi k hk=>(h.num i hi k hk).below hb⟩
theorem TbF.mono {B':Nat} (h:TbF B w V rows n P) (hb:B'<=B):TbF B' w V rows n P:=⟨zUl h.o hb,fun r hr=>zUl (h.r r hr) hb,h.l,h.nd,h.num⟩
theorem TbF.zero (w:World) (B:Nat):TbF B w (.slice none 0 0) [] n P:=⟨World.ownsRow_nil _ _ _ _,fun r h=>(by cases h),fun r h=>(by cases h),List.nodup_nil,fun i h=>absurd h (Nat.not_lt_zero _)⟩
theorem TbF.congr {P':mRx} (h:TbF B w V rows n P) (he:∀ i k,i<rows.length->k<n->P' i k=P i k):TbF B w V rows n P':=⟨h.o,h.r,h.l,h.nd,fun i hi k hk=>by rw [he i k hi (by rw [<-h.l _ (List.getElem_mem hi)];exact hk)];exact h.num i hi k hk⟩
theorem TbF.push {V2:Value} {r:RwF} (h:TbF B w V rows n P) (hl:r.us.length=n) (hr:w.ownsRow B 87 4 (r.val n) n (frc r.us)) (hq:∀ k,(hk:k<r.us.length)->zBt w r.us[k].val (P rows.length k)) (hg:∀ a∈rows,a.g<r.g)
  (hn:NoI w V) (ho:w6.ownsRow B 83 1 V2 (rows.length+1) (rows.map (RwF.val n)++[r.val n])) (hgr:w.grownBy w6 V.ownBlock):TbF B w6 V2 (rows++[r]) n P:=by
 refine ⟨by rw [List.length_append,List.length_singleton,List.map_append,List.map_singleton];exact ho,fun a ha=>?_,fun a ha=>?_,?_,fun i hi k hk=>?_⟩
 ·rcases List.mem_append.1 ha with h1|h1
  ·exact (h.r a h1).kept hgr (zUr (h.r a h1) h.o dCx)
  obtain rfl:=List.mem_singleton.1 h1;exact hr.kept hgr (zUr hr h.o dCx)
 ·rcases List.mem_append.1 ha with h1|h1
  ·exact h.l a h1
  rw [List.mem_singleton.1 h1];exact hl
 ·rw [List.map_append,List.nodup_append];refine ⟨h.nd,by simp,fun a ha b hb e=>?_⟩;obtain ⟨x,hx,rfl⟩:=List.mem_map.1 ha;have:=hg x hx;simp only [List.map_cons,List.map_nil,List.mem_singleton] at hb;omega
 by_cases e:i<rows.length
 ·simp only [List.getElem_append_left e] at hk ⊢;exact (h.num i e k hk).clean hn hgr
 simp only [List.length_append,List.length_singleton] at hi
 obtain rfl:i=rows.length:=by omega
 simp only [List.getElem_append_right lRx,Nat.sub_self,List.getElem_singleton] at hk ⊢;exact (hq k hk).clean hn hgr
theorem TbF.cell {R c:Nat} (h:TbF B w (.slice (some ⟨R,0,none⟩) rows.length c) rows n P) {i:Nat} (hi:i<rows.length):w.cell? ⟨R,i,none⟩=some (.slice (some ⟨rows[i].g,0,none⟩) n rows[i].cp):=by
 rw [h.o.cellAt i oMx]
 simp [RwF.val,hi]
theorem TbF.num_at (h:TbF B w V rows n P) {i k:Nat} (hi:i<rows.length) (hk:k<n):∃ u:FrV,w.cell? ⟨rows[i].g,k*4,none⟩=some (.bool u.na)/\w.cell? ⟨rows[i].g,k*4+1,none⟩=some (.slice u.A u.l u.c)/\w.cell? ⟨rows[i].g,k*4+2,none⟩=some (.bool u.nb)/\w.cell? ⟨rows[i].g,k*4+3,none⟩=some (.slice u.A' u.l' u.c')/\zBt w u.val (P i k):=by
 have hr:w.ownsRow B 87 4 (.slice (some ⟨rows[i].g,0,none⟩) n rows[i].cp) n (frc rows[i].us):=h.r _ (List.getElem_mem hi);have hl:=h.l _ (List.getElem_mem hi);have hn:=h.num i hi k oMx;obtain ⟨e1,e2,e3,e4⟩:=zNo (us:=rows[i].us) (i:=k) oMx;exact ⟨_,(hr.cellAt (k*4) oMx).trans e1,(hr.cellAt (k*4+1) oMx).trans e2,(hr.cellAt (k*4+2) oMx).trans e3,(hr.cellAt (k*4+3) oMx).trans e4,hn⟩
theorem TbF.frozen (h:TbF B w V rows n P) {i:Nat} (hi:i<rows.length) (j:Nat):w.frozen? ⟨rows[i].g,j,none⟩=false :=
 World.ownsRow.frozenAt (show w.ownsRow B 87 4 (.slice (some ⟨rows[i].g,0,none⟩) n rows[i].cp) n (frc rows[i].us) from h.r _ (List.getElem_mem hi)) j
theorem TbF.blk (h:TbF B w V rows n P) {i:Nat} (hi:i<rows.length):B<=rows[i].g/\rows[i].g<w.heap.size:=(h.r _ (List.getElem_mem hi)).lt _ rfl
theorem TbF.store (h:TbF B w V rows n P) {i k:Nat} (hi:i<rows.length) (hk:k<n) {u:FrV} {z:Rat} (hu:zBt w u.val z) :
  TbF B (put4 w rows[i].g k u) V (rows.set i ⟨rows[i].g,rows[i].cp,rows[i].us.set k u⟩) n (fun a b=>if a=i/\b=k then z else P a b) /\
  ∀ v y,zBt w v y->zBt (put4 w rows[i].g k u) v y:=by
 have hr:w.ownsRow B 87 4 (.slice (some ⟨rows[i].g,0,none⟩) n rows[i].cp) n (frc rows[i].us):=h.r _ (List.getElem_mem hi);have hl:=h.l _ (List.getElem_mem hi);obtain ⟨hr1,hg1⟩:=hr.stored (k*4) (.bool u.na);obtain ⟨hr2,hg2⟩:=hr1.stored (k*4+1) (.slice u.A u.l u.c);obtain ⟨hr3,hg3⟩:=hr2.stored (k*4+2) (.bool u.nb);obtain ⟨hr4,hg4⟩:=hr3.stored (k*4+3) (.slice u.A' u.l' u.c');have n0:=zNq (us:=rows[i].us);have n1:=zSi (j:=k*4) n0 (x := .bool u.na) (fun z e=>by cases e);have n2:=zSi (j:=k*4+1) n1 (x := .slice u.A u.l u.c) (fun z e=>by cases e);have n3:=zSi (j:=k*4+2) n2 (x := .bool u.nb) (fun z e=>by cases e)
 have hkeep:∀ v y,zBt w v y->zBt (put4 w rows[i].g k u) v y:=fun v y hv =>
  (((hv.row hr n0 oMx _).row hr1 n1 oMx _).row hr2 n2 oMx _).row hr3 n3 oMx _
 rw [zNt oMx u] at hr4
 have hkept:∀ {e s n':Nat} {v:Value} {xs:List Value},w.ownsRow B e s v n' xs->v.ownBlock≠some rows[i].g->(put4 w rows[i].g k u).ownsRow B e s v n' xs:=fun hx hne =>
  (((hx.kept hg1 (.inr hne)).kept hg2 (.inr hne)).kept hg3 (.inr hne)).kept hg4 (.inr hne)
 have hlen:(rows.set i ⟨rows[i].g,rows[i].cp,rows[i].us.set k u⟩).length=rows.length:=List.length_set
 have hmap:(rows.set i ⟨rows[i].g,rows[i].cp,rows[i].us.set k u⟩).map (RwF.val n)=rows.map (RwF.val n):=by
  apply List.ext_getElem sMx
  intro a h1 h2
  rw [List.getElem_map,List.getElem_map,List.getElem_set]
  split
  ·rename_i e;subst e;rfl
  rfl
 have hmg:(rows.set i ⟨rows[i].g,rows[i].cp,rows[i].us.set k u⟩).map (·.g)=rows.map (·.g):=by
  apply List.ext_getElem sMx
  intro a h1 h2
  rw [List.getElem_map,List.getElem_map,List.getElem_set]
  split
  ·rename_i e;subst e;rfl
  rfl
 refine ⟨⟨?_,?_,?_,by rw [hmg];exact h.nd,?_⟩,hkeep⟩
 ·rw [hmap,hlen];exact hkept h.o (zUp h.o hr dCx rfl)
 ·intro r hr'
  obtain ⟨a,ha,rfl⟩:=List.getElem_of_mem hr';rw [List.getElem_set]
  split
  ·exact hr4
  rename_i hne
  have ha':a<rows.length:=by simpa using ha
  refine hkept (h.r _ (List.getElem_mem ha')) ?_;have:=(List.pairwise_iff_getElem.1 h.nd)
  have hga:rows[a].g≠rows[i].g:=by
   rcases Nat.lt_or_ge a i with h1|h1
   ·have:=this a i (by simpa using ha') (by simpa using hi) h1
    simpa using this
   have:=this i a (by simpa using hi) (by simpa using ha') oMx
   simpa using Ne.symm (by simpa using this)
  show some rows[a].g≠some rows[i].g
  intro e
  injection e with e;exact hga e
 ·intro r hr'
  rcases List.mem_or_eq_of_mem_set hr' with h1|rfl
  ·exact h.l r h1
  simpa using hl
 intro a ha b hb
 have ha':a<rows.length:=by simpa using ha
 by_cases e:a=i
 ·subst e
  by_cases e2:b=k
  ·subst e2;simp only [List.getElem_set_self,and_self,if_true];exact hkeep _ _ hu
  have hb':b<rows[a].us.length:=by simpa using hb
  have:=hkeep _ _ (h.num a ha' b hb');simp only [e2,and_false,if_false]
  simpa [List.getElem_set,Ne.symm e2] using this
 have hb':b<rows[a].us.length:=by simpa [List.getElem_set,Ne.symm e] using hb
 have:=hkeep _ _ (h.num a ha' b hb');simp only [e,false_and,if_false]
 simpa [List.getElem_set,Ne.symm e] using this
end
theorem bel_put4 {w W:World} {B g:Nat} (h:Below B w W) (hg:B<=g) (k:Nat) (u:FrV):Below B w (put4 W g k u):=(((h.setCell (p:=⟨g,k*4,none⟩) hg _).setCell (p:=⟨g,k*4+1,none⟩) hg _).setCell (p:=⟨g,k*4+2,none⟩) hg _).setCell (p:=⟨g,k*4+3,none⟩) hg _
theorem Tryz.infoRF:(Tryz.prog.info? 87).map (fun i=>(i.zero,i.size,i.bytes))=some (some (.agg #[.bool false,.slice none 0 0,.bool false,.slice none 0 0]),4,64):=by kernel_rfl
theorem Tryz.infoRFs:(Tryz.prog.info? 83).map (fun i=>(i.zero,i.size,i.bytes))=some (some (.slice none 0 0),1,24):=by kernel_rfl
theorem sl_noI {A:oAx} {l c:Nat}:∀ x∈([.slice A l c]:List Value),∀ z,x ≠ .int .i64 z:=by intro x hx z e;subst e;simp at hx
theorem nil_noI:∀ x∈(Value.slice none 0 0).cells,∀ z,x ≠ .int .i64 z:=by intro x hx z e;subst e;simp [Value.cells] at hx
def RetTbF (w:World) (m n:Nat) (M:mRx) (e:Ending) (w':World):Prop:=∃ R c rows,e = .returned (.slice (some ⟨R,0,none⟩) m c)/\rows.length=m/\TbF w.heap.size w' (.slice (some ⟨R,0,none⟩) m c) rows n M/\Below w.heap.size w w'
def zGb (w:World) (m n:Nat) (M:mRx) (e:Ending) (w':World):Prop:=∃ R c rows,e = .returned (.slice (some ⟨R,0,none⟩) m c)/\rows.length=m/\TbF w.heap.size w' (.slice (some ⟨R,0,none⟩) m c) rows n M/\(∀ r∈rows,NoI w' (r.val n))/\Below w.heap.size w w'
theorem nor_push {B n:Nat} {w w6:World} {V:Value} {rows:List RwF} {P:mRx} {r:RwF} (h:TbF B w V rows n P) (hn:∀ r∈rows,NoI w (r.val n)) (hr:w.ownsRow B 87 4 (r.val n) n (frc r.us)) (hnr:NoI w (r.val n)) (hg:w.grownBy w6 V.ownBlock):∀ a∈rows++[r],NoI w6 (a.val n):=fun a ha=>by
 rcases List.mem_append.1 ha with h1|h1
 ·exact (hn a h1).kept hg (fun k hk=>((h.r a h1).lt k hk).2) (zUr (h.r a h1) h.o dCx)
 obtain rfl:=List.mem_singleton.1 h1;exact hnr.kept hg (fun k hk=>(hr.lt k hk).2) (zUr hr h.o dCx)
theorem zEq (A:oAx) (rs:List zGh) (c m n:Nat) (M:mRx) (w:World) (h:zCj w A rs) (hmf:zCi rs m n M) (hm1:1<=m) (hm:m<=12) (hn1:1<=n) (hn:n<=12) :
  Calls Tryz.prog 43 #[.slice A m c] w (zGb w m n M):=by
 obtain ⟨i0,hi,hz0,hz1,hz2⟩:=info_parts Tryz.infoRFs;obtain ⟨j0,hj,hy0,hy1,hy2⟩:=info_parts Tryz.infoRF;generalize hQ:zGb w m n M=Q;replace hQ:=oH hQ;have HM:=oH h;have HF:=oH hmf;clear h hmf
 go_enter Tryz.func43,Tryz.ntmps43
 go_wp2_with fail
 go_loopw [3,10] (fun v kv wr=>∃ (rows:List RwF),kv = .int .i64 (rows.length:Int)/\rows.length<=m/\TbF w.heap.size wr v rows n M/\NoI wr v/\(∀ r∈rows,NoI wr (r.val n))/\Below w.heap.size w wr) (fun _ kv _=>m-(intOf kv).toNat)
 ·exact ⟨[],rfl,oLx,TbF.zero _ _,NoI.nil _ _ _,fun r hr=>(by cases hr),bRx⟩
 obtain ⟨rows,rfl,hqn,htab,hno,hnr,hbw⟩:=hrel;obtain ⟨wk,rfl⟩:=nWx wr;obtain ⟨AV,cV,rfl, -⟩:=zUj htab.o;have HT:=oH htab;have HN:=oH hno;have HNR:=oH hnr;have HBW:=oH hbw;have hsz:=hbw.size;clear htab hno hnr hbw
 by_cases hlt:rows.length<m
 ·obtain ⟨b,off,b2,o2,cp,rfl,hb,hb2,hc,hc2⟩:=zRn HM.out HF.out oMx hlt;have k0:=(HBW.cell (p:=⟨b,off+rows.length,none⟩) hb).trans hc;have HC2:=oH hc2
  have x1:(0:Int)<=(rows.length:Int):=by omega
  have x2:(rows.length:Int)<(m:Int):=by omega
  clear hc hc2;go_wp2_with fail
  go_loopw [5,18] (fun v iv wr=>∃ (us:List FrV),iv = .int .i64 (us.length:Int)/\us.length<=n/\(∀ i,(hi:i<us.length)->zBt wr us[i].val (M rows.length i))/\wr.ownsRow wk.heap.size 87 4 v us.length (frc us)/\NoI wr v/\Below wk.heap.size wk wr) (fun _ iv _=>n-(intOf iv).toNat)
  ·exact ⟨[],rfl,oLx,fun i hi=>(by simp at hi),World.ownsRow_nil _ _ _ _,NoI.nil _ _ _,bRx⟩
  obtain ⟨us,rfl,hun,hus,hown,hno,hbq⟩:=hrel;obtain ⟨wq,rfl⟩:=nWx wr;have HUS:=oH hus;have HO:=oH hown;have HNO:=oH hno;have HBQ:=oH hbq;have hszq:=hbq.size
  by_cases hlt2:us.length<n
  ·have k1:=(HBW.cell (p:=⟨b2,o2+us.length,none⟩) hb2).trans (HC2.out us.length hlt2);have k2:=kP hbq k1;have HRD:=oH (zDu (M rows.length us.length) wq (HF.fit _ _ hlt hlt2));generalize hq:M rows.length us.length=q at *;have HQ:=oH hq
   have x3:(0:Int)<=(us.length:Int):=by omega
   have x4:(us.length:Int)<(n:Int):=by omega
   clear hus hown hno hbq k1 hq;go_wp2_with fail;refine HRD.mono ?_;rintro e w2 ⟨v2,rfl,hv2,hb2'⟩;have HV2:=oH hv2;have HO2:=oH (zUm HO.out hb2');have HN2:=oH (HNO.below (fun k hk=>(HO.lt k hk).2) hb2');have HU2:=oH (fun i (hi:i<us.length)=>(HUS.out i hi).below hb2');have HB2:=oH (HBQ.trans (hb2'.mono hszq));have hsz2:=HB2.size;obtain ⟨na,nb,A1,A2,l1,l2,c1,c2,rfl⟩:=hv2.slice;clear hv2 hb2' HO HNO HUS HBQ
   go_wp2_with (at_builtin;refine xFw _ rfl _ _ 83 rfl wk.heap.size 87 j0 _ 4 64 Tryz.underlying83 hj hy0 hy1 hy2 rfl dCx _ _ _ rfl (HO2.alloc _) ⟨w2.heap.size,0,none⟩ 1 1 (FrV.four ⟨na,A1,l1,l2,nb,A2,c1,c2⟩) rfl rfl (World.news_of_block (cs:=#[.bool na,.slice A1 l1 l2,.bool nb,.slice A2 c1 c2]) (t:=87) (fr:=(0,0)) (heap_alloc_new w2 _)) zNk oMx (by unfold maxLen;omega) oMx (by simp;omega) (HN2.below (fun k hk=>(HO2.lt k hk).2) (bA)) zNw zNj ?_)
   intro g cap w3 hown3 hgrow3 hcl3
   have HO3:=oH hown3;have HC3:=oH hcl3;have HB3:=oH ((HB2.alloc hsz2 _).grown hgrow3 (by simp;omega) (fun g hg=>(HO2.lt g hg).1));have HNX:=oH (HN2.below (fun k hk=>(HO2.lt k hk).2) (bRx.alloc lRx (.cells #[.bool na,.slice A1 l1 l2,.bool nb,.slice A2 c1 c2] 87)))
   have HU3:=oH (fun i (hi:i<(us++[(⟨na,A1,l1,l2,nb,A2,c1,c2⟩:FrV)]).length)=>(show zBt w3 (us++[(⟨na,A1,l1,l2,nb,A2,c1,c2⟩:FrV)])[i].val (M rows.length i) by
    by_cases e:i<us.length
    ·simp only [List.getElem_append_left e];exact ((HU2.out i e).below (bA)).clean HNX.out hgrow3
    simp only [List.length_append,List.length_singleton] at hi
    obtain rfl:i=us.length:=by omega
    simp only [List.getElem_append_right lRx,Nat.sub_self,List.getElem_singleton];rw [HQ.out]
    exact (HV2.below (bA)).clean HNX.out hgrow3))
   clear hown3 hgrow3 hcl3 HNX;go_wp2_with fail;go_roundw
   ·exact ⟨us++[⟨na,A1,l1,l2,nb,A2,c1,c2⟩],by simp only [List.length_append,List.length_singleton];go_num,by simp;omega,HU3.out,by rw [zNv,List.length_append];exact HO3.out,HC3.out,HB3.out⟩
   simp [intOf];omega
  have hul:us.length=n:=by omega
  obtain ⟨A5,c5,rfl, -⟩:=zUj hown;rw [hul] at hown;obtain ⟨g5,rfl⟩:=zUi hown oMx;have HUL:=oH hul;have hg5:=hown.lt g5 rfl;have HNEW:=oH (zUl hown hsz);have HMO:=oH (HT.below hbq);have HN5:=oH (HN.below (fun k hk=>(HT.o.lt k hk).2) hbq);have HNR5:=oH (fun r (hr:r∈rows)=>(HNR.out r hr).below (fun k hk=>((HT.r r hr).lt k hk).2) hbq);have HNZ:=oH (show NoI wq (.slice (some ⟨g5,0,none⟩) n c5) by rw [<-hul];exact hno);have HLT:=oH (fun a (ha:a∈rows)=>(show a.g<g5 from by have:=((HT.r a ha).lt a.g rfl).2;omega));have HB5:=oH (HBW.trans (hbq.mono hsz));have hsz5:=HB5.size;clear hus hown hno hbq HO HBQ HNO hul hg5
  go_wp2_with (at_builtin;refine xFw _ rfl _ _ 81 rfl w.heap.size 83 i0 (.slice none 0 0) 1 24 Tryz.underlying81 hi hz0 hz1 hz2 rfl dCx _ _ _ rfl (HMO.o.alloc _) ⟨wq.heap.size,0,none⟩ 1 1 [_] rfl rfl zTu zZu oMx (by unfold maxLen;omega) oMx (by simp;omega) (HN5.below (fun k hk=>(HMO.o.lt k hk).2) (bA)) nil_noI sl_noI ?_)
  intro g cap w6 hown6 hgrow6 hcl6
  have HC6:=oH hcl6;have HB6:=oH (zIl HB5.out hsz5 hgrow6 (fun k hk=>(HMO.o.lt k hk).1));have ha:=(Below.refl wq.heap.size wq).alloc lRx (.cells #[.slice (some ⟨g5,0,none⟩) us.length c5] 83);rw [HUL.out] at ha hgrow6 hown6;have HM6:=oH ((HMO.below ha).push (r:=⟨g5,c5,us⟩) HUL.out (zUm HNEW.out ha) (fun k hk=>(HUS.out k hk).below ha) HLT.out (HN5.below (fun k hk=>(HMO.o.lt k hk).2) ha) hown6 hgrow6);have HNR6:=oH (nor_push (r:=⟨g5,c5,us⟩) (HMO.below ha) (fun r hr=>(HNR5.out r hr).below (fun k hk=>((HMO.r r hr).lt k hk).2) ha) (zUm HNEW.out ha) (HNZ.below (fun k hk=>(HNEW.lt k hk).2) ha) hgrow6);clear hown6 hgrow6 hcl6 ha;go_wp2_with fail;go_roundw
  ·exact ⟨rows++[⟨g5,c5,us⟩],by simp only [List.length_append,List.length_singleton];go_num,by simp;omega,HM6.out,HC6.out,HNR6.out,HB6.out⟩
  simp [intOf];omega
 obtain rfl:rows.length=m:=by omega
 obtain ⟨R,rfl⟩:=zUi HT.o oMx;have HR:=oH (show zGb w rows.length n M (.returned (.slice (some ⟨R,0,none⟩) rows.length cV)) wk from ⟨R,cV,rows,rfl,rfl,HT.out,HNR.out,HBW.out⟩);go_wp2_with fail;rw [<-hQ.out];exact HR.out
theorem zEr (A:oAx) (rs:List zGh) (c m n:Nat) (M:mRx) (w:World) (h:zCj w A rs) (hmf:zCi rs m n M) (hm1:1<=m) (hm:m<=12) (hn1:1<=n) (hn:n<=12) :
  Calls Tryz.prog 43 #[.slice A m c] w (RetTbF w m n M):=by
 refine (zEq A rs c m n M w h hmf hm1 hm hn1 hn).mono ?_;rintro e w' ⟨R,c',rows,he,h1,h2, -,h3⟩;exact ⟨R,c',rows,he,h1,h2,h3⟩
def RetLine (w:World) (n:Nat) (q:Nat->Rat) (e:Ending) (w':World):Prop:=∃ A c ss,e = .returned (.tuple #[.slice A n c,.int .i64 0])/\ss.length=n/\(∀ i,(hi:i<ss.length)->ss[i]=zXl (q i))/\w'.ownsRow w.heap.size 43 1 (.slice A n c) n (sv ss)/\Below w.heap.size w w'
theorem Blk.put4 {W:World} {g x k:Nat} {t:TypeId} {cs:List Value} {u:FrV} (h:Blk W x t cs) (hne:g≠x):Blk (put4 W g k u) x t cs:=(((h.far (p:=⟨g,k*4,none⟩) (Ne.symm hne) _).far (p:=⟨g,k*4+1,none⟩) (Ne.symm hne) _).far (p:=⟨g,k*4+2,none⟩) (Ne.symm hne) _).far (p:=⟨g,k*4+3,none⟩) (Ne.symm hne) _
def upQ (M N:mRx) (i k:Nat):Nat->Nat->Rat:=fun a b=>if a<i\/a=i/\b<k then N a b else M a b
theorem RwF.keep {rows:List RwF} {i xb:Nat} (hi:i<rows.length) (h:∀ r∈rows,r.g<xb) {us:List FrV} {c:Nat}:∀ r∈rows.set i ⟨rows[i].g,c,us⟩,r.g<xb:=fun r hr=>by
 rcases List.mem_or_eq_of_mem_set hr with h1|rfl
 ·exact h r h1
 exact (show rows[i].g<xb from h _ (List.getElem_mem hi))
end Go.Proofs.YtbjaplppalcmgaaGreatDoor
