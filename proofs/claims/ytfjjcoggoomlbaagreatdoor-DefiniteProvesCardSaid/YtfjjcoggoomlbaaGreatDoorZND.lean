import Derived.Test.YtfjjcoggoomlbaaGreatDoorZNA
set_option maxHeartbeats 16000000
set_option maxRecDepth 100000
set_option linter.unusedVariables false
set_option linter.unusedSimpArgs false
set_option linter.unusedSectionVars false
namespace Go.Proofs.YtfjjcoggoomlbaaGreatDoor
open Go.RowKit
def zCe (w:World) (g:Nat) (t:TypeId):Prop:=∃ cs,w.heap[g]? = some (.cells cs t (0,0))
section
variable {w w':World} {g:Nat} {t t':TypeId}
theorem Blk.ty {cs:List Value} (h:Blk w g t cs):zCe w g t:=⟨_,h⟩
theorem zCe.lt (h:zCe w g t):g<w.heap.size:=by
 obtain ⟨cs,h⟩:=h
 rcases Nat.lt_or_ge g w.heap.size with h1|h1
 ·exact h1
 rw [Array.getElem?_eq_none h1] at h;cases h
theorem zCe.same (h:zCe w g t) (e:w'.heap[g]? = w.heap[g]?):zCe w' g t:=by
 obtain ⟨cs,h⟩:=h;exact ⟨cs,e.trans h⟩
theorem zCe.below (h:zCe w g t) (hb:Below w.heap.size w w'):zCe w' g t:=h.same (hb.block g h.lt)
theorem zCe.alloc (h:zCe w g t) (o:Obj):zCe (w.alloc o) g t:=h.below (bRx.alloc lRx o)
theorem zCe.drew (h:zCe w g t):zCe w.drew g t:=h
theorem zCe.new (w:World) (cs:Array Value) (t:TypeId):zCe (w.alloc (.cells cs t)) w.heap.size t:=⟨cs,heap_alloc_new w _⟩
theorem zCe.new' (w:World) (cs:Array Value) (t:TypeId) (h:w.heap.size=g):zCe (w.alloc (.cells cs t)) g t:=h▸zCe.new w cs t
theorem zCe.set (h:zCe w g t) (b o:Nat) (u:Value):zCe (w.setCell ⟨b,o,none⟩ u) g t:=by
 obtain ⟨cs,h⟩:=h
 by_cases e:g=b
 ·subst e;refine ⟨cs.setIfInBounds o u,?_⟩
  simp [World.setCell,Array.getElem?_modify,h]
 exact ⟨cs,(Below.heap_setCell w ⟨b,o,none⟩ u g e).trans h⟩
theorem zCe.ne {g':Nat} (h:zCe w g t) (h':zCe w g' t') (hne:t≠t'):g≠g':=by
 rintro rfl;obtain ⟨cs,h⟩:=h;obtain ⟨cs',h'⟩:=h';rw [h] at h';injection h' with h';injection h' with _ h';exact hne h'
theorem zCe.fr (h:zCe w g t) (i:Nat):w.frozen? ⟨g,i,none⟩=false:=by
 obtain ⟨cs,h⟩:=h
 simp [World.frozen?,h]
theorem zVz {B e s n c k:Nat} {vs:List Value} (h:w.ownsRow B e s (.slice (some ⟨g,0,none⟩) n c) k vs):zCe w g e:=by
 rcases h.2 with ⟨h1,_⟩|⟨g',cap,cur,hv,_,hg,_⟩
 ·cases h1
 injection hv with h1 h2 h3;injection h1 with h1;injection h1 with h1;subst h1;exact ⟨cur,hg⟩
theorem zVx {B e s n:Nat} {v:Value} {vs:List Value} (h:w.ownsRow B e s v n vs) (hk:∀ g,v.ownBlock=some g->w'.heap[g]? = w.heap[g]?):w'.ownsRow B e s v n vs:=by
 refine ⟨h.1,?_⟩
 rcases h.2 with h1|⟨g',cap,cur,rfl,h1,h2,h3⟩
 ·exact .inl h1
 exact .inr ⟨g',cap,cur,rfl,h1,(hk g' rfl).trans h2,h3⟩
end
structure zAb (w:World) (g:Nat) (t:TypeId) (cs:List Value):Prop where
 ty:zCe w g t
 cel:∀ i v,cs[i]? = some v->w.cell? ⟨g,i,none⟩=some v
section
variable {w w':World} {g:Nat} {t:TypeId} {cs:List Value}
theorem Blk.boxT (h:Blk w g t cs):zAb w g t cs:=⟨h.ty,fun i v hi=>h.at_ hi⟩
theorem zAb.same (h:zAb w g t cs) (e:w'.heap[g]? = w.heap[g]?):zAb w' g t cs:=⟨h.ty.same e,fun i v hi=>(World.cell?_of_block (w:=w) (a:=⟨g,i,none⟩) e).trans (h.cel i v hi)⟩
theorem zAb.below (h:zAb w g t cs) (hb:Below w.heap.size w w'):zAb w' g t cs:=h.same (hb.block g h.ty.lt)
theorem zAb.far (h:zAb w g t cs) {p:Addr} (hp:g≠p.block) (u:Value):zAb (w.setCell p u) g t cs:=h.same (Below.heap_setCell w p u g hp)
end
def keepT (t:TypeId):Bool:=t==83 || t==141 || t==84 || t==3
structure zGm (B:Nat) (w w':World):Prop where
 bel:Below B w w'
 blk:∀ g t,zCe w g t->keepT t=true->w'.heap[g]? = w.heap[g]?
 num:∀ v z,zCk w v z->zCk w' v z
theorem zGm.of {B:Nat} {w w':World} (h:Below w.heap.size w w') (hB:B<=w.heap.size):zGm B w w':=⟨h.mono hB,fun g t hg _=>h.block g hg.lt,fun v z hv=>hv.below h⟩
theorem zGm.trans {B:Nat} {w w1 w':World} (h:zGm B w w1) (k:zGm B w1 w'):zGm B w w' :=
 ⟨h.bel.trans k.bel,fun g t hg ht=>(k.blk g t (hg.same (h.blk g t hg ht)) ht).trans (h.blk g t hg ht),fun v z hv=>k.num v z (h.num v z hv)⟩
theorem zHa.see {B B' n:Nat} {w w':World} {V:Value} {rows:List zGj} {P:Nat->Nat->Int} (h:zHa B w V rows n P) (k:zGm B' w w'):zHa B w' V rows n P:=by
 refine ⟨zVx h.o fun g hg=>?_,fun r hr=>zVx (h.r r hr) fun g hg=>?_,h.l,h.nd,fun i hi j hj=>k.num _ _ (h.num i hi j hj)⟩
 ·rcases h.o.2 with ⟨h1,_⟩|⟨g',cap,cur,rfl,_,h2,_⟩
  ·rw [h1] at hg;cases hg
  injection hg with hg;subst hg;exact k.blk _ _ ⟨cur,h2⟩ dCx
 injection hg with hg;subst hg;exact k.blk _ _ (zVz (h.r r hr)) dCx
theorem zAb.see {B:Nat} {w w':World} {g:Nat} {t:TypeId} {cs:List Value} (h:zAb w g t cs) (k:zGm B w w') (ht:keepT t=true):zAb w' g t cs:=h.same (k.blk g t h.ty ht)
structure JRule (B:Nat) (J:Nat->World->Prop):Prop where
 below:∀ k W W',J k W->Below W.heap.size W W'->J k W'
 set:∀ k W g j u v,J k W->B<=g->zCe W g 83->W.cell? ⟨g,j,none⟩=some v->(∀ z,v ≠ .int .u64 z)->J k (W.setCell ⟨g,j,none⟩ u)
structure zCx (B n k mb bb kb pb R cR:Nat) (wB:World) (J:World->Prop) (W:World) (rows:List zGj) (P:Nat->Nat->Int) (u v:zDf) (zb zp:Int):Prop where
 tab:zHa B W (.slice (some ⟨R,0,none⟩) rows.length cR) rows n P
 len:rows.length=n
 m:zAb W mb 84 [.slice (some ⟨R,0,none⟩) n cR]
 b:zAb W bb 83 [.bool u.nb,.slice u.ad u.l u.c]
 kk:zAb W kb 3 [.int .i64 (k:Int)]
 p:zAb W pb 83 [.bool v.nb,.slice v.ad v.l v.c]
 hb:zCk W u.val zb
 hp:zCk W v.val zp
 j:J W
 bel:Below B wB W
 B0:B<=wB.heap.size
 bB:∀ r∈rows,r.g≠bb/\r.g≠pb
section
variable {B n k mb bb kb pb R cR:Nat} {wB W W':World} {J:World->Prop} {rows:List zGj} {P:Nat->Nat->Int} {u v:zDf} {zb zp:Int}
theorem zCx.below (h:zCx B n k mb bb kb pb R cR wB J W rows P u v zb zp) (hJ:J W->J W') (hb:Below W.heap.size W W'):zCx B n k mb bb kb pb R cR wB J W' rows P u v zb zp :=
 ⟨h.tab.below hb,h.len,h.m.below hb,h.b.below hb,h.kk.below hb,h.p.below hb,h.hb.below hb,h.hp.below hb,hJ h.j,h.bel.trans (hb.mono (Nat.le_trans h.B0 h.bel.size)),h.B0,h.bB⟩
theorem zCx.store (h:zCx B n k mb bb kb pb R cR wB J W rows P u v zb zp) (hJ:∀ g j x v (W':World),B<=g->zCe W' g 83->W'.cell? ⟨g,j,none⟩=some v->(∀ z,v ≠ .int .u64 z)->J W'->J (W'.setCell ⟨g,j,none⟩ x)) {i j:Nat} (hi:i<rows.length) (hj:j<n) {x:zDf} {z:Int} (hx:zCk W x.val z) :
  zCx B n k mb bb kb pb R cR wB J ((W.setCell ⟨rows[i].g,j*2,none⟩ (.bool x.nb)).setCell ⟨rows[i].g,j*2+1,none⟩ (.slice x.ad x.l x.c)) (rows.set i ⟨rows[i].g,rows[i].cp,rows[i].us.set j x⟩) (fun a b=>if a=i/\b=j then z else P a b) u v zb zp:=by
 obtain ⟨s1,s2⟩:=h.tab.store hi hj hx;have hl:(rows.set i ⟨rows[i].g,rows[i].cp,rows[i].us.set j x⟩).length=rows.length:=List.length_set;have hgt:zCe W rows[i].g 83:=zVz (h.tab.r _ (List.getElem_mem hi));have hgB:=(h.tab.blk hi).1;have hmem:=h.bB _ (List.getElem_mem hi)
 have far:∀ {g:Nat} {t:TypeId} {cs:List Value},zAb W g t cs->g≠rows[i].g->zAb ((W.setCell ⟨rows[i].g,j*2,none⟩ (.bool x.nb)).setCell ⟨rows[i].g,j*2+1,none⟩ (.slice x.ad x.l x.c)) g t cs:=fun hb hne=>(hb.far (p:=⟨rows[i].g,j*2,none⟩) hne _).far (p:=⟨rows[i].g,j*2+1,none⟩) hne _
 refine ⟨by rw [hl];exact s1,by rw [hl];exact h.len,far h.m (h.m.ty.ne hgt dCx),far h.b (Ne.symm hmem.1),far h.kk (h.kk.ty.ne hgt dCx),far h.p (Ne.symm hmem.2),s2 _ _ h.hb,s2 _ _ h.hp,?_,?_,h.B0,fun r hr=>?_⟩
 ·obtain ⟨a0,a1,a2,a3,p1,p2, -⟩:=h.tab.num_at hi hj;exact hJ _ _ _ _ _ hgB (hgt.set _ _ _) (by rw [World.cell?_setCell_other _ _ _ _ sMx];exact p2) (fun z e=>by cases e) (hJ _ _ _ _ _ hgB hgt p1 (fun z e=>by cases e) h.j)
 ·exact (h.bel.setCell (p:=⟨rows[i].g,j*2,none⟩) hgB _).setCell (p:=⟨rows[i].g,j*2+1,none⟩) hgB _
 rcases List.mem_or_eq_of_mem_set hr with h1|rfl
 ·exact h.bB r h1
 exact hmem
end
theorem zCx.next {B n k mb bb kb pb R cR:Nat} {wB W:World} {J:World->Prop} {rows:List zGj} {P:Nat->Nat->Int} {u v:zDf} {zb zp:Int} {G:Nat} (h:zCx B n k mb bb kb pb R cR wB J W rows P u v zb zp) (_hG:∀ r∈rows,r.g<G) (hGb:G<=bb) (hBG:B<=G) (hJ:∀ g j x v (W':World),B<=g->zCe W' g 83->W'.cell? ⟨g,j,none⟩=some v->(∀ z,v ≠ .int .u64 z)->J W'->J (W'.setCell ⟨g,j,none⟩ x)) :
  zHa B ((W.setCell ⟨bb,0,none⟩ (.bool v.nb)).setCell ⟨bb,1,none⟩ (.slice v.ad v.l v.c)) (.slice (some ⟨R,0,none⟩) rows.length cR) rows n P/\zAb ((W.setCell ⟨bb,0,none⟩ (.bool v.nb)).setCell ⟨bb,1,none⟩ (.slice v.ad v.l v.c)) mb 84 [.slice (some ⟨R,0,none⟩) n cR] /\
  zAb ((W.setCell ⟨bb,0,none⟩ (.bool v.nb)).setCell ⟨bb,1,none⟩ (.slice v.ad v.l v.c)) bb 83 [.bool v.nb,.slice v.ad v.l v.c]/\zCk ((W.setCell ⟨bb,0,none⟩ (.bool v.nb)).setCell ⟨bb,1,none⟩ (.slice v.ad v.l v.c)) v.val zp/\J ((W.setCell ⟨bb,0,none⟩ (.bool v.nb)).setCell ⟨bb,1,none⟩ (.slice v.ad v.l v.c))/\Below B wB ((W.setCell ⟨bb,0,none⟩ (.bool v.nb)).setCell ⟨bb,1,none⟩ (.slice v.ad v.l v.c)):=by
 have hB:B<=bb:=by omega
 have b0:=h.b.cel 0 _ rfl;have b1:=h.b.cel 1 _ rfl
 have hnum:∀ y z,zCk W y z->zCk ((W.setCell ⟨bb,0,none⟩ (.bool v.nb)).setCell ⟨bb,1,none⟩ (.slice v.ad v.l v.c)) y z:=fun y z hn =>
  (hn.over b0 zUc.1 _).over (u := .slice u.ad u.l u.c) (by rw [World.cell?_setCell_other _ _ _ _ sMx];exact b1) zUc.2 _
 have hoth:∀ g,g≠bb->((W.setCell ⟨bb,0,none⟩ (.bool v.nb)).setCell ⟨bb,1,none⟩ (.slice v.ad v.l v.c)).heap[g]? = W.heap[g]? := fun g hg =>
  (Below.heap_setCell _ ⟨bb,1,none⟩ _ g hg).trans (Below.heap_setCell _ ⟨bb,0,none⟩ _ g hg)
 have hRb:R≠bb:=(zVz h.tab.o).ne h.b.ty dCx;refine ⟨⟨zVx h.tab.o fun g hg=>?_,fun r hr=>zVx (h.tab.r r hr) fun g hg=>?_,h.tab.l,h.tab.nd,fun i hi j hj=>hnum _ _ (h.tab.num i hi j hj)⟩,h.m.same (hoth _ (h.m.ty.ne h.b.ty dCx)),?_,hnum _ _ h.hp,hJ _ _ _ _ _ hB (h.b.ty.set _ _ _) (by rw [World.cell?_setCell_other _ _ _ _ sMx];exact b1) (fun z e=>by cases e) (hJ _ _ _ _ _ hB h.b.ty b0 (fun z e=>by cases e) h.j),(h.bel.setCell (p:=⟨bb,0,none⟩) hB _).setCell (p:=⟨bb,1,none⟩) hB _⟩
 ·injection hg with hg;subst hg;exact hoth _ hRb
 ·injection hg with hg;subst hg;exact hoth _ (h.bB r hr).1
 refine ⟨(h.b.ty.set _ _ _).set _ _ _,fun i x hx=>?_⟩
 match i,hx with
 | 0,hx =>
  injection hx with hx;rw [World.cell?_setCell_other _ _ _ _ sMx,<-hx]
  go_simp
 | 1,hx =>
  injection hx with hx;rw [<-hx]
  have:(W.setCell ⟨bb,0,none⟩ (.bool v.nb)).cell? ⟨bb,1,none⟩=some (.slice u.ad u.l u.c):=by rw [World.cell?_setCell_other _ _ _ _ sMx];exact b1
  go_simp
 | i+2,hx=>cases hx
theorem zQf {N:Nat->Nat->Int}:∀ {k:Nat},(∀ t,t<k->0<(zQb N t).1 t t)->(zQb N k).2≠0
 | 0,_=>by show (1:Int)≠0;decide
 | k+1,h=>by
  have:=h k oMx
  show (zQb N k).1 k k≠0
  omega
theorem zCx.congr {B n k mb bb kb pb R cR:Nat} {wB W:World} {J:World->Prop} {rows:List zGj} {P P':Nat->Nat->Int} {u v:zDf} {zb zp:Int} (h:zCx B n k mb bb kb pb R cR wB J W rows P u v zb zp) (e:∀ i j,i<n->j<n->P' i j=P i j):zCx B n k mb bb kb pb R cR wB J W rows P' u v zb zp :=
 ⟨⟨h.tab.o,h.tab.r,h.tab.l,h.tab.nd,fun i hi j hj=>by rw [e i j (by have:=h.len;omega) (by have:=h.tab.l _ (List.getElem_mem hi);omega)];exact h.tab.num i hi j hj⟩,h.len,h.m,h.b,h.kk,h.p,h.hb,h.hp,h.j,h.bel,h.B0,h.bB⟩
def zPv (N:Nat->Nat->Int) (k i j:Nat):Nat->Nat->Int:=fun a b=>if k<a/\k<b/\(a<i\/a=i/\b<j) then (zQb N (k+1)).1 a b else (zQb N k).1 a b
theorem zPz (N:Nat->Nat->Int) (k:Nat):zPv N k (k+1) (k+1)=(zQb N k).1:=by
 funext a b
 unfold zPv;rw [if_neg oMx]
theorem zPy (N:Nat->Nat->Int) (k i n:Nat):∀ a b,b<n->zPv N k (i+1) (k+1) a b=zPv N k i n a b:=fun a b hb=>by
 unfold zPv
 by_cases h:k<a/\k<b/\(a<i+1\/a=i+1/\b<k+1)
 ·rw [if_pos h,if_pos oMx]
 rw [if_neg h,if_neg oMx]
theorem zPw (N:Nat->Nat->Int) (k n:Nat):∀ a b,a<n->zPv N k n (k+1) a b=(zQb N (k+1)).1 a b:=fun a b ha=>by
 unfold zPv
 by_cases h:k<a/\k<b
 ·rw [if_pos ⟨h.1,h.2,.inl ha⟩]
 rw [if_neg oMx]
 show _=if k<a/\k<b then _ else _
 rw [if_neg h]
theorem zQa (N:Nat->Nat->Int) (k i j:Nat) (hi:k<i) (hj:k<j):(fun a b=>if a=i/\b=j then (zQb N (k+1)).1 i j else zPv N k i j a b)=zPv N k i (j+1):=by
 funext a b
 unfold zPv
 by_cases h:a=i/\b=j
 ·obtain ⟨rfl,rfl⟩:=h;rw [if_pos ⟨rfl,rfl⟩,if_pos oMx]
 rw [if_neg h]
 by_cases h2:k<a/\k<b/\(a<i\/a=i/\b<j)
 ·rw [if_pos h2,if_pos oMx]
 rw [if_neg h2,if_neg oMx]
theorem zPx (N:Nat->Nat->Int) (k i j a b:Nat) (h:¬(a<i\/a=i/\b<j)\/a<=k\/b<=k):zPv N k i j a b=(zQb N k).1 a b:=by
 unfold zPv;rw [if_neg oMx]
structure Kn (B:Nat) (w W:World):Prop where
 bel:Below B w W
 blk:∀ k,k<w.heap.size->W.heap[k]? = w.heap[k]? \/ ∃ t cs,Blk w k t cs/\∀ a∈cs,∀ z,a ≠ .int .u64 z
theorem Kn.refl (B:Nat) (w:World):Kn B w w:=⟨bRx,fun _ _ => .inl rfl⟩
theorem Kn.alloc {B:Nat} {w W:World} (h:Kn B w W) (hB:B<=w.heap.size) (o:Obj):Kn B w (W.alloc o) :=
 ⟨h.bel.alloc (Nat.le_trans hB h.bel.size) o,fun k hk=>by rw [Below.heap_alloc W o k (Nat.lt_of_lt_of_le hk h.bel.size)];exact h.blk k hk⟩
theorem Kn.drew {B:Nat} {w W:World} (h:Kn B w W):Kn B w W.drew:=⟨h.bel.drew,h.blk⟩
theorem Kn.set {B:Nat} {w W:World} (h:Kn B w W) {g:Nat} (hB:B<=g) (hg:w.heap.size<=g\/∃ t cs,Blk w g t cs/\∀ a∈cs,∀ z,a ≠ .int .u64 z) (j:Nat) (u:Value):Kn B w (W.setCell ⟨g,j,none⟩ u) :=
 ⟨h.bel.setCell (p:=⟨g,j,none⟩) hB u,fun k hk=>by
  by_cases e:k=g
  ·subst e
   rcases hg with h1|h1
   ·omega
   exact .inr h1
  rw [Below.heap_setCell W ⟨g,j,none⟩ u k e]
  exact h.blk k hk⟩
theorem Kn.num {B:Nat} {w W:World} (h:Kn B w W) {v:Value} {z:Int} (hv:zCk w v z):zCk W v z:=by
 obtain ⟨s,e,A,c,e2,hl,hc⟩:=hv;refine ⟨s,e,A,c,e2,hl,fun hne=>?_⟩;obtain ⟨b,off,rfl,hb,hcell⟩:=hc hne;have hs:=h.bel.size;refine ⟨b,off,rfl,oMx,fun i hi=>?_⟩;have h0:=hcell i hi
 rcases h.blk b hb with h1|⟨t,cs,h1,h2⟩
 ·exact (World.cell?_of_block (w:=w) (a:=⟨b,off+i,none⟩) h1).trans h0
 rw [h1.cell] at h0;exact (h2 _ (List.mem_of_getElem? h0) _ rfl).elim
theorem zAb.one {w:World} {g:Nat} {t:TypeId} {a:Value} (h:zCe w g t) (h0:w.cell? ⟨g,0,none⟩=some a):zAb w g t [a]:=⟨h,fun i v hi=>by
 match i,hi with
 | 0,hi=>injection hi with hi;rw [<-hi];exact h0
 | i+1,hi=>cases hi⟩
theorem zAb.two {w:World} {g:Nat} {t:TypeId} {a b:Value} (h:zCe w g t) (h0:w.cell? ⟨g,0,none⟩=some a) (h1:w.cell? ⟨g,1,none⟩=some b):zAb w g t [a,b]:=⟨h,fun i v hi=>by
 match i,hi with
 | 0,hi=>injection hi with hi;rw [<-hi];exact h0
 | 1,hi=>injection hi with hi;rw [<-hi];exact h1
 | i+2,hi=>cases hi⟩
def zCw (N:Nat->Nat->Int) (n:Nat) (J:Nat->World->Prop) (B:Nat) (wB:World) (e:Ending) (w':World):Prop :=
 ∃ k,k<=n/\(∀ t,t<k->0<(zQb N t).1 t t)/\(k<n->¬0<(zQb N k).1 k k)/\e = .returned (.int .i64 (k:Int))/\J k w'/\Below B wB w'
def LeadO (w:World) (V:Value) (p5 p6:Value) (wc:World):Prop:=∃ (mb bb:Nat) (u:zDf),p5 = .pointer (some ⟨mb,0,none⟩)/\p6 = .pointer (some ⟨bb,0,none⟩)/\zAb wc mb 84 [V]/\zAb wc bb 83 [.bool u.nb,.slice u.ad u.l u.c]/\zCk wc u.val 1/\w.heap.size<=mb/\w.heap.size<=bb/\Below w.heap.size w wc
theorem zQg {w w2 wc:World} {V:Value} {mb bb:Nat} {u:zDf} (h1:zAb wc mb 84 [V]) (h2:zAb wc bb 83 [.bool u.nb,.slice u.ad u.l u.c]) (hn:zCk w2 u.val 1) (hB:Below w.heap.size w w2) (h3:w.heap.size<=mb) (h4:w.heap.size<=bb) (hk:Kn w.heap.size w2 wc):LeadO w V (.pointer (some ⟨mb,0,none⟩)) (.pointer (some ⟨bb,0,none⟩)) wc :=
 ⟨mb,bb,u,rfl,rfl,h1,h2,hk.num hn,h3,h4,hB.trans hk.bel⟩
theorem two_far {w:World} {g a b:Nat} {x y v:Value} (h:w.cell? ⟨g,a,none⟩=some v) (h1:a≠b) (h2:a≠b+1):((w.setCell ⟨g,b,none⟩ x).setCell ⟨g,b+1,none⟩ y).cell? ⟨g,a,none⟩=some v:=by
 rw [World.cell?_setCell_other _ _ _ _ (by simp [h2,Ne.symm h2]),World.cell?_setCell_other _ _ _ _ (by simp [h1,Ne.symm h1])];exact h
theorem xIc:∀ a∈[Value.slice none 0 0],∀ z,a ≠ .int .u64 z:=fun a ha z e=>by simp at ha;subst ha;cases e
theorem xHw:∀ a∈[Value.bool false,.slice none 0 0],∀ z,a ≠ .int .u64 z:=fun a ha z e=>by simp at ha;rcases ha with rfl|rfl<;>cases e
theorem Col_any (mb kb R cR n i k B:Nat) (rows:List zGj) (P:Nat->Nat->Int) (w:World) (h:zHa B w (.slice (some ⟨R,0,none⟩) rows.length cR) rows n P) (hl:rows.length=n) (hm:w.cell? ⟨mb,0,none⟩=some (.slice (some ⟨R,0,none⟩) n cR)) (hk:w.cell? ⟨kb,0,none⟩=some (.int .i64 (k:Int))) (hi:i<n) (hkn:k<n) :
  Calls Tryz.prog 121 #[.int .i64 (i:Int),.pointer (some ⟨mb,0,none⟩),.pointer (some ⟨kb,0,none⟩)] w (zFw w (P i k)):=by
 have hi':i<rows.length:=by omega
 obtain ⟨z0,z1,z2,z3,p1,p2,hz⟩:=h.num_at hi' hkn;have p3:=h.cell rfl hi';have HZ:=oH hz;generalize rows[i].g=rg at *;generalize rows[i].cp=rc at *;have hbl:Below w.heap.size w (w.alloc (.cells #[.bool false,.slice none 0 0] 83)).drew:=bA.drew;have KB:=oH (fun W' (hW:Below w.heap.size w W')=>(show W'.cell? ⟨mb,0,none⟩=some (.slice (some ⟨R,0,none⟩) n cR)/\W'.cell? ⟨R,i,none⟩=some (.slice (some ⟨rg,0,none⟩) n rc)/\W'.cell? ⟨kb,0,none⟩=some (.int .i64 (k:Int))/\W'.cell? ⟨rg,k*2,none⟩=some (.bool z0)/\W'.cell? ⟨rg,k*2+1,none⟩=some (.slice z1 z2 z3) from ⟨kP hW hm,kP hW p3,kP hW hk,kP hW p1,kP hW p2⟩));have KSz:=oH (KB.out _ hbl)
 have i1:(0:Int)<=(i:Int):=by omega
 have i2:(i:Int)<(n:Int):=by omega
 have i3:(0:Int)<=(k:Int):=by omega
 have i4:(k:Int)<(n:Int):=by omega
 generalize P i k=z at *;clear hm hk p1 p2 p3 hz h hl hi' hbl
 go_enter Tryz.func121,Tryz.ntmps121
 go_wp2_with fail;refine xHt (S:=(fun w'=>w'.cell? ⟨mb,0,none⟩=some (.slice (some ⟨R,0,none⟩) n cR)/\w'.cell? ⟨R,i,none⟩=some (.slice (some ⟨rg,0,none⟩) n rc)/\w'.cell? ⟨kb,0,none⟩=some (.int .i64 (k:Int))/\w'.cell? ⟨rg,k*2,none⟩=some (.bool z0)/\w'.cell? ⟨rg,k*2+1,none⟩=some (.slice z1 z2 z3))) 7 (by kernel_rfl) rfl (by kernel_rfl) (by kernel_rfl) rfl (by exact KSz.out) (fun hHeld=>?_);simp only [List.pop_toArray,List.dropLast_cons_cons,List.dropLast_singleton];refine tkH 0 ?_;refine tkH 1 ?_;refine tkH 2 ?_;refine tkH 3 ?_;refine tkH 4 ?_;refine tkH 5 ?_;refine tkH 6 ?_
 try simp only [Act.put,tkA,tkB,tkC]
 refine wpAnyH_done (by kernel_rfl) ?_ _;simp only [xEe,List.getElem_toArray,List.getElem_cons_succ,List.getElem_cons_zero];go_wp2_with fail;have hK:=Blk.new w 83 [.bool z0,.slice z1 z2 z3];have c0:=hK.at_ (i:=0) rfl;have c1:=hK.at_ (i:=1) rfl;refine bodyPost_ret (v := .agg #[.bool z0,.slice z1 z2 z3]) ?_ rfl ⟨_,rfl,HZ.below ?_,?_⟩
 ·simp [results,Tryz.results121,go_sem,c0,c1]
 ·first|exact bA|exact bA.drew
 first|exact bA|exact bA.drew
theorem zQj (fid:FuncId) (caps:Array Value) (hfid:∀ args W,(callFunc fid args).run Tryz.prog W = .ok (.enter fid args) W) (J:Nat->World->Prop) (dv:zDf) (AR:oAx) (cR n:Nat) (rows:List zGj) (N:Nat->Nat->Int) (wB w:World) (B:Nat) (hB:B<=wB.heap.size) (hBw:Below B wB w) (h:zHa B w (.slice AR rows.length cR) rows n N) (hlen:rows.length=n) (hn:n<=12) (hL:∀ i j,i<n->j<n->LL (N i j)<=70) (hJ:JRule B J) (hJ0:J 0 w)
  (hsee:∀ (k:Nat) (W:World) (mb kb:Nat) (rows':List zGj) (v u:zDf),k<n->J k W->Below B wB W->(∀ t,t<k->0<(zQb N t).1 t t)->0<(zQb N k).1 k k->zCk W v.val ((zQb N k).1 k k)->zCk W u.val (zQb N k).2->zHa B W (.slice AR rows'.length cR) rows' n (zQb N k).1->rows'.length=n->W.cell? ⟨mb,0,none⟩=some (.slice AR n cR)->W.cell? ⟨kb,0,none⟩=some (.int .i64 (k:Int))->zCe W mb 84->zCe W kb 3 ->
   Calls Tryz.prog fid (#[.int .i64 (k:Int),.agg #[.bool v.nb,.slice v.ad v.l v.c],.agg #[.bool u.nb,.slice u.ad u.l u.c],.func (.func 121) #[] #[.pointer (some ⟨mb,0,none⟩),.pointer (some ⟨kb,0,none⟩)]]++caps) W fun e W'=>e = .returned (.tuple #[])/\J (k+1) W'/\zGm B W W') :
  Calls Tryz.prog 55 #[.agg #[.bool dv.nb,.slice dv.ad dv.l dv.c,.slice AR n cR],.func (.func fid) #[] caps] w (zCw N n J B wB):=by
 generalize hQ:zCw N n J B wB=Q;replace hQ:=oH hQ;have hlen2:=zQd hL zCp;have HLE:=oH hlen2;have hbl:Below w.heap.size w (w.alloc (.cells #[.bool dv.nb,.slice dv.ad dv.l dv.c,.slice AR n cR] 86)):=bA;have HX:=oH (Blk.new w 86 [.bool dv.nb,.slice dv.ad dv.l dv.c,.slice AR n cR]);have HT:=oH (h.below hbl);have HJR:=oH hJ;have HJ0:=oH (hJ.below 0 _ _ hJ0 hbl);have HSEE:=oH hsee;have HBW:=oH (hBw.trans (hbl.mono (Nat.le_trans hB hBw.size)));have HRL:=oH hlen;clear h hJ hJ0 hsee hBw hL hlen hbl hlen2
 go_enter Tryz.func55,Tryz.ntmps55
 go_upto_region 1 with (fail);generalize (w.alloc (.cells #[.bool dv.nb,.slice dv.ad dv.l dv.c,.slice AR n cR] 86))=W at *;generalize w.heap.size=x at *;have k2:=HX.at_ (i:=2) rfl;have hxW:=HX.lt;have KB:=oH (fun W' (hW:Below W.heap.size W W')=>(show W'.cell? ⟨x,2,none⟩=some (.slice AR n cR) from kP hW k2))
 go_cut [5,6] (fun p5 p6 wc=>LeadO W (.slice AR n cR) p5 p6 wc)
 case first =>
  have nx0:¬(x=W.heap.size):=by omega
  have nx1:¬(W.heap.size=x):=by omega
  have nx2:¬(x=W.heap.size+1):=by omega
  have nx3:¬(W.heap.size+1=x):=by omega
  skip
  refine xHt (S:=(fun w'=>w'.cell? ⟨x,2,none⟩=some (.slice AR n cR))) 6 (by kernel_rfl) rfl (by kernel_rfl) (by kernel_rfl) rfl (by exact k2) (fun hHeld=>?_);simp only [List.pop_toArray,List.dropLast_cons_cons,List.dropLast_singleton];refine tkH 0 ?_;refine tkH 1 ?_
  try simp only [Act.put,tkA,tkB,tkC]
  refine wpAnyH_ready (rs:=[2,3,4]) (by kernel_rfl) sMx ?_;refine AllReadyH.cons rfl (fun K hK=>?_) ?_
  ·clear hHeld
   (go_simp;go_at_call 114;(with_reducible refine (zCs _).mono ?_);rintro e w5 ⟨v5,rfl,hv,hb⟩;have HV5:=oH hv;have hbw:Below W.heap.size W w5:=Below.trans (by repeat' first|with_reducible exact bRx|(with_reducible refine Below.drew ?_)|(with_reducible refine Below.alloc ?_ leH _)) (hb.mono leH);have HW5:=oH hbw;have sz5:=hbw.size;skip;obtain ⟨x2,X2,y2,z2,rfl⟩:=hv.slice;have q0:=KB.out w5 hbw;clear hv hb hbw)
   go_wp2_with fail;refine hK.out _ _ ?_ (fun hHeld=>?_)
   ·exact KB.out _ bTx
   clear hK K
   try simp only [Act.put,tkA,tkB,tkC]
   refine wpAnyH_ready (rs:=[3,4]) (by kernel_rfl) sMx ?_;refine AllReadyH.cons rfl (fun K hK=>?_) ?_
   ·clear hHeld
    go_simp
    refine hK.out _ _ ?_ (fun hHeld=>?_)
    ·exact KB.out _ bTx
    clear hK K
    try simp only [Act.put,tkA,tkB,tkC]
    refine tkS 4 fun K hK=>?_
    go_simp
    refine hK.out _ _ ?_ (fun hHeld=>?_)
    ·exact KB.out _ bTx
    clear hK K
    try simp only [Act.put,tkA,tkB,tkC]
    refine tkS 5 fun K hK=>?_
    go_simp
    refine hK.out _ _ ?_ (fun hHeld=>?_)
    ·exact KB.out _ bTx
    clear hK K
    try simp only [Act.put,tkA,tkB,tkC]
    refine wpAnyH_done (by kernel_rfl) ?_ _;simp only [xEe,List.getElem_toArray,List.getElem_cons_succ,List.getElem_cons_zero];go_wp2_with fail
    all_goals go_meet
    all_goals
      refine zQg (w2:=w5) (u:=⟨x2,X2,y2,z2⟩) (.one ?_ (by go_simp)) (.two ?_ (by go_simp) (by go_simp)) HV5.out HW5.out (by first|exact lRx|omega|(simp;omega)) (by first|exact lRx|omega|(simp;omega)) ?_
      all_goals
       repeat' first
        | with_reducible exact zCe.new _ _ _
        | exact zCe.new' _ _ _ (by simp;done)
        | with_reducible exact ZM.out.ty
        | with_reducible exact ZB.out.ty
        | (with_reducible refine zCe.set ?_ _ _ _)
        | (with_reducible refine zCe.alloc ?_ _)
        | (with_reducible refine zCe.drew ?_)
        | with_reducible exact Kn.refl _ _
        | (with_reducible refine Kn.set ?_ (by first|exact lRx|omega) (by first|exact .inl (by first|exact lRx|omega)|exact .inr ⟨_,_,ZM.out,xIc⟩|exact .inr ⟨_,_,ZB.out,xHw⟩) _ _)
        | (with_reducible refine Kn.alloc ?_ oMx _)
        | (with_reducible refine Kn.drew ?_)
   refine AllReadyH.cons rfl (fun K hK=>?_) AllReadyH.nil
   go_simp
   refine hK.out _ _ ?_ (fun hHeld=>?_)
   ·exact KB.out _ bTx
   clear hK K
   try simp only [Act.put,tkA,tkB,tkC]
   refine tkS 3 fun K hK=>?_
   go_simp
   refine hK.out _ _ ?_ (fun hHeld=>?_)
   ·exact KB.out _ bTx
   clear hK K
   try simp only [Act.put,tkA,tkB,tkC]
   refine tkS 5 fun K hK=>?_
   go_simp
   refine hK.out _ _ ?_ (fun hHeld=>?_)
   ·exact KB.out _ bTx
   clear hK K
   try simp only [Act.put,tkA,tkB,tkC]
   refine wpAnyH_done (by kernel_rfl) ?_ _;simp only [xEe,List.getElem_toArray,List.getElem_cons_succ,List.getElem_cons_zero];go_wp2_with fail
   all_goals go_meet
   all_goals
     refine zQg (w2:=w5) (u:=⟨x2,X2,y2,z2⟩) (.one ?_ (by go_simp)) (.two ?_ (by go_simp) (by go_simp)) HV5.out HW5.out (by first|exact lRx|omega|(simp;omega)) (by first|exact lRx|omega|(simp;omega)) ?_
     all_goals
      repeat' first
       | with_reducible exact zCe.new _ _ _
       | exact zCe.new' _ _ _ (by simp;done)
       | with_reducible exact ZM.out.ty
       | with_reducible exact ZB.out.ty
       | (with_reducible refine zCe.set ?_ _ _ _)
       | (with_reducible refine zCe.alloc ?_ _)
       | (with_reducible refine zCe.drew ?_)
       | with_reducible exact Kn.refl _ _
       | (with_reducible refine Kn.set ?_ (by first|exact lRx|omega) (by first|exact .inl (by first|exact lRx|omega)|exact .inr ⟨_,_,ZM.out,xIc⟩|exact .inr ⟨_,_,ZB.out,xHw⟩) _ _)
       | (with_reducible refine Kn.alloc ?_ oMx _)
       | (with_reducible refine Kn.drew ?_)
  refine AllReadyH.cons rfl (fun K hK=>?_) ?_
  ·clear hHeld
   go_simp
   refine hK.out _ _ ?_ (fun hHeld=>?_)
   ·exact KB.out _ bTx
   clear hK K
   try simp only [Act.put,tkA,tkB,tkC]
   refine wpAnyH_ready (rs:=[2,4]) (by kernel_rfl) sMx ?_;refine AllReadyH.cons rfl (fun K hK=>?_) ?_
   ·clear hHeld
    (go_simp;go_at_call 114;(with_reducible refine (zCs _).mono ?_);rintro e w5 ⟨v5,rfl,hv,hb⟩;have HV5:=oH hv;have hbw:Below W.heap.size W w5:=Below.trans (by repeat' first|with_reducible exact bRx|(with_reducible refine Below.drew ?_)|(with_reducible refine Below.alloc ?_ leH _)) (hb.mono leH);have HW5:=oH hbw;have sz5:=hbw.size;(have zm:=(Blk.new W 84 [.slice none 0 0]).below (Below.trans bRd (hb.mono leH));have cm:=zm.at_ (i:=0) rfl;have fm0:=zm.fr 0;have sm:=zm.lt;have ZM:=oH zm;clear zm);obtain ⟨x2,X2,y2,z2,rfl⟩:=hv.slice;have q0:=KB.out w5 hbw;clear hv hb hbw)
    go_wp2_with fail;refine hK.out _ _ ?_ (fun hHeld=>?_)
    ·exact KB.out _ bTx
    clear hK K
    try simp only [Act.put,tkA,tkB,tkC]
    refine tkS 4 fun K hK=>?_
    go_simp
    refine hK.out _ _ ?_ (fun hHeld=>?_)
    ·exact KB.out _ bTx
    clear hK K
    try simp only [Act.put,tkA,tkB,tkC]
    refine tkS 5 fun K hK=>?_
    go_simp
    refine hK.out _ _ ?_ (fun hHeld=>?_)
    ·exact KB.out _ bTx
    clear hK K
    try simp only [Act.put,tkA,tkB,tkC]
    refine wpAnyH_done (by kernel_rfl) ?_ _;simp only [xEe,List.getElem_toArray,List.getElem_cons_succ,List.getElem_cons_zero];go_wp2_with fail
    all_goals go_meet
    all_goals
      refine zQg (w2:=w5) (u:=⟨x2,X2,y2,z2⟩) (.one ?_ (by go_simp)) (.two ?_ (by go_simp) (by go_simp)) HV5.out HW5.out (by first|exact lRx|omega|(simp;omega)) (by first|exact lRx|omega|(simp;omega)) ?_
      all_goals
       repeat' first
        | with_reducible exact zCe.new _ _ _
        | exact zCe.new' _ _ _ (by simp;done)
        | with_reducible exact ZM.out.ty
        | with_reducible exact ZB.out.ty
        | (with_reducible refine zCe.set ?_ _ _ _)
        | (with_reducible refine zCe.alloc ?_ _)
        | (with_reducible refine zCe.drew ?_)
        | with_reducible exact Kn.refl _ _
        | (with_reducible refine Kn.set ?_ (by first|exact lRx|omega) (by first|exact .inl (by first|exact lRx|omega)|exact .inr ⟨_,_,ZM.out,xIc⟩|exact .inr ⟨_,_,ZB.out,xHw⟩) _ _)
        | (with_reducible refine Kn.alloc ?_ oMx _)
        | (with_reducible refine Kn.drew ?_)
   refine AllReadyH.cons rfl (fun K hK=>?_) AllReadyH.nil
   go_simp
   refine hK.out _ _ ?_ (fun hHeld=>?_)
   ·exact KB.out _ bTx
   clear hK K
   try simp only [Act.put,tkA,tkB,tkC]
   refine tkS 2 fun K hK=>?_
   (go_simp;go_at_call 114;(with_reducible refine (zCs _).mono ?_);rintro e w5 ⟨v5,rfl,hv,hb⟩;have HV5:=oH hv;have hbw:Below W.heap.size W w5:=Below.trans (by repeat' first|with_reducible exact bRx|(with_reducible refine Below.drew ?_)|(with_reducible refine Below.alloc ?_ leH _)) (hb.mono leH);have HW5:=oH hbw;have sz5:=hbw.size;(have zm:=((Blk.new W 84 [.slice none 0 0]).alloc (.cells #[.bool false,.slice none 0 0] 83)).below (Below.trans bRd (hb.mono leH));have zb:=(Blk.new' (w:=W.alloc (.cells #[.slice none 0 0] 84)) (g:=W.heap.size+1) sMx 83 [.bool false,.slice none 0 0]).below (Below.trans bRd (hb.mono leH));have cm:=zm.at_ (i:=0) rfl;have fm0:=zm.fr 0;have sm:=zm.lt;have ZM:=oH zm;clear zm;have cb:=zb.at_ (i:=0) rfl;have fb0:=zb.fr 0;have sb:=zb.lt;have cb1:=zb.at_ (i:=1) rfl;have fb1:=zb.fr 1;have ZB:=oH zb;clear zb);obtain ⟨x2,X2,y2,z2,rfl⟩:=hv.slice;have q0:=KB.out w5 hbw;clear hv hb hbw)
   go_wp2_with fail;refine hK.out _ _ ?_ (fun hHeld=>?_)
   ·exact KB.out _ bTx
   clear hK K
   try simp only [Act.put,tkA,tkB,tkC]
   refine tkS 5 fun K hK=>?_
   go_simp
   refine hK.out _ _ ?_ (fun hHeld=>?_)
   ·exact KB.out _ bTx
   clear hK K
   try simp only [Act.put,tkA,tkB,tkC]
   refine wpAnyH_done (by kernel_rfl) ?_ _;simp only [xEe,List.getElem_toArray,List.getElem_cons_succ,List.getElem_cons_zero];go_wp2_with fail
   all_goals go_meet
   all_goals
     refine zQg (w2:=w5) (u:=⟨x2,X2,y2,z2⟩) (.one ?_ (by go_simp)) (.two ?_ (by go_simp) (by go_simp)) HV5.out HW5.out (by first|exact lRx|omega|(simp;omega)) (by first|exact lRx|omega|(simp;omega)) ?_
     all_goals
      repeat' first
       | with_reducible exact zCe.new _ _ _
       | exact zCe.new' _ _ _ (by simp;done)
       | with_reducible exact ZM.out.ty
       | with_reducible exact ZB.out.ty
       | (with_reducible refine zCe.set ?_ _ _ _)
       | (with_reducible refine zCe.alloc ?_ _)
       | (with_reducible refine zCe.drew ?_)
       | with_reducible exact Kn.refl _ _
       | (with_reducible refine Kn.set ?_ (by first|exact lRx|omega) (by first|exact .inl (by first|exact lRx|omega)|exact .inr ⟨_,_,ZM.out,xIc⟩|exact .inr ⟨_,_,ZB.out,xHw⟩) _ _)
       | (with_reducible refine Kn.alloc ?_ oMx _)
       | (with_reducible refine Kn.drew ?_)
  refine AllReadyH.cons rfl (fun K hK=>?_) AllReadyH.nil
  go_simp
  refine hK.out _ _ ?_ (fun hHeld=>?_)
  ·exact KB.out _ bTx
  clear hK K
  try simp only [Act.put,tkA,tkB,tkC]
  refine wpAnyH_ready (rs:=[2,3]) (by kernel_rfl) sMx ?_;refine AllReadyH.cons rfl (fun K hK=>?_) ?_
  ·clear hHeld
   (go_simp;go_at_call 114;(with_reducible refine (zCs _).mono ?_);rintro e w5 ⟨v5,rfl,hv,hb⟩;have HV5:=oH hv;have hbw:Below W.heap.size W w5:=Below.trans (by repeat' first|with_reducible exact bRx|(with_reducible refine Below.drew ?_)|(with_reducible refine Below.alloc ?_ leH _)) (hb.mono leH);have HW5:=oH hbw;have sz5:=hbw.size;(have zb:=(Blk.new W 83 [.bool false,.slice none 0 0]).below (Below.trans bRd (hb.mono leH));have cb:=zb.at_ (i:=0) rfl;have fb0:=zb.fr 0;have sb:=zb.lt;have cb1:=zb.at_ (i:=1) rfl;have fb1:=zb.fr 1;have ZB:=oH zb;clear zb);obtain ⟨x2,X2,y2,z2,rfl⟩:=hv.slice;have q0:=KB.out w5 hbw;clear hv hb hbw)
   go_wp2_with fail;refine hK.out _ _ ?_ (fun hHeld=>?_)
   ·exact KB.out _ bTx
   clear hK K
   try simp only [Act.put,tkA,tkB,tkC]
   refine tkS 3 fun K hK=>?_
   go_simp
   refine hK.out _ _ ?_ (fun hHeld=>?_)
   ·exact KB.out _ bTx
   clear hK K
   try simp only [Act.put,tkA,tkB,tkC]
   refine tkS 5 fun K hK=>?_
   go_simp
   refine hK.out _ _ ?_ (fun hHeld=>?_)
   ·exact KB.out _ bTx
   clear hK K
   try simp only [Act.put,tkA,tkB,tkC]
   refine wpAnyH_done (by kernel_rfl) ?_ _;simp only [xEe,List.getElem_toArray,List.getElem_cons_succ,List.getElem_cons_zero];go_wp2_with fail
   all_goals go_meet
   all_goals
     refine zQg (w2:=w5) (u:=⟨x2,X2,y2,z2⟩) (.one ?_ (by go_simp)) (.two ?_ (by go_simp) (by go_simp)) HV5.out HW5.out (by first|exact lRx|omega|(simp;omega)) (by first|exact lRx|omega|(simp;omega)) ?_
     all_goals
      repeat' first
       | with_reducible exact zCe.new _ _ _
       | exact zCe.new' _ _ _ (by simp;done)
       | with_reducible exact ZM.out.ty
       | with_reducible exact ZB.out.ty
       | (with_reducible refine zCe.set ?_ _ _ _)
       | (with_reducible refine zCe.alloc ?_ _)
       | (with_reducible refine zCe.drew ?_)
       | with_reducible exact Kn.refl _ _
       | (with_reducible refine Kn.set ?_ (by first|exact lRx|omega) (by first|exact .inl (by first|exact lRx|omega)|exact .inr ⟨_,_,ZM.out,xIc⟩|exact .inr ⟨_,_,ZB.out,xHw⟩) _ _)
       | (with_reducible refine Kn.alloc ?_ oMx _)
       | (with_reducible refine Kn.drew ?_)
  refine AllReadyH.cons rfl (fun K hK=>?_) AllReadyH.nil
  go_simp
  refine hK.out _ _ ?_ (fun hHeld=>?_)
  ·exact KB.out _ bTx
  clear hK K
  try simp only [Act.put,tkA,tkB,tkC]
  refine tkS 2 fun K hK=>?_
  (go_simp;go_at_call 114;(with_reducible refine (zCs _).mono ?_);rintro e w5 ⟨v5,rfl,hv,hb⟩;have HV5:=oH hv;have hbw:Below W.heap.size W w5:=Below.trans (by repeat' first|with_reducible exact bRx|(with_reducible refine Below.drew ?_)|(with_reducible refine Below.alloc ?_ leH _)) (hb.mono leH);have HW5:=oH hbw;have sz5:=hbw.size;(have zb:=((Blk.new W 83 [.bool false,.slice none 0 0]).alloc (.cells #[.slice none 0 0] 84)).below (Below.trans bRd (hb.mono leH));have zm:=(Blk.new' (w:=W.alloc (.cells #[.bool false,.slice none 0 0] 83)) (g:=W.heap.size+1) sMx 84 [.slice none 0 0]).below (Below.trans bRd (hb.mono leH));have cb:=zb.at_ (i:=0) rfl;have fb0:=zb.fr 0;have sb:=zb.lt;have cb1:=zb.at_ (i:=1) rfl;have fb1:=zb.fr 1;have ZB:=oH zb;clear zb;have cm:=zm.at_ (i:=0) rfl;have fm0:=zm.fr 0;have sm:=zm.lt;have ZM:=oH zm;clear zm);obtain ⟨x2,X2,y2,z2,rfl⟩:=hv.slice;have q0:=KB.out w5 hbw;clear hv hb hbw)
  go_wp2_with fail;refine hK.out _ _ ?_ (fun hHeld=>?_)
  ·exact KB.out _ bTx
  clear hK K
  try simp only [Act.put,tkA,tkB,tkC]
  refine tkS 5 fun K hK=>?_
  go_simp
  refine hK.out _ _ ?_ (fun hHeld=>?_)
  ·exact KB.out _ bTx
  clear hK K
  try simp only [Act.put,tkA,tkB,tkC]
  refine wpAnyH_done (by kernel_rfl) ?_ _;simp only [xEe,List.getElem_toArray,List.getElem_cons_succ,List.getElem_cons_zero];go_wp2_with fail
  all_goals go_meet
  all_goals
    refine zQg (w2:=w5) (u:=⟨x2,X2,y2,z2⟩) (.one ?_ (by go_simp)) (.two ?_ (by go_simp) (by go_simp)) HV5.out HW5.out (by first|exact lRx|omega|(simp;omega)) (by first|exact lRx|omega|(simp;omega)) ?_
    all_goals
     repeat' first
      | with_reducible exact zCe.new _ _ _
      | exact zCe.new' _ _ _ (by simp;done)
      | with_reducible exact ZM.out.ty
      | with_reducible exact ZB.out.ty
      | (with_reducible refine zCe.set ?_ _ _ _)
      | (with_reducible refine zCe.alloc ?_ _)
      | (with_reducible refine zCe.drew ?_)
      | with_reducible exact Kn.refl _ _
      | (with_reducible refine Kn.set ?_ (by first|exact lRx|omega) (by first|exact .inl (by first|exact lRx|omega)|exact .inr ⟨_,_,ZM.out,xIc⟩|exact .inr ⟨_,_,ZB.out,xHw⟩) _ _)
      | (with_reducible refine Kn.alloc ?_ oMx _)
      | (with_reducible refine Kn.drew ?_)
 case rest =>
  obtain ⟨mb,bb,u0,rfl,rfl,hm,hb,hu,hg5,hg6,hbc⟩:=hcut
  rcases Nat.eq_zero_or_pos n with hn0|hn0
  ·have HPZ:=oH (show zCw N n J B wB (.returned (.int .i64 ((0:Nat):Int))) wc from ⟨0,oLx,fun t ht=>absurd ht oMx,fun h=>absurd h oMx,rfl,HJR.below 0 _ _ HJ0.out hbc,HBW.trans (hbc.mono (Nat.le_trans hB HBW.size))⟩);subst hn0;have c0:=hm.cel 0 _ rfl;clear hm hb hu hbc HX HT HJ0 k2 KB hxW;go_wp2_with fail
   go_loopw [16] (fun kv wr=>kv = .int .i64 0/\wr=wc) (fun _ _=>0)
   ·exact ⟨rfl,rfl⟩
   obtain ⟨rfl,rfl⟩:=hrel;go_wp2_with fail;rw [<-hQ.out];exact HPZ.out
  obtain ⟨R,rfl⟩:=zVj HT.o (show 0<rows.length by have:=HRL.out;omega);have HM:=oH hm;have HBB:=oH hb;have HU:=oH hu;have HT2:=oH (HT.below hbc);have HJ2:=oH (HJR.below 0 _ _ HJ0.out hbc);have hBWs:=HBW.size;have HBC:=oH (HBW.trans (hbc.mono (Nat.le_trans hB hBWs)));have hgl:=oH (fun r (hr:r∈rows)=>(show r.g<W.heap.size from (HT.r r hr).lt _ rfl |>.2));have c0:=hm.cel 0 _ rfl;clear hm hb hu hbc HX HT HJ0 k2 KB hxW;go_wp2_with fail;clear c0
  go_loopw [16] (fun kv wr=>∃ (k:Nat) (rw:List zGj) (u:zDf),kv = .int .i64 (k:Int)/\k<=n/\(∀ t,t<k->0<(zQb N t).1 t t)/\zHa B wr (.slice (some ⟨R,0,none⟩) rw.length cR) rw n (zQb N k).1/\rw.length=n/\(∀ r∈rw,r.g<W.heap.size)/\zAb wr mb 84 [.slice (some ⟨R,0,none⟩) n cR]/\zAb wr bb 83 [.bool u.nb,.slice u.ad u.l u.c]/\zCk wr u.val (zQb N k).2/\J k wr/\Below B wB wr) (fun kv _=>n-(intOf kv).toNat)
  ·exact ⟨0,rows,u0,rfl,oLx,fun t ht=>absurd ht oMx,HT2.out,HRL.out,hgl.out,HM.out,HBB.out,HU.out,HJ2.out,HBC.out⟩
  clear HT2 HM HBB HU HJ2 HBC hgl;obtain ⟨k,rw,u,rfl,hk,hpos,htab,hrl,hgl,hm,hb,hu,hj,hbw⟩:=hrel;obtain ⟨wk,rfl⟩:=nWx wr;have HPO:=oH hpos;have HTA:=oH htab;have HRL2:=oH hrl;have HGL:=oH hgl;have HM:=oH hm;have HBB:=oH hb;have HU:=oH hu;have HJK:=oH hj;have HBK:=oH hbw;have c0:=hm.cel 0 _ rfl;clear htab hgl hm hb hu hj hbw hpos
  by_cases hlt:k<n
  ·have hk':k<rw.length:=by omega
   have i1:(0:Int)<=(k:Int):=by omega
   have i2:(k:Int)<(n:Int):=by omega
   obtain ⟨z0,z1,z2,z3,p1,p2,hz⟩:=HTA.num_at hk' hlt;have p3:=HTA.cell rfl hk';have hbk:Below wk.heap.size wk (wk.alloc (.cells #[.int .i64 (k:Int)] 3)):=bA;have HKB:=oH (Blk.new wk 3 [.int .i64 (k:Int)]);have HZ:=oH hz;have KB0:=oH (fun W' (hW:Below wk.heap.size wk W')=>(show W'.cell? ⟨mb,0,none⟩=some (.slice (some ⟨R,0,none⟩) n cR)/\W'.cell? ⟨R,k,none⟩=some (.slice (some ⟨rw[k].g,0,none⟩) n rw[k].cp)/\W'.cell? ⟨rw[k].g,k*2,none⟩=some (.bool z0)/\W'.cell? ⟨rw[k].g,k*2+1,none⟩=some (.slice z1 z2 z3) from ⟨kP hW c0,kP hW p3,kP hW p1,kP hW p2⟩));have HRG:=oH (show rw[k].g=rw[k].g from rfl);generalize hrg:rw[k].g=rg at *;generalize hrc:rw[k].cp=rc at *;clear hz p1 p2 p3 hrg hrc;go_upto_region 5 with (fail);have HKW:=oH hbk;generalize hkb:wk.heap.size=kb at HKB
   have KB5:=oH (fun W' (hW:Below (wk.alloc (.cells #[.int .i64 (k:Int)] 3)).heap.size (wk.alloc (.cells #[.int .i64 (k:Int)] 3)) W')=>(show W'.cell? ⟨mb,0,none⟩=some (.slice (some ⟨R,0,none⟩) n cR)/\W'.cell? ⟨kb,0,none⟩=some (.int .i64 (k:Int))/\W'.cell? ⟨R,k,none⟩=some (.slice (some ⟨rg,0,none⟩) n rc)/\W'.cell? ⟨rg,k*2,none⟩=some (.bool z0)/\W'.cell? ⟨rg,k*2+1,none⟩=some (.slice z1 z2 z3) from by
    obtain ⟨x1,x2,x3,x4⟩:=KB0.out W' (HKW.trans (hW.mono HKW.size))
    exact ⟨x1,(HKB.below hW).at_ (i:=0) rfl,x2,x3,x4⟩))
   have HKS:=oH hkb
   have hkb2:wk.heap.size<=kb/\kb<=wk.heap.size:=by omega
   clear hkb hbk c0;generalize (wk.alloc (.cells #[.int .i64 (k:Int)] 3))=W5 at *;have KS0:=oH (KB5.out W5.drew bRx.drew)
   have nb0:¬(kb=W5.heap.size):=by have:=HKB.lt;omega
   have nb1:¬(W5.heap.size=kb):=by omega
   refine xHt (S:=(fun w'=>w'.cell? ⟨mb,0,none⟩=some (.slice (some ⟨R,0,none⟩) n cR)/\w'.cell? ⟨kb,0,none⟩=some (.int .i64 (k:Int))/\w'.cell? ⟨R,k,none⟩=some (.slice (some ⟨rg,0,none⟩) n rc)/\w'.cell? ⟨rg,k*2,none⟩=some (.bool z0)/\w'.cell? ⟨rg,k*2+1,none⟩=some (.slice z1 z2 z3))) 8 (by kernel_rfl) rfl (by kernel_rfl) (by kernel_rfl) rfl (by exact KS0.out) (fun hHeld=>?_);simp only [List.pop_toArray,List.dropLast_cons_cons,List.dropLast_singleton];refine tkH 0 ?_;refine tkH 1 ?_;refine tkH 2 ?_;refine tkH 3 ?_;refine tkH 4 ?_;refine tkH 5 ?_;refine tkH 6 ?_
   try simp only [Act.put,tkA,tkB,tkC]
   refine tkS 7 fun K hK=>?_
   go_simp
   refine hK.out _ _ ?_ (fun hHeld=>?_)
   ·exact KB5.out _ (by repeat' first|with_reducible exact bRx|(with_reducible refine Below.drew ?_)|(with_reducible refine Below.alloc ?_ (by first|exact lRx|(simp;done)) _))
   clear hK K
   try simp only [Act.put,tkA,tkB,tkC]
   refine wpAnyH_done (by kernel_rfl) ?_ _;simp only [xEe,List.getElem_toArray,List.getElem_cons_succ,List.getElem_cons_zero];go_wp2_with fail;have hb6:Below W5.heap.size W5 (W5.alloc (.cells #[.bool z0,.slice z1 z2 z3] 83)).drew:=bA.drew;have HPB:=oH (show Blk (W5.alloc (.cells #[.bool z0,.slice z1 z2 z3] 83)).drew W5.heap.size 83 [.bool z0,.slice z1 z2 z3] from Blk.new W5 83 [.bool z0,.slice z1 z2 z3]);have HKB6:=oH (HKB.below hb6);have HW6:=bTx2 HKW hb6;have hpb:wk.heap.size<=W5.heap.size:=HKW.size;clear hb6 KS0 KB5 KB0 HKB HKW nb0 nb1;generalize (W5.alloc (.cells #[.bool z0,.slice z1 z2 z3] 83)).drew=W6 at *;generalize W5.heap.size=pb at *;have hle:=HLE.out k oMx;have hlz:=hle.1 k k hlt hlt;have hlb:=hle.2;have hg1:grw 70 k<=300000:=zOr lRx oMx;obtain ⟨zp,hzp⟩:=eXx ((zQb N k).1 k k);obtain ⟨zb,hzb⟩:=eXx ((zQb N k).2);have HZP:=oH hzp;have HZB:=oH hzb;rw [hzp] at HZ hlz;rw [hzb] at HU hlb
   unfold LL at hlz hlb;clear hzp hzb hle;refine (zGo _ zp W6 (HZ.below HW6.out) oMx).mono ?_;rintro e w7 ⟨rfl,hb7⟩;have HW7:=bTx2 HW6 hb7;have HPB7:=oH (HPB.below hb7);have HKB7:=oH (HKB6.below hb7);have hB7:=HW7.out;have HM7:=oH (HM.below hB7);have HBB7:=oH (HBB.below hB7);have HU7:=oH (HU.below hB7);have HZ7:=oH (HZ.below hB7);have HT7:=oH (HTA.below hB7);have HJ7:=oH (HJR.below k _ _ HJK.out hB7);have HBK7:=oH (HBK.trans (hB7.mono (Nat.le_trans hB HBK.size)));have q0:=HKB7.at_ (i:=0) rfl;have q1:=HPB7.at_ (i:=0) rfl;have q2:=HPB7.at_ (i:=1) rfl;have q3:=HBB7.cel 0 _ rfl;have q4:=HBB7.cel 1 _ rfl
   have hgp:Hid (∀ r∈rw,r.g≠bb/\r.g≠pb):=oH (fun r hr=>by
    have h1:=HGL.out r hr;have h2:r.g<wk.heap.size:=((HTA.r r hr).lt _ rfl).2
    omega)
   clear hB7 hb7 HPB HKB6 HW6 HM HBB HU HZ HTA HJK HBK HW7
   by_cases hpo:0<zp
   ·have hsg:¬sg zp<=0:=by unfold sg;split<;>(try split)<;>omega
    generalize sg zp=sz at *;have HPZ:=oH hpo;clear hpo;go_wp2_with fail;clear hsg;refine Calls.mono (HSEE.out k w7 mb kb rw ⟨z0,z1,z2,z3⟩ u hlt HJ7.out HBK7.out HPO.out (by rw [HZP.out];exact HPZ.out) (by rw [HZP.out];exact HZ7.out) (by rw [HZB.out];exact HU7.out) HT7.out HRL2.out (HM7.cel 0 _ rfl) q0 HM7.ty HKB7.ty) ?_;rintro e w8 ⟨rfl,hj8,hs8⟩
    have HL8:=oH (show zCx B n k mb bb kb pb R cR wB (J (k+1)) w8 rw (zPv N k (k+1) (k+1)) u ⟨z0,z1,z2,z3⟩ zb zp from
     ⟨by rw [zPz];exact HT7.see hs8,HRL2.out,HM7.see hs8 dCx,HBB7.see hs8 dCx,HKB7.boxT.see hs8 dCx,HPB7.boxT.see hs8 dCx,hs8.num _ _ HU7.out,hs8.num _ _ HZ7.out,hj8,HBK7.trans hs8.bel,hB,hgp.out⟩)
    clear hj8 hs8 q0 q1 q2 q3 q4 HJ7 HBK7 HM7 HBB7 HU7 HZ7 HT7 HPB7 HKB7 hgp;have c1:=HL8.kk.cel 0 _ rfl;go_wp2_with fail;clear c1
    go_loopw [9] (fun iv wi=>∃ (i:Nat) (ri:List zGj),iv = .int .i64 (i:Int)/\k<i/\i<=n/\(∀ r∈ri,r.g<W.heap.size)/\zCx B n k mb bb kb pb R cR wB (J (k+1)) wi ri (zPv N k i (k+1)) u ⟨z0,z1,z2,z3⟩ zb zp) (fun iv _=>n-(intOf iv).toNat)
    ·exact ⟨k+1,rw,by go_num,oMx,oMx,HGL.out,HL8.out⟩
    clear HL8;obtain ⟨i,ri,rfl,hki,hin,hgi,hl9⟩:=hrel;obtain ⟨wi,rfl⟩:=nWx wr;have HL9:=oH hl9;have HGI:=oH hgi;have c0:=hl9.m.cel 0 _ rfl;have c1:=hl9.kk.cel 0 _ rfl;clear hl9 hgi
    by_cases hlt2:i<n
    ·have j1:(0:Int)<=(i:Int):=by omega
     have j2:(i:Int)<(n:Int):=by omega
     go_wp2_with fail;clear c0 c1
     go_loopw [10] (fun jv wj=>∃ (j:Nat) (rj:List zGj),jv = .int .i64 (j:Int)/\k<j/\j<=n/\(∀ r∈rj,r.g<W.heap.size)/\zCx B n k mb bb kb pb R cR wB (J (k+1)) wj rj (zPv N k i j) u ⟨z0,z1,z2,z3⟩ zb zp) (fun jv _=>n-(intOf jv).toNat)
     ·exact ⟨k+1,ri,by go_num,oMx,oMx,HGI.out,HL9.out⟩
     clear HL9 HGI;obtain ⟨j,rj,rfl,hkj,hjn,hgj,hlj⟩:=hrel;obtain ⟨wj,rfl⟩:=nWx wr;have HLJ:=oH hlj;have HGJ:=oH hgj;have c0:=hlj.m.cel 0 _ rfl
     by_cases hlt3:j<n
     ·have hir:i<rj.length:=by have:=hlj.len;omega
      have hkr:k<rj.length:=by have:=hlj.len;omega
      have l1:(0:Int)<=(j:Int):=by omega
      have l2:(j:Int)<(n:Int):=by omega
      obtain ⟨a0,a1,a2,a3,p1,p2,hna⟩:=hlj.tab.num_at hir hlt3;obtain ⟨b0,b1,b2,b3,p3,p4,hnb⟩:=hlj.tab.num_at hir hlt;obtain ⟨d0,d1,d2,d3,p5,p6,hnd⟩:=hlj.tab.num_at hkr hlt3;have p7:=hlj.tab.cell rfl hir;have p8:=hlj.tab.cell rfl hkr;have p9:=hlj.kk.cel 0 _ rfl;have p10:=hlj.p.cel 0 _ rfl;have p11:=hlj.p.cel 1 _ rfl;have p12:=hlj.b.cel 0 _ rfl;have p13:=hlj.b.cel 1 _ rfl;rw [zPx N k i j i j oMx] at hna;rw [zPx N k i j i k oMx] at hnb;rw [zPx N k i j k j oMx] at hnd;have hle:=HLE.out k oMx;have y1:=hle.1 i j hlt2 hlt3;have y2:=hle.1 i k hlt2 hlt;have y3:=hle.1 k j hlt hlt3;have EQ:=oH (show (zQb N (k+1)).1 i j=((zQb N k).1 i j*(zQb N k).1 k k-(zQb N k).1 i k*(zQb N k).1 k j)/(zQb N k).2 from if_pos ⟨hki,hkj⟩);have HFR:=oH (fun (W':World) (hW:Below wj.heap.size wj W') (o:Nat)=>(hlj.tab.below hW).frozen hir o)
      have HST:=oH (fun (W':World) (hW:Below wj.heap.size wj W') (x:zDf) (hx:zCk W' x.val ((zQb N (k+1)).1 i j))=>by
       have h9:=(hlj.below (fun h=>HJR.below (k+1) _ _ h hW) hW).store (fun g j x v W' hg ht hc hv hj=>HJR.set (k+1) _ g j x v hj hg ht hc hv) hir hlt3 hx;rw [zQa N k i j hki hkj] at h9
       exact h9)
      obtain ⟨za,hza⟩:=eXx ((zQb N k).1 i j);obtain ⟨zf,hzf⟩:=eXx ((zQb N k).1 i k);obtain ⟨zd,hzd⟩:=eXx ((zQb N k).1 k j);rw [hza,hzf,hzd,HZP.out,HZB.out] at EQ;rw [hza] at hna y1;rw [hzf] at hnb y2;rw [hzd] at hnd y3;have la:(limbs (za*zp).natAbs).length<=600000:=Nat.le_trans (zCo _ _) (by unfold LL at *;omega);have lb:(limbs (zf*zd).natAbs).length<=600000:=Nat.le_trans (zCo _ _) (by unfold LL at *;omega);have ls:(limbs (za*zp-zf*zd).natAbs).length<=600001:=zCq la lb;unfold LL at y1 y2 y3;have FA:=oH hna;have FF:=oH hnb;have FD:=oH hnd;have FP:=oH (show zCk wj (.agg #[.bool z0,.slice z1 z2 z3]) zp from hlj.hp);have FX:=oH (show zCk wj (.agg #[.bool u.nb,.slice u.ad u.l u.c]) zb from hlj.hb)
      have HZ0:=oH (show zb≠0 by
       have h9:=zQf HPO.out;rw [HZB.out] at h9
       exact h9)
      have nG:rj[i].g≠rj[k].g:=by
       have h1:=List.pairwise_iff_getElem.1 hlj.tab.nd;have:=h1 k i (by simpa using hkr) (by simpa using hir) hki
       simpa using Ne.symm (by simpa using this)
      have hgiW:=hgj _ (List.getElem_mem hir);have tI:zCe wj rj[i].g 83:=zVz (hlj.tab.r _ (List.getElem_mem hir));have nM:=tI.ne hlj.m.ty dCx;have nR:=tI.ne (zVz hlj.tab.o) dCx;have nK:=tI.ne hlj.kk.ty dCx;have nB:=(hlj.bB _ (List.getElem_mem hir)).1;have nP:=(hlj.bB _ (List.getElem_mem hir)).2;generalize rj[i].g=gi at *;generalize rj[i].cp=ci at *;generalize rj[k].g=gk at *;generalize rj[k].cp=ck at *;have KB:=oH (fun W' (hW:Below wj.heap.size wj W')=>(show W'.cell? ⟨mb,0,none⟩=some (.slice (some ⟨R,0,none⟩) n cR)/\W'.cell? ⟨R,i,none⟩=some (.slice (some ⟨gi,0,none⟩) n ci)/\W'.cell? ⟨R,k,none⟩=some (.slice (some ⟨gk,0,none⟩) n ck)/\W'.cell? ⟨kb,0,none⟩=some (.int .i64 (k:Int))/\W'.cell? ⟨gi,j*2,none⟩=some (.bool a0)/\W'.cell? ⟨gi,j*2+1,none⟩=some (.slice a1 a2 a3)/\W'.cell? ⟨gi,k*2,none⟩=some (.bool b0)/\W'.cell? ⟨gi,k*2+1,none⟩=some (.slice b1 b2 b3)/\W'.cell? ⟨gk,j*2,none⟩=some (.bool d0)/\W'.cell? ⟨gk,j*2+1,none⟩=some (.slice d1 d2 d3)/\W'.cell? ⟨pb,0,none⟩=some (.bool z0)/\W'.cell? ⟨pb,1,none⟩=some (.slice z1 z2 z3)/\W'.cell? ⟨bb,0,none⟩=some (.bool u.nb)/\W'.cell? ⟨bb,1,none⟩=some (.slice u.ad u.l u.c) from ⟨kP hW c0,kP hW p7,kP hW p8,kP hW p9,kP hW p1,kP hW p2,kP hW p3,kP hW p4,kP hW p5,kP hW p6,kP hW p10,kP hW p11,kP hW p12,kP hW p13⟩))
      have KS0:Hid (wj.drew.cell? ⟨mb,0,none⟩=some (.slice (some ⟨R,0,none⟩) n cR)/\wj.drew.cell? ⟨R,i,none⟩=some (.slice (some ⟨gi,0,none⟩) n ci)/\wj.drew.cell? ⟨R,k,none⟩=some (.slice (some ⟨gk,0,none⟩) n ck)/\wj.drew.cell? ⟨kb,0,none⟩=some (.int .i64 (k:Int))/\wj.drew.cell? ⟨gi,k*2,none⟩=some (.bool b0)/\wj.drew.cell? ⟨gi,k*2+1,none⟩=some (.slice b1 b2 b3)/\wj.drew.cell? ⟨gk,j*2,none⟩=some (.bool d0)/\wj.drew.cell? ⟨gk,j*2+1,none⟩=some (.slice d1 d2 d3)/\wj.drew.cell? ⟨pb,0,none⟩=some (.bool z0)/\wj.drew.cell? ⟨pb,1,none⟩=some (.slice z1 z2 z3)/\wj.drew.cell? ⟨bb,0,none⟩=some (.bool u.nb)/\wj.drew.cell? ⟨bb,1,none⟩=some (.slice u.ad u.l u.c)):=oH ⟨c0,p7,p8,p9,p3,p4,p5,p6,p10,p11,p12,p13⟩
      have nk1:k*2≠j*2:=by omega
      have nk2:k*2≠j*2+1:=by omega
      have nk3:k*2+1≠j*2:=by omega
      have nk4:k*2+1≠j*2+1:=by omega
      clear hlj hgj hle hza hzf hzd hna hnb hnd tI p3 p4 p5 p6 p7 p8 p9 p10 p11 p12 p13;go_wp2_with fail;clear c0;refine wp_region_held_drew (S:=(fun w'=>w'.cell? ⟨mb,0,none⟩=some (.slice (some ⟨R,0,none⟩) n cR)/\w'.cell? ⟨R,i,none⟩=some (.slice (some ⟨gi,0,none⟩) n ci)/\w'.cell? ⟨R,k,none⟩=some (.slice (some ⟨gk,0,none⟩) n ck)/\w'.cell? ⟨kb,0,none⟩=some (.int .i64 (k:Int))/\w'.cell? ⟨gi,k*2,none⟩=some (.bool b0)/\w'.cell? ⟨gi,k*2+1,none⟩=some (.slice b1 b2 b3)/\w'.cell? ⟨gk,j*2,none⟩=some (.bool d0)/\w'.cell? ⟨gk,j*2+1,none⟩=some (.slice d1 d2 d3)/\w'.cell? ⟨pb,0,none⟩=some (.bool z0)/\w'.cell? ⟨pb,1,none⟩=some (.slice z1 z2 z3)/\w'.cell? ⟨bb,0,none⟩=some (.bool u.nb)/\w'.cell? ⟨bb,1,none⟩=some (.slice u.ad u.l u.c))) (by kernel_rfl) (by exact KS0.out) (fun hHeld=>?_);refine tkH 0 ?_;refine tkH 1 ?_;refine tkH 2 ?_;refine tkH 3 ?_;refine tkH 4 ?_;refine tkH 5 ?_;refine tkH 6 ?_;refine tkH 7 ?_
      refine tkH 8 ?_;refine tkH 9 ?_;refine tkH 10 ?_;refine tkH 12 ?_;refine tkH 14 ?_;refine tkH 15 ?_;refine tkH 16 ?_;refine tkH 17 ?_;refine tkH 18 ?_;refine tkH 19 ?_;refine tkH 20 ?_;refine tkH 21 ?_;refine tkH 22 ?_;refine tkH 23 ?_;refine tkH 24 ?_;refine tkH 25 ?_;refine tkH 26 ?_;refine tkH 27 ?_;refine tkH 30 ?_
      try simp only [Act.put,tkA,tkB,tkC]
      refine tkS 11 fun K hK=>?_
      go_simp
      refine hK.out _ _ ?_ (fun hHeld=>?_)
      ·first|with_reducible exact KS0.out|with_reducible exact KSa.out|with_reducible exact KSb.out|with_reducible exact KSs.out|with_reducible exact KSd.out|(go_keep;exact ⟨two_far qd6 nk1 nk2,two_far qd7 nk3 nk4⟩)
      clear hK K
      try simp only [Act.put,tkA,tkB,tkC]
      refine tkS 13 fun K hK=>?_
      go_simp
      (go_at_call 58;(with_reducible refine (zDb _ _ za zp _ (FA.out.below bTy) (FP.out.below bTy) oMx oMx).mono ?_);rintro e wa ⟨va,rfl,hv,hb⟩;have hw:Below wj.heap.size wj wa:=Below.trans bTy (hb.mono (by first|exact lRx|exact HWb.out.size));have HWa:=oH hw;have HVa:=oH hv;obtain ⟨xa,Xa,ya,za',rfl⟩:=hv.slice;(first|(have HVb':=oH (HVb.out.below hb))|(have HVb':=oH (HVb.out.drew.below hb))|skip);clear hv;obtain ⟨qa0,qa1,qa2,qa3,qa4,qa5,qa6,qa7,qa8,qa9,qa10,qa11,qa12,qa13⟩:=KB.out wa hw;have KSa:Hid (wa.cell? ⟨mb,0,none⟩=some (.slice (some ⟨R,0,none⟩) n cR)/\wa.cell? ⟨R,i,none⟩=some (.slice (some ⟨gi,0,none⟩) n ci)/\wa.cell? ⟨R,k,none⟩=some (.slice (some ⟨gk,0,none⟩) n ck)/\wa.cell? ⟨kb,0,none⟩=some (.int .i64 (k:Int))/\wa.cell? ⟨gi,k*2,none⟩=some (.bool b0)/\wa.cell? ⟨gi,k*2+1,none⟩=some (.slice b1 b2 b3)/\wa.cell? ⟨gk,j*2,none⟩=some (.bool d0)/\wa.cell? ⟨gk,j*2+1,none⟩=some (.slice d1 d2 d3)/\wa.cell? ⟨pb,0,none⟩=some (.bool z0)/\wa.cell? ⟨pb,1,none⟩=some (.slice z1 z2 z3)/\wa.cell? ⟨bb,0,none⟩=some (.bool u.nb)/\wa.cell? ⟨bb,1,none⟩=some (.slice u.ad u.l u.c)):=oH ⟨qa0,qa1,qa2,qa3,qa6,qa7,qa8,qa9,qa10,qa11,qa12,qa13⟩;clear hb hw)
      go_wp2_with fail;refine hK.out _ _ ?_ (fun hHeld=>?_)
      ·first|with_reducible exact KS0.out|with_reducible exact KSa.out|with_reducible exact KSb.out|with_reducible exact KSs.out|with_reducible exact KSd.out|(go_keep;exact ⟨two_far qd6 nk1 nk2,two_far qd7 nk3 nk4⟩)
      clear hK K
      try simp only [Act.put,tkA,tkB,tkC]
      refine tkS 28 fun K hK=>?_
      go_simp
      (go_at_call 58;(with_reducible refine (zDb _ _ zf zd _ (FF.out.below bTy) (FD.out.below bTy) oMx oMx).mono ?_);rintro e wb ⟨vb,rfl,hv,hb⟩;have hw:Below wj.heap.size wj wb:=Below.trans bTy (hb.mono (by first|exact lRx|exact HWa.out.size));have HWb:=oH hw;have HVb:=oH hv;obtain ⟨xb,Xb,yb,zb',rfl⟩:=hv.slice;(first|(have HVa':=oH (HVa.out.below hb))|(have HVa':=oH (HVa.out.drew.below hb))|skip);clear hv;obtain ⟨qb0,qb1,qb2,qb3,qb4,qb5,qb6,qb7,qb8,qb9,qb10,qb11,qb12,qb13⟩:=KB.out wb hw;have KSb:Hid (wb.cell? ⟨mb,0,none⟩=some (.slice (some ⟨R,0,none⟩) n cR)/\wb.cell? ⟨R,i,none⟩=some (.slice (some ⟨gi,0,none⟩) n ci)/\wb.cell? ⟨R,k,none⟩=some (.slice (some ⟨gk,0,none⟩) n ck)/\wb.cell? ⟨kb,0,none⟩=some (.int .i64 (k:Int))/\wb.cell? ⟨gi,k*2,none⟩=some (.bool b0)/\wb.cell? ⟨gi,k*2+1,none⟩=some (.slice b1 b2 b3)/\wb.cell? ⟨gk,j*2,none⟩=some (.bool d0)/\wb.cell? ⟨gk,j*2+1,none⟩=some (.slice d1 d2 d3)/\wb.cell? ⟨pb,0,none⟩=some (.bool z0)/\wb.cell? ⟨pb,1,none⟩=some (.slice z1 z2 z3)/\wb.cell? ⟨bb,0,none⟩=some (.bool u.nb)/\wb.cell? ⟨bb,1,none⟩=some (.slice u.ad u.l u.c)):=oH ⟨qb0,qb1,qb2,qb3,qb6,qb7,qb8,qb9,qb10,qb11,qb12,qb13⟩;clear hb hw)
      go_wp2_with fail;refine hK.out _ _ ?_ (fun hHeld=>?_)
      ·first|with_reducible exact KS0.out|with_reducible exact KSa.out|with_reducible exact KSb.out|with_reducible exact KSs.out|with_reducible exact KSd.out|(go_keep;exact ⟨two_far qd6 nk1 nk2,two_far qd7 nk3 nk4⟩)
      clear hK K
      try simp only [Act.put,tkA,tkB,tkC]
      refine tkS 29 fun K hK=>?_
      go_simp
      (go_at_call 122;(with_reducible refine (zGx _ _ (za*zp) (zf*zd) _ (by first|with_reducible exact HVa.out|with_reducible exact HVa'.out|with_reducible exact HVa.out.drew|with_reducible exact HVa'.out.drew) (by first|with_reducible exact HVb.out|with_reducible exact HVb'.out|with_reducible exact HVb.out.drew|with_reducible exact HVb'.out.drew) (by have:=la;omega) (by have:=lb;omega)).mono ?_);rintro e ws ⟨vs,rfl,hv,hb⟩;have hw:Below wj.heap.size wj ws:=Below.trans bTy (hb.mono (by first|exact lRx|exact HWa.out.size|exact HWb.out.size));have HWs:=oH hw;have HVs:=oH hv;obtain ⟨xs',Xs,ys,zs',rfl⟩:=hv.slice;clear hv;obtain ⟨qs0,qs1,qs2,qs3,qs4,qs5,qs6,qs7,qs8,qs9,qs10,qs11,qs12,qs13⟩:=KB.out ws hw;have KSs:Hid (ws.cell? ⟨mb,0,none⟩=some (.slice (some ⟨R,0,none⟩) n cR)/\ws.cell? ⟨R,i,none⟩=some (.slice (some ⟨gi,0,none⟩) n ci)/\ws.cell? ⟨R,k,none⟩=some (.slice (some ⟨gk,0,none⟩) n ck)/\ws.cell? ⟨kb,0,none⟩=some (.int .i64 (k:Int))/\ws.cell? ⟨gi,k*2,none⟩=some (.bool b0)/\ws.cell? ⟨gi,k*2+1,none⟩=some (.slice b1 b2 b3)/\ws.cell? ⟨gk,j*2,none⟩=some (.bool d0)/\ws.cell? ⟨gk,j*2+1,none⟩=some (.slice d1 d2 d3)/\ws.cell? ⟨pb,0,none⟩=some (.bool z0)/\ws.cell? ⟨pb,1,none⟩=some (.slice z1 z2 z3)/\ws.cell? ⟨bb,0,none⟩=some (.bool u.nb)/\ws.cell? ⟨bb,1,none⟩=some (.slice u.ad u.l u.c)):=oH ⟨qs0,qs1,qs2,qs3,qs6,qs7,qs8,qs9,qs10,qs11,qs12,qs13⟩;clear hb hw)
      go_wp2_with fail;refine hK.out _ _ ?_ (fun hHeld=>?_)
      ·first|with_reducible exact KS0.out|with_reducible exact KSa.out|with_reducible exact KSb.out|with_reducible exact KSs.out|with_reducible exact KSd.out|(go_keep;exact ⟨two_far qd6 nk1 nk2,two_far qd7 nk3 nk4⟩)
      clear hK K
      try simp only [Act.put,tkA,tkB,tkC]
      refine tkS 31 fun K hK=>?_
      go_simp
      (go_at_call 117;(with_reducible refine (zAz _ _ (za*zp-zf*zd) zb _ (by first|with_reducible exact HVs.out|with_reducible exact HVs.out.drew) (FX.out.below bTy) (by have:=ls;omega) oMx HZ0.out).mono ?_);rintro e wd ⟨vd,ud,rfl,hv,hr,hb⟩;have hw:Below wj.heap.size wj wd:=Below.trans bTy (hb.mono (by first|exact lRx|exact HWs.out.size));have HWd:=oH hw;have HVd:=oH hv;obtain ⟨xd,Xd,yd,zd',rfl⟩:=hv.slice;obtain ⟨xe,Xe,ye,ze,rfl⟩:=hr.slice;have fd0:=HFR.out wd hw (j*2);have fd1:=HFR.out wd hw (j*2+1);clear hv hr;obtain ⟨qd0,qd1,qd2,qd3,qd4,qd5,qd6,qd7,qd8,qd9,qd10,qd11,qd12,qd13⟩:=KB.out wd hw;have KSd:Hid (wd.cell? ⟨mb,0,none⟩=some (.slice (some ⟨R,0,none⟩) n cR)/\wd.cell? ⟨R,i,none⟩=some (.slice (some ⟨gi,0,none⟩) n ci)/\wd.cell? ⟨R,k,none⟩=some (.slice (some ⟨gk,0,none⟩) n ck)/\wd.cell? ⟨kb,0,none⟩=some (.int .i64 (k:Int))/\wd.cell? ⟨gi,k*2,none⟩=some (.bool b0)/\wd.cell? ⟨gi,k*2+1,none⟩=some (.slice b1 b2 b3)/\wd.cell? ⟨gk,j*2,none⟩=some (.bool d0)/\wd.cell? ⟨gk,j*2+1,none⟩=some (.slice d1 d2 d3)/\wd.cell? ⟨pb,0,none⟩=some (.bool z0)/\wd.cell? ⟨pb,1,none⟩=some (.slice z1 z2 z3)/\wd.cell? ⟨bb,0,none⟩=some (.bool u.nb)/\wd.cell? ⟨bb,1,none⟩=some (.slice u.ad u.l u.c)):=oH ⟨qd0,qd1,qd2,qd3,qd6,qd7,qd8,qd9,qd10,qd11,qd12,qd13⟩;clear hb hw)
      go_wp2_with fail;refine hK.out _ _ ?_ (fun hHeld=>?_)
      ·first|with_reducible exact KS0.out|with_reducible exact KSa.out|with_reducible exact KSb.out|with_reducible exact KSs.out|with_reducible exact KSd.out|(go_keep;exact ⟨two_far qd6 nk1 nk2,two_far qd7 nk3 nk4⟩)
      clear hK K
      try simp only [Act.put,tkA,tkB,tkC]
      refine tkH 32 ?_;refine tkH 33 ?_;refine tkH 34 ?_;refine tkH 35 ?_
      try simp only [Act.put,tkA,tkB,tkC]
      refine tkS 36 fun K hK=>?_
      go_simp
      refine hK.out _ _ ?_ (fun hHeld=>?_)
      ·first|with_reducible exact KS0.out|with_reducible exact KSa.out|with_reducible exact KSb.out|with_reducible exact KSs.out|with_reducible exact KSd.out|(go_keep;exact ⟨two_far qd6 nk1 nk2,two_far qd7 nk3 nk4⟩)
      clear hK K
      try simp only [Act.put,tkA,tkB,tkC]
      refine wpAnyH_done (by kernel_rfl) ?_ _
      all_goals go_wp2_with fail
      all_goals go_roundw
      case rel =>
       refine ⟨j+1,_,by go_num,oMx,oMx,?_,HST.out wd HWd.out ⟨xd,Xd,yd,zd'⟩ (by rw [EQ.out];exact HVd.out)⟩
       intro r hr
       rcases List.mem_or_eq_of_mem_set hr with h1|rfl
       ·exact HGJ.out r h1
       exact hgiW
      simp [intOf];omega
     have hjn2:j=n:=by omega
     have HLN:=oH (hlj.congr (P':=zPv N k (i+1) (k+1)) fun a b ha hb=>by rw [hjn2];exact zPy N k i n a b hb);clear hlj hgj hjn2;go_wp2_with fail;go_roundw
     ·exact ⟨i+1,rj,by go_num,oMx,oMx,HGJ.out,HLN.out⟩
     simp [intOf];omega
    have hin2:i=n:=by omega
    have HLE9:=oH (HL9.congr (P':=(zQb N (k+1)).1) fun a b ha hb=>by rw [hin2];exact (zPw N k n a b ha).symm);have p1:=HL9.p.cel 0 _ rfl;have p2:=HL9.p.cel 1 _ rfl;have p3:=HL9.b.cel 0 _ rfl;have p4:=HL9.b.cel 1 _ rfl;have p5:=HL9.b.ty.fr 0;have p6:=HL9.b.ty.fr 1;clear hin2 c1;go_wp2_with fail;clear c0 p1 p2 p3 p4 p5 p6;have HNX:=oH (HLE9.next HGI.out hg6 ?_ (fun g j x v W' hg ht hc hv hj=>HJR.set (k+1) _ g j x v hj hg ht hc hv))
    rotate_left
    ·have:=HBW.size;omega
    go_roundw
    case rel =>
     obtain ⟨x1,x2,x3,x4,x5,x6⟩:=HNX.out
     exact ⟨k+1,ri,⟨z0,z1,z2,z3⟩,by go_num,oMx,fun t ht=>by
      rcases Nat.lt_or_ge t k with h1|h1
      ·exact HPO.out t h1
      rw [show t=k by omega,HZP.out];exact HPZ.out,x1,HLE9.len,HGI.out,x2,x3,by show zCk _ _ ((zQb N k).1 k k);rw [HZP.out];exact x4,x5,x6⟩
    simp [intOf];omega
   have hsg:sg zp<=0:=by unfold sg;split<;>(try split)<;>omega
   generalize sg zp=sz at *;have HP:=oH (show zCw N n J B wB (.returned (.int .i64 (k:Int))) w7 from ⟨k,oMx,HPO.out,fun _=>by rw [HZP.out];exact hpo,rfl,HJ7.out,HBK7.out⟩);clear hpo;go_wp2_with fail;rw [<-hQ.out];exact HP.out
  have hkn:k=n:=by omega
  have HP:=oH (show zCw N n J B wB (.returned (.int .i64 (n:Int))) wk from ⟨n,lRx,by have:=HPO.out;rw [hkn] at this;exact this,fun h=>absurd h oMx,rfl,by have:=HJK.out;rw [hkn] at this;exact this,HBK.out⟩);clear hkn;go_wp2_with fail;rw [<-hQ.out];exact HP.out
end Go.Proofs.YtfjjcoggoomlbaaGreatDoor
