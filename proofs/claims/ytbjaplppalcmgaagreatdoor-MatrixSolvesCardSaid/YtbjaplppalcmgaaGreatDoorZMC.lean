import Derived.Test.YtbjaplppalcmgaaGreatDoorZWS
import Derived.Test.YtbjaplppalcmgaaGreatDoorZMB
set_option maxHeartbeats 16000000
set_option maxRecDepth 100000
set_option linter.unusedVariables false
set_option linter.unusedSimpArgs false
set_option linter.unusedSectionVars false
namespace Go.Proofs.YtbjaplppalcmgaaGreatDoor
open Go.RowKit
structure Bex (B x:Nat) (w w':World):Prop where
 os:w'.os=w.os
 tape:w'.tape=w.tape
 output:w'.output=w.output
 size:w.heap.size<=w'.heap.size
 block:∀ k,k<B->k≠x->w'.heap[k]? = w.heap[k]?
theorem Bex.refl (B x:Nat) (w:World):Bex B x w w:=⟨rfl,rfl,rfl,lRx,fun _ _ _=>rfl⟩
theorem Bex.below {B x:Nat} {w w' w2:World} (h:Bex B x w w') (hw:B<=w'.heap.size) (hb:Below w'.heap.size w' w2):Bex B x w w2 :=
 ⟨hb.os.trans h.os,hb.tape.trans h.tape,hb.output.trans h.output,Nat.le_trans h.size hb.size,fun k hk hne=>(hb.block k oMx).trans (h.block k hk hne)⟩
theorem Bex.set {B x:Nat} {w w':World} (h:Bex B x w w') {g:Nat} (hg:g=x\/B<=g) (j:Nat) (u:Value):Bex B x w (w'.setCell ⟨g,j,none⟩ u):=by
 have hs:=zOc (w:=w') g j u;have hl:=h.size;refine ⟨hs.os.trans h.os,hs.tape.trans h.tape,hs.output.trans h.output,Nat.le_trans h.size hs.size,fun k hk hne=>?_⟩
 rcases Nat.lt_or_ge k w'.heap.size with h1|h1
 ·rw [hs.block k h1 (fun e=>by injection e with e;omega)];exact h.block k hk hne
 rw [<-h.block k hk hne,Array.getElem?_eq_none h1,Array.getElem?_eq_none (by simpa using h1)]
theorem Bex.grown {B x:Nat} {w w' w2:World} {row:Option Nat} (h:Bex B x w w') (hB:B<=w'.heap.size) (hg:w'.grownBy w2 row) (hr:∀ k,row=some k->B<=k):Bex B x w w2 :=
 ⟨hg.os.trans h.os,hg.tape.trans h.tape,hg.output.trans h.output,Nat.le_trans h.size hg.size,fun k hk hne=>(hg.block k oMx (fun e=>by have:=hr k e.symm;omega)).trans (h.block k hk hne)⟩
theorem Bex.trans {B x:Nat} {w w' w2:World} (h:Bex B x w w') (h2:Bex B x w' w2):Bex B x w w2 :=
 ⟨h2.os.trans h.os,h2.tape.trans h.tape,h2.output.trans h.output,Nat.le_trans h.size h2.size,fun k hk hne=>(h2.block k hk hne).trans (h.block k hk hne)⟩
theorem zHa.far {B:Nat} {w:World} {V:Value} {rows:List zGg} {n:Nat} {P:Nat->Nat->Int} (h:zHa B w V rows n P) {x:Nat} {t:TypeId} {cs:List Value} (hx:x<B) (hb:Blk w x t cs) (hcs:∀ a∈cs,∀ z,a ≠ .int .u64 z) (j:Nat) (u:Value):zHa B (w.setCell ⟨x,j,none⟩ u) V rows n P :=
 ⟨ownsRow_setCell_below h.o (a:=⟨x,j,none⟩) hx u,fun r hr=>ownsRow_setCell_below (h.r r hr) (a:=⟨x,j,none⟩) hx u,h.l,h.nd,fun i hi k hk=>(h.num i hi k hk).box hb hcs (zOc x j u)⟩
theorem zUr {w:World} {B B' e e' s s' n n':Nat} {v v':Value} {xs xs':List Value} (h:w.ownsRow B e s v n xs) (h':w.ownsRow B' e' s' v' n' xs') (hne:e≠e'):v.ownBlock=none\/v.ownBlock≠v'.ownBlock:=by
 rcases hv:v.ownBlock with _|g
 ·exact .inl rfl
 exact .inr fun e2=>zUp h h' hne e2.symm hv
theorem zHa.grown {B:Nat} {w w2:World} {V:Value} {rows:List zGg} {n:Nat} {P:Nat->Nat->Int} (h:zHa B w V rows n P) {e k:Nat} {pv:Value} {xs:List Value} (hp:w.ownsRow B e 1 pv k xs) (he:67≠e/\62≠e) (hn:NoU w pv) (hg:w.grownBy w2 pv.ownBlock):zHa B w2 V rows n P :=
 ⟨h.o.kept hg (zUr h.o hp he.1),fun r hr=>(h.r r hr).kept hg (zUr (h.r r hr) hp he.2),h.l,h.nd,fun i hi k hk=>(h.num i hi k hk).clean hn hg⟩
theorem zHa.congr {B:Nat} {w:World} {V:Value} {rows:List zGg} {n:Nat} {P P':Nat->Nat->Int} (h:zHa B w V rows n P) (he:∀ i k,i<rows.length->k<n->P' i k=P i k):zHa B w V rows n P' :=
 ⟨h.o,h.r,h.l,h.nd,fun i hi k hk=>by rw [he i k hi (by rw [<-h.l _ (List.getElem_mem hi)];exact hk)];exact h.num i hi k hk⟩
theorem zUn {w:World} {B e s n g t:Nat} {v:Value} {xs cs:List Value} (h:w.ownsRow B e s v n xs) (hb:Blk w g t cs) (hne:e≠t):some g≠v.ownBlock:=fun e1=>by
 rcases h.2 with ⟨hv,_⟩|⟨k,cap,cur,hv,hB,hk,_⟩
 ·rw [hv] at e1;simp [Value.ownBlock] at e1
 rw [hv] at e1
 obtain rfl:g=k:=by simpa [Value.ownBlock] using e1
 have h2:w.heap[g]? = _:=hb;rw [hk] at h2;injection h2 with h2;injection h2 with _ h2;exact hne h2
theorem int_no:∀ x∈(Value.int .i64 0).cells,∀ y,x ≠ .int .u64 y:=by intro x hx y e;subst e;simp [Value.cells] at hx
theorem int_no' {c:Int}:∀ x∈([.int .i64 c]:List Value),∀ y,x ≠ .int .u64 y:=by intro x hx y e;subst e;simp at hx
theorem zIw {a b:Value} {nb odd:Bool} {S:oAx} {l c:Nat} (ha:∀ z,a ≠ .int .u64 z) (hb:∀ z,b ≠ .int .u64 z):∀ y∈([a,b,.bool nb,.slice S l c,.bool odd]:List Value),∀ z,y ≠ .int .u64 z:=by
 intro y hy z
 simp at hy
 rcases hy with rfl|rfl|rfl|rfl|rfl
 ·exact ha z
 ·exact hb z
 ·intro e;cases e
 ·intro e;cases e
 intro e;cases e
structure zDf (B:Nat) (w wr:World) (x:Nat) (R cR:Nat) (rows:List zGg) (n:Nat) (P:Nat->Nat->Int) (pv:Value) (ps:List Nat) (v:zCq) (vz:Int) (odd:Bool):Prop where
 box:Blk wr x 69 [.slice (some ⟨R,0,none⟩) rows.length cR,pv,.bool v.nb,.slice v.ad v.l v.c,.bool odd]
 tab:zHa B wr (.slice (some ⟨R,0,none⟩) rows.length cR) rows n P
 val:zBs wr v.val vz
 pvt:wr.ownsRow B 3 1 pv ps.length (vn ps)
 pno:NoU wr pv
 xB:x<B
 bel:Bex B x w wr
 wB:B<=w.heap.size
section
variable {B:Nat} {w wr w':World} {x R cR n:Nat} {rows:List zGg} {P:Nat->Nat->Int} {pv:Value} {ps:List Nat} {v:zCq} {vz:Int} {odd:Bool}
theorem zDf.below (h:zDf B w wr x R cR rows n P pv ps v vz odd) (hb:Below wr.heap.size wr w'):zDf B w w' x R cR rows n P pv ps v vz odd :=
 ⟨h.box.below hb,h.tab.below hb,h.val.below hb,zUm h.pvt hb,h.pno.below (fun k hk=>(h.pvt.lt k hk).2) hb,h.xB,h.bel.below (Nat.le_trans h.wB h.bel.size) hb,h.wB⟩
theorem zDf.pform (h:zDf B w wr x R cR rows n P pv ps v vz odd):∃ A c,pv = .slice A ps.length c:=by
 rcases h.pvt.2 with ⟨e,e2⟩|⟨g,cap,cur,e,_,_,e2,_⟩
 ·exact ⟨none,0,by rw [e,e2]⟩
 exact ⟨_,cap,e⟩
theorem zDf.no (h:zDf B w wr x R cR rows n P pv ps v vz odd):∀ y∈([.slice (some ⟨R,0,none⟩) rows.length cR,pv,.bool v.nb,.slice v.ad v.l v.c,.bool odd]:List Value),∀ z,y ≠ .int .u64 z:=by
 obtain ⟨A,c,rfl⟩:=h.pform;exact zIw (fun z e=>by cases e) (fun z e=>by cases e)
theorem zDf.swap (h:zDf B w wr x R cR rows n P pv ps v vz odd) {p r:Nat} (hp:p<rows.length) (hr:r<rows.length) :
  zDf B w (((wr.setCell ⟨R,p,none⟩ (.slice (some ⟨rows[r].g,0,none⟩) n rows[r].cp)).setCell ⟨R,r,none⟩ (.slice (some ⟨rows[p].g,0,none⟩) n rows[p].cp)).setCell ⟨x,4,none⟩ (.bool (!odd))) x R cR (swr rows p r hp hr) n (fun i k=>P (sw p r i) k) pv ps v vz (!odd):=by
 have hR:=h.tab.o.lt R rfl
 have hxR:x≠R:=by have:=h.xB;omega
 obtain ⟨ht,hk⟩:=h.tab.swap hp hr;have hb1:=(h.box.far (p:=⟨R,p,none⟩) hxR (.slice (some ⟨rows[r].g,0,none⟩) n rows[r].cp)).far (p:=⟨R,r,none⟩) hxR (.slice (some ⟨rows[p].g,0,none⟩) n rows[p].cp);have hne:=zUp h.pvt h.tab.o dCx rfl;have g1:=zOc (w:=wr) R p (.slice (some ⟨rows[r].g,0,none⟩) n rows[r].cp);have g2:=zOc (w:=wr.setCell ⟨R,p,none⟩ (.slice (some ⟨rows[r].g,0,none⟩) n rows[r].cp)) R r (.slice (some ⟨rows[p].g,0,none⟩) n rows[p].cp);have hp1:=(h.pvt.kept g1 (.inr hne)).kept g2 (.inr hne);have hn1:=(h.pno.kept g1 (fun k hk=>(h.pvt.lt k hk).2) (.inr hne)).kept g2 (fun k hk=>((h.pvt.kept g1 (.inr hne)).lt k hk).2) (.inr hne);refine ⟨by rw [xCm];exact hb1.set 4 (.bool (!odd)),ht.far h.xB hb1 h.no 4 _,(hk _ _ h.val).box hb1 h.no (zOc x 4 _),ownsRow_setCell_below hp1 (a:=⟨x,4,none⟩) h.xB _,hn1.kept (zOc x 4 _) (fun k hk=>(hp1.lt k hk).2) ?_,h.xB,((h.bel.set (.inr hR.1) _ _).set (.inr hR.1) _ _).set (.inl rfl) _ _,h.wB⟩
 rcases hv:pv.ownBlock with _|g
 ·exact .inl rfl
 refine .inr ?_;have:=(h.pvt.lt g hv).1;have:=h.xB
 intro e
 injection e with e;omega
theorem zDf.store (h:zDf B w wr x R cR rows n P pv ps v vz odd) {i k:Nat} (hi:i<rows.length) (hk:k<n) {u:zCq} {z:Int} (hu:zBs wr u.val z) :
  zDf B w ((wr.setCell ⟨rows[i].g,k*2,none⟩ (.bool u.nb)).setCell ⟨rows[i].g,k*2+1,none⟩ (.slice u.ad u.l u.c)) x R cR (rows.set i ⟨rows[i].g,rows[i].cp,rows[i].us.set k u⟩) n (fun a b=>if a=i/\b=k then z else P a b) pv ps v vz odd /\
  (∀ v y,zBs wr v y->zBs ((wr.setCell ⟨rows[i].g,k*2,none⟩ (.bool u.nb)).setCell ⟨rows[i].g,k*2+1,none⟩ (.slice u.ad u.l u.c)) v y):=by
 obtain ⟨ht,hkp⟩:=h.tab.store hi hk hu;have hB:=h.tab.blk hi
 have hxg:x≠rows[i].g:=by have:=h.xB;omega
 have hr:=h.tab.r _ (List.getElem_mem hi);have hne:=zUp h.pvt hr dCx (show (zGg.val n rows[i]).ownBlock=some rows[i].g from rfl);have g1:=zOc (w:=wr) rows[i].g (k*2) (.bool u.nb);have g2:=zOc (w:=wr.setCell ⟨rows[i].g,k*2,none⟩ (.bool u.nb)) rows[i].g (k*2+1) (.slice u.ad u.l u.c);refine ⟨⟨?_,?_,hkp _ _ h.val,(h.pvt.kept g1 (.inr hne)).kept g2 (.inr hne),(h.pno.kept g1 (fun k hk=>(h.pvt.lt k hk).2) (.inr hne)).kept g2 (fun k hk=>((h.pvt.kept g1 (.inr hne)).lt k hk).2) (.inr hne),h.xB,(h.bel.set (.inr hB.1) _ _).set (.inr hB.1) _ _,h.wB⟩,hkp⟩
 ·rw [List.length_set];exact (h.box.far (p:=⟨rows[i].g,k*2,none⟩) hxg _).far (p:=⟨rows[i].g,k*2+1,none⟩) hxg _
 rw [List.length_set];exact ht
theorem zDf.fin (h:zDf B w wr x R cR rows n P pv ps v vz odd) {w2:World} {pv2:Value} {c:Nat} {u:zCq} {z:Int} (hu:zBs wr u.val z) (ho:w2.ownsRow B 3 1 pv2 (ps.length+1) (vn ps++[.int .i64 (c:Int)])) (hg:wr.grownBy w2 pv.ownBlock) (hn:NoU w2 pv2) :
  zDf B w (((w2.setCell ⟨x,2,none⟩ (.bool u.nb)).setCell ⟨x,3,none⟩ (.slice u.ad u.l u.c)).setCell ⟨x,1,none⟩ pv2) x R cR rows n P pv2 (ps++[c]) u z odd:=by
 have hpB:∀ k,pv.ownBlock=some k->B<=k:=fun k hk=>(h.pvt.lt k hk).1
 have hxB:=h.xB;have hb2:=h.box.grown hg (fun e=>by have:=hpB x e.symm;omega);have ht2:=h.tab.grown h.pvt dCx h.pno hg;have hv2:=hu.clean h.pno hg
 obtain ⟨A1,c1,rfl⟩:∃ A c,pv2 = .slice A (ps.length+1) c:=by
  rcases ho.2 with ⟨e,e2⟩|⟨g,cap,cur,e,_,_,e2,_⟩
  ·omega
  exact ⟨_,cap,e⟩
 have hno:=h.no;obtain ⟨A0,c0,rfl⟩:=h.pform;have b2:Blk (w2.setCell ⟨x,2,none⟩ (.bool u.nb)) x 69 [.slice (some ⟨R,0,none⟩) rows.length cR,.slice A0 ps.length c0,.bool u.nb,.slice v.ad v.l v.c,.bool odd]:=hb2.set 2 _;have b3:Blk ((w2.setCell ⟨x,2,none⟩ (.bool u.nb)).setCell ⟨x,3,none⟩ (.slice u.ad u.l u.c)) x 69 [.slice (some ⟨R,0,none⟩) rows.length cR,.slice A0 ps.length c0,.bool u.nb,.slice u.ad u.l u.c,.bool odd]:=b2.set 3 _;have n2:=zIw (a := .slice (some ⟨R,0,none⟩) rows.length cR) (b := .slice A0 ps.length c0) (nb:=u.nb) (odd:=odd) (S:=v.ad) (l:=v.l) (c:=v.c) (fun z e=>by cases e) (fun z e=>by cases e);have n3:=zIw (a := .slice (some ⟨R,0,none⟩) rows.length cR) (b := .slice A0 ps.length c0) (nb:=u.nb) (odd:=odd) (S:=u.ad) (l:=u.l) (c:=u.c) (fun z e=>by cases e) (fun z e=>by cases e);have hp3:=ownsRow_setCell_below (ownsRow_setCell_below ho (a:=⟨x,2,none⟩) hxB (.bool u.nb)) (a:=⟨x,3,none⟩) hxB (.slice u.ad u.l u.c)
 have hkx:∀ {W:World},W.ownsRow B 3 1 (.slice A1 (ps.length+1) c1) (ps.length+1) (vn ps++[.int .i64 (c:Int)])->(Value.slice A1 (ps.length+1) c1).ownBlock=none\/(Value.slice A1 (ps.length+1) c1).ownBlock≠some x:=fun hW=>by
  rcases hv:(Value.slice A1 (ps.length+1) c1).ownBlock with _|g
  ·exact .inl rfl
  refine .inr ?_;have:=(hW.lt g hv).1
  intro e
  injection e with e;omega
 have m2:=hn.kept (zOc x 2 (.bool u.nb)) (fun k hk=>(ho.lt k hk).2) (hkx ho);have o2:=ownsRow_setCell_below ho (a:=⟨x,2,none⟩) hxB (.bool u.nb);have m3:=m2.kept (zOc x 3 (.slice u.ad u.l u.c)) (fun k hk=>(o2.lt k hk).2) (hkx o2);refine ⟨b3.set 1 _,((ht2.far hxB hb2 hno 2 _).far hxB b2 n2 3 _).far hxB b3 n3 1 _,((hv2.box hb2 hno (zOc x 2 _)).box b2 n2 (zOc x 3 _)).box b3 n3 (zOc x 1 _),?_,m3.kept (zOc x 1 _) (fun k hk=>(hp3.lt k hk).2) (hkx hp3),hxB,(((h.bel.grown (Nat.le_trans h.wB h.bel.size) hg hpB).set (.inl rfl) _ _).set (.inl rfl) _ _).set (.inl rfl) _ _,h.wB⟩;rw [xFo,List.length_append,List.length_singleton];exact ownsRow_setCell_below hp3 (a:=⟨x,1,none⟩) hxB _
theorem zDf.alloc (h:zDf B w wr x R cR rows n P pv ps v vz odd) (o:Obj):zDf B w (wr.alloc o) x R cR rows n P pv ps v vz odd:=h.below (bRx.alloc lRx o)
theorem own_far (h:zDf B w wr x R cR rows n P pv ps v vz odd):some x≠pv.ownBlock:=fun e=>by
 have h1:=(h.pvt.lt x e.symm).1;have h2:=h.xB;omega
theorem zDf.congr (h:zDf B w wr x R cR rows n P pv ps v vz odd) {P':Nat->Nat->Int} (he:∀ i k,i<rows.length->k<n->P' i k=P i k):zDf B w wr x R cR rows n P' pv ps v vz odd :=
 ⟨h.box,h.tab.congr he,h.val,h.pvt,h.pno,h.xB,h.bel,h.wB⟩
theorem zDf.base (h:zDf B w wr x R cR rows n P pv ps v vz odd):zDf B wr wr x R cR rows n P pv ps v vz odd :=
 ⟨h.box,h.tab,h.val,h.pvt,h.pno,h.xB,Bex.refl _ _ _,Nat.le_trans h.wB h.bel.size⟩
theorem zDf.from {w0:World} (h:zDf B w wr x R cR rows n P pv ps v vz odd) (hb:Bex B x w0 w) (hw:B<=w0.heap.size):zDf B w0 wr x R cR rows n P pv ps v vz odd :=
 ⟨h.box,h.tab,h.val,h.pvt,h.pno,h.xB,hb.trans h.bel,hw⟩
theorem zDf.drew (h:zDf B w wr x R cR rows n P pv ps v vz odd):zDf B w wr.drew x R cR rows n P pv ps v vz odd:=h.below bRx.drew
end
def xAu (P:Nat->Nat->Int) (r c:Nat) (v:Int) (i k:Nat):Int:=if i=r then P r k else (P i k*P r c-P i c*P r k)/v
theorem xAv {P P2:Nat->Nat->Int} {p r c m:Nat} {v:Int} (hp:p<m) (hr:r<m) (h:∀ i k,i<m->P2 i k=P (sw p r i) k) {i k:Nat} (hi:i<m):xAu P2 r c v i k=xAt P p r c v i k:=by
 have e:sw p r r=p:=by unfold sw;split<;>simp_all
 unfold xAu xAt;rw [h i k hi,h i c hi,h r k hr,h r c hr,e]
theorem xBc {P:Nat->Nat->Int} {ps:List Nat} {v:Int} {odd:Bool} {m c:Nat} (hps:ps.length<=m) (hz:∀ q,ps.length<=q->q<m->P q c=0):(zAr.mk P ps v odd).step m c=⟨P,ps,v,odd⟩:=by
 have e:zTl P c (m-ps.length) ps.length=m:=zTm hps oMx hz (fun h=>by omega)
 show (if zTl P c (m-ps.length) ps.length<m then _ else _)=_
 rw [e,if_neg (Nat.lt_irrefl _)]
theorem xBe {P:Nat->Nat->Int} {ps:List Nat} {v:Int} {odd:Bool} {m c p:Nat} (h1:ps.length<=p) (h2:p<m) (hz:∀ q,ps.length<=q->q<p->P q c=0) (h0:P p c≠0):(zAr.mk P ps v odd).step m c=⟨xAt P p ps.length c v,ps++[c],P p c,if p=ps.length then odd else !odd⟩:=by
 have e:zTl P c (m-ps.length) ps.length=p:=zTm h1 oMx hz (fun _=>h0)
 show (if zTl P c (m-ps.length) ps.length<m then zAr.mk (xAt P (zTl P c (m-ps.length) ps.length) ps.length c v) (ps++[c]) (P (zTl P c (m-ps.length) ps.length) c) (if zTl P c (m-ps.length) ps.length=ps.length then odd else !odd) else _)=_
 rw [e,if_pos h2]
def zDe (B x R cR n:Nat) (m:Nat) (s:zAr) (w w':World):Prop:=∃ rows pv v,rows.length=m/\zDf B w w' x R cR rows n s.P pv s.ps v s.v s.odd
theorem zVe (B x R cR c n L:Nat) (rows:List zGg) (P:Nat->Nat->Int) (pv:Value) (ps:List Nat) (v:zCq) (vz:Int) (odd:Bool) (w:World) (h:zDf B w w x R cR rows n P pv ps v vz odd) (hc:c<n) (hL:L<=300000) (hP:∀ i k,i<rows.length->LL (P i k)<=L) (hv:LL vz<=L) (hv0:vz≠0) (hm:rows.length<=1000) (hn:n<=1000) (hps:ps.length<=rows.length) :
  Calls Tryz.prog 75 #[.pointer (some ⟨x,0,none⟩),.int .i64 (c:Int)] w fun e w'=>e = .returned (.tuple #[])/\zDe B x R cR n rows.length ((zAr.mk P ps vz odd).step rows.length c) w w':=by
 generalize hQ:zDe B x R cR n rows.length ((zAr.mk P ps vz odd).step rows.length c) w=Q;replace hQ:=oH hQ;obtain ⟨i0,hi,hz0,hz1,hz2⟩:=info_parts Tryz.infoInt;have H:=oH h;have HP:=oH hP;have k1:=h.box.at_ (i:=1) rfl
 obtain ⟨Ap,cp,rfl, -⟩:∃ A c,pv = .slice A ps.length c/\ps.length<=c:=by
  rcases h.pvt.2 with ⟨e,e2⟩|⟨g,cap,cur,e,_,_,e2,_⟩
  ·exact ⟨none,0,by rw [e,e2],oMx⟩
  exact ⟨_,cap,e,e2⟩
 clear h hP
 go_enter Tryz.func75,Tryz.ntmps75
 go_wp2_with fail;clear k1
 go_loopw [5] (fun iv wr=>∃ p:Nat,iv = .int .i64 (p:Int)/\ps.length<=p/\p<=rows.length/\(∀ q,ps.length<=q->q<p->P q c=0)/\zDf B w wr x R cR rows n P (.slice Ap ps.length cp) ps v vz odd) (fun iv _=>rows.length-(intOf iv).toNat)
 ·exact ⟨ps.length,rfl,lRx,hps,fun q h1 h2=>by omega,H.out⟩
 obtain ⟨p,rfl,hp1,hp2,hz,hs⟩:=hrel;have HZ:=oH hz;have HS:=oH hs;have k0:=hs.box.at_ (i:=0) rfl;clear hz hs H
 by_cases hlt:p<rows.length
 ·have k2:=HS.tab.cell rfl hlt;obtain ⟨nb,S,l,c',k3,k4,hnum⟩:=HS.tab.num_at hlt hc;have HNM:=oH hnum
  have hx1:(0:Int)<=(p:Int):=by omega
  have hx2:(p:Int)<(rows.length:Int):=by omega
  have hx3:(0:Int)<=(c:Int):=by omega
  have hx4:(c:Int)<(n:Int):=by omega
  have hd:decide ((p:Int)<(rows.length:Int))=true:=by simp;omega
  generalize rows[p].g=gp at *;generalize rows[p].cp=cpp at *;clear hnum;go_wp2_with fail;refine (zGm _ _ _ HNM.out (by have:=HP.out p c hlt;unfold LL at this;omega)).mono ?_;rintro e w2 ⟨rfl,hb2⟩;have HS2:=oH (HS.below hb2);clear hb2 k0 k2 k3 k4
  by_cases hz0:P p c=0
  ·have hsg:sg (P p c)=0:=by rw [hz0];rfl
   have HZ0:=oH hz0;rw [hsg];clear hz0 hsg;go_wp2_with fail;go_roundw
   ·exact ⟨p+1,by go_num,oMx,oMx,(fun q h1 h2=>by
    rcases Nat.lt_or_ge q p with h3|h3
    ·exact HZ.out q h1 h3
    obtain rfl:q=p:=by omega
    exact HZ0.out),HS2.out⟩
   simp [intOf];omega
  have hsg:(sg (P p c)==0)=false:=by rw [beq_eq_false_iff_ne];unfold sg;split<;>(try split)<;>omega
  have HZ0:=oH hz0;generalize sg (P p c)=sgp at *;clear hz0;have k0:=HS2.box.at_ (i:=0) rfl
  have hpa:ps.length<rows.length:=by omega
  go_upto_if 49 with (fail)
  clear hsg k0
  go_cut [5] (fun iv wc=>iv = .int .i64 (p:Int)/\∃ rows2 P2 odd2,zDf B w wc x R cR rows2 n P2 (.slice Ap ps.length cp) ps v vz odd2/\rows2.length=rows.length/\(∀ i k,i<rows.length->P2 i k=P (sw p ps.length i) k)/\odd2=if p=ps.length then odd else !odd)
  case first =>
   by_cases hpe:p=ps.length
   ·have hd2:((p:Int) != (ps.length:Int))=false:=by simp;omega
    have HPE:=oH hpe;clear hpe;go_wp2_with fail
    go_meet
    exact ⟨rfl,rows,P,odd,HS2.out,rfl,(fun i k _=>by rw [HPE.out];congr 1;unfold sw;split<;>(try split)<;>omega),by rw [if_pos HPE.out]⟩
   have hd2:((p:Int) != (ps.length:Int))=true:=by simp;omega
   have HPE:=oH hpe;have hpe2:ps.length≠p:=Ne.symm hpe;have HSW:=oH (HS2.swap hlt hpa);have k0:=HS2.box.at_ (i:=0) rfl;have kp:=HS2.tab.cell rfl hlt;have ka:=HS2.tab.cell rfl hpa;have fp:=HS2.tab.o.frozenAt p;have fa:=HS2.tab.o.frozenAt ps.length
   have hxa:(0:Int)<=(ps.length:Int):=by omega
   have hxb:(ps.length:Int)<(rows.length:Int):=by omega
   have hRx:R≠x:=by have:=HS2.tab.o.lt R rfl;have:=HS2.xB;omega
   have k4:=HS2.box.at_ (i:=4) rfl;have f4:=HS2.box.fr 4;go_wp2_with fail
   go_region
   all_goals go_wp2_with fail
   all_goals go_meet
   all_goals first
    | exact ⟨rfl,_,_,_,HSW.out,xCm _ _ _ _ _,(fun i k _=>rfl),by rw [if_neg HPE.out]⟩
    | exact ⟨rfl,_,_,_,HSW.drew,xCm _ _ _ _ _,(fun i k _=>rfl),by rw [if_neg HPE.out]⟩
  case rest =>
   obtain ⟨rfl,rows2,P2,odd2,hs,hl2,hP2,ho2⟩:=hcut;have HS3:=oH hs;have HL2:=oH hl2;have HP2:=oH hP2;have HO2:=oH ho2
   have hpa2:ps.length<rows2.length:=by omega
   have k0:=hs.box.at_ (i:=0) rfl;have k2:=hs.tab.cell rfl hpa2;obtain ⟨nv,S6,l6,c6,k3,k4,hnum⟩:=hs.tab.num_at hpa2 hc;have HNV:=oH hnum
   have hxa:(0:Int)<=(ps.length:Int):=by omega
   have hxb:(ps.length:Int)<(rows2.length:Int):=by omega
   have hxc:(0:Int)<=(c:Int):=by omega
   have hxd:(c:Int)<(n:Int):=by omega
   rw [<-hl2] at hp2
   have hm2:rows2.length<=1000:=by omega
   have bnd:∀ a b,a<rows2.length->LL (P2 a b)<=L:=fun a b ha=>by rw [hP2 a b oMx];exact HP.out _ b (xCi hlt hpa oMx)
   have HGA:=oH (rfl:rows2[ps.length].g=rows2[ps.length].g);have HV0:=oH hv0;have sx:=hs.box.lt;have HV6:=oH (Blk.new wc 62 [.bool nv,.slice S6 l6 c6]);have HS4:=oH (hs.below (bRx.alloc lRx (.cells #[.bool nv,.slice S6 l6 c6] 62)));have HN4:=oH (hnum.below (bRx.alloc lRx (.cells #[.bool nv,.slice S6 l6 c6] 62)));have HG6:=oH (fun a (ha:a<rows2.length)=>(hs.tab.blk ha).2);have HR6:=oH ((hs.tab.o.lt R rfl).2);have HB6:=oH (Nat.le_trans hs.wB hs.bel.size);clear hs hl2 hP2 ho2 hnum HS HS2;obtain ⟨ga,hga⟩:=eXx (rows2[ps.length].g);replace HGA:=oH hga;rw [hga] at k2 k3 k4;clear hga;obtain ⟨ca,hca⟩:=eXx (rows2[ps.length].cp);have HCA:=oH hca;rw [hca] at k2;clear hca;go_wp2_with fail;clear k0 k2 k3 k4 sx
   go_loopw [99] (fun iv wr=>∃ (i:Nat) (rows3:List zGg) (P3:Nat->Nat->Int),iv = .int .i64 (i:Int)/\i<=rows2.length/\rows3.length=rows2.length/\(∀ a,(h:a<rows2.length)->(h2:a<rows3.length)->rows3[a].g=rows2[a].g/\rows3[a].cp=rows2[a].cp)/\(∀ a k,a<rows2.length->k<n->P3 a k=if a<i then xAu P2 ps.length c vz a k else P2 a k)/\zDf B w wr x R cR rows3 n P3 (.slice Ap ps.length cp) ps v vz odd2/\Blk wr wc.heap.size 62 [.bool nv,.slice S6 l6 c6]/\zBs wr (.agg #[.bool nv,.slice S6 l6 c6]) (P2 ps.length c)) (fun iv _=>rows2.length-(intOf iv).toNat)
   ·exact ⟨0,rows2,P2,rfl,oLx,rfl,(fun _ _ _=>⟨rfl,rfl⟩),(fun a k _ _=>by rw [if_neg oMx]),HS4.out,HV6.out,HN4.out⟩
   obtain ⟨i,rows3,P3,rfl,hi3,hl3,hg3,hP3,hs,hv6,hn6⟩:=hrel;obtain ⟨wi,rfl⟩:=nWx wr;have HS5:=oH hs;have HV5:=oH hv6;have HN5:=oH hn6;have HP3:=oH hP3;have HG3:=oH hg3;have k0:=hs.box.at_ (i:=0) rfl;clear hP3 hg3 hv6 hn6
   by_cases hlt3:i<rows2.length
   ·have hi3':i<rows3.length:=by omega
    have k2:=hs.tab.cell rfl hi3'
    have hxi:(0:Int)<=(i:Int):=by omega
    have hxj:(i:Int)<(rows2.length:Int):=by omega
    clear hs
    by_cases hia:i=ps.length
    ·have hd3:((i:Int)==(ps.length:Int))=true:=by simp;omega
     have HIA:=oH hia;clear hia;go_wp2_with fail;go_roundw
     ·exact ⟨i+1,rows3,P3,by go_num,oMx,hl3,HG3.out,(fun a k ha hk=>by
      rw [HP3.out a k ha hk];have:=HIA.out
      by_cases e:a<i
      ·rw [if_pos e,if_pos oMx]
      by_cases e2:a=i
      ·subst e2;rw [if_neg e,if_pos oMx,this];unfold xAu;rw [if_pos rfl]
      rw [if_neg e,if_neg oMx]),HS5.out,HV5.out,HN5.out⟩
     simp [intOf];omega
    have hd3:((i:Int)==(ps.length:Int))=false:=by simp;omega
    have HIA:=oH hia;obtain ⟨nf,Sf,lf,cf,k5,k6,hnf⟩:=HS5.tab.num_at hi3' hc;rw [HP3.out i c hlt3 hc,if_neg oMx] at hnf;have HF6:=oH (hnf.below (bRx.alloc lRx (.cells #[.bool nf,.slice Sf lf cf] 62)));have HB9:=oH (Blk.new wi 62 [.bool nf,.slice Sf lf cf]);have HS6:=oH (HS5.below (bRx.alloc lRx (.cells #[.bool nf,.slice Sf lf cf] 62)));have HV6':=oH (HV5.below (bRx.alloc lRx (.cells #[.bool nf,.slice Sf lf cf] 62)));have HN6:=oH (HN5.below (bRx.alloc lRx (.cells #[.bool nf,.slice Sf lf cf] 62)));have HGW:=oH (HS5.tab.blk hi3').2;have HGE:=oH (HG3.out i hlt3 hi3').1;clear hia hnf;obtain ⟨gi,hgi⟩:=eXx (rows3[i].g);have HGI:=oH hgi;rw [hgi] at k2 k5 k6;clear hgi;generalize rows3[i].cp=cpi at *;go_wp2_with fail;clear k0 k2 k5 k6 hd3
    go_loopw [113] (fun jv wq=>∃ (k:Nat) (rows4:List zGg) (P4:Nat->Nat->Int),jv = .int .i64 (k:Int)/\k<=n/\rows4.length=rows2.length/\(∀ a,(h:a<rows2.length)->(h2:a<rows4.length)->rows4[a].g=rows2[a].g/\rows4[a].cp=rows2[a].cp)/\(∀ a b,a<rows2.length->b<n->P4 a b=if a=i/\b<k then xAu P2 ps.length c vz i b else P3 a b)/\zDf B w wq x R cR rows4 n P4 (.slice Ap ps.length cp) ps v vz odd2/\Blk wq wc.heap.size 62 [.bool nv,.slice S6 l6 c6]/\zBs wq (.agg #[.bool nv,.slice S6 l6 c6]) (P2 ps.length c)/\Blk wq wi.heap.size 62 [.bool nf,.slice Sf lf cf]/\zBs wq (.agg #[.bool nf,.slice Sf lf cf]) (P2 i c)) (fun jv _=>n-(intOf jv).toNat)
    ·exact ⟨0,rows3,P3,rfl,oLx,hl3,HG3.out,(fun a b _ _=>by rw [if_neg oMx]),HS6.out,HV6'.out,HN6.out,HB9.out,HF6.out⟩
    obtain ⟨k,rows4,P4,rfl,hk4,hl4,hg4,hP4,hs7,hv7,hn7,hb9,hf7⟩:=hrel;obtain ⟨wq,rfl⟩:=nWx wr;have HS7:=oH hs7;have HV7:=oH hv7;have HN7:=oH hn7;have HB7:=oH hb9;have HF7:=oH hf7;have HP4:=oH hP4;have HG4:=oH hg4;clear hP4 hg4 hs7 hv7 hn7 hb9 hf7
    by_cases hltk:k<n
    ·-- REGION
     have hi4:i<rows4.length:=by omega
     have ha4:ps.length<rows4.length:=by omega
     have egi:rows4[i].g=gi:=by rw [(HG4.out i hlt3 hi4).1,<-HGE.out];exact HGI.out
     have ega:rows4[ps.length].g=ga:=by rw [(HG4.out ps.length hpa2 ha4).1];exact HGA.out
     have eca:rows4[ps.length].cp=ca:=by rw [(HG4.out ps.length hpa2 ha4).2];exact HCA.out
     have hx5:(0:Int)<=(k:Int):=by omega
     have hx6:(k:Int)<(n:Int):=by omega
     obtain ⟨n1,S1,l1,c1,p1,p2,hn1⟩:=HS7.tab.num_at hi4 hltk;obtain ⟨n2,S2,l2,c2,p3,p4,hn2⟩:=HS7.tab.num_at ha4 hltk;have p5:=HS7.box.at_ (i:=0) rfl;have p6:=HS7.tab.cell rfl ha4;have p7:=HS7.box.at_ (i:=2) rfl;have p8:=HS7.box.at_ (i:=3) rfl;have p9:=HV7.at_ (i:=0) rfl;have p10:=HV7.at_ (i:=1) rfl;have p11:=HB7.at_ (i:=0) rfl;have p12:=HB7.at_ (i:=1) rfl;rw [HP4.out i k hlt3 hltk,if_neg oMx,HP3.out i k hlt3 hltk,if_neg oMx] at hn1;rw [HP4.out ps.length k hpa2 hltk,if_neg (by have:=HIA.out;omega),HP3.out ps.length k hpa2 hltk] at hn2
     have ep:(if ps.length<i then xAu P2 ps.length c vz ps.length k else P2 ps.length k)=P2 ps.length k:=by unfold xAu;split<;>simp
     rw [ep] at hn2;rw [egi] at p1 p2;rw [ega] at p3 p4 p6;rw [eca] at p6;have KB:=oH (fun W (hW:Below wq.heap.size wq W)=>(show W.cell? ⟨gi,k*2,none⟩=some (.bool n1)/\W.cell? ⟨gi,k*2+1,none⟩=some (.slice S1 l1 c1)/\W.cell? ⟨ga,k*2,none⟩=some (.bool n2)/\W.cell? ⟨ga,k*2+1,none⟩=some (.slice S2 l2 c2)/\W.cell? ⟨x,0,none⟩=some (.slice (some ⟨R,0,none⟩) rows4.length cR)/\W.cell? ⟨R,ps.length,none⟩=some (.slice (some ⟨ga,0,none⟩) n ca)/\W.cell? ⟨x,2,none⟩=some (.bool v.nb)/\W.cell? ⟨x,3,none⟩=some (.slice v.ad v.l v.c)/\W.cell? ⟨wc.heap.size,0,none⟩=some (.bool nv)/\W.cell? ⟨wc.heap.size,1,none⟩=some (.slice S6 l6 c6)/\W.cell? ⟨wi.heap.size,0,none⟩=some (.bool nf)/\W.cell? ⟨wi.heap.size,1,none⟩=some (.slice Sf lf cf) from ⟨kP hW p1,kP hW p2,kP hW p3,kP hW p4,kP hW p5,kP hW p6,kP hW p7,kP hW p8,kP hW p9,kP hW p10,kP hW p11,kP hW p12⟩));have HFR:=oH (fun W (hW:Below wq.heap.size wq W) (j:Nat)=>(show W.frozen? ⟨gi,j,none⟩=false by have:=(HS7.below hW).tab.frozen hi4 j;rwa [egi] at this))
     have q1:=bnd i k hlt3;have q2:=bnd ps.length k hpa2;have q3:=bnd i c hlt3;have q4:=bnd ps.length c hpa2;have la:(limbs (P2 i k*P2 ps.length c).natAbs).length<=2*L:=Nat.le_trans (zBy _ _) oMx;have lb:(limbs (P2 i c*P2 ps.length k).natAbs).length<=2*L:=Nat.le_trans (zBy _ _) oMx;have ls:(limbs (P2 i k*P2 ps.length c-P2 i c*P2 ps.length k).natAbs).length<=2*L+1:=LL_sub la lb;unfold LL at q1 q2 q3 q4 hv;have FA:=oH hn1;have FP:=oH hn2;have FV:=HN7;have FF:=HF7;have FX:=oH (show zBs wq (.agg #[.bool v.nb,.slice v.ad v.l v.c]) vz from HS7.val);have EQ:=oH (show (P2 i k*P2 ps.length c-P2 i c*P2 ps.length k)/vz=xAu P2 ps.length c vz i k by unfold xAu;rw [if_neg HIA.out]);have HST:=oH (fun W (hW:Below wq.heap.size wq W) u (hu:zBs W (zCq.val u) _)=>(HS7.below hW).store hi4 hltk (u:=u) (z:=xAu P2 ps.length c vz i k) hu);rw [egi] at HST;generalize P2 i k=za at *;generalize P2 ps.length c=zv at *
     generalize P2 i c=zf at *;generalize P2 ps.length k=zp at *
     have ne1:gi≠ga:=by
      have h1:=List.pairwise_iff_getElem.1 HS7.tab.nd;rw [<-egi,<-ega]
      rcases Nat.lt_or_ge i ps.length with h2|h2
      ·have:=h1 i ps.length (by simpa using hi4) (by simpa using ha4) h2
       simpa using this
      have:=h1 ps.length i (by simpa using ha4) (by simpa using hi4) (by have:=HIA.out;omega)
      simpa using Ne.symm (by simpa using this)
     have ne2:gi≠x:=by have h1:=(HS7.tab.blk hi4).1;have h2:=HS7.xB;rw [egi] at h1;omega
     have ne3:gi≠R:=by
      have:=zUp (HS7.tab.r _ (List.getElem_mem hi4)) HS7.tab.o dCx (show Value.ownBlock (.slice (some ⟨R,0,none⟩) rows4.length cR)=some R from rfl)
      intro e
      apply this
      show some rows4[i].g=some R
      rw [egi,e]
     have ne4:gi≠wc.heap.size:=by have h1:=HG6.out i hlt3;rw [<-(HG4.out i hlt3 hi4).1,egi] at h1;omega
     have ne5:gi≠wi.heap.size:=by have h1:=HGW.out;rw [HGI.out] at h1;omega
     clear hn1 hn2 egi ega eca ep;go_wp2_with fail;have KS0:Hid (wq.drew.cell? ⟨ga,k*2,none⟩=some (.bool n2)/\wq.drew.cell? ⟨ga,k*2+1,none⟩=some (.slice S2 l2 c2)/\wq.drew.cell? ⟨x,0,none⟩=some (.slice (some ⟨R,0,none⟩) rows4.length cR)/\wq.drew.cell? ⟨R,ps.length,none⟩=some (.slice (some ⟨ga,0,none⟩) n ca)/\wq.drew.cell? ⟨x,2,none⟩=some (.bool v.nb)/\wq.drew.cell? ⟨x,3,none⟩=some (.slice v.ad v.l v.c)/\wq.drew.cell? ⟨wc.heap.size,0,none⟩=some (.bool nv)/\wq.drew.cell? ⟨wc.heap.size,1,none⟩=some (.slice S6 l6 c6)/\wq.drew.cell? ⟨wi.heap.size,0,none⟩=some (.bool nf)/\wq.drew.cell? ⟨wi.heap.size,1,none⟩=some (.slice Sf lf cf)):=oH ⟨p3,p4,p5,p6,p7,p8,p9,p10,p11,p12⟩;refine wp_region_held_drew (S:=(fun w'=>w'.cell? ⟨ga,k*2,none⟩=some (.bool n2)/\w'.cell? ⟨ga,k*2+1,none⟩=some (.slice S2 l2 c2)/\w'.cell? ⟨x,0,none⟩=some (.slice (some ⟨R,0,none⟩) rows4.length cR)/\w'.cell? ⟨R,ps.length,none⟩=some (.slice (some ⟨ga,0,none⟩) n ca)/\w'.cell? ⟨x,2,none⟩=some (.bool v.nb)/\w'.cell? ⟨x,3,none⟩=some (.slice v.ad v.l v.c)/\w'.cell? ⟨wc.heap.size,0,none⟩=some (.bool nv)/\w'.cell? ⟨wc.heap.size,1,none⟩=some (.slice S6 l6 c6)/\w'.cell? ⟨wi.heap.size,0,none⟩=some (.bool nf)/\w'.cell? ⟨wi.heap.size,1,none⟩=some (.slice Sf lf cf))) (by kernel_rfl) (by exact KS0.out) (fun hHeld=>?_)
     refine tkH 0 ?_;refine tkH 1 ?_;refine tkH 2 ?_;refine tkH 3 ?_;refine tkH 4 ?_;refine tkH 6 ?_;refine tkH 8 ?_;refine tkH 9 ?_;refine tkH 10 ?_;refine tkH 11 ?_;refine tkH 12 ?_;refine tkH 13 ?_;refine tkH 14 ?_;refine tkH 15 ?_;refine tkH 16 ?_;refine tkH 17 ?_;refine tkH 18 ?_;refine tkH 21 ?_;refine tkH 22 ?_;refine tkH 23 ?_;refine tkH 24 ?_
     try simp only [Act.put,tkA,tkB,tkC]
     refine tkS 5 fun K hK=>?_
     go_simp
     refine hK.out _ _ ?_ (fun hHeld=>?_)
     ·first|with_reducible exact KSa.out|with_reducible exact KSb.out|with_reducible exact KSs.out|with_reducible exact KSd.out|with_reducible exact KS0.out|go_keep
     clear hK K
     try simp only [Act.put,tkA,tkB,tkC]
     refine tkS 7 fun K hK=>?_
     go_simp
     (go_at_call 37;(with_reducible refine (zCl _ _ za zv _ (FA.out.below bTy) (FV.out.below bTy) oMx oMx).mono ?_);rintro e wa ⟨va,rfl,hv,hb⟩;have hw:Below wq.heap.size wq wa:=Below.trans bTy (hb.mono (by first|exact lRx|exact HWb.out.size));have HWa:=oH hw;have HVa:=oH hv;obtain ⟨xa,Xa,ya,za',rfl⟩:=hv.slice;(first|(have HVb':=oH (HVb.out.below hb) )|(have HVb':=oH (HVb.out.drew.below hb))|skip);clear hv;obtain ⟨qa0,qa1,qa2,qa3,qa4,qa5,qa6,qa7,qa8,qa9,qa10,qa11⟩:=KB.out wa hw;have KSa:Hid (wa.cell? ⟨ga,k*2,none⟩=some (.bool n2)/\wa.cell? ⟨ga,k*2+1,none⟩=some (.slice S2 l2 c2)/\wa.cell? ⟨x,0,none⟩=some (.slice (some ⟨R,0,none⟩) rows4.length cR)/\wa.cell? ⟨R,ps.length,none⟩=some (.slice (some ⟨ga,0,none⟩) n ca)/\wa.cell? ⟨x,2,none⟩=some (.bool v.nb)/\wa.cell? ⟨x,3,none⟩=some (.slice v.ad v.l v.c)/\wa.cell? ⟨wc.heap.size,0,none⟩=some (.bool nv)/\wa.cell? ⟨wc.heap.size,1,none⟩=some (.slice S6 l6 c6)/\wa.cell? ⟨wi.heap.size,0,none⟩=some (.bool nf)/\wa.cell? ⟨wi.heap.size,1,none⟩=some (.slice Sf lf cf)):=oH ⟨qa2,qa3,qa4,qa5,qa6,qa7,qa8,qa9,qa10,qa11⟩;clear hb hw)
     go_wp2_with fail;refine hK.out _ _ ?_ (fun hHeld=>?_)
     ·first|with_reducible exact KSa.out|with_reducible exact KSb.out|with_reducible exact KSs.out|with_reducible exact KSd.out|with_reducible exact KS0.out|go_keep
     clear hK K
     try simp only [Act.put,tkA,tkB,tkC]
     refine tkS 19 fun K hK=>?_
     go_simp
     (go_at_call 37;(with_reducible refine (zCl _ _ zf zp _ (FF.out.below bTy) (FP.out.below bTy) oMx oMx).mono ?_);rintro e wb ⟨vb,rfl,hv,hb⟩;have hw:Below wq.heap.size wq wb:=Below.trans bTy (hb.mono (by first|exact lRx|exact HWa.out.size));have HWb:=oH hw;have HVb:=oH hv;obtain ⟨xb,Xb,yb,zb',rfl⟩:=hv.slice;(first|(have HVa':=oH (HVa.out.below hb) )|(have HVa':=oH (HVa.out.drew.below hb))|skip);clear hv;obtain ⟨qb0,qb1,qb2,qb3,qb4,qb5,qb6,qb7,qb8,qb9,qb10,qb11⟩:=KB.out wb hw;have KSb:Hid (wb.cell? ⟨ga,k*2,none⟩=some (.bool n2)/\wb.cell? ⟨ga,k*2+1,none⟩=some (.slice S2 l2 c2)/\wb.cell? ⟨x,0,none⟩=some (.slice (some ⟨R,0,none⟩) rows4.length cR)/\wb.cell? ⟨R,ps.length,none⟩=some (.slice (some ⟨ga,0,none⟩) n ca)/\wb.cell? ⟨x,2,none⟩=some (.bool v.nb)/\wb.cell? ⟨x,3,none⟩=some (.slice v.ad v.l v.c)/\wb.cell? ⟨wc.heap.size,0,none⟩=some (.bool nv)/\wb.cell? ⟨wc.heap.size,1,none⟩=some (.slice S6 l6 c6)/\wb.cell? ⟨wi.heap.size,0,none⟩=some (.bool nf)/\wb.cell? ⟨wi.heap.size,1,none⟩=some (.slice Sf lf cf)):=oH ⟨qb2,qb3,qb4,qb5,qb6,qb7,qb8,qb9,qb10,qb11⟩;clear hb hw)
     go_wp2_with fail;refine hK.out _ _ ?_ (fun hHeld=>?_)
     ·first|with_reducible exact KSa.out|with_reducible exact KSb.out|with_reducible exact KSs.out|with_reducible exact KSd.out|with_reducible exact KS0.out|go_keep
     clear hK K
     try simp only [Act.put,tkA,tkB,tkC]
     refine tkS 20 fun K hK=>?_
     go_simp
     (go_at_call 113;(with_reducible refine (zGy _ _ (za*zv) (zf*zp) _ (by first|exact HVa.out|exact HVa'.out|exact HVa.out.drew|exact HVa'.out.drew) (by first|exact HVb.out|exact HVb'.out|exact HVb.out.drew|exact HVb'.out.drew) (by have:=la;omega) (by have:=lb;omega)).mono ?_);rintro e ws ⟨vs,rfl,hv,hb⟩;have hw:Below wq.heap.size wq ws:=Below.trans bTy (hb.mono (by first|exact lRx|exact HWa.out.size|exact HWb.out.size));have HWs:=oH hw;have HVs:=oH hv;obtain ⟨xs',Xs,ys,zs',rfl⟩:=hv.slice;clear hv;obtain ⟨qs0,qs1,qs2,qs3,qs4,qs5,qs6,qs7,qs8,qs9,qs10,qs11⟩:=KB.out ws hw;have KSs:Hid (ws.cell? ⟨ga,k*2,none⟩=some (.bool n2)/\ws.cell? ⟨ga,k*2+1,none⟩=some (.slice S2 l2 c2)/\ws.cell? ⟨x,0,none⟩=some (.slice (some ⟨R,0,none⟩) rows4.length cR)/\ws.cell? ⟨R,ps.length,none⟩=some (.slice (some ⟨ga,0,none⟩) n ca)/\ws.cell? ⟨x,2,none⟩=some (.bool v.nb)/\ws.cell? ⟨x,3,none⟩=some (.slice v.ad v.l v.c)/\ws.cell? ⟨wc.heap.size,0,none⟩=some (.bool nv)/\ws.cell? ⟨wc.heap.size,1,none⟩=some (.slice S6 l6 c6)/\ws.cell? ⟨wi.heap.size,0,none⟩=some (.bool nf)/\ws.cell? ⟨wi.heap.size,1,none⟩=some (.slice Sf lf cf)):=oH ⟨qs2,qs3,qs4,qs5,qs6,qs7,qs8,qs9,qs10,qs11⟩;clear hb hw)
     go_wp2_with fail;refine hK.out _ _ ?_ (fun hHeld=>?_)
     ·first|with_reducible exact KSa.out|with_reducible exact KSb.out|with_reducible exact KSs.out|with_reducible exact KSd.out|with_reducible exact KS0.out|go_keep
     clear hK K
     try simp only [Act.put,tkA,tkB,tkC]
     refine tkS 25 fun K hK=>?_
     go_simp
     (go_at_call 73;(with_reducible refine (zAp _ _ (za*zv-zf*zp) vz _ (by first|exact HVs.out|exact HVs.out.drew) (FX.out.below bTy) (by have:=ls;omega) oMx HV0.out).mono ?_);rintro e wd ⟨vd,ud,rfl,hv,hr,hb⟩;have hw:Below wq.heap.size wq wd:=Below.trans bTy (hb.mono (by first|exact lRx|exact HWs.out.size));have HWd:=oH hw;have HVd:=oH hv;obtain ⟨xd,Xd,yd,zd,rfl⟩:=hv.slice;obtain ⟨xe,Xe,ye,ze,rfl⟩:=hr.slice;have fd0:=HFR.out wd hw (k*2);have fd1:=HFR.out wd hw (k*2+1);clear hv hr;obtain ⟨qd0,qd1,qd2,qd3,qd4,qd5,qd6,qd7,qd8,qd9,qd10,qd11⟩:=KB.out wd hw;have KSd:Hid (wd.cell? ⟨ga,k*2,none⟩=some (.bool n2)/\wd.cell? ⟨ga,k*2+1,none⟩=some (.slice S2 l2 c2)/\wd.cell? ⟨x,0,none⟩=some (.slice (some ⟨R,0,none⟩) rows4.length cR)/\wd.cell? ⟨R,ps.length,none⟩=some (.slice (some ⟨ga,0,none⟩) n ca)/\wd.cell? ⟨x,2,none⟩=some (.bool v.nb)/\wd.cell? ⟨x,3,none⟩=some (.slice v.ad v.l v.c)/\wd.cell? ⟨wc.heap.size,0,none⟩=some (.bool nv)/\wd.cell? ⟨wc.heap.size,1,none⟩=some (.slice S6 l6 c6)/\wd.cell? ⟨wi.heap.size,0,none⟩=some (.bool nf)/\wd.cell? ⟨wi.heap.size,1,none⟩=some (.slice Sf lf cf)):=oH ⟨qd2,qd3,qd4,qd5,qd6,qd7,qd8,qd9,qd10,qd11⟩;clear hb hw)
     go_wp2_with fail;refine hK.out _ _ ?_ (fun hHeld=>?_)
     ·first|with_reducible exact KSa.out|with_reducible exact KSb.out|with_reducible exact KSs.out|with_reducible exact KSd.out|with_reducible exact KS0.out|go_keep
     clear hK K
     try simp only [Act.put,tkA,tkB,tkC]
     refine tkH 26 ?_;refine tkH 27 ?_;refine tkH 28 ?_;refine tkH 29 ?_
     try simp only [Act.put,tkA,tkB,tkC]
     refine tkS 30 fun K hK=>?_
     go_simp
     refine hK.out _ _ ?_ (fun hHeld=>?_)
     ·first|with_reducible exact KSa.out|with_reducible exact KSb.out|with_reducible exact KSs.out|with_reducible exact KSd.out|with_reducible exact KS0.out|go_keep
     clear hK K
     try simp only [Act.put,tkA,tkB,tkC]
     refine wpAnyH_done (by kernel_rfl) ?_ _
     all_goals go_wp2_with fail
     all_goals go_roundw
     case rel =>
      obtain ⟨s1,s2⟩:=HST.out wd HWd.out ⟨xd,Xd,yd,zd⟩ (by rw [<-EQ.out];exact HVd.out);refine ⟨k+1,_,_,by go_num,oMx,by rw [List.length_set];exact hl4,?_,?_,s1,((HV7.below HWd.out).far (p:=⟨gi,k*2,none⟩) (Ne.symm ne4) _).far (p:=⟨gi,k*2+1,none⟩) (Ne.symm ne4) _,s2 _ _ (HN7.below HWd.out),((HB7.below HWd.out).far (p:=⟨gi,k*2,none⟩) (Ne.symm ne5) _).far (p:=⟨gi,k*2+1,none⟩) (Ne.symm ne5) _,s2 _ _ (HF7.below HWd.out)⟩
      ·intro a h1 h2
       have h3:a<rows4.length:=by omega
       rw [List.getElem_set]
       split
       ·rename_i e;subst e;exact ⟨HGI.symm.trans HGE.out,(HG4.out _ h1 h3).2⟩
       exact HG4.out a h1 h3
      intro a b ha hb
      by_cases e:a=i/\b=k
      ·obtain ⟨rfl,rfl⟩:=e;rw [if_pos ⟨rfl,rfl⟩,if_pos ⟨rfl,oMx⟩]
      rw [if_neg e,HP4.out a b ha hb]
      by_cases e2:a=i/\b<k
      ·rw [if_pos e2,if_pos ⟨e2.1,oMx⟩]
      rw [if_neg e2,if_neg oMx]
     simp [intOf];omega
    obtain rfl:k=n:=by omega
    go_wp2_with fail;go_roundw
    ·exact ⟨i+1,rows4,P4,by go_num,oMx,hl4,HG4.out,(fun a b ha hb=>by
     have h5:=HIA.out;rw [HP4.out a b ha hb]
     by_cases e2:a=i
     ·subst e2;rw [if_pos ⟨rfl,hb⟩,if_pos oMx]
     rw [if_neg oMx,HP3.out a b ha hb]
     by_cases e:a<i
     ·rw [if_pos e,if_pos oMx]
     rw [if_neg e,if_neg oMx]),HS7.out,HV7.out,HN7.out⟩
    simp [intOf];omega
   -- END
   obtain rfl:i=rows2.length:=by omega
   have HSA:=oH (HS5.alloc (.cells #[.int .i64 (c:Int)] 3));have HNA:=oH (HN5.below (bRx.alloc lRx (.cells #[.int .i64 (c:Int)] 3)));have HVA:=oH (HV5.alloc (.cells #[.int .i64 (c:Int)] 3));have k1:=HS5.box.at_ (i:=1) rfl;have v0:=HV5.at_ (i:=0) rfl;have v1:=HV5.at_ (i:=1) rfl;have k1A:=HSA.box.at_ (i:=1) rfl;have v0A:=HVA.at_ (i:=0) rfl;have v1A:=HVA.at_ (i:=1) rfl;have hBs:=Nat.le_trans HS5.wB HS5.bel.size
   have hpl:ps.length<=1000:=by omega
   have E1:=oH (show P2 ps.length c=P p c from by rw [HP2.out _ c hpa,sw_r])
   have E3:=oH (show ∀ a k,a<rows3.length->k<n->xAt P p ps.length c vz a k=P3 a k from fun a k ha hk=>by
    have h1:=HL2.out;rw [HP3.out a k oMx hk,if_pos oMx]
    exact (xAv hlt hpa HP2.out oMx).symm)
   go_wp2_with fail
   go_region_law (refine xAy _ (by rfl) _ _ _ (by rfl) B 3 i0 _ 1 8 Tryz.underlying22 hi hz0 hz1 hz2 rfl oMx (.slice Ap ps.length cp) ps.length (vn ps) (by go_simp) HSA.drew.pvt ⟨wi.heap.size,0,none⟩ 1 1 [.int .i64 (c:Int)] (by go_simp) rfl (World.news_of_block (cs:=#[.int .i64 (c:Int)]) (t:=3) (fr:=(0,0)) (heap_alloc_new wi _)) zTs oMx (by unfold maxLen;omega) oMx (by simp;omega) HSA.drew.pno int_no int_no' ?_;intro gg cap w5 hown5 hgrow5 hno5;have HF5:=oH (HSA.drew.fin (u:=⟨nv,S6,l6,c6⟩) HNA.out hown5 hgrow5 hno5);have HB5:=HSA.drew.box.grown hgrow5 (own_far HSA.drew);have HV5':=HVA.drew.grown hgrow5 (zUn HSA.drew.pvt HVA.drew dCx);have b5:=HB5.fr 1;have b6:=HB5.fr 2;have b7:=HB5.fr 3;have b8:=HB5.at_ (i:=2) rfl;have b9:=HB5.at_ (i:=3) rfl;have b10:=HB5.at_ (i:=1) rfl;have v5:=HV5'.at_ (i:=0) rfl;have v6:=HV5'.at_ (i:=1) rfl;clear hown5 hgrow5 hno5 HB5 HV5')
   all_goals go_wp2_with fail
   all_goals
    refine bodyPost_end (v := .tuple #[]) (by simp [results,Tryz.results75,go_sem]) rfl ?_;refine ⟨rfl,?_⟩;rw [<-hQ.out,xBe hp1 hlt HZ.out HZ0.out,<-E1.out,<-HO2.out];exact ⟨rows3,_,⟨nv,S6,l6,c6⟩,by have:=HL2.out;omega,HF5.congr E3.out⟩
 obtain rfl:p=rows.length:=by omega
 go_wp2_with fail;refine bodyPost_ret (v := .tuple #[]) (by simp [results,Tryz.results75,go_sem]) rfl ?_;refine ⟨rfl,?_⟩;rw [<-hQ.out,xBc hps HZ.out];exact ⟨rows,_,v,rfl,HS.out⟩
end Go.Proofs.YtbjaplppalcmgaaGreatDoor
