import Derived.Test.YtfjjcoggoomlbaaGreatDoorZNP
import Derived.Test.YtfjjcoggoomlbaaGreatDoorZNH
set_option maxHeartbeats 16000000
set_option maxRecDepth 100000
set_option linter.unusedVariables false
set_option linter.unusedSimpArgs false
set_option linter.unusedSectionVars false
namespace Go.Proofs.YtfjjcoggoomlbaaGreatDoor
open Go.RowKit
def set4 (W:World) (x:Nat) (v:FrV):World:=(((W.setCell ⟨x,0,none⟩ (.bool v.na)).setCell ⟨x,1,none⟩ (.slice v.A v.l v.c)).setCell ⟨x,2,none⟩ (.bool v.nb)).setCell ⟨x,3,none⟩ (.slice v.A' v.l' v.c')
theorem xAu (W:World) (x:Nat) (v:FrV):W.grownBy (set4 W x v) (some x):=zOp (zOp (zOp (zOo x 0 _) 1 _) 2 _) 3 _
theorem zXb (W:World) (g k:Nat) (v:FrV):W.grownBy (put4 W g k v) (some g):=zOp (zOp (zOp (zOo g (k*4) _) (k*4+1) _) (k*4+2) _) (k*4+3) _
theorem zIu {w:World} {x:Nat} {cs:List Value} {t:TypeId} (h:Blk w x t cs) {B e s n:Nat} {v:Value} {vs:List Value} (ho:w.ownsRow B e s v n vs) (hne:e≠t):v.ownBlock=none\/v.ownBlock≠some x:=by
 rcases ho.2 with ⟨hv,_⟩|⟨g,cap,cur,hv,_,hg,_⟩
 ·exact .inl (by rw [hv];rfl)
 refine .inr fun e2=>?_
 rw [hv] at e2
 have:g=x:=by simpa [Value.ownBlock] using e2
 subst this;unfold Blk at h;rw [hg] at h;injection h with h;injection h with _ h;exact hne h
section
variable {B:Nat} {w W W':World} {R L c n:Nat} {rows:List RwF} {P:mRx}
theorem TbF.kept {row:Option Nat} (h:TbF B W (.slice (some ⟨R,0,none⟩) L c) rows n P) (hg:W.grownBy W' row) (hx:∀ r∈rows,some r.g≠row) (hR:some R≠row) (hnum:∀ v y,zCl W v y->zCl W' v y):TbF B W' (.slice (some ⟨R,0,none⟩) L c) rows n P :=
 ⟨h.o.kept hg (.inr hR),fun r hr=>(h.r r hr).kept hg (.inr (hx r hr)),h.l,h.nd,fun i hi k hk=>hnum _ _ (h.num i hi k hk)⟩
end
structure ElS (B H:Nat) (w:World) (R cR n m:Nat) (rows:List RwF) (X:mRx) (xr xd:Nat) (u:FrV) (q:Rat) (v6:Value) (c:Nat) (W:World):Prop where
 tab:TbF B W (.slice (some ⟨R,0,none⟩) n cR) rows m X
 len:rows.length=n
 lo:∀ r∈rows,r.g<H
 res:Blk W xr 73 [.bool false,.slice none 0 0,.bool false,.slice none 0 0]
 det:Blk W xd 73 u.four
 dv:zCl W u.val q
 piv:W.ownsRow H 3 1 v6 c (vn (List.range c))
 zsp:ZSp W v6 c
 bel:Below B w W
section
variable {B H:Nat} {w W W':World} {R cR n m:Nat} {rows:List RwF} {X X':mRx} {xr xd:Nat} {u:FrV} {q:Rat} {v6:Value} {c:Nat}
theorem ElS.below (h:ElS B H w R cR n m rows X xr xd u q v6 c W) (hb:Below W.heap.size W W'):ElS B H w R cR n m rows X xr xd u q v6 c W' :=
 ⟨h.tab.below hb,h.len,h.lo,h.res.below hb,h.det.below hb,h.dv.below hb,zVn h.piv hb,h.zsp.below (fun k hk=>(h.piv.lt k hk).2) hb,h.bel.trans (hb.mono (Nat.le_of_lt (Nat.lt_of_le_of_lt (h.tab.o.lt R rfl).1 (h.tab.o.lt R rfl).2)))⟩
theorem ElS.congr (h:ElS B H w R cR n m rows X xr xd u q v6 c W) (he:∀ a b,a<n->b<m->X' a b=X a b):ElS B H w R cR n m rows X' xr xd u q v6 c W :=
 { h with tab:=h.tab.congr fun a b ha hb=>he a b (by rw [<-h.len];exact ha) hb }
theorem ElS.at_ (h:ElS B H w R cR n m rows X xr xd u q v6 c W) {i:Nat} (hi:i<rows.length):W.cell? ⟨R,i,none⟩=some (.slice (some ⟨rows[i].g,0,none⟩) m rows[i].cp):=TbF.cell (h.len.symm▸h.tab) hi
theorem ElS.store (h:ElS B H w R cR n m rows X xr xd u q v6 c W) (h1:H<=xr) (h2:H<=xd) {i k:Nat} (hi:i<rows.length) (hk:k<m) {v:FrV} {z:Rat} (hz:zCl W v.val z) :
  ElS B H w R cR n m (rows.set i ⟨rows[i].g,rows[i].cp,rows[i].us.set k v⟩) (fun a b=>if a=i/\b=k then z else X a b) xr xd u q v6 c (put4 W rows[i].g k v) /\
  (∀ v' y,zCl W v' y->zCl (put4 W rows[i].g k v) v' y)/\∀ x t cs,Blk W x t cs->H<=x->Blk (put4 W rows[i].g k v) x t cs:=by
 obtain ⟨t1,t2⟩:=h.tab.store hi hk hz;have hg:=h.lo _ (List.getElem_mem hi);have hB:=(h.tab.blk hi).1
 have hp:∀ k',v6.ownBlock=some k'->H<=k':=fun k' hk'=>(h.piv.lt k' hk').1
 have hne:v6.ownBlock=none\/v6.ownBlock≠some rows[i].g := .inr fun e=>by have:=hp _ e;omega
 have gr:=zXb W rows[i].g k v;refine ⟨⟨t1,by rw [List.length_set];exact h.len,RwF.keep hi h.lo,Blk.put4 (k:=k) (u:=v) h.res oMx,Blk.put4 (k:=k) (u:=v) h.det oMx,t2 _ _ h.dv,h.piv.kept gr hne,h.zsp.kept gr (fun k' hk'=>(h.piv.lt k' hk').2) hne,zIk h.bel hB k v⟩,t2,fun x t cs hb hx=>Blk.put4 (k:=k) (u:=v) hb oMx⟩
theorem ElS.setDet (h:ElS B H w R cR n m rows X xr xd u q v6 c W) (h0:B<=xd) (h1:xr≠xd) (h2:H<=xd) (hR:R<H) {v:FrV} {z:Rat} (hz:zCl W v.val z) :
  ElS B H w R cR n m rows X xr xd v z v6 c (set4 W xd v)/\∀ v' y,zCl W v' y->zCl (set4 W xd v) v' y:=by
 have gr:=xAu W xd v
 have hn:∀ v' y,zCl W v' y->zCl (set4 W xd v) v' y:=fun v' y hv=>hv.box h.det zNx gr
 have hne:=zIu h.det h.piv dCx
 have b1:∀ {x:Nat} {t:TypeId} {cs:List Value},Blk W x t cs->x≠xd->Blk (set4 W xd v) x t cs:=fun hb hx=>hb.grown gr (fun e=>hx (by injection e))
 refine ⟨⟨h.tab.kept gr (fun r hr e=>?_) (fun e=>?_) hn,h.len,h.lo,b1 h.res h1,zYf h.det,hn _ _ hz,h.piv.kept gr hne,h.zsp.kept gr (fun k' hk'=>(h.piv.lt k' hk').2) hne,(((h.bel.setCell (p:=⟨xd,0,none⟩) h0 _).setCell (p:=⟨xd,1,none⟩) h0 _).setCell (p:=⟨xd,2,none⟩) h0 _).setCell (p:=⟨xd,3,none⟩) h0 _⟩,hn⟩
 ·have:=h.lo r hr;injection e with e;omega
 injection e with e;omega
theorem ElS.setRes (h:ElS B H w R cR n m rows X xr xd u q v6 c W) (h0:B<=xr) (h2:H<=xr) (hR:R<H) (v:FrV) :
  TbF B (set4 W xr v) (.slice (some ⟨R,0,none⟩) n cR) rows m X/\zCl (set4 W xr v) u.val q/\Below B w (set4 W xr v):=by
 have gr:=xAu W xr v
 have hn:∀ v' y,zCl W v' y->zCl (set4 W xr v) v' y:=fun v' y hv=>hv.box h.res zTl gr
 refine ⟨h.tab.kept gr (fun r hr e=>?_) (fun e=>?_) hn,hn _ _ h.dv,(((h.bel.setCell (p:=⟨xr,0,none⟩) h0 _).setCell (p:=⟨xr,1,none⟩) h0 _).setCell (p:=⟨xr,2,none⟩) h0 _).setCell (p:=⟨xr,3,none⟩) h0 _⟩
 ·have:=h.lo r hr;injection e with e;omega
 injection e with e;omega
theorem ElS.push (h:ElS B H w R cR n m rows X xr xd u q v6 c W) (hBH:B<=H) (hR:R<H) {v':Value} (ho:W'.ownsRow H 3 1 v' (c+1) (vn (List.range c)++[.int .i64 (c:Int)])) (hg:W.grownBy W' v6.ownBlock) (hz:ZSp W' v' (c+1)) (hc:∀ A ys,zAi .i64 W A ys->(∀ i,i+1=ys.length->nth ys i≠0)->zAi .i64 W' A ys) :
  ElS B H w R cR n m rows X xr xd u q v' (c+1) W':=by
 have hbig:∀ v z,zCf W v z->zCf W' v z:=fun v z ⟨A,c',e,hl,hx⟩=>⟨A,c',e,hl,hc A _ hx (zRa _)⟩
 have hn:∀ v y,zCl W v y->zCl W' v y:=fun v y ⟨na,nb,A,A',l,c,l',c',e,h1,h2⟩=>⟨na,nb,A,A',l,c,l',c',e,hbig _ _ h1,hbig _ _ h2⟩
 have hp:∀ k',v6.ownBlock=some k'->H<=k':=fun k' hk'=>(h.piv.lt k' hk').1
 have hb:Below B W W':=⟨hg.os,hg.tape,hg.output,hg.size,fun k hk=>hg.block k (by have:=h.tab.o.lt R rfl;omega) (fun e=>by have:=hp k e.symm;omega)⟩;refine ⟨h.tab.kept hg (fun r hr e=>?_) (fun e=>?_) hn,h.len,h.lo,h.res.grown hg (fun e=>?_),h.det.grown hg (fun e=>?_),hn _ _ h.dv,by rw [List.range_succ,xHc];exact ho,hz,h.bel.trans hb⟩
 ·have:=hp _ e.symm;have:=h.lo r hr;omega
 ·have:=hp _ e.symm;omega
 ·rcases zIu h.res h.piv dCx with h1|h1
  ·rw [h1] at e;cases e
  exact h1 e.symm
 rcases zIu h.det h.piv dCx with h1|h1
 ·rw [h1] at e;cases e
 exact h1 e.symm
end
def zFq (B:Nat) (w:World) (R cR n m:Nat) (M:mRx) (e:Ending) (w':World):Prop:=∃ (A:oAx) (c:Nat) (v:Value) (rows:List RwF),e = .returned (.tuple #[.slice A n c,v])/\zCl w' v (zWr n (dD M))/\rows.length=n/\TbF B w' (.slice (some ⟨R,0,none⟩) n cR) rows m (gj M n)/\Below B w w'
theorem zDr (B R cR n m:Nat) (rows0:List RwF) (M:mRx) (w:World) (h:TbF B w (.slice (some ⟨R,0,none⟩) n cR) rows0 m M) (hrl:rows0.length=n) (hn1:1<=n) (hn:n<=4) (hnm:n<=m) (hm:m<=5) (hd:∀ a b,a<n->b<m->zAv 2 (M a b)) (hp:∀ t,t<n->dD M t≠0) :
  Calls Tryz.prog 85 #[.slice (some ⟨R,0,none⟩) n cR,.int .i64 (n:Int)] w (zFq B w R cR n m M):=by
 obtain ⟨i0,hi,hz0,hz1,hz2⟩:=info_parts Tryz.infoInt;generalize hQ:zFq B w R cR n m M=Q;replace hQ:=oH hQ;have HT:=oH h;have HDM:=oH hd;have HP:=oH hp;have hRB:=h.o.lt R rfl
 have hBw:B<=w.heap.size:=by omega
 have hRw:=hRB.2;have HLO:=oH (fun r (hr:r∈rows0)=>((h.r r hr).lt _ rfl).2);clear h hd hp hRB
 go_enter Tryz.func85,Tryz.ntmps85
 go_wp2_with fail;have hb0:Below w.heap.size w (w.alloc (.cells #[.bool false,.slice none 0 0,.bool false,.slice none 0 0] 73)):=bA;have HR0:=oH (Blk.new w 73 [.bool false,.slice none 0 0,.bool false,.slice none 0 0]);have HB0:=oH hb0;clear hb0;refine (zDw 1 _ dCx dCx).mono ?_;rintro e w2 ⟨v1,rfl,hv,hb⟩;have HB2:=bTx2 HB0 hb;replace HR0:=oH (HR0.below hb);have hsx:=HR0.lt;have HV2:=oH hv;obtain ⟨na,nb,A1,A2,l1,c1,l2,c2,rfl⟩:=hv.slice;clear hv hb;go_upto_region 3 with (fail);have hbl:Below w2.heap.size w2 (w2.alloc (.cells #[.bool na,.slice A1 l1 c1,.bool nb,.slice A2 l2 c2] 73)):=bA;have HB3:=HB2.trans (hbl.mono HB2.size)
 have hes:ElS B w.heap.size w R cR n m rows0 (gj M 0) w.heap.size w2.heap.size ⟨na,A1,l1,c1,nb,A2,l2,c2⟩ (zWr 0 (dD M)) (.slice none 0 0) 0 (w2.alloc (.cells #[.bool na,.slice A1 l1 c1,.bool nb,.slice A2 l2 c2] 73)) :=
  ⟨HT.below HB3,hrl,HLO.out,HR0.below hbl,Blk.new w2 73 _,HV2.below hbl,World.ownsRow_nil _ _ _ _,ZSp.nil _ _ _ _,⟨HB3.os,HB3.tape,HB3.output,HB3.size,fun k hk=>HB3.block k oMx⟩⟩
 have HES:=oH hes;have hxr:w.heap.size<=w.heap.size:=lRx;have hxd:w.heap.size<w2.heap.size:=hsx;clear hes hbl HB3 HB2 HR0 HB0 HV2 HT hrl HLO;generalize w2.alloc (.cells #[.bool na,.slice A1 l1 c1,.bool nb,.slice A2 l2 c2] 73)=W3 at *;generalize w2.heap.size=xd at *;have HWX:=oH hxd;go_wp2_with fail
 go_loopw [6,8] (fun v6 cv wr=>∃ (c:Nat) (rows:List RwF) (u:FrV),cv = .int .i64 (c:Int)/\c<=n/\ElS B w.heap.size w R cR n m rows (gj M c) w.heap.size xd u (zWr c (dD M)) v6 c wr) (fun _ cv _=>n-(intOf cv).toNat)
 ·exact ⟨0,rows0,_,rfl,oLx,HES.out⟩
 clear HES;obtain ⟨c,rows,u,rfl,hcn,hes⟩:=hrel;obtain ⟨wc,rfl⟩:=nWx wr;obtain ⟨AV,cV,rfl, -⟩:=zVk hes.piv;have HES:=oH hes
 by_cases hlt:c<n
 ·have hir:c<rows.length:=by rw [hes.len];exact hlt
  have HDX:=oH (zOi HDM.out hnm HP.out c hcn);have HPC:=oH (show gj M c c c≠0 from by rw [zOk];exact HP.out c hlt);have HPD:=oH (zWx HDM.out hnm HP.out c hcn);have HSB:=oH (fun a b ha hb=>sb_dig HDM.out hnm HP.out hlt (a:=a) (b:=b) ha hb);have HEND:=oH (sbQ_end M c n);have HQP:=oH (show zWr c (dD M)*gj M c c c=zWr (c+1) (dD M) from by rw [zOk];rfl);have hgl:=gd_lt c oMx;have hpl:=pd_le c oMx;generalize gj M c=X at *;clear hes;go_wp2_with fail
  go_loopw [10] (fun pv wr=>pv = .int .i64 (c:Int)/\Below wc.heap.size wc wr) (fun _ _=>0)
  ·exact ⟨rfl,bRx⟩
  obtain ⟨rfl,hbp⟩:=hrel;obtain ⟨wp,rfl⟩:=nWx wr;have hes:=HES.below hbp;have HES1:=oH hes;have kR:=hes.at_ hir;obtain ⟨yy,y0,y1,y2,y3,hy⟩:=hes.tab.num_at hir (show c<m by omega);obtain ⟨nap,A1p,l1p,c1p,nbp,A2p,l2p,c2p⟩:=yy;simp only [FrV.val] at hy;have HU:=oH hy;obtain ⟨g0,hg0⟩:=eXx (rows[c].g);obtain ⟨cp0,hcp0⟩:=eXx (rows[c].cp);rw [hg0,hcp0] at kR;rw [hg0] at y0 y1 y2 y3
  have i1:(0:Int)<=(c:Int):=by omega
  have i2:(c:Int)<(n:Int):=by omega
  have i3:(c:Int)<(m:Int):=by omega
  clear hes hy hbp HES hg0 hcp0;go_wp2_with fail;refine (zEj _ _ _ HU.out HPC.out).mono ?_;rintro e wz ⟨rfl,hb⟩;clear kR y0 y1 y2 y3 HU i1 i2 i3;have hes:=HES1.below hb;have HESz:=oH hes;have kR:=hes.at_ hir;obtain ⟨yy,y0,y1,y2,y3,hy⟩:=hes.tab.num_at hir (show c<m by omega);obtain ⟨nap,A1p,l1p,c1p,nbp,A2p,l2p,c2p⟩:=yy;simp only [FrV.val] at hy;have HU:=oH hy;have HDV:=oH hes.dv;simp only [FrV.val] at HDV;have d0:=hes.det.at_ (i:=0) rfl;have d1:=hes.det.at_ (i:=1) rfl;have d2:=hes.det.at_ (i:=2) rfl;have d3:=hes.det.at_ (i:=3) rfl;have HSP:=oH (show Sz 1000000 (X c c) from ((HDX.out c c hlt oMx).szD).mono oMx);have HSD:=oH (show Sz 1000000 (zWr c (dD M)) from (HPD.szD).mono oMx);generalize rows[c].g=g at *;generalize rows[c].cp=cp at *;have KB:=oH (fun W' (hW:Below wz.heap.size wz W')=>(show W'.cell? ⟨R,c,none⟩=some (.slice (some ⟨g,0,none⟩) m cp)/\W'.cell? ⟨g,c*4,none⟩=some (.bool nap)/\W'.cell? ⟨g,c*4+1,none⟩=some (.slice A1p l1p c1p)/\W'.cell? ⟨g,c*4+2,none⟩=some (.bool nbp)/\W'.cell? ⟨g,c*4+3,none⟩=some (.slice A2p l2p c2p)/\W'.cell? ⟨xd,0,none⟩=some (.bool u.na)/\W'.cell? ⟨xd,1,none⟩=some (.slice u.A u.l u.c)/\W'.cell? ⟨xd,2,none⟩=some (.bool u.nb)/\W'.cell? ⟨xd,3,none⟩=some (.slice u.A' u.l' u.c') from ⟨kP hW kR,kP hW y0,kP hW y1,kP hW y2,kP hW y3,kP hW d0,kP hW d1,kP hW d2,kP hW d3⟩))
  have HWz:=oH (show Below wz.heap.size wz wz.drew from bRx.drew);have KSz:=oH (KB.out _ HWz.out)
  have i1:(0:Int)<=(c:Int):=by omega
  have i2:(c:Int)<(n:Int):=by omega
  have i3:(c:Int)<(m:Int):=by omega
  clear hes hb hy kR y0 y1 y2 y3 d0 d1 d2 d3;go_wp2_with fail;refine xHt (S:=(fun w'=>w'.cell? ⟨R,c,none⟩=some (.slice (some ⟨g,0,none⟩) m cp)/\w'.cell? ⟨g,c*4,none⟩=some (.bool nap)/\w'.cell? ⟨g,c*4+1,none⟩=some (.slice A1p l1p c1p)/\w'.cell? ⟨g,c*4+2,none⟩=some (.bool nbp)/\w'.cell? ⟨g,c*4+3,none⟩=some (.slice A2p l2p c2p)/\w'.cell? ⟨xd,0,none⟩=some (.bool u.na)/\w'.cell? ⟨xd,1,none⟩=some (.slice u.A u.l u.c)/\w'.cell? ⟨xd,2,none⟩=some (.bool u.nb)/\w'.cell? ⟨xd,3,none⟩=some (.slice u.A' u.l' u.c'))) 9 (by kernel_rfl) rfl (by kernel_rfl) (by kernel_rfl) rfl (by exact KSz.out) (fun hHeld=>?_);simp only [List.pop_toArray,List.dropLast_cons_cons,List.dropLast_singleton];refine tkH 0 ?_;refine tkH 1 ?_;refine tkH 2 ?_;refine tkH 3 ?_;refine tkH 4 ?_;refine tkH 5 ?_;refine tkH 6 ?_;refine tkH 7 ?_
  try simp only [Act.put,tkA,tkB,tkC]
  refine tkS 8 fun K hK=>?_
  go_simp
  (go_at_call 48;(with_reducible refine (zDv _ _ (zWr c (dD M)) (X c c) _ (HDV.out.below HWz.out) (HU.out.below HWz.out) HSD.out HSP.out).mono ?_);rintro e wa ⟨va,rfl,hv,hb⟩;have hw:=HWz.out.trans (hb.mono HWz.out.size);have HWa:=oH hw;have HVa:=oH hv;have KSa:=oH (KB.out wa hw);obtain ⟨xa,ya,Xa,Ya,laa,caa,lba,cba,rfl⟩:=hv.slice;clear hb hw hv)
  go_wp2_with fail;refine hK.out _ _ ?_ (fun hHeld=>?_)
  ·with_reducible exact KSa.out
  clear hK K
  try simp only [Act.put,tkA,tkB,tkC]
  refine wpAnyH_done (by kernel_rfl) ?_ _;simp only [xEe,List.getElem_toArray,List.getElem_cons_succ,List.getElem_cons_zero];have hes:=HESz.below HWa.out;have f0:=hes.det.fr 0;have f1:=hes.det.fr 1;have f2:=hes.det.fr 2;have f3:=hes.det.fr 3;have hs5:=(hes.setDet oMx oMx oMx hRw (v:=⟨xa,Xa,laa,caa,ya,Ya,lba,cba⟩) HVa.out).1;simp only [set4] at hs5;rw [HQP.out] at hs5;have HES5:=oH hs5;clear hes hs5 HESz HU HDV HSP HSD KB HWz KSz KSa HVa HPD HQP;go_upto_region 15 with (fail);generalize ((((wa.setCell ⟨xd,0,none⟩ (.bool xa)).setCell ⟨xd,1,none⟩ (.slice Xa laa caa)).setCell ⟨xd,2,none⟩ (.bool ya)).setCell ⟨xd,3,none⟩ (.slice Ya lba cba))=W5 at *;clear f0 f1 f2 f3 HWa;have kR:=HES5.at_ hir;obtain ⟨yy,y0,y1,y2,y3,hy⟩:=HES5.tab.num_at hir (show c<m by omega);obtain ⟨nap,A1p,l1p,c1p,nbp,A2p,l2p,c2p⟩:=yy;simp only [FrV.val] at hy;have HY:=oH hy;generalize rows[c].g=g at *;generalize rows[c].cp=cp at *
  clear hy;go_upto_region 16 with (fail);have hbl:Below W5.heap.size W5 (W5.alloc (.cells #[.bool nap,.slice A1p l1p c1p,.bool nbp,.slice A2p l2p c2p] 73)):=bA;have HES5':=oH (HES5.below hbl);have HXF:=oH (Blk.new W5 73 [.bool nap,.slice A1p l1p c1p,.bool nbp,.slice A2p l2p c2p]);have HFV:=oH (HY.below hbl);have hxf:w.heap.size<=W5.heap.size:=Nat.le_of_lt (Nat.lt_trans HWX.out (HES5.det.lt));clear hbl kR y0 y1 y2 y3 HY;generalize W5.alloc (.cells #[.bool nap,.slice A1p l1p c1p,.bool nbp,.slice A2p l2p c2p] 73)=W6 at *;generalize W5.heap.size=xf at *;obtain ⟨uf,hu⟩:∃ u:FrV,u=⟨nap,A1p,l1p,c1p,nbp,A2p,l2p,c2p⟩:=⟨_,rfl⟩;rw [show ([.bool nap,.slice A1p l1p c1p,.bool nbp,.slice A2p l2p c2p]:List Value)=uf.four by subst hu;rfl] at HXF;rw [show (.agg #[.bool nap,.slice A1p l1p c1p,.bool nbp,.slice A2p l2p c2p]:Value)=uf.val by subst hu;rfl] at HFV;clear hu;have hir':=hir;have kR:=HES5'.at_ hir;generalize rows[c].g=g at *
  generalize rows[c].cp=cp at *
  have i1:(0:Int)<=(c:Int):=by omega
  have i2:(c:Int)<(n:Int):=by omega
  clear HES5;go_wp2_with fail;clear kR
  go_loopw [93] (fun kv wr=>∃ (k:Nat) (rows:List RwF),kv = .int .i64 (k:Int)/\k<=m/\ElS B w.heap.size w R cR n m rows (dvQ X c k) w.heap.size xd ⟨xa,Xa,laa,caa,ya,Ya,lba,cba⟩ (zWr (c+1) (dD M)) (.slice AV c cV) c wr/\Blk wr xf 73 uf.four/\zCl wr uf.val (X c c)) (fun kv _=>m-(intOf kv).toNat)
  ·exact ⟨0,rows,rfl,oLx,by rw [dvQ_zero];exact HES5'.out,HXF.out,HFV.out⟩
  clear HES5' HXF HFV hir hir' i1 i2;obtain ⟨k,rows,rfl,hkm,hes,hx,hv⟩:=hrel;obtain ⟨wk,rfl⟩:=nWx wr
  by_cases hltk:k<m
  ·skip
   have hir:c<rows.length:=by rw [hes.len];exact hlt
   have kR:=hes.at_ hir;obtain ⟨yy,y0,y1,y2,y3,hy⟩:=hes.tab.num_at hir hltk;obtain ⟨nap,A1p,l1p,c1p,nbp,A2p,l2p,c2p⟩:=yy;rw [dvQ_old] at hy;simp only [FrV.val] at hy;have hx0:=hx.at_ (i:=0) rfl;have hx1:=hx.at_ (i:=1) rfl;have hx2:=hx.at_ (i:=2) rfl;have hx3:=hx.at_ (i:=3) rfl;have HXF:=oH hx;have HFV:=oH hv;have HFV2:=oH hv;simp only [FrV.val] at HFV;have HU:=oH hy;have HSZ:=oH (show Sz 1000000 (X c k) from ((HDX.out c k hlt hltk).szD).mono oMx);have HSP:=oH (show Sz 1000000 (X c c) from ((HDX.out c c hlt oMx).szD).mono oMx);have HFZ:=oH (fun W (hW:Below wk.heap.size wk W) j=>(hes.below hW).tab.frozen hir j);have HST:=oH (fun W (hW:Below wk.heap.size wk W) (v:FrV) (hz:zCl W v.val (X c k/X c c))=>(hes.below hW).store oMx oMx hir hltk hz);obtain ⟨g,hg⟩:=eXx (rows[c].g);obtain ⟨cp,hcp⟩:=eXx (rows[c].cp);obtain ⟨us,hus⟩:=eXx (rows[c].us);rw [hg,hcp] at kR HST;rw [hus] at HST;rw [hg] at y0 y1 y2 y3 HFZ
   have KB:=oH (fun W' (hW:Below wk.heap.size wk W')=>(show W'.cell? ⟨R,c,none⟩=some (.slice (some ⟨g,0,none⟩) m cp)/\W'.cell? ⟨g,k*4,none⟩=some (.bool nap)/\W'.cell? ⟨g,k*4+1,none⟩=some (.slice A1p l1p c1p)/\W'.cell? ⟨g,k*4+2,none⟩=some (.bool nbp)/\W'.cell? ⟨g,k*4+3,none⟩=some (.slice A2p l2p c2p)/\W'.cell? ⟨xf,0,none⟩=some (.bool uf.na)/\W'.cell? ⟨xf,1,none⟩=some (.slice uf.A uf.l uf.c)/\W'.cell? ⟨xf,2,none⟩=some (.bool uf.nb)/\W'.cell? ⟨xf,3,none⟩=some (.slice uf.A' uf.l' uf.c') from ⟨kP hW kR,kP hW y0,kP hW y1,kP hW y2,kP hW y3,kP hW hx0,kP hW hx1,kP hW hx2,kP hW hx3⟩));have HWz:=oH (show Below wk.heap.size wk wk.drew from bRx.drew);have KSz:=oH (KB.out _ HWz.out)
   have k1:(0:Int)<=(k:Int):=by omega
   have k2:(k:Int)<(m:Int):=by omega
   have i1:(0:Int)<=(c:Int):=by omega
   have i2:(c:Int)<(n:Int):=by omega
   clear hes hx hv hy kR y0 y1 y2 y3 hx0 hx1 hx2 hx3 hg hcp hus;go_wp2_with fail;refine xHt (S:=(fun w'=>w'.cell? ⟨R,c,none⟩=some (.slice (some ⟨g,0,none⟩) m cp)/\w'.cell? ⟨g,k*4,none⟩=some (.bool nap)/\w'.cell? ⟨g,k*4+1,none⟩=some (.slice A1p l1p c1p)/\w'.cell? ⟨g,k*4+2,none⟩=some (.bool nbp)/\w'.cell? ⟨g,k*4+3,none⟩=some (.slice A2p l2p c2p)/\w'.cell? ⟨xf,0,none⟩=some (.bool uf.na)/\w'.cell? ⟨xf,1,none⟩=some (.slice uf.A uf.l uf.c)/\w'.cell? ⟨xf,2,none⟩=some (.bool uf.nb)/\w'.cell? ⟨xf,3,none⟩=some (.slice uf.A' uf.l' uf.c'))) 15 (by kernel_rfl) rfl (by kernel_rfl) (by kernel_rfl) rfl (by exact KSz.out) (fun hHeld=>?_);simp only [List.pop_toArray,List.dropLast_cons_cons,List.dropLast_singleton];refine tkH 0 ?_;refine tkH 1 ?_;refine tkH 2 ?_;refine tkH 3 ?_;refine tkH 4 ?_;refine tkH 5 ?_;refine tkH 6 ?_;refine tkH 7 ?_;refine tkH 8 ?_;refine tkH 9 ?_;refine tkH 10 ?_;refine tkH 11 ?_;refine tkH 12 ?_
   try simp only [Act.put,tkA,tkB,tkC]
   refine tkS 13 fun K hK=>?_
   go_simp
   (go_at_call 106;(with_reducible refine (zDt _ _ (X c k) (X c c) _ (HU.out.below HWz.out) (HFV.out.below HWz.out) HSZ.out HSP.out HPC.out).mono ?_);rintro e wa ⟨va,rfl,hv,hb⟩;have hw:=HWz.out.trans (hb.mono HWz.out.size);have HWa:=oH hw;have HVa:=oH hv;have KSa:=oH (KB.out wa hw);obtain ⟨xa,ya,Xa,Ya,laa,caa,lba,cba,rfl⟩:=hv.slice;clear hb hw hv)
   go_wp2_with fail;refine hK.out _ _ ?_ (fun hHeld=>?_)
   ·with_reducible exact KSa.out
   clear hK K
   try simp only [Act.put,tkA,tkB,tkC]
   refine tkH 14 ?_
   try simp only [Act.put,tkA,tkB,tkC]
   refine wpAnyH_done (by kernel_rfl) ?_ _;simp only [xEe,List.getElem_toArray,List.getElem_cons_succ,List.getElem_cons_zero];have f0:=HFZ.out wa HWa.out (k*4);have f1:=HFZ.out wa HWa.out (k*4+1);have f2:=HFZ.out wa HWa.out (k*4+2);have f3:=HFZ.out wa HWa.out (k*4+3);go_wp2_with fail;go_roundw
   case rel =>
    obtain ⟨t1,t2,t3⟩:=HST.out wa HWa.out ⟨xa,Xa,laa,caa,ya,Ya,lba,cba⟩ HVa.out;rw [dvQ_step] at t1;exact ⟨k+1,_,by go_num,oMx,t1,t3 _ _ _ (HXF.below HWa.out) hxf,t2 _ _ (HFV2.below HWa.out)⟩
   simp [intOf];omega
  obtain rfl:k=m:=by omega
  have HESi:=oH (hes.congr (X':=sbQ X c 0 0) fun a b _ hb=>xAj X c k a b hb);clear hes hx hv;go_wp2_with fail
  go_loopw [114] (fun iv wr=>∃ (i:Nat) (rows:List RwF),iv = .int .i64 (i:Int)/\i<=n/\ElS B w.heap.size w R cR n k rows (sbQ X c i 0) w.heap.size xd ⟨xa,Xa,laa,caa,ya,Ya,lba,cba⟩ (zWr (c+1) (dD M)) (.slice AV c cV) c wr) (fun iv _=>n-(intOf iv).toNat)
  ·exact ⟨0,rows,rfl,oLx,HESi.out⟩
  clear HESi;obtain ⟨i,rows,rfl,hin,hes⟩:=hrel;obtain ⟨wi,rfl⟩:=nWx wr;have HES:=oH hes
  by_cases hlti:i<n
  ·by_cases hne:i=c
   ·subst hne
    have hbb:((i:Int)==(i:Int))=true:=by simp
    have HES2:=oH (show ElS B w.heap.size w R cR n k rows (sbQ X i (i+1) 0) w.heap.size xd ⟨xa,Xa,laa,caa,ya,Ya,lba,cba⟩ (zWr (i+1) (dD M)) (.slice AV i cV) i wi by rw [xAi (.inl rfl)];exact hes);clear hes;go_wp2_with fail;go_roundw
    ·exact ⟨i+1,rows,by go_num,oMx,HES2.out⟩
    simp [intOf];omega
   have hbb:((i:Int)==(c:Int))=false:=by simp;omega
   have hir:i<rows.length:=by rw [hes.len];exact hlti
   have kR:=hes.at_ hir;obtain ⟨yy,y0,y1,y2,y3,hy⟩:=hes.tab.num_at hir (show c<k by omega);obtain ⟨nap,A1p,l1p,c1p,nbp,A2p,l2p,c2p⟩:=yy;rw [sbQ_at X hne (Nat.zero_le c)] at hy;simp only [FrV.val] at hy;have HU:=oH hy;obtain ⟨g0,hg0⟩:=eXx (rows[i].g);obtain ⟨cp0,hcp0⟩:=eXx (rows[i].cp);rw [hg0,hcp0] at kR;rw [hg0] at y0 y1 y2 y3
   have i1:(0:Int)<=(c:Int):=by omega
   have i2:(c:Int)<(n:Int):=by omega
   have i3:(c:Int)<(k:Int):=by omega
   have i4:(0:Int)<=(i:Int):=by omega
   have i5:(i:Int)<(n:Int):=by omega
   clear hes hy hg0 hcp0
   by_cases hx0:X i c=0
   ·have HES2:=oH (show ElS B w.heap.size w R cR n k rows (sbQ X c (i+1) 0) w.heap.size xd ⟨xa,Xa,laa,caa,ya,Ya,lba,cba⟩ (zWr (c+1) (dD M)) (.slice AV c cV) c wi by rw [xAi (.inr hx0)];exact HES.out);go_wp2_with fail;refine (zEk _ _ _ HU.out hx0).mono ?_;rintro e wz ⟨rfl,hb⟩;have HES3:=oH (HES2.below hb);clear hb HES HES2 kR y0 y1 y2 y3 HU;go_wp2_with fail;go_roundw
    ·exact ⟨i+1,rows,by go_num,oMx,HES3.out⟩
    simp [intOf];omega
   go_wp2_with fail;refine (zEj _ _ _ HU.out hx0).mono ?_;rintro e wz ⟨rfl,hb⟩;have HESz:=oH (HES.below hb);clear hb HES kR y0 y1 y2 y3 HU;have kR:=HESz.at_ hir;obtain ⟨yy,y0,y1,y2,y3,hy⟩:=HESz.tab.num_at hir (show c<k by omega);obtain ⟨nap,A1p,l1p,c1p,nbp,A2p,l2p,c2p⟩:=yy;rw [sbQ_at X hne (Nat.zero_le c)] at hy;simp only [FrV.val] at hy;have HY:=oH hy;generalize rows[i].g=g at *;generalize rows[i].cp=cp at *;clear hy;go_upto_region 26 with (fail);have hbl:Below wz.heap.size wz (wz.alloc (.cells #[.bool nap,.slice A1p l1p c1p,.bool nbp,.slice A2p l2p c2p] 73)):=bA;have HESz':=oH (HESz.below hbl);have HXG:=oH (Blk.new wz 73 [.bool nap,.slice A1p l1p c1p,.bool nbp,.slice A2p l2p c2p]);have HGV:=oH (HY.below hbl);have hxg:w.heap.size<=wz.heap.size:=Nat.le_of_lt (Nat.lt_trans HWX.out (HESz.det.lt));clear hbl kR y0 y1 y2 y3 HY;generalize wz.alloc (.cells #[.bool nap,.slice A1p l1p c1p,.bool nbp,.slice A2p l2p c2p] 73)=W7 at *
   generalize wz.heap.size=xg at *;obtain ⟨ug,hu⟩:∃ u:FrV,u=⟨nap,A1p,l1p,c1p,nbp,A2p,l2p,c2p⟩:=⟨_,rfl⟩;rw [show ([.bool nap,.slice A1p l1p c1p,.bool nbp,.slice A2p l2p c2p]:List Value)=ug.four by subst hu;rfl] at HXG;rw [show (.agg #[.bool nap,.slice A1p l1p c1p,.bool nbp,.slice A2p l2p c2p]:Value)=ug.val by subst hu;rfl] at HGV;clear hu;have kR:=HESz'.at_ hir;generalize rows[i].g=g at *;generalize rows[i].cp=cp at *;clear HESz;go_wp2_with fail;clear kR
   go_loopw [142] (fun kv wr=>∃ (j:Nat) (rows:List RwF),kv = .int .i64 (j:Int)/\j<=k/\ElS B w.heap.size w R cR n k rows (sbQ X c i j) w.heap.size xd ⟨xa,Xa,laa,caa,ya,Ya,lba,cba⟩ (zWr (c+1) (dD M)) (.slice AV c cV) c wr/\Blk wr xg 73 ug.four/\zCl wr ug.val (X i c)) (fun kv _=>k-(intOf kv).toNat)
   ·exact ⟨0,rows,rfl,oLx,HESz'.out,HXG.out,HGV.out⟩
   clear HESz' HXG HGV hir i1 i2 i3 i4 i5;obtain ⟨m,hmk⟩:∃ m,m=k:=⟨_,rfl⟩;subst hmk;obtain ⟨k,rows,rfl,hkm,hes,hx,hv⟩:=hrel;obtain ⟨wk,rfl⟩:=nWx wr
   by_cases hltk:k<m
   ·skip
    have hir:i<rows.length:=by rw [hes.len];exact hlti
    have hic:c<rows.length:=by rw [hes.len];exact hlt
    have kR:=hes.at_ hir;have kC:=hes.at_ hic;obtain ⟨yy,y0,y1,y2,y3,hy⟩:=hes.tab.num_at hir hltk;obtain ⟨nap,A1p,l1p,c1p,nbp,A2p,l2p,c2p⟩:=yy;rw [sbQ_old X k hne] at hy;simp only [FrV.val] at hy;obtain ⟨zz,z0,z1,z2,z3,hz⟩:=hes.tab.num_at hic hltk;obtain ⟨naq,A1q,l1q,c1q,nbq,A2q,l2q,c2q⟩:=zz;rw [sbQ_piv] at hz;simp only [FrV.val] at hz;have hx0:=hx.at_ (i:=0) rfl;have hx1:=hx.at_ (i:=1) rfl;have hx2:=hx.at_ (i:=2) rfl;have hx3:=hx.at_ (i:=3) rfl;have HXG:=oH hx;have HGV:=oH hv;have HGV2:=oH hv;simp only [FrV.val] at HGV;have HU:=oH hy;have HUC:=oH hz;have HSZ:=oH (show Sz 1000000 (X i k) from ((HDX.out i k hlti hltk).szD).mono oMx);have HSF:=oH (show Sz 1000000 (X i c) from ((HDX.out i c hlti oMx).szD).mono oMx);have HSY:=oH (show Sz 1000000 (X c k/X c c) from ((HSB.out c k hlt hltk).1.szD).mono oMx);have HSM:=oH (show Sz 1000000 (X i c*(X c k/X c c)) from ((HSB.out i k hlti hltk).2.szD).mono oMx)
    have HFZ:=oH (fun W (hW:Below wk.heap.size wk W) j=>(hes.below hW).tab.frozen hir j);have HST:=oH (fun W (hW:Below wk.heap.size wk W) (v:FrV) (hz:zCl W v.val (X i k-X i c*(X c k/X c c)))=>(hes.below hW).store oMx oMx hir hltk hz);obtain ⟨g,hg⟩:=eXx (rows[i].g);obtain ⟨cp,hcp⟩:=eXx (rows[i].cp);obtain ⟨us,hus⟩:=eXx (rows[i].us);obtain ⟨gc,hgc⟩:=eXx (rows[c].g);obtain ⟨cpc,hcpc⟩:=eXx (rows[c].cp);rw [hg,hcp] at kR HST;rw [hgc,hcpc] at kC;rw [hus] at HST;rw [hg] at y0 y1 y2 y3 HFZ;rw [hgc] at z0 z1 z2 z3;have KB:=oH (fun W' (hW:Below wk.heap.size wk W')=>(show W'.cell? ⟨R,i,none⟩=some (.slice (some ⟨g,0,none⟩) m cp)/\W'.cell? ⟨g,k*4,none⟩=some (.bool nap)/\W'.cell? ⟨g,k*4+1,none⟩=some (.slice A1p l1p c1p)/\W'.cell? ⟨g,k*4+2,none⟩=some (.bool nbp)/\W'.cell? ⟨g,k*4+3,none⟩=some (.slice A2p l2p c2p)/\W'.cell? ⟨xg,0,none⟩=some (.bool ug.na)/\W'.cell? ⟨xg,1,none⟩=some (.slice ug.A ug.l ug.c)/\W'.cell? ⟨xg,2,none⟩=some (.bool ug.nb)/\W'.cell? ⟨xg,3,none⟩=some (.slice ug.A' ug.l' ug.c')/\W'.cell? ⟨R,c,none⟩=some (.slice (some ⟨gc,0,none⟩) m cpc)/\W'.cell? ⟨gc,k*4,none⟩=some (.bool naq)/\W'.cell? ⟨gc,k*4+1,none⟩=some (.slice A1q l1q c1q)/\W'.cell? ⟨gc,k*4+2,none⟩=some (.bool nbq)/\W'.cell? ⟨gc,k*4+3,none⟩=some (.slice A2q l2q c2q) from ⟨kP hW kR,kP hW y0,kP hW y1,kP hW y2,kP hW y3,kP hW hx0,kP hW hx1,kP hW hx2,kP hW hx3,kP hW kC,kP hW z0,kP hW z1,kP hW z2,kP hW z3⟩))
    have HWz:=oH (show Below wk.heap.size wk wk.drew from bRx.drew);have KSz:=oH (KB.out _ HWz.out)
    have k1:(0:Int)<=(k:Int):=by omega
    have k2:(k:Int)<(m:Int):=by omega
    have i1:(0:Int)<=(c:Int):=by omega
    have i2:(c:Int)<(n:Int):=by omega
    have i3:(0:Int)<=(i:Int):=by omega
    have i4:(i:Int)<(n:Int):=by omega
    clear hes hx hv hy hz kR kC y0 y1 y2 y3 z0 z1 z2 z3 hx0 hx1 hx2 hx3 hg hcp hus hgc hcpc;go_wp2_with fail;refine xHt (S:=(fun w'=>w'.cell? ⟨R,i,none⟩=some (.slice (some ⟨g,0,none⟩) m cp)/\w'.cell? ⟨g,k*4,none⟩=some (.bool nap)/\w'.cell? ⟨g,k*4+1,none⟩=some (.slice A1p l1p c1p)/\w'.cell? ⟨g,k*4+2,none⟩=some (.bool nbp)/\w'.cell? ⟨g,k*4+3,none⟩=some (.slice A2p l2p c2p)/\w'.cell? ⟨xg,0,none⟩=some (.bool ug.na)/\w'.cell? ⟨xg,1,none⟩=some (.slice ug.A ug.l ug.c)/\w'.cell? ⟨xg,2,none⟩=some (.bool ug.nb)/\w'.cell? ⟨xg,3,none⟩=some (.slice ug.A' ug.l' ug.c')/\w'.cell? ⟨R,c,none⟩=some (.slice (some ⟨gc,0,none⟩) m cpc)/\w'.cell? ⟨gc,k*4,none⟩=some (.bool naq)/\w'.cell? ⟨gc,k*4+1,none⟩=some (.slice A1q l1q c1q)/\w'.cell? ⟨gc,k*4+2,none⟩=some (.bool nbq)/\w'.cell? ⟨gc,k*4+3,none⟩=some (.slice A2q l2q c2q))) 23 (by kernel_rfl) rfl (by kernel_rfl) (by kernel_rfl) rfl (by exact KSz.out) (fun hHeld=>?_)
    simp only [List.pop_toArray,List.dropLast_cons_cons,List.dropLast_singleton];refine tkH 0 ?_;refine tkH 1 ?_;refine tkH 2 ?_;refine tkH 3 ?_;refine tkH 4 ?_;refine tkH 5 ?_;refine tkH 6 ?_;refine tkH 7 ?_;refine tkH 8 ?_;refine tkH 9 ?_;refine tkH 10 ?_;refine tkH 11 ?_;refine tkH 12 ?_;refine tkH 13 ?_;refine tkH 14 ?_;refine tkH 15 ?_;refine tkH 16 ?_;refine tkH 17 ?_;refine tkH 18 ?_;refine tkH 19 ?_
    try simp only [Act.put,tkA,tkB,tkC]
    refine tkS 20 fun K hK=>?_
    go_simp
    (go_at_call 48;(with_reducible refine (zDv _ _ (X i c) (X c k/X c c) _ (HGV.out.below HWz.out) (HUC.out.below HWz.out) HSF.out HSY.out).mono ?_);rintro e wa ⟨va,rfl,hv,hb⟩;have hw:=HWz.out.trans (hb.mono HWz.out.size);have HWa:=oH hw;have HVa:=oH hv;have KSa:=oH (KB.out wa hw);have HU2:=oH (HU.out.below hw);obtain ⟨xa,ya,Xa,Ya,laa,caa,lba,cba,rfl⟩:=hv.slice;clear hb hw hv)
    go_wp2_with fail;refine hK.out _ _ ?_ (fun hHeld=>?_)
    ·exact kSx
    clear hK K
    try simp only [Act.put,tkA,tkB,tkC]
    refine tkS 21 fun K hK=>?_
    go_simp
    (go_at_call 100;(with_reducible refine (zEf _ _ (X i k) (X i c*(X c k/X c c)) _ HU2.out HVa.out HSZ.out HSM.out).mono ?_);rintro e wb ⟨vb,rfl,hv,hb⟩;have hw:=HWa.out.trans (hb.mono HWa.out.size);have HWb:=oH hw;have HVb:=oH hv;have KSb:=oH (KB.out wb hw);obtain ⟨xb,yb,Xb,Yb,lab,cab,lbb,cbb,rfl⟩:=hv.slice;clear hb hw hv)
    go_wp2_with fail;refine hK.out _ _ ?_ (fun hHeld=>?_)
    ·exact kSx
    clear hK K
    try simp only [Act.put,tkA,tkB,tkC]
    refine tkH 22 ?_
    try simp only [Act.put,tkA,tkB,tkC]
    refine wpAnyH_done (by kernel_rfl) ?_ _;simp only [xEe,List.getElem_toArray,List.getElem_cons_succ,List.getElem_cons_zero];have f0:=HFZ.out wb HWb.out (k*4);have f1:=HFZ.out wb HWb.out (k*4+1);have f2:=HFZ.out wb HWb.out (k*4+2);have f3:=HFZ.out wb HWb.out (k*4+3);go_wp2_with fail;go_roundw
    case rel =>
     obtain ⟨t1,t2,t3⟩:=HST.out wb HWb.out ⟨xb,Xb,lab,cab,yb,Yb,lbb,cbb⟩ HVb.out;rw [sbQ_step X k hne] at t1;exact ⟨k+1,_,by go_num,oMx,t1,t3 _ _ _ (HXG.below HWb.out) hxg,t2 _ _ (HGV2.below HWb.out)⟩
    simp [intOf];omega
   obtain rfl:k=m:=by omega
   have HES2:=oH (hes.congr (X':=sbQ X c (i+1) 0) fun a b _ hb=>sbQ_row X c i k a b hb);clear hes hx hv;go_wp2_with fail;go_roundw
   ·exact ⟨i+1,rows,by go_num,oMx,HES2.out⟩
   simp [intOf];omega
  obtain rfl:i=n:=by omega
  have hba:Below wi.heap.size wi (wi.alloc (.cells #[.int .i64 (c:Int)] 3)):=bA;have HESa:=oH (HES.below hba);have hszw:=Nat.le_of_lt (Nat.lt_of_lt_of_le HWX.out (Nat.le_of_lt HESa.det.lt));clear hes hba
  go_wp2_with (at_builtin;refine xHo _ rfl _ _ 22 rfl w.heap.size 3 i0 Tryz.underlying22 hi hz0 hz1 hz2 _ _ _ rfl HESa.piv ⟨wi.heap.size,0,none⟩ 1 _ rfl zUw rfl oMx hszw HESa.zsp ?_)
  intro g' cap' w' hown3 hgrow3 hz3 hc3
  have HESb:=oH ((HESa.push hBw hRw hown3 hgrow3 hz3 hc3).congr fun a b ha _=>HEND.out a b ha);clear hown3 hgrow3 hz3 hc3;go_wp2_with fail;go_roundw
  ·exact ⟨c+1,rows,_,by go_num,oMx,HESb.out⟩
  simp [intOf];omega
 obtain rfl:c=n:=by omega
 have d0:=hes.det.at_ (i:=0) rfl;have d1:=hes.det.at_ (i:=1) rfl;have d2:=hes.det.at_ (i:=2) rfl;have d3:=hes.det.at_ (i:=3) rfl;have KB:=oH (fun W' (hW:Below wc.heap.size wc W')=>(show W'.cell? ⟨xd,0,none⟩=some (.bool u.na)/\W'.cell? ⟨xd,1,none⟩=some (.slice u.A u.l u.c)/\W'.cell? ⟨xd,2,none⟩=some (.bool u.nb)/\W'.cell? ⟨xd,3,none⟩=some (.slice u.A' u.l' u.c') from ⟨kP hW d0,kP hW d1,kP hW d2,kP hW d3⟩));have HWz:=oH (show Below wc.heap.size wc wc.drew from bRx.drew);have KSz:=oH (KB.out _ HWz.out);clear hes d0 d1 d2 d3;go_wp2_with fail;refine xHt (S:=(fun w'=>w'.cell? ⟨xd,0,none⟩=some (.bool u.na)/\w'.cell? ⟨xd,1,none⟩=some (.slice u.A u.l u.c)/\w'.cell? ⟨xd,2,none⟩=some (.bool u.nb)/\w'.cell? ⟨xd,3,none⟩=some (.slice u.A' u.l' u.c'))) 3 (by kernel_rfl) rfl (by kernel_rfl) (by kernel_rfl) rfl (by exact KSz.out) (fun hHeld=>?_);simp only [List.pop_toArray,List.dropLast_cons_cons,List.dropLast_singleton]
 refine tkH 0 ?_;refine tkH 1 ?_;refine tkH 2 ?_
 try simp only [Act.put,tkA,tkB,tkC]
 refine wpAnyH_done (by kernel_rfl) ?_ _;simp only [xEe,List.getElem_toArray,List.getElem_cons_succ,List.getElem_cons_zero];have hes:=HES.below (Below.refl wc.heap.size wc).drew;have f0:=hes.res.fr 0;have f1:=hes.res.fr 1;have f2:=hes.res.fr 2;have f3:=hes.res.fr 3;have q0:=HES.res.at_ (i:=0) rfl;have p0:=HES.res.fr 0;have q1:=HES.res.at_ (i:=1) rfl;have p1:=HES.res.fr 1;have q2:=HES.res.at_ (i:=2) rfl;have p2:=HES.res.fr 2;have q3:=HES.res.at_ (i:=3) rfl;have p3:=HES.res.fr 3;have r0:=hes.res.at_ (i:=0) rfl;have r1:=hes.res.at_ (i:=1) rfl;have r2:=hes.res.at_ (i:=2) rfl;have r3:=hes.res.at_ (i:=3) rfl;obtain ⟨t1,t2,t3⟩:=hes.setRes oMx lRx hRw u;have HR:=oH (show zFq B w R cR c m M (.returned (.tuple #[.slice AV c cV,u.val])) (set4 wc.drew w.heap.size u) from ⟨AV,cV,_,rows,rfl,t2,hes.len,t1,t3⟩);simp only [set4,FrV.val] at HR;obtain ⟨-,d0,d1,d2,d3⟩:True/\_:=⟨trivial,KSz.out⟩;clear hes t1 t2 t3
 go_wp2_with fail;refine bodyPost_ret (v := .tuple #[.slice AV c cV,.agg #[.bool u.na,.slice u.A u.l u.c,.bool u.nb,.slice u.A' u.l' u.c']]) (by simp [results,Tryz.results85,go_sem, *]) rfl ?_;rw [<-hQ.out];exact HR.out
end Go.Proofs.YtfjjcoggoomlbaaGreatDoor
