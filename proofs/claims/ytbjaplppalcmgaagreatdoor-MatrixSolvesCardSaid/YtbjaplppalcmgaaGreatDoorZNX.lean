import Derived.Test.YtbjaplppalcmgaaGreatDoorZNV
import Derived.Test.YtbjaplppalcmgaaGreatDoorZNP
set_option maxHeartbeats 16000000
set_option maxRecDepth 100000
set_option linter.unusedVariables false
set_option linter.unusedSimpArgs false
set_option linter.unusedSectionVars false
namespace Go.Proofs.YtbjaplppalcmgaaGreatDoor
open Go.RowKit
def swf (rows:List RwF) (p r:Nat) (hp:p<rows.length) (hr:r<rows.length):List RwF:=(rows.set p rows[r]).set r rows[p]
theorem xCj (rows:List RwF) (p r:Nat) (hp:p<rows.length) (hr:r<rows.length):(swf rows p r hp hr).length=rows.length:=by simp [swf]
theorem swf_get (rows:List RwF) (p r:Nat) (hp:p<rows.length) (hr:r<rows.length) {i:Nat} (hi:i<rows.length):(swf rows p r hp hr)[i]'(by rw [xCj];exact hi)=rows[sw p r i]'(xCi hp hr hi):=by
 unfold swf;rw [List.getElem_set,List.getElem_set];unfold sw
 by_cases h1:r=i
 ·subst h1
  by_cases h2:r=p
  ·subst h2;simp
  simp [h2]
 by_cases h2:p=i
 ·subst h2;simp [h1]
 simp [h1,h2,Ne.symm h1,Ne.symm h2]
theorem xCk {rows:List RwF} {p r:Nat} {hp:p<rows.length} {hr:r<rows.length} {x:RwF} (h:x∈swf rows p r hp hr):x∈rows:=by
 rcases List.mem_or_eq_of_mem_set h with h1|rfl
 ·rcases List.mem_or_eq_of_mem_set h1 with h2|rfl
  ·exact h2
  exact List.getElem_mem hr
 exact List.getElem_mem hp
section
variable {B:Nat} {w:World} {R c n:Nat} {rows:List RwF} {P:mRx}
theorem TbF.swap (h:TbF B w (.slice (some ⟨R,0,none⟩) rows.length c) rows n P) {p r:Nat} (hp:p<rows.length) (hr:r<rows.length) :
  TbF B ((w.setCell ⟨R,p,none⟩ (.slice (some ⟨rows[r].g,0,none⟩) n rows[r].cp)).setCell ⟨R,r,none⟩ (.slice (some ⟨rows[p].g,0,none⟩) n rows[p].cp)) (.slice (some ⟨R,0,none⟩) (swf rows p r hp hr).length c) (swf rows p r hp hr) n (swp P p r) /\
  ∀ v y,zBt w v y->zBt ((w.setCell ⟨R,p,none⟩ (.slice (some ⟨rows[r].g,0,none⟩) n rows[r].cp)).setCell ⟨R,r,none⟩ (.slice (some ⟨rows[p].g,0,none⟩) n rows[p].cp)) v y:=by
 have ho:=h.o;have hs1:=(ho.stored p (.slice (some ⟨rows[r].g,0,none⟩) n rows[r].cp)).1;have hg1:=(ho.stored p (.slice (some ⟨rows[r].g,0,none⟩) n rows[r].cp)).2;have hs2:=(hs1.stored r (.slice (some ⟨rows[p].g,0,none⟩) n rows[p].cp)).1;have hg2:=(hs1.stored r (.slice (some ⟨rows[p].g,0,none⟩) n rows[p].cp)).2
 have hno:∀ x∈rows.map (RwF.val n),∀ z,x ≠ .int .i64 z:=fun x hx z e=>by
  rw [List.mem_map] at hx;obtain ⟨a,_,e2⟩:=hx;rw [<-e2] at e
  simp [RwF.val] at e
 have hno1:∀ x∈(rows.map (RwF.val n)).set p (.slice (some ⟨rows[r].g,0,none⟩) n rows[r].cp),∀ z,x ≠ .int .i64 z:=fun x hx z=>by
  rcases List.mem_or_eq_of_mem_set hx with h1|rfl
  ·exact hno x h1 z
  intro e;cases e
 have hkeep:∀ v y,zBt w v y->zBt ((w.setCell ⟨R,p,none⟩ (.slice (some ⟨rows[r].g,0,none⟩) n rows[r].cp)).setCell ⟨R,r,none⟩ (.slice (some ⟨rows[p].g,0,none⟩) n rows[p].cp)) v y:=fun v y hv =>
  (hv.row ho hno oMx _).row hs1 hno1 oMx _
 have hmap:((rows.map (RwF.val n)).set p (.slice (some ⟨rows[r].g,0,none⟩) n rows[r].cp)).set r (.slice (some ⟨rows[p].g,0,none⟩) n rows[p].cp)=(swf rows p r hp hr).map (RwF.val n):=by
  unfold swf;rw [List.map_set,List.map_set]
  rfl
 rw [hmap] at hs2;refine ⟨⟨by rw [xCj];exact hs2,fun x hx=>?_,fun x hx=>h.l x (xCk hx),?_,fun i hi k hk=>?_⟩,hkeep⟩
 ·have hx':=h.r x (xCk hx);have hne:=zUp hx' ho dCx rfl;exact (hx'.kept hg1 (.inr hne)).kept hg2 (.inr hne)
 ·have:(swf rows p r hp hr).Perm rows:=List.set_set_perm hp hr;exact (this.map _).nodup_iff.2 h.nd
 have hi':i<rows.length:=by rwa [xCj] at hi
 have e:=swf_get rows p r hp hr hi'
 have hk':k<(rows[sw p r i]'(xCi hp hr hi')).us.length:=by rw [<-e];exact hk
 have:=hkeep _ _ (h.num (sw p r i) (xCi hp hr hi') k hk');simp only [e];exact this
end
structure ElG (B H:Nat) (w:World) (R cR n m:Nat) (rows:List RwF) (X:mRx) (xr xd:Nat) (u:FrV) (q:Rat) (v6:Value) (ps:List Nat) (W:World):Prop where
 tab:TbF B W (.slice (some ⟨R,0,none⟩) n cR) rows m X
 len:rows.length=n
 lo:∀ r∈rows,r.g<H
 res:Blk W xr 87 [.bool false,.slice none 0 0,.bool false,.slice none 0 0]
 det:Blk W xd 87 u.four
 dv:zBt W u.val q
 piv:W.ownsRow H 3 1 v6 ps.length (vn ps)
 zsp:ZSp W v6 ps.length
 bel:Below B w W
section
variable {B H:Nat} {w W W':World} {R cR n m:Nat} {rows:List RwF} {X X':mRx} {xr xd:Nat} {u:FrV} {q:Rat} {v6:Value} {ps:List Nat} {c:Nat}
theorem ElG.below (h:ElG B H w R cR n m rows X xr xd u q v6 ps W) (hb:Below W.heap.size W W'):ElG B H w R cR n m rows X xr xd u q v6 ps W' :=
 ⟨h.tab.below hb,h.len,h.lo,h.res.below hb,h.det.below hb,h.dv.below hb,zUm h.piv hb,h.zsp.below (fun k hk=>(h.piv.lt k hk).2) hb,h.bel.trans (hb.mono (Nat.le_of_lt (Nat.lt_of_le_of_lt (h.tab.o.lt R rfl).1 (h.tab.o.lt R rfl).2)))⟩
theorem ElG.congr (h:ElG B H w R cR n m rows X xr xd u q v6 ps W) (he:∀ a b,a<n->b<m->X' a b=X a b):ElG B H w R cR n m rows X' xr xd u q v6 ps W :=
 { h with tab:=h.tab.congr fun a b ha hb=>he a b (by rw [<-h.len];exact ha) hb }
theorem ElG.at_ (h:ElG B H w R cR n m rows X xr xd u q v6 ps W) {i:Nat} (hi:i<rows.length):W.cell? ⟨R,i,none⟩=some (.slice (some ⟨rows[i].g,0,none⟩) m rows[i].cp):=TbF.cell (h.len.symm▸h.tab) hi
theorem ElG.store (h:ElG B H w R cR n m rows X xr xd u q v6 ps W) (h1:H<=xr) (h2:H<=xd) {i k:Nat} (hi:i<rows.length) (hk:k<m) {v:FrV} {z:Rat} (hz:zBt W v.val z) :
  ElG B H w R cR n m (rows.set i ⟨rows[i].g,rows[i].cp,rows[i].us.set k v⟩) (fun a b=>if a=i/\b=k then z else X a b) xr xd u q v6 ps (put4 W rows[i].g k v) /\
  (∀ v' y,zBt W v' y->zBt (put4 W rows[i].g k v) v' y)/\∀ x t cs,Blk W x t cs->H<=x->Blk (put4 W rows[i].g k v) x t cs:=by
 obtain ⟨t1,t2⟩:=h.tab.store hi hk hz;have hg:=h.lo _ (List.getElem_mem hi);have hB:=(h.tab.blk hi).1
 have hp:∀ k',v6.ownBlock=some k'->H<=k':=fun k' hk'=>(h.piv.lt k' hk').1
 have hne:v6.ownBlock=none\/v6.ownBlock≠some rows[i].g := .inr fun e=>by have:=hp _ e;omega
 have gr:=zVk W rows[i].g k v;refine ⟨⟨t1,by rw [List.length_set];exact h.len,RwF.keep hi h.lo,Blk.put4 (k:=k) (u:=v) h.res oMx,Blk.put4 (k:=k) (u:=v) h.det oMx,t2 _ _ h.dv,h.piv.kept gr hne,h.zsp.kept gr (fun k' hk'=>(h.piv.lt k' hk').2) hne,bel_put4 h.bel hB k v⟩,t2,fun x t cs hb hx=>Blk.put4 (k:=k) (u:=v) hb oMx⟩
theorem ElG.setDet (h:ElG B H w R cR n m rows X xr xd u q v6 ps W) (h0:B<=xd) (h1:xr≠xd) (h2:H<=xd) (hR:R<H) {v:FrV} {z:Rat} (hz:zBt W v.val z) :
  ElG B H w R cR n m rows X xr xd v z v6 ps (set4 W xd v)/\∀ v' y,zBt W v' y->zBt (set4 W xd v) v' y:=by
 have gr:=zYz W xd v
 have hn:∀ v' y,zBt W v' y->zBt (set4 W xd v) v' y:=fun v' y hv=>hv.box h.det zNj gr
 have hne:=zIu h.det h.piv dCx
 have b1:∀ {x:Nat} {t:TypeId} {cs:List Value},Blk W x t cs->x≠xd->Blk (set4 W xd v) x t cs:=fun hb hx=>hb.grown gr (fun e=>hx (by injection e))
 refine ⟨⟨h.tab.kept gr (fun r hr e=>?_) (fun e=>?_) hn,h.len,h.lo,b1 h.res h1,rf_set4 h.det,hn _ _ hz,h.piv.kept gr hne,h.zsp.kept gr (fun k' hk'=>(h.piv.lt k' hk').2) hne,(((h.bel.setCell (p:=⟨xd,0,none⟩) h0 _).setCell (p:=⟨xd,1,none⟩) h0 _).setCell (p:=⟨xd,2,none⟩) h0 _).setCell (p:=⟨xd,3,none⟩) h0 _⟩,hn⟩
 ·have:=h.lo r hr;injection e with e;omega
 injection e with e;omega
theorem ElG.setRes (h:ElG B H w R cR n m rows X xr xd u q v6 ps W) (h0:B<=xr) (h2:H<=xr) (hR:R<H) (v:FrV) :
  TbF B (set4 W xr v) (.slice (some ⟨R,0,none⟩) n cR) rows m X/\zBt (set4 W xr v) u.val q/\Below B w (set4 W xr v)/\(set4 W xr v).ownsRow H 3 1 v6 ps.length (vn ps):=by
 have gr:=zYz W xr v
 have hn:∀ v' y,zBt W v' y->zBt (set4 W xr v) v' y:=fun v' y hv=>hv.box h.res zSj gr
 refine ⟨h.tab.kept gr (fun r hr e=>?_) (fun e=>?_) hn,hn _ _ h.dv,(((h.bel.setCell (p:=⟨xr,0,none⟩) h0 _).setCell (p:=⟨xr,1,none⟩) h0 _).setCell (p:=⟨xr,2,none⟩) h0 _).setCell (p:=⟨xr,3,none⟩) h0 _,h.piv.kept gr (zIu h.res h.piv dCx)⟩
 ·have:=h.lo r hr;injection e with e;omega
 injection e with e;omega
theorem ElG.push (h:ElG B H w R cR n m rows X xr xd u q v6 ps W) (hBH:B<=H) (hR:R<H) {v':Value} (ho:W'.ownsRow H 3 1 v' (ps.length+1) (vn ps++[.int .i64 (c:Int)])) (hg:W.grownBy W' v6.ownBlock) (hz:ZSp W' v' (ps.length+1)) (hc:∀ A ys,zAe .i64 W A ys->(∀ i,i+1=ys.length->nth ys i≠0)->zAe .i64 W' A ys) :
  ElG B H w R cR n m rows X xr xd u q v' (ps++[c]) W':=by
 have hbig:∀ v z,zBm W v z->zBm W' v z:=fun v z ⟨A,c',e,hl,hx⟩=>⟨A,c',e,hl,hc A _ hx (zPz _)⟩
 have hn:∀ v y,zBt W v y->zBt W' v y:=fun v y ⟨na,nb,A,A',l,c,l',c',e,h1,h2⟩=>⟨na,nb,A,A',l,c,l',c',e,hbig _ _ h1,hbig _ _ h2⟩
 have hp:∀ k',v6.ownBlock=some k'->H<=k':=fun k' hk'=>(h.piv.lt k' hk').1
 have hb:Below B W W':=⟨hg.os,hg.tape,hg.output,hg.size,fun k hk=>hg.block k (by have:=h.tab.o.lt R rfl;omega) (fun e=>by have:=hp k e.symm;omega)⟩;refine ⟨h.tab.kept hg (fun r hr e=>?_) (fun e=>?_) hn,h.len,h.lo,h.res.grown hg (fun e=>?_),h.det.grown hg (fun e=>?_),hn _ _ h.dv,by rw [xFo,List.length_append];exact ho,by rw [List.length_append];exact hz,h.bel.trans hb⟩
 ·have:=hp _ e.symm;have:=h.lo r hr;omega
 ·have:=hp _ e.symm;omega
 ·rcases zIu h.res h.piv dCx with h1|h1
  ·rw [h1] at e;cases e
  exact h1 e.symm
 rcases zIu h.det h.piv dCx with h1|h1
 ·rw [h1] at e;cases e
 exact h1 e.symm
theorem ElG.swap (h:ElG B H w R cR n m rows X xr xd u q v6 ps W) (h1:R<H) (h3:H<=xr) (h4:H<=xd) {p r:Nat} (hp:p<rows.length) (hr:r<rows.length) :
  ElG B H w R cR n m (swf rows p r hp hr) (swp X p r) xr xd u q v6 ps ((W.setCell ⟨R,p,none⟩ (.slice (some ⟨rows[r].g,0,none⟩) m rows[r].cp)).setCell ⟨R,r,none⟩ (.slice (some ⟨rows[p].g,0,none⟩) m rows[p].cp)):=by
 have ht:=h.tab;rw [<-h.len] at ht;obtain ⟨t1,t2⟩:=ht.swap hp hr;rw [xCj,h.len] at t1;have hRB:=(h.tab.o.lt R rfl);have gr:W.grownBy ((W.setCell ⟨R,p,none⟩ (.slice (some ⟨rows[r].g,0,none⟩) m rows[r].cp)).setCell ⟨R,r,none⟩ (.slice (some ⟨rows[p].g,0,none⟩) m rows[p].cp)) (some R):=zOd (zOc R p _) r _
 have hpv:∀ k',v6.ownBlock=some k'->H<=k':=fun k' hk'=>(h.piv.lt k' hk').1
 have hne:v6.ownBlock=none\/v6.ownBlock≠some R := .inr fun e=>by have:=hpv _ e;omega
 have hb:Below B W ((W.setCell ⟨R,p,none⟩ (.slice (some ⟨rows[r].g,0,none⟩) m rows[r].cp)).setCell ⟨R,r,none⟩ (.slice (some ⟨rows[p].g,0,none⟩) m rows[p].cp)):=((Below.refl B W).setCell (p:=⟨R,p,none⟩) hRB.1 _).setCell (p:=⟨R,r,none⟩) hRB.1 _;exact ⟨t1,by rw [xCj];exact h.len,fun x hx=>h.lo x (xCk hx),h.res.grown gr (fun e=>by injection e with e;omega),h.det.grown gr (fun e=>by injection e with e;omega),t2 _ _ h.dv,h.piv.kept gr hne,h.zsp.kept gr (fun k' hk'=>(h.piv.lt k' hk').2) hne,h.bel.trans hb⟩
end
def zFo (B:Nat) (w:World) (R cR n m cols:Nat) (M:mRx) (e:Ending) (w':World):Prop:=∃ (A:oAx) (c:Nat) (v:Value) (rows:List RwF) (F:mRx) (psf:Nat->Nat) (ps:List Nat) (vq:Rat) (odd:Bool),e = .returned (.tuple #[.slice A ps.length c,v])/\zAe .i64 w' A ps/\ps=(List.range ps.length).map psf/\Gau n M cols F psf ps.length vq odd/\(∀ a b,a<n->b<m->zAl (gdG ps.length) (F a b))/\zAl (pdG ps.length) vq/\zBt w' v ((if odd then -1 else 1)*vq)/\rows.length=n/\TbF B w' (.slice (some ⟨R,0,none⟩) n cR) rows m F/\Below B w w'
theorem sgn_not (odd:Bool) (q:Rat):((0:Int):Rat)-(if odd then -1 else 1)*q=(if !odd then -1 else 1)*q:=by
 cases odd<;>simp<;>grind
theorem swp_same (F:mRx) (r a b:Nat):F a b=swp F r r a b:=by
 show F a b=F (sw r r a) b
 congr 1
 unfold sw
 split<;>(try split)<;>omega
theorem zDj (B R cR n m cols:Nat) (rows0:List RwF) (M:mRx) (w:World) (h:TbF B w (.slice (some ⟨R,0,none⟩) n cR) rows0 m M) (hrl:rows0.length=n) (hn1:1<=n) (hn:n<=5) (hcm0:cols<=m) (hm:m<=40) (hd:∀ a b,a<n->b<m->zAl 30 (M a b)) :
  Calls Tryz.prog 45 #[.slice (some ⟨R,0,none⟩) n cR,.int .i64 (cols:Int)] w (zFo B w R cR n m cols M):=by
 obtain ⟨ti0,hi,hz0,hz1,hz2⟩:=info_parts Tryz.infoInt;generalize hQ:zFo B w R cR n m cols M=Q;replace hQ:=oH hQ;have HT:=oH h;have HDM:=oH hd;have hRB:=h.o.lt R rfl
 have hBw:B<=w.heap.size:=by omega
 have hRw:=hRB.2;have HLO:=oH (fun r (hr:r∈rows0)=>((h.r r hr).lt _ rfl).2);clear h hd hRB
 go_enter Tryz.func45,Tryz.ntmps45
 go_wp2_with fail;have hb0:Below w.heap.size w (w.alloc (.cells #[.bool false,.slice none 0 0,.bool false,.slice none 0 0] 87)):=bA;have HR0:=oH (Blk.new w 87 [.bool false,.slice none 0 0,.bool false,.slice none 0 0]);have HB0:=oH hb0;clear hb0;refine (zDo 1 _ dCx dCx).mono ?_;rintro e w2 ⟨v1,rfl,hv,hb⟩;have HB2:=bTx2 HB0 hb;replace HR0:=oH (HR0.below hb);have hsx:=HR0.lt;have HV2:=oH hv;obtain ⟨na,nb,A1,A2,l1,c1,l2,c2,rfl⟩:=hv.slice;clear hv hb;go_upto_region 3 with (fail);have hbl:Below w2.heap.size w2 (w2.alloc (.cells #[.bool na,.slice A1 l1 c1,.bool nb,.slice A2 l2 c2] 87)):=bA;have HB3:=HB2.trans (hbl.mono HB2.size)
 have hes:ElG B w.heap.size w R cR n m rows0 M w.heap.size w2.heap.size ⟨na,A1,l1,c1,nb,A2,l2,c2⟩ ((if false then -1 else 1)*1) (.slice none 0 0) [] (w2.alloc (.cells #[.bool na,.slice A1 l1 c1,.bool nb,.slice A2 l2 c2] 87)) :=
  ⟨HT.below HB3,hrl,HLO.out,HR0.below hbl,Blk.new w2 87 _,by rw [show ((if false then -1 else 1)*1:Rat)=((1:Int):Rat) by simp];exact HV2.below hbl,World.ownsRow_nil _ _ _ _,ZSp.nil _ _ _ _,⟨HB3.os,HB3.tape,HB3.output,HB3.size,fun k hk=>HB3.block k oMx⟩⟩
 have HES:=oH hes;have hxr:w.heap.size<=w.heap.size:=lRx;have hxd:w.heap.size<w2.heap.size:=hsx;clear hes hbl HB3 HB2 HR0 HB0 HV2 HT hrl HLO;generalize w2.alloc (.cells #[.bool na,.slice A1 l1 c1,.bool nb,.slice A2 l2 c2] 87)=W3 at *;generalize w2.heap.size=xd at *;have HWX:=oH hxd;go_wp2_with fail
 go_loopw [6,8] (fun v6 cv wr=>∃ (c:Nat) (rows:List RwF) (u:FrV) (F:mRx) (psf:Nat->Nat) (ps:List Nat) (vq:Rat) (odd:Bool),cv = .int .i64 (c:Int)/\c<=cols/\ps=(List.range ps.length).map psf/\Gau n M c F psf ps.length vq odd/\(∀ a b,a<n->b<m->zAl (gdG ps.length) (F a b))/\zAl (pdG ps.length) vq/\ElG B w.heap.size w R cR n m rows F w.heap.size xd u ((if odd then -1 else 1)*vq) v6 ps wr) (fun _ cv _=>cols-(intOf cv).toNat)
 ·exact ⟨0,rows0,_,M,fun _=>0,[],1,false,rfl,oLx,rfl,Gau.start n M _,HDM.out,⟨by unfold Dig;decide,by unfold Dig;decide⟩,HES.out⟩
 clear HES;obtain ⟨c,rows,u,X,psf,ps,vq,odd,rfl,hcn,hps,hgau,hdx,hpd,hes⟩:=hrel;obtain ⟨wc,rfl⟩:=nWx wr;obtain ⟨r,hr⟩:=eXx (ps.length);obtain ⟨AV,cV,rfl, -⟩:=zUj hes.piv;have HGA:=oH hgau;have HDX:=oH hdx;have HPD0:=oH hpd;have HPS:=oH hps;have HRL:=oH hr;have HES:=oH hes;rw [hr] at HGA HDX HPD0 HPS HES ⊢;have hrn:r<=n:=HGA.rm;clear hes hgau hdx hpd hps hr
 by_cases hlive:c<cols/\r<n
 ·obtain ⟨hlc,hlt⟩:=hlive
  have hcm:c<m:=by omega
  have k1:(c:Int)<(cols:Int):=by omega
  have k2:(r:Int)<(n:Int):=by omega
  go_wp2_with fail;clear k1 k2
  go_loopw [10] (fun pv wr=>∃ p:Nat,pv = .int .i64 (p:Int)/\r<=p/\p<=n/\(∀ j,r<=j->j<p->X j c=0)/\Below wc.heap.size wc wr) (fun pv _=>n-(intOf pv).toNat)
  ·exact ⟨r,rfl,lRx,hrn,fun j h1 h2=>by omega,bRx⟩
  obtain ⟨p,rfl,hrp,hpn,hz,hbp⟩:=hrel;obtain ⟨wp,rfl⟩:=nWx wr;have hes:=HES.below hbp;have HZ:=oH hz;have HBP:=oH hbp;have HES1:=oH hes;clear hz hbp
  by_cases hp:p<n
  ·have hir:p<rows.length:=by rw [hes.len];exact hp
   have kR:=hes.at_ hir;obtain ⟨yy,y0,y1,y2,y3,hy⟩:=hes.tab.num_at hir hcm;obtain ⟨nap,A1p,l1p,c1p,nbp,A2p,l2p,c2p⟩:=yy;simp only [FrV.val] at hy;have HU:=oH hy;obtain ⟨g0,hg0⟩:=eXx (rows[p].g);obtain ⟨cp0,hcp0⟩:=eXx (rows[p].cp);rw [hg0,hcp0] at kR;rw [hg0] at y0 y1 y2 y3
   have i0:(0:Int)<=(p:Int):=by omega
   have i1:(0:Int)<=(c:Int):=by omega
   have i2:(p:Int)<(n:Int):=by omega
   have i3:(c:Int)<(m:Int):=by omega
   clear hes hy hg0 hcp0
   by_cases hx0:X p c=0
   ·have HX0:=oH hx0;clear hx0;go_wp2_with fail;refine (zEa _ _ _ HU.out HX0.out).mono ?_;rintro e wz ⟨rfl,hb⟩;have HB9:=bTx2 HBP hb;clear hb kR y0 y1 y2 y3 HU;go_wp2_with fail;go_roundw
    ·exact ⟨p+1,by go_num,oMx,oMx,(fun j h1 h2=>by
     rcases Nat.lt_or_ge j p with h3|h3
     ·exact HZ.out j h1 h3
     obtain rfl:j=p:=by omega
     exact HX0.out),HB9.out⟩
    simp [intOf];omega
   skip
   go_wp2_with fail;refine (zDz _ _ _ HU.out hx0).mono ?_;rintro e wz ⟨rfl,hb⟩;have HESz:=oH (HES1.below hb);clear kR y0 y1 y2 y3 HU i0 i1 i2 i3 hb HES1 HES
   have hrr:r<rows.length:=by rw [HESz.len];exact hlt
   have hgl:=zNy r oMx;have hpl:=pdG_le r oMx
   go_upto_if 54 with (fail)
   go_cut [10] (fun iv wcut=>iv = .int .i64 (p:Int)/\∃ (rows2:List RwF) (u2:FrV),ElG B w.heap.size w R cR n m rows2 (swp X p r) w.heap.size xd u2 ((if (if p=r then odd else !odd) then -1 else 1)*vq) (.slice AV r cV) ps wcut)
   case first =>
    by_cases hpe:p=r
    ·have hd2:((p:Int) != (r:Int))=false:=by simp;omega
     have HE9:=oH (show ElG B w.heap.size w R cR n m rows (swp X p r) w.heap.size xd u ((if (if p=r then odd else !odd) then -1 else 1)*vq) (.slice AV r cV) ps wz from by
      rw [if_pos hpe,hpe]
      exact HESz.congr fun a b _ _=>(swp_same X r a b).symm)
     clear hpe HESz;go_wp2_with fail
     go_meet
     exact ⟨rfl,rows,u,HE9.out⟩
    have hd2:((p:Int) != (r:Int))=true:=by simp;omega
    have HNP:=oH hpe;have hpe2:r≠p:=Ne.symm hpe;have HSW:=oH (HESz.swap hRw lRx (Nat.le_of_lt HWX.out) hir hrr);have kp:=HESz.at_ hir;have ka:=HESz.at_ hrr
    have fp:wz.frozen? ⟨R,p,none⟩=false:=by
     have ht:=HESz.tab;rw [<-HESz.len] at ht;exact ht.o.frozenAt p
    have fa:wz.frozen? ⟨R,r,none⟩=false:=by
     have ht:=HESz.tab;rw [<-HESz.len] at ht;exact ht.o.frozenAt r
    have i0:(0:Int)<=(p:Int):=by omega
    have i1:(0:Int)<=(r:Int):=by omega
    have i2:(p:Int)<(n:Int):=by omega
    have i3:(r:Int)<(n:Int):=by omega
    go_upto_region 12 with (fail)
    go_cut [10] (fun iv wcut2=>iv = .int .i64 (p:Int)/\ElG B w.heap.size w R cR n m (swf rows p r hir hrr) (swp X p r) w.heap.size xd u ((if odd then -1 else 1)*vq) (.slice AV r cV) ps wcut2)
    case first =>
     go_wp2_with fail
     go_region
     all_goals go_wp2_with fail
     all_goals go_meet
     all_goals first
      | exact ⟨rfl,HSW.out⟩
      | exact ⟨rfl,HSW.below bRx.drew⟩
    case rest =>
     clear HSW kp ka fp fa i0 i1 i2 i3 HESz;obtain ⟨rfl,hes⟩:=hcut;obtain ⟨wy,rfl⟩:=nWx wc;have HESy:=oH hes;have HNG:=oH (show ((0:Int):Rat)-(if odd then -1 else 1)*vq=(if (if p=r then odd else !odd) then -1 else 1)*vq from by rw [if_neg HNP.out];exact sgn_not odd vq);have HPDq:=oH (show zAl (pdG r) ((if odd then -1 else 1)*vq) from zZi odd HPD0.out);obtain ⟨q0,hq0⟩:=eXx ((if odd then -1 else 1)*vq);rw [hq0] at HNG HPDq HESy;clear hes hq0;have hes:=HESy.out;have HDV:=oH hes.dv;simp only [FrV.val] at HDV;have d0:=hes.det.at_ (i:=0) rfl;have d1:=hes.det.at_ (i:=1) rfl;have d2:=hes.det.at_ (i:=2) rfl;have d3:=hes.det.at_ (i:=3) rfl;have HSD:=oH (show Sz 1000000 q0 from (HPDq.szG).mono oMx);have HS0:=oH (show Sz 1000000 ((0:Int):Rat) from ((show zAl 1 ((0:Int):Rat) from ⟨by unfold Dig;decide,by unfold Dig;decide⟩).szG).mono oMx);have KB:=oH (fun W' (hW:Below wy.heap.size wy W')=>(show W'.cell? ⟨xd,0,none⟩=some (.bool u.na)/\W'.cell? ⟨xd,1,none⟩=some (.slice u.A u.l u.c)/\W'.cell? ⟨xd,2,none⟩=some (.bool u.nb)/\W'.cell? ⟨xd,3,none⟩=some (.slice u.A' u.l' u.c') from ⟨kP hW d0,kP hW d1,kP hW d2,kP hW d3⟩))
     have HWz:=oH (show Below wy.heap.size wy wy.drew from bRx.drew);have KSz:=oH (KB.out _ HWz.out);clear hes d0 d1 d2 d3;go_wp2_with fail;refine xGe (S:=(fun w'=>w'.cell? ⟨xd,0,none⟩=some (.bool u.na)/\w'.cell? ⟨xd,1,none⟩=some (.slice u.A u.l u.c)/\w'.cell? ⟨xd,2,none⟩=some (.bool u.nb)/\w'.cell? ⟨xd,3,none⟩=some (.slice u.A' u.l' u.c'))) 3 (by kernel_rfl) rfl (by kernel_rfl) (by kernel_rfl) rfl (by exact KSz.out) (fun hHeld=>?_);simp only [List.pop_toArray,List.dropLast_cons_cons,List.dropLast_singleton];refine tkH 1 ?_
     try simp only [Act.put,tkA,tkB,tkC]
     refine tkS 0 fun K hK=>?_
     go_simp
     (go_at_call 50;(with_reducible refine (zDo 0 _ dCx dCx).mono ?_);rintro e wa ⟨va,rfl,hv,hb⟩;have hw:=HWz.out.trans (hb.mono HWz.out.size);have HWa:=oH hw;have HVa:=oH hv;have KSa:=oH (KB.out wa hw);obtain ⟨xa,ya,Xa,Ya,laa,caa,lba,cba,rfl⟩:=hv.slice;clear hb hw hv)
     go_wp2_with fail;refine hK.out _ _ ?_ (fun hHeld=>?_)
     ·exact kSx
     clear hK K
     try simp only [Act.put,tkA,tkB,tkC]
     refine tkS 2 fun K hK=>?_
     go_simp
     (go_at_call 59;(with_reducible refine (zDv _ _ ((0:Int):Rat) q0 _ HVa.out (HDV.out.below HWa.out) HS0.out HSD.out).mono ?_);rintro e wb ⟨vb,rfl,hv,hb⟩;have hw:=HWa.out.trans (hb.mono HWa.out.size);have HWb:=oH hw;have HVb:=oH hv;have KSb:=oH (KB.out wb hw);obtain ⟨xb,yb,Xb,Yb,lab,cab,lbb,cbb,rfl⟩:=hv.slice;clear hb hw hv)
     go_wp2_with fail;refine hK.out _ _ ?_ (fun hHeld=>?_)
     ·exact kSx
     clear hK K
     try simp only [Act.put,tkA,tkB,tkC]
     refine wpAnyH_done (by kernel_rfl) ?_ _;simp only [xCo,List.getElem_toArray,List.getElem_cons_succ,List.getElem_cons_zero];have hes:=HESy.below HWb.out;have f0:=hes.det.fr 0;have f1:=hes.det.fr 1;have f2:=hes.det.fr 2;have f3:=hes.det.fr 3;have hs5:=(hes.setDet oMx oMx oMx hRw (v:=⟨xb,Xb,lab,cab,yb,Yb,lbb,cbb⟩) HVb.out).1;simp only [set4] at hs5;rw [HNG.out] at hs5;have HES5:=oH hs5;clear hes hs5 HDV HSD HS0 KB HWz KSz KSa KSb HVa HVb;go_wp2_with fail
     go_meet
     exact ⟨rfl,_,_,HES5.out⟩
   case rest =>
    obtain ⟨rfl,rows2,u2,hes⟩:=hcut;obtain ⟨wz,rfl⟩:=nWx wc;obtain ⟨rows,rfl⟩:∃ x,x=rows2:=⟨_,rfl⟩;obtain ⟨u,rfl⟩:∃ x,x=u2:=⟨_,rfl⟩;clear hir hrr HESz;have HESz:=oH hes
    have hir:r<rows.length:=by rw [hes.len];exact hlt
    have HGN:=oH (HGA.step hrp hp hx0);have HDN:=oH (step_dig HDX.out hp hlt hcm hx0);have HPN:=oH (HPD0.mul (HDX.out p c hp hcm) rfl rfl);have HPC:=oH (show swp X p r r c≠0 from by rw [show swp X p r r c=X p c from by show X (sw p r r) c=X p c;rw [sw_r]];exact hx0);have HDY:=oH (swp_digG HDX.out hp hlt);have HPD:=oH (zZi (if p=r then odd else !odd) HPD0.out);have HEND:=oH (sbG_end X p r c n);have HQE:=oH (show (if (if p=r then odd else !odd) then -1 else 1)*vq*swp X p r r c=(if (if p=r then odd else !odd) then -1 else 1)*(vq*X p c) from by rw [show swp X p r r c=X p c from by show X (sw p r r) c=X p c;rw [sw_r],Rat.mul_assoc]);generalize (if p=r then odd else !odd)=odd2 at *;obtain ⟨q1,hq1⟩:=eXx ((if odd2 then -1 else 1)*vq);rw [hq1] at HQE HPD HESz;obtain ⟨XO,hXO⟩:=eXx (xAr X p r c);rw [hXO] at HGN HDN HEND;obtain ⟨vN,hvN⟩:=eXx (vq*X p c);rw [hvN] at HGN HPN HQE;clear hq1 hes HDX HGA HPD0 hx0 hXO hvN HZ
    generalize swp X p r=X at *;have HDX:=HDY;clear HDY;have HSB:=oH (fun a b ha hb=>sbG_dig HDX.out hlt hcm HPC.out (a:=a) (b:=b) ha hb);have hes:=HESz.out;have kR:=hes.at_ hir;obtain ⟨yy,y0,y1,y2,y3,hy⟩:=hes.tab.num_at hir hcm;obtain ⟨nap,A1p,l1p,c1p,nbp,A2p,l2p,c2p⟩:=yy;simp only [FrV.val] at hy;have HU:=oH hy;have HDV:=oH hes.dv;simp only [FrV.val] at HDV;have d0:=hes.det.at_ (i:=0) rfl;have d1:=hes.det.at_ (i:=1) rfl;have d2:=hes.det.at_ (i:=2) rfl;have d3:=hes.det.at_ (i:=3) rfl;have HSP:=oH (show Sz 1000000 (X r c) from ((HDX.out r c hlt hcm).szG).mono oMx);have HSD:=oH (show Sz 1000000 q1 from (HPD.szG).mono oMx);generalize rows[r].g=g at *;generalize rows[r].cp=cp at *;have KB:=oH (fun W' (hW:Below wz.heap.size wz W')=>(show W'.cell? ⟨R,r,none⟩=some (.slice (some ⟨g,0,none⟩) m cp)/\W'.cell? ⟨g,c*4,none⟩=some (.bool nap)/\W'.cell? ⟨g,c*4+1,none⟩=some (.slice A1p l1p c1p)/\W'.cell? ⟨g,c*4+2,none⟩=some (.bool nbp)/\W'.cell? ⟨g,c*4+3,none⟩=some (.slice A2p l2p c2p)/\W'.cell? ⟨xd,0,none⟩=some (.bool u.na)/\W'.cell? ⟨xd,1,none⟩=some (.slice u.A u.l u.c)/\W'.cell? ⟨xd,2,none⟩=some (.bool u.nb)/\W'.cell? ⟨xd,3,none⟩=some (.slice u.A' u.l' u.c') from ⟨kP hW kR,kP hW y0,kP hW y1,kP hW y2,kP hW y3,kP hW d0,kP hW d1,kP hW d2,kP hW d3⟩))
    have HWz:=oH (show Below wz.heap.size wz wz.drew from bRx.drew);have KSz:=oH (KB.out _ HWz.out)
    have i0:(0:Int)<=(r:Int):=by omega
    have i1:(0:Int)<=(c:Int):=by omega
    have i2:(r:Int)<(n:Int):=by omega
    have i3:(c:Int)<(m:Int):=by omega
    clear hes hy kR y0 y1 y2 y3 d0 d1 d2 d3;go_wp2_with fail;refine xGe (S:=(fun w'=>w'.cell? ⟨R,r,none⟩=some (.slice (some ⟨g,0,none⟩) m cp)/\w'.cell? ⟨g,c*4,none⟩=some (.bool nap)/\w'.cell? ⟨g,c*4+1,none⟩=some (.slice A1p l1p c1p)/\w'.cell? ⟨g,c*4+2,none⟩=some (.bool nbp)/\w'.cell? ⟨g,c*4+3,none⟩=some (.slice A2p l2p c2p)/\w'.cell? ⟨xd,0,none⟩=some (.bool u.na)/\w'.cell? ⟨xd,1,none⟩=some (.slice u.A u.l u.c)/\w'.cell? ⟨xd,2,none⟩=some (.bool u.nb)/\w'.cell? ⟨xd,3,none⟩=some (.slice u.A' u.l' u.c'))) 9 (by kernel_rfl) rfl (by kernel_rfl) (by kernel_rfl) rfl (by exact KSz.out) (fun hHeld=>?_);simp only [List.pop_toArray,List.dropLast_cons_cons,List.dropLast_singleton];refine tkH 0 ?_;refine tkH 1 ?_;refine tkH 2 ?_;refine tkH 3 ?_;refine tkH 4 ?_;refine tkH 5 ?_;refine tkH 6 ?_;refine tkH 7 ?_
    try simp only [Act.put,tkA,tkB,tkC]
    refine tkS 8 fun K hK=>?_
    go_simp
    (go_at_call 89;(with_reducible refine (zDn _ _ q1 (X r c) _ (HDV.out.below HWz.out) (HU.out.below HWz.out) HSD.out HSP.out).mono ?_);rintro e wa ⟨va,rfl,hv,hb⟩;have hw:=HWz.out.trans (hb.mono HWz.out.size);have HWa:=oH hw;have HVa:=oH hv;have KSa:=oH (KB.out wa hw);obtain ⟨xa,ya,Xa,Ya,laa,caa,lba,cba,rfl⟩:=hv.slice;clear hb hw hv)
    go_wp2_with fail;refine hK.out _ _ ?_ (fun hHeld=>?_)
    ·with_reducible exact KSa.out
    clear hK K
    try simp only [Act.put,tkA,tkB,tkC]
    refine wpAnyH_done (by kernel_rfl) ?_ _;simp only [xCo,List.getElem_toArray,List.getElem_cons_succ,List.getElem_cons_zero];have hes:=HESz.below HWa.out;have f0:=hes.det.fr 0;have f1:=hes.det.fr 1;have f2:=hes.det.fr 2;have f3:=hes.det.fr 3;have hs5:=(hes.setDet oMx oMx oMx hRw (v:=⟨xa,Xa,laa,caa,ya,Ya,lba,cba⟩) HVa.out).1;simp only [set4] at hs5;have HES5:=oH hs5;clear hes hs5 HESz HU HDV HSP HSD KB HWz KSz KSa HVa HPD;go_upto_region 15 with (fail);generalize ((((wa.setCell ⟨xd,0,none⟩ (.bool xa)).setCell ⟨xd,1,none⟩ (.slice Xa laa caa)).setCell ⟨xd,2,none⟩ (.bool ya)).setCell ⟨xd,3,none⟩ (.slice Ya lba cba))=W5 at *;clear f0 f1 f2 f3 HWa;have kR:=HES5.at_ hir;obtain ⟨yy,y0,y1,y2,y3,hy⟩:=HES5.tab.num_at hir hcm;obtain ⟨nap,A1p,l1p,c1p,nbp,A2p,l2p,c2p⟩:=yy;simp only [FrV.val] at hy;have HY:=oH hy;generalize rows[r].g=g at *;generalize rows[r].cp=cp at *;clear hy;go_upto_region 16 with (fail)
    have hbl:Below W5.heap.size W5 (W5.alloc (.cells #[.bool nap,.slice A1p l1p c1p,.bool nbp,.slice A2p l2p c2p] 87)):=bA;have HES5':=oH (HES5.below hbl);have HXF:=oH (Blk.new W5 87 [.bool nap,.slice A1p l1p c1p,.bool nbp,.slice A2p l2p c2p]);have HFV:=oH (HY.below hbl);have hxf:w.heap.size<=W5.heap.size:=Nat.le_of_lt (Nat.lt_trans HWX.out (HES5.det.lt));clear hbl kR y0 y1 y2 y3 HY;generalize W5.alloc (.cells #[.bool nap,.slice A1p l1p c1p,.bool nbp,.slice A2p l2p c2p] 87)=W6 at *;generalize W5.heap.size=xf at *;obtain ⟨uf,hu⟩:∃ u:FrV,u=⟨nap,A1p,l1p,c1p,nbp,A2p,l2p,c2p⟩:=⟨_,rfl⟩;rw [show ([.bool nap,.slice A1p l1p c1p,.bool nbp,.slice A2p l2p c2p]:List Value)=uf.four by subst hu;rfl] at HXF;rw [show (.agg #[.bool nap,.slice A1p l1p c1p,.bool nbp,.slice A2p l2p c2p]:Value)=uf.val by subst hu;rfl] at HFV;clear hu;have hir':=hir;have kR:=HES5'.at_ hir;generalize rows[r].g=g at *;generalize rows[r].cp=cp at *
    have i1:(0:Int)<=(r:Int):=by omega
    have i2:(r:Int)<(n:Int):=by omega
    clear HES5;go_wp2_with fail;clear kR
    go_loopw [93] (fun kv wr=>∃ (k:Nat) (rows:List RwF),kv = .int .i64 (k:Int)/\k<=m/\ElG B w.heap.size w R cR n m rows (dvG X r c k) w.heap.size xd ⟨xa,Xa,laa,caa,ya,Ya,lba,cba⟩ (q1*X r c) (.slice AV r cV) ps wr/\Blk wr xf 87 uf.four/\zBt wr uf.val (X r c)) (fun kv _=>m-(intOf kv).toNat)
    ·exact ⟨0,rows,rfl,oLx,by rw [dvG_zero];exact HES5'.out,HXF.out,HFV.out⟩
    clear HES5' HXF HFV hir hir' i1 i2;obtain ⟨k,rows,rfl,hkm,hes,hx,hv⟩:=hrel;obtain ⟨wk,rfl⟩:=nWx wr
    by_cases hltk:k<m
    ·skip
     have hir:r<rows.length:=by rw [hes.len];exact hlt
     have kR:=hes.at_ hir;obtain ⟨yy,y0,y1,y2,y3,hy⟩:=hes.tab.num_at hir hltk;obtain ⟨nap,A1p,l1p,c1p,nbp,A2p,l2p,c2p⟩:=yy;rw [dvG_old] at hy;simp only [FrV.val] at hy;have hx0:=hx.at_ (i:=0) rfl;have hx1:=hx.at_ (i:=1) rfl;have hx2:=hx.at_ (i:=2) rfl;have hx3:=hx.at_ (i:=3) rfl;have HXF:=oH hx;have HFV:=oH hv;have HFV2:=oH hv;simp only [FrV.val] at HFV;have HU:=oH hy;have HSZ:=oH (show Sz 1000000 (X r k) from ((HDX.out r k hlt hltk).szG).mono oMx);have HSP:=oH (show Sz 1000000 (X r c) from ((HDX.out r c hlt hcm).szG).mono oMx);have HFZ:=oH (fun W (hW:Below wk.heap.size wk W) j=>(hes.below hW).tab.frozen hir j);have HST:=oH (fun W (hW:Below wk.heap.size wk W) (v:FrV) (hz:zBt W v.val (X r k/X r c))=>(hes.below hW).store oMx oMx hir hltk hz);obtain ⟨g,hg⟩:=eXx (rows[r].g);obtain ⟨cp,hcp⟩:=eXx (rows[r].cp);obtain ⟨us,hus⟩:=eXx (rows[r].us);rw [hg,hcp] at kR HST;rw [hus] at HST;rw [hg] at y0 y1 y2 y3 HFZ
     have KB:=oH (fun W' (hW:Below wk.heap.size wk W')=>(show W'.cell? ⟨R,r,none⟩=some (.slice (some ⟨g,0,none⟩) m cp)/\W'.cell? ⟨g,k*4,none⟩=some (.bool nap)/\W'.cell? ⟨g,k*4+1,none⟩=some (.slice A1p l1p c1p)/\W'.cell? ⟨g,k*4+2,none⟩=some (.bool nbp)/\W'.cell? ⟨g,k*4+3,none⟩=some (.slice A2p l2p c2p)/\W'.cell? ⟨xf,0,none⟩=some (.bool uf.na)/\W'.cell? ⟨xf,1,none⟩=some (.slice uf.A uf.l uf.c)/\W'.cell? ⟨xf,2,none⟩=some (.bool uf.nb)/\W'.cell? ⟨xf,3,none⟩=some (.slice uf.A' uf.l' uf.c') from ⟨kP hW kR,kP hW y0,kP hW y1,kP hW y2,kP hW y3,kP hW hx0,kP hW hx1,kP hW hx2,kP hW hx3⟩));have HWz:=oH (show Below wk.heap.size wk wk.drew from bRx.drew);have KSz:=oH (KB.out _ HWz.out)
     have k1:(0:Int)<=(k:Int):=by omega
     have k2:(k:Int)<(m:Int):=by omega
     have i1:(0:Int)<=(r:Int):=by omega
     have i2:(r:Int)<(n:Int):=by omega
     clear hes hx hv hy kR y0 y1 y2 y3 hx0 hx1 hx2 hx3 hg hcp hus;go_wp2_with fail;refine xGe (S:=(fun w'=>w'.cell? ⟨R,r,none⟩=some (.slice (some ⟨g,0,none⟩) m cp)/\w'.cell? ⟨g,k*4,none⟩=some (.bool nap)/\w'.cell? ⟨g,k*4+1,none⟩=some (.slice A1p l1p c1p)/\w'.cell? ⟨g,k*4+2,none⟩=some (.bool nbp)/\w'.cell? ⟨g,k*4+3,none⟩=some (.slice A2p l2p c2p)/\w'.cell? ⟨xf,0,none⟩=some (.bool uf.na)/\w'.cell? ⟨xf,1,none⟩=some (.slice uf.A uf.l uf.c)/\w'.cell? ⟨xf,2,none⟩=some (.bool uf.nb)/\w'.cell? ⟨xf,3,none⟩=some (.slice uf.A' uf.l' uf.c'))) 15 (by kernel_rfl) rfl (by kernel_rfl) (by kernel_rfl) rfl (by exact KSz.out) (fun hHeld=>?_);simp only [List.pop_toArray,List.dropLast_cons_cons,List.dropLast_singleton];refine tkH 0 ?_;refine tkH 1 ?_;refine tkH 2 ?_;refine tkH 3 ?_;refine tkH 4 ?_;refine tkH 5 ?_;refine tkH 6 ?_;refine tkH 7 ?_;refine tkH 8 ?_;refine tkH 9 ?_;refine tkH 10 ?_;refine tkH 11 ?_
     refine tkH 12 ?_
     try simp only [Act.put,tkA,tkB,tkC]
     refine tkS 13 fun K hK=>?_
     go_simp
     (go_at_call 90;(with_reducible refine (zDl _ _ (X r k) (X r c) _ (HU.out.below HWz.out) (HFV.out.below HWz.out) HSZ.out HSP.out HPC.out).mono ?_);rintro e wa ⟨va,rfl,hv,hb⟩;have hw:=HWz.out.trans (hb.mono HWz.out.size);have HWa:=oH hw;have HVa:=oH hv;have KSa:=oH (KB.out wa hw);obtain ⟨xa,ya,Xa,Ya,laa,caa,lba,cba,rfl⟩:=hv.slice;clear hb hw hv)
     go_wp2_with fail;refine hK.out _ _ ?_ (fun hHeld=>?_)
     ·with_reducible exact KSa.out
     clear hK K
     try simp only [Act.put,tkA,tkB,tkC]
     refine tkH 14 ?_
     try simp only [Act.put,tkA,tkB,tkC]
     refine wpAnyH_done (by kernel_rfl) ?_ _;simp only [xCo,List.getElem_toArray,List.getElem_cons_succ,List.getElem_cons_zero];have f0:=HFZ.out wa HWa.out (k*4);have f1:=HFZ.out wa HWa.out (k*4+1);have f2:=HFZ.out wa HWa.out (k*4+2);have f3:=HFZ.out wa HWa.out (k*4+3);go_wp2_with fail;go_roundw
     case rel =>
      obtain ⟨t1,t2,t3⟩:=HST.out wa HWa.out ⟨xa,Xa,laa,caa,ya,Ya,lba,cba⟩ HVa.out;rw [dvG_step] at t1;exact ⟨k+1,_,by go_num,oMx,t1,t3 _ _ _ (HXF.below HWa.out) hxf,t2 _ _ (HFV2.below HWa.out)⟩
     simp [intOf];omega
    obtain rfl:k=m:=by omega
    have HESi:=oH (hes.congr (X':=sbG X r c 0 0) fun a b _ hb=>zYv X r c k a b hb);clear hes hx hv;go_wp2_with fail
    go_loopw [114] (fun iv wr=>∃ (i:Nat) (rows:List RwF),iv = .int .i64 (i:Int)/\i<=n/\ElG B w.heap.size w R cR n k rows (sbG X r c i 0) w.heap.size xd ⟨xa,Xa,laa,caa,ya,Ya,lba,cba⟩ (q1*X r c) (.slice AV r cV) ps wr) (fun iv _=>n-(intOf iv).toNat)
    ·exact ⟨0,rows,rfl,oLx,HESi.out⟩
    clear HESi;obtain ⟨i,rows,rfl,hin,hes⟩:=hrel;obtain ⟨wi,rfl⟩:=nWx wr;have HES:=oH hes
    by_cases hlti:i<n
    ·by_cases hne:i=r
     ·have hbb:((i:Int)==(r:Int))=true:=by simp;omega
      have HES2:=oH (show ElG B w.heap.size w R cR n k rows (sbG X r c (i+1) 0) w.heap.size xd ⟨xa,Xa,laa,caa,ya,Ya,lba,cba⟩ (q1*X r c) (.slice AV r cV) ps wi by rw [zYu (.inl hne)];exact hes);clear hes hne;go_wp2_with fail;go_roundw
      ·exact ⟨i+1,rows,by go_num,oMx,HES2.out⟩
      simp [intOf];omega
     have hbb:((i:Int)==(r:Int))=false:=by simp;omega
     have hir:i<rows.length:=by rw [hes.len];exact hlti
     have kR:=hes.at_ hir;obtain ⟨yy,y0,y1,y2,y3,hy⟩:=hes.tab.num_at hir hcm;obtain ⟨nap,A1p,l1p,c1p,nbp,A2p,l2p,c2p⟩:=yy;rw [sbG_at X c hne (Nat.zero_le c)] at hy;simp only [FrV.val] at hy;have HU:=oH hy;obtain ⟨g0,hg0⟩:=eXx (rows[i].g);obtain ⟨cp0,hcp0⟩:=eXx (rows[i].cp);rw [hg0,hcp0] at kR;rw [hg0] at y0 y1 y2 y3
     have i1:(0:Int)<=(c:Int):=by omega
     have i3:(c:Int)<(k:Int):=by omega
     have i4:(0:Int)<=(i:Int):=by omega
     have i5:(i:Int)<(n:Int):=by omega
     clear hes hy hg0 hcp0
     by_cases hx0:X i c=0
     ·have HES2:=oH (show ElG B w.heap.size w R cR n k rows (sbG X r c (i+1) 0) w.heap.size xd ⟨xa,Xa,laa,caa,ya,Ya,lba,cba⟩ (q1*X r c) (.slice AV r cV) ps wi by rw [zYu (.inr hx0)];exact HES.out);go_wp2_with fail;refine (zEa _ _ _ HU.out hx0).mono ?_;rintro e wz ⟨rfl,hb⟩;have HES3:=oH (HES2.below hb);clear hb HES HES2 kR y0 y1 y2 y3 HU;go_wp2_with fail;go_roundw
      ·exact ⟨i+1,rows,by go_num,oMx,HES3.out⟩
      simp [intOf];omega
     go_wp2_with fail;refine (zDz _ _ _ HU.out hx0).mono ?_;rintro e wz ⟨rfl,hb⟩;have HESz:=oH (HES.below hb);clear hb HES kR y0 y1 y2 y3 HU;have kR:=HESz.at_ hir;obtain ⟨yy,y0,y1,y2,y3,hy⟩:=HESz.tab.num_at hir hcm;obtain ⟨nap,A1p,l1p,c1p,nbp,A2p,l2p,c2p⟩:=yy;rw [sbG_at X c hne (Nat.zero_le c)] at hy;simp only [FrV.val] at hy;have HY:=oH hy;generalize rows[i].g=g at *;generalize rows[i].cp=cp at *;clear hy;go_upto_region 26 with (fail);have hbl:Below wz.heap.size wz (wz.alloc (.cells #[.bool nap,.slice A1p l1p c1p,.bool nbp,.slice A2p l2p c2p] 87)):=bA;have HESz':=oH (HESz.below hbl);have HXG:=oH (Blk.new wz 87 [.bool nap,.slice A1p l1p c1p,.bool nbp,.slice A2p l2p c2p]);have HGV:=oH (HY.below hbl);have hxg:w.heap.size<=wz.heap.size:=Nat.le_of_lt (Nat.lt_trans HWX.out (HESz.det.lt));clear hbl kR y0 y1 y2 y3 HY;generalize wz.alloc (.cells #[.bool nap,.slice A1p l1p c1p,.bool nbp,.slice A2p l2p c2p] 87)=W7 at *
     generalize wz.heap.size=xg at *;obtain ⟨ug,hu⟩:∃ u:FrV,u=⟨nap,A1p,l1p,c1p,nbp,A2p,l2p,c2p⟩:=⟨_,rfl⟩;rw [show ([.bool nap,.slice A1p l1p c1p,.bool nbp,.slice A2p l2p c2p]:List Value)=ug.four by subst hu;rfl] at HXG;rw [show (.agg #[.bool nap,.slice A1p l1p c1p,.bool nbp,.slice A2p l2p c2p]:Value)=ug.val by subst hu;rfl] at HGV;clear hu;have kR:=HESz'.at_ hir;generalize rows[i].g=g at *;generalize rows[i].cp=cp at *;clear HESz;go_wp2_with fail;clear kR
     go_loopw [142] (fun kv wr=>∃ (j:Nat) (rows:List RwF),kv = .int .i64 (j:Int)/\j<=k/\ElG B w.heap.size w R cR n k rows (sbG X r c i j) w.heap.size xd ⟨xa,Xa,laa,caa,ya,Ya,lba,cba⟩ (q1*X r c) (.slice AV r cV) ps wr/\Blk wr xg 87 ug.four/\zBt wr ug.val (X i c)) (fun kv _=>k-(intOf kv).toNat)
     ·exact ⟨0,rows,rfl,oLx,HESz'.out,HXG.out,HGV.out⟩
     clear HESz' HXG HGV hir i1 i3 i4 i5;obtain ⟨m,hmk⟩:∃ m,m=k:=⟨_,rfl⟩;subst hmk;obtain ⟨k,rows,rfl,hkm,hes,hx,hv⟩:=hrel;obtain ⟨wk,rfl⟩:=nWx wr
     by_cases hltk:k<m
     ·skip
      have hir:i<rows.length:=by rw [hes.len];exact hlti
      have hic:r<rows.length:=by rw [hes.len];exact hlt
      have kR:=hes.at_ hir;have kC:=hes.at_ hic;obtain ⟨yy,y0,y1,y2,y3,hy⟩:=hes.tab.num_at hir hltk;obtain ⟨nap,A1p,l1p,c1p,nbp,A2p,l2p,c2p⟩:=yy;rw [sbG_old X c k hne] at hy;simp only [FrV.val] at hy;obtain ⟨zz,z0,z1,z2,z3,hz⟩:=hes.tab.num_at hic hltk;obtain ⟨naq,A1q,l1q,c1q,nbq,A2q,l2q,c2q⟩:=zz;rw [sbG_piv] at hz;simp only [FrV.val] at hz;have hx0:=hx.at_ (i:=0) rfl;have hx1:=hx.at_ (i:=1) rfl;have hx2:=hx.at_ (i:=2) rfl;have hx3:=hx.at_ (i:=3) rfl;have HXG:=oH hx;have HGV:=oH hv;have HGV2:=oH hv;simp only [FrV.val] at HGV;have HU:=oH hy;have HUC:=oH hz;have HSZ:=oH (show Sz 1000000 (X i k) from ((HDX.out i k hlti hltk).szG).mono oMx);have HSF:=oH (show Sz 1000000 (X i c) from ((HDX.out i c hlti hcm).szG).mono oMx);have HSY:=oH (show Sz 1000000 (X r k/X r c) from ((HSB.out r k hlt hltk).1.szG).mono oMx);have HSM:=oH (show Sz 1000000 (X i c*(X r k/X r c)) from ((HSB.out i k hlti hltk).2.szG).mono oMx)
      have HFZ:=oH (fun W (hW:Below wk.heap.size wk W) j=>(hes.below hW).tab.frozen hir j);have HST:=oH (fun W (hW:Below wk.heap.size wk W) (v:FrV) (hz:zBt W v.val (X i k-X i c*(X r k/X r c)))=>(hes.below hW).store oMx oMx hir hltk hz);obtain ⟨g,hg⟩:=eXx (rows[i].g);obtain ⟨cp,hcp⟩:=eXx (rows[i].cp);obtain ⟨us,hus⟩:=eXx (rows[i].us);obtain ⟨gc,hgc⟩:=eXx (rows[r].g);obtain ⟨cpc,hcpc⟩:=eXx (rows[r].cp);rw [hg,hcp] at kR HST;rw [hgc,hcpc] at kC;rw [hus] at HST;rw [hg] at y0 y1 y2 y3 HFZ;rw [hgc] at z0 z1 z2 z3;have KB:=oH (fun W' (hW:Below wk.heap.size wk W')=>(show W'.cell? ⟨R,i,none⟩=some (.slice (some ⟨g,0,none⟩) m cp)/\W'.cell? ⟨g,k*4,none⟩=some (.bool nap)/\W'.cell? ⟨g,k*4+1,none⟩=some (.slice A1p l1p c1p)/\W'.cell? ⟨g,k*4+2,none⟩=some (.bool nbp)/\W'.cell? ⟨g,k*4+3,none⟩=some (.slice A2p l2p c2p)/\W'.cell? ⟨xg,0,none⟩=some (.bool ug.na)/\W'.cell? ⟨xg,1,none⟩=some (.slice ug.A ug.l ug.c)/\W'.cell? ⟨xg,2,none⟩=some (.bool ug.nb)/\W'.cell? ⟨xg,3,none⟩=some (.slice ug.A' ug.l' ug.c')/\W'.cell? ⟨R,r,none⟩=some (.slice (some ⟨gc,0,none⟩) m cpc)/\W'.cell? ⟨gc,k*4,none⟩=some (.bool naq)/\W'.cell? ⟨gc,k*4+1,none⟩=some (.slice A1q l1q c1q)/\W'.cell? ⟨gc,k*4+2,none⟩=some (.bool nbq)/\W'.cell? ⟨gc,k*4+3,none⟩=some (.slice A2q l2q c2q) from ⟨kP hW kR,kP hW y0,kP hW y1,kP hW y2,kP hW y3,kP hW hx0,kP hW hx1,kP hW hx2,kP hW hx3,kP hW kC,kP hW z0,kP hW z1,kP hW z2,kP hW z3⟩))
      have HWz:=oH (show Below wk.heap.size wk wk.drew from bRx.drew);have KSz:=oH (KB.out _ HWz.out)
      have k1:(0:Int)<=(k:Int):=by omega
      have k2:(k:Int)<(m:Int):=by omega
      have i1:(0:Int)<=(r:Int):=by omega
      have i2:(r:Int)<(n:Int):=by omega
      have i5:(0:Int)<=(c:Int):=by omega
      have i6:(c:Int)<(m:Int):=by omega
      have i3:(0:Int)<=(i:Int):=by omega
      have i4:(i:Int)<(n:Int):=by omega
      clear hes hx hv hy hz kR kC y0 y1 y2 y3 z0 z1 z2 z3 hx0 hx1 hx2 hx3 hg hcp hus hgc hcpc;go_wp2_with fail;refine xGe (S:=(fun w'=>w'.cell? ⟨R,i,none⟩=some (.slice (some ⟨g,0,none⟩) m cp)/\w'.cell? ⟨g,k*4,none⟩=some (.bool nap)/\w'.cell? ⟨g,k*4+1,none⟩=some (.slice A1p l1p c1p)/\w'.cell? ⟨g,k*4+2,none⟩=some (.bool nbp)/\w'.cell? ⟨g,k*4+3,none⟩=some (.slice A2p l2p c2p)/\w'.cell? ⟨xg,0,none⟩=some (.bool ug.na)/\w'.cell? ⟨xg,1,none⟩=some (.slice ug.A ug.l ug.c)/\w'.cell? ⟨xg,2,none⟩=some (.bool ug.nb)/\w'.cell? ⟨xg,3,none⟩=some (.slice ug.A' ug.l' ug.c')/\w'.cell? ⟨R,r,none⟩=some (.slice (some ⟨gc,0,none⟩) m cpc)/\w'.cell? ⟨gc,k*4,none⟩=some (.bool naq)/\w'.cell? ⟨gc,k*4+1,none⟩=some (.slice A1q l1q c1q)/\w'.cell? ⟨gc,k*4+2,none⟩=some (.bool nbq)/\w'.cell? ⟨gc,k*4+3,none⟩=some (.slice A2q l2q c2q))) 23 (by kernel_rfl) rfl (by kernel_rfl) (by kernel_rfl) rfl (by exact KSz.out) (fun hHeld=>?_)
      simp only [List.pop_toArray,List.dropLast_cons_cons,List.dropLast_singleton];refine tkH 0 ?_;refine tkH 1 ?_;refine tkH 2 ?_;refine tkH 3 ?_;refine tkH 4 ?_;refine tkH 5 ?_;refine tkH 6 ?_;refine tkH 7 ?_;refine tkH 8 ?_;refine tkH 9 ?_;refine tkH 10 ?_;refine tkH 11 ?_;refine tkH 12 ?_;refine tkH 13 ?_;refine tkH 14 ?_;refine tkH 15 ?_;refine tkH 16 ?_;refine tkH 17 ?_;refine tkH 18 ?_;refine tkH 19 ?_
      try simp only [Act.put,tkA,tkB,tkC]
      refine tkS 20 fun K hK=>?_
      go_simp
      (go_at_call 89;(with_reducible refine (zDn _ _ (X i c) (X r k/X r c) _ (HGV.out.below HWz.out) (HUC.out.below HWz.out) HSF.out HSY.out).mono ?_);rintro e wa ⟨va,rfl,hv,hb⟩;have hw:=HWz.out.trans (hb.mono HWz.out.size);have HWa:=oH hw;have HVa:=oH hv;have KSa:=oH (KB.out wa hw);have HU2:=oH (HU.out.below hw);obtain ⟨xa,ya,Xa,Ya,laa,caa,lba,cba,rfl⟩:=hv.slice;clear hb hw hv)
      go_wp2_with fail;refine hK.out _ _ ?_ (fun hHeld=>?_)
      ·exact kSx
      clear hK K
      try simp only [Act.put,tkA,tkB,tkC]
      refine tkS 21 fun K hK=>?_
      go_simp
      (go_at_call 59;(with_reducible refine (zDv _ _ (X i k) (X i c*(X r k/X r c)) _ HU2.out HVa.out HSZ.out HSM.out).mono ?_);rintro e wb ⟨vb,rfl,hv,hb⟩;have hw:=HWa.out.trans (hb.mono HWa.out.size);have HWb:=oH hw;have HVb:=oH hv;have KSb:=oH (KB.out wb hw);obtain ⟨xb,yb,Xb,Yb,lab,cab,lbb,cbb,rfl⟩:=hv.slice;clear hb hw hv)
      go_wp2_with fail;refine hK.out _ _ ?_ (fun hHeld=>?_)
      ·exact kSx
      clear hK K
      try simp only [Act.put,tkA,tkB,tkC]
      refine tkH 22 ?_
      try simp only [Act.put,tkA,tkB,tkC]
      refine wpAnyH_done (by kernel_rfl) ?_ _;simp only [xCo,List.getElem_toArray,List.getElem_cons_succ,List.getElem_cons_zero];have f0:=HFZ.out wb HWb.out (k*4);have f1:=HFZ.out wb HWb.out (k*4+1);have f2:=HFZ.out wb HWb.out (k*4+2);have f3:=HFZ.out wb HWb.out (k*4+3);go_wp2_with fail;go_roundw
      case rel =>
       obtain ⟨t1,t2,t3⟩:=HST.out wb HWb.out ⟨xb,Xb,lab,cab,yb,Yb,lbb,cbb⟩ HVb.out;rw [sbG_step X c k hne] at t1;exact ⟨k+1,_,by go_num,oMx,t1,t3 _ _ _ (HXG.below HWb.out) hxg,t2 _ _ (HGV2.below HWb.out)⟩
      simp [intOf];omega
     obtain rfl:k=m:=by omega
     have HES2:=oH (hes.congr (X':=sbG X r c (i+1) 0) fun a b _ hb=>sbG_row X r c i k a b hb);clear hes hx hv;go_wp2_with fail;go_roundw
     ·exact ⟨i+1,rows,by go_num,oMx,HES2.out⟩
     simp [intOf];omega
    obtain rfl:i=n:=by omega
    have hba:Below wi.heap.size wi (wi.alloc (.cells #[.int .i64 (c:Int)] 3)):=bA;have HESa:=oH (HES.below hba);have hszw:=Nat.le_of_lt (Nat.lt_of_lt_of_le HWX.out (Nat.le_of_lt HESa.det.lt));have HPV:=HESa.piv;have HZS:=HESa.zsp;rw [HRL.out] at HPV HZS;have HPV:=oH HPV;have HZS:=oH HZS;clear hes hba
    go_wp2_with (at_builtin;refine xFx _ rfl _ _ 22 rfl w.heap.size 3 ti0 Tryz.underlying22 hi hz0 hz1 hz2 _ _ _ rfl HPV.out ⟨wi.heap.size,0,none⟩ 1 _ rfl zTu rfl oMx hszw HZS.out ?_)
    intro g' cap' w' hown3 hgrow3 hz3 hc3
    rw [<-HRL.out] at hown3 hz3
    have HESb:=(HESa.push hBw hRw hown3 hgrow3 hz3 hc3).congr fun a b ha _=>HEND.out a b ha
    rw [HQE.out,HRL.out] at HESb;have HESb:=oH HESb;have HL9:=oH (show (ps++[c]).length=r+1 by rw [List.length_append,HRL.out];rfl);have HPS9:=oH (show ps++[c]=(List.range (r+1)).map (fun i=>if i=r then c else psf i) by rw [xFn,<-HPS.out]);clear hown3 hgrow3 hz3 hc3;go_wp2_with fail;go_roundw
    ·exact ⟨c+1,rows,_,XO,fun i=>if i=r then c else psf i,ps++[c],vN,odd2,by go_num,oMx,by rw [HL9.out];exact HPS9.out,by rw [HL9.out];exact HGN.out,by rw [HL9.out];exact HDN.out,by rw [HL9.out];exact HPN.out,HESb.out⟩
    simp [intOf];omega
  obtain rfl:p=n:=by omega
  have k1:¬(p:Int)<(p:Int):=by omega
  have HGN:=oH (HGA.none fun j h1 h2=>HZ.out j h1 h2);clear hes;go_wp2_with fail;go_roundw
  ·exact ⟨c+1,rows,u,X,psf,ps,vq,odd,by go_num,oMx,by rw [HRL.out];exact HPS.out,by rw [HRL.out];exact HGN.out,by rw [HRL.out];exact HDX.out,by rw [HRL.out];exact HPD0.out,HES1.out⟩
  simp [intOf];omega
 have HGF:=oH (show Gau n M cols X psf r vq odd from by
  by_cases h1:c<cols
  ·have h2:r=n:=by
    have:¬r<n:=fun h=>hlive ⟨h1,h⟩
    omega
   have hg:=HGA.out;rw [h2] at hg ⊢;exact hg.rest oMx
  have h2:c=cols:=by omega
  rw [<-h2];exact HGA.out)
 have hes:=HES.out;have d0:=hes.det.at_ (i:=0) rfl;have d1:=hes.det.at_ (i:=1) rfl;have d2:=hes.det.at_ (i:=2) rfl;have d3:=hes.det.at_ (i:=3) rfl;have KB:=oH (fun W' (hW:Below wc.heap.size wc W')=>(show W'.cell? ⟨xd,0,none⟩=some (.bool u.na)/\W'.cell? ⟨xd,1,none⟩=some (.slice u.A u.l u.c)/\W'.cell? ⟨xd,2,none⟩=some (.bool u.nb)/\W'.cell? ⟨xd,3,none⟩=some (.slice u.A' u.l' u.c') from ⟨kP hW d0,kP hW d1,kP hW d2,kP hW d3⟩));have HWz:=oH (show Below wc.heap.size wc wc.drew from bRx.drew);have KSz:=oH (KB.out _ HWz.out);clear hes d0 d1 d2 d3
 by_cases hlc:c<cols
 ·have k1:(c:Int)<(cols:Int):=by omega
  have k2:¬(r:Int)<(n:Int):=by
   have:¬r<n:=fun h=>hlive ⟨hlc,h⟩
   omega
  go_wp2_with fail;have KSz:=KSz;refine xGe (S:=(fun w'=>w'.cell? ⟨xd,0,none⟩=some (.bool u.na)/\w'.cell? ⟨xd,1,none⟩=some (.slice u.A u.l u.c)/\w'.cell? ⟨xd,2,none⟩=some (.bool u.nb)/\w'.cell? ⟨xd,3,none⟩=some (.slice u.A' u.l' u.c'))) 3 (by kernel_rfl) rfl (by kernel_rfl) (by kernel_rfl) rfl (by exact KSz.out) (fun hHeld=>?_);simp only [List.pop_toArray,List.dropLast_cons_cons,List.dropLast_singleton];refine tkH 0 ?_;refine tkH 1 ?_;refine tkH 2 ?_
  try simp only [Act.put,tkA,tkB,tkC]
  refine wpAnyH_done (by kernel_rfl) ?_ _;simp only [xCo,List.getElem_toArray,List.getElem_cons_succ,List.getElem_cons_zero];have hes:=HES.below (Below.refl wc.heap.size wc).drew;have f0:=hes.res.fr 0;have f1:=hes.res.fr 1;have f2:=hes.res.fr 2;have f3:=hes.res.fr 3;have q0:=HES.res.at_ (i:=0) rfl;have p0:=HES.res.fr 0;have q1:=HES.res.at_ (i:=1) rfl;have p1:=HES.res.fr 1;have q2:=HES.res.at_ (i:=2) rfl;have p2:=HES.res.fr 2;have q3:=HES.res.at_ (i:=3) rfl;have p3:=HES.res.fr 3;have r0:=hes.res.at_ (i:=0) rfl;have r1:=hes.res.at_ (i:=1) rfl;have r2:=hes.res.at_ (i:=2) rfl;have r3:=hes.res.at_ (i:=3) rfl;obtain ⟨t1,t2,t3,t4⟩:=hes.setRes oMx lRx hRw u;rw [<-HRL.out] at t4;obtain ⟨A9,c9,e9, -,t5, -⟩:=zUv t4
  have e9:AV=A9:=by injection e9
  subst e9;have HR:=oH (show zFo B w R cR n m cols M (.returned (.tuple #[.slice AV r cV,u.val])) (set4 wc.drew w.heap.size u) from ⟨AV,cV,_,rows,X,psf,ps,vq,odd,by rw [HRL.out],t5,by rw [HRL.out];exact HPS.out,by rw [HRL.out];exact HGF.out,by rw [HRL.out];exact HDX.out,by rw [HRL.out];exact HPD0.out,t2,hes.len,t1,t3⟩);simp only [set4,FrV.val] at HR;obtain ⟨-,d0,d1,d2,d3⟩:True/\_:=⟨trivial,KSz.out⟩;clear hes t1 t2 t3 t4 t5;go_wp2_with fail;refine bodyPost_ret (v := .tuple #[.slice AV r cV,.agg #[.bool u.na,.slice u.A u.l u.c,.bool u.nb,.slice u.A' u.l' u.c']]) (by simp [results,Tryz.results45,go_sem, *]) rfl ?_;rw [<-hQ.out];exact HR.out
 have k1:¬(c:Int)<(cols:Int):=by omega
 go_wp2_with fail;have KSz:=KSz;refine xGe (S:=(fun w'=>w'.cell? ⟨xd,0,none⟩=some (.bool u.na)/\w'.cell? ⟨xd,1,none⟩=some (.slice u.A u.l u.c)/\w'.cell? ⟨xd,2,none⟩=some (.bool u.nb)/\w'.cell? ⟨xd,3,none⟩=some (.slice u.A' u.l' u.c'))) 3 (by kernel_rfl) rfl (by kernel_rfl) (by kernel_rfl) rfl (by exact KSz.out) (fun hHeld=>?_);simp only [List.pop_toArray,List.dropLast_cons_cons,List.dropLast_singleton];refine tkH 0 ?_;refine tkH 1 ?_;refine tkH 2 ?_
 try simp only [Act.put,tkA,tkB,tkC]
 refine wpAnyH_done (by kernel_rfl) ?_ _;simp only [xCo,List.getElem_toArray,List.getElem_cons_succ,List.getElem_cons_zero];have hes:=HES.below (Below.refl wc.heap.size wc).drew;have f0:=hes.res.fr 0;have f1:=hes.res.fr 1;have f2:=hes.res.fr 2;have f3:=hes.res.fr 3;have q0:=HES.res.at_ (i:=0) rfl;have p0:=HES.res.fr 0;have q1:=HES.res.at_ (i:=1) rfl;have p1:=HES.res.fr 1;have q2:=HES.res.at_ (i:=2) rfl;have p2:=HES.res.fr 2;have q3:=HES.res.at_ (i:=3) rfl;have p3:=HES.res.fr 3;have r0:=hes.res.at_ (i:=0) rfl;have r1:=hes.res.at_ (i:=1) rfl;have r2:=hes.res.at_ (i:=2) rfl;have r3:=hes.res.at_ (i:=3) rfl;obtain ⟨t1,t2,t3,t4⟩:=hes.setRes oMx lRx hRw u;rw [<-HRL.out] at t4;obtain ⟨A9,c9,e9, -,t5, -⟩:=zUv t4
 have e9:AV=A9:=by injection e9
 subst e9;have HR:=oH (show zFo B w R cR n m cols M (.returned (.tuple #[.slice AV r cV,u.val])) (set4 wc.drew w.heap.size u) from ⟨AV,cV,_,rows,X,psf,ps,vq,odd,by rw [HRL.out],t5,by rw [HRL.out];exact HPS.out,by rw [HRL.out];exact HGF.out,by rw [HRL.out];exact HDX.out,by rw [HRL.out];exact HPD0.out,t2,hes.len,t1,t3⟩);simp only [set4,FrV.val] at HR;obtain ⟨-,d0,d1,d2,d3⟩:True/\_:=⟨trivial,KSz.out⟩;clear hes t1 t2 t3 t4 t5;go_wp2_with fail;refine bodyPost_ret (v := .tuple #[.slice AV r cV,.agg #[.bool u.na,.slice u.A u.l u.c,.bool u.nb,.slice u.A' u.l' u.c']]) (by simp [results,Tryz.results45,go_sem, *]) rfl ?_;rw [<-hQ.out];exact HR.out
end Go.Proofs.YtbjaplppalcmgaaGreatDoor
