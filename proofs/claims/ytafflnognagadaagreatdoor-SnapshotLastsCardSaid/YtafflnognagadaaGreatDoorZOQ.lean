import Derived.Test.YtafflnognagadaaGreatDoorZOP
set_option maxHeartbeats 16000000
set_option maxRecDepth 100000
set_option linter.unusedVariables false
set_option linter.unusedSimpArgs false
set_option linter.unusedSectionVars false
namespace Go.Proofs.YtafflnognagadaaGreatDoor
open Go.RowKit
structure zFd (S:zFv) (rel:Nat) (L:Tbl):Prop where
 lt:rel<S.rs.length
 g:zGh S.at1 S.rs[rel].xs L
 wb:WB 100 L
section
variable {S:zFv} {rel:Nat} {L:Tbl} {ks:List ByteArray} {z:Int}
theorem PosT.rawD {B:Nat} (h:PosT S rel B L) (hB:B<=100):zFd S rel L:=⟨h.tab.lt,h.tab.g,fun r hr=>by have:=h.pos r hr;omega⟩
theorem zFd.push (h:zFd S rel L) (hk:zCc S.at1 (S.rs[rel]'h.lt).xs ks) (hz : -100<=z/\z<=100):zFd S rel (L++[(ks,z)]):=by
 refine ⟨h.lt,fun r hr=>?_,fun r hr=>?_⟩
 ·rcases List.mem_append.1 hr with h1|h1
  ·exact h.g r h1
  rw [List.mem_singleton] at h1;subst h1;exact hk
 rcases List.mem_append.1 hr with h1|h1
 ·exact h.wb r h1
 rw [List.mem_singleton] at h1;subst h1;exact hz
theorem zFd.head {w0:Int} (h:zFd S rel ((ks,w0)::L)) (hz : -100<=z/\z<=100):zFd S rel ((ks,z)::L):=by
 refine ⟨h.lt,fun r hr=>?_,fun r hr=>?_⟩
 ·rcases List.mem_cons.1 hr with h1|h1
  ·subst h1;exact h.g (ks,w0) sMx
  exact h.g r (by simp [h1])
 rcases List.mem_cons.1 hr with h1|h1
 ·subst h1;exact hz
 exact h.wb r (by simp [h1])
theorem zFd.lit (h:zFd S rel L) (hok:zFu S) (hl:L.length<=1000):Lit L :=
 ⟨hl,fun r hr=>⟨by have h1:=(h.g r hr).1;have h2:=(hok.fine.rel _ (List.getElem_mem h.lt)).short;omega,by have:=h.wb r hr;omega,by have:=h.wb r hr;omega⟩⟩
theorem zFd.dlt (h:zFd S rel L) (hok:zFu S) (hl:L.length<=3):DltK S ((rel:Int),norm L):=by
 have hn:=zQo L;refine ⟨⟨rel,rfl,h.lt,h.g.norm,zQr _,zQp _⟩,by show (norm L).length<=120;omega,by show (norm L).length<=1000;omega,fun r hr=>?_⟩;have h1:=(h.g.norm r hr).1;have h2:=(hok.fine.rel _ (List.getElem_mem h.lt)).short;have h3:=zQs (B:=100) h.wb r hr
 have h4:(L.length*100:Nat)<=300:=by omega
 exact ⟨oMx,oMx,oMx⟩
end
theorem zCo.storeR {B g i:Nat} {w:World} {v u:Value} {cs:List Value} {L:Tbl} (h:zCo zOe B w v L) (hb:Blk w g 64 cs) (hne:∀ j,v.ownBlock=some j->j≠g):zCo zOe B (w.setCell ⟨g,i,none⟩ u) v L :=
 h.kp (row:=some g) (es:=[64]) (zMz g i u) (zRp hne) (KpT.of_grown (zMz g i u) fun k hk=>by injection hk with hk;subst hk;exact ⟨_,_,_,hb,by simp⟩) dCx
theorem Sl.storeT {g i:Nat} {w:World} {v u:Value} {cs:List Value} {ss:List ByteArray} (h:Sl zOg w v ss) (hb:Blk w g 64 cs):Sl zOg (w.setCell ⟨g,i,none⟩ u) v ss :=
 h.kp (es:=[64]) (KpT.of_grown (zMz g i u) fun k hk=>by injection hk with hk;subst hk;exact ⟨_,_,_,hb,by simp⟩) dCx
theorem Sl.sli2' {α:Type} {K:Kind α} {t b off n c i:Nat} {w:World} {xs:List (List α × Int)} (h:Sl (K.sli t) w (.slice (some ⟨b,off,none⟩) n c) xs) (hi:i<xs.length):b<w.heap.size/\∃ u,w.cell? ⟨b,off+i*2,none⟩=some u/\w.cell? ⟨b,off+i*2+1,none⟩=some (.int .i64 xs[i].2)/\Sl K w u xs[i].1:=by
 obtain ⟨b',off',e,hb,hc⟩:=h.sli2 (by intro e;subst e;simp at hi);injection e with e;injection e with e1 e2;subst e1 e2;exact ⟨hb,hc i hi⟩
theorem Sl.ne_src {b d off n c:Nat} {w:World} {D:List Tbl} (h:Sl zOf w (.slice (some ⟨d,off,none⟩) n c) D) (hn:D≠[]) (hs:Src w b):d≠b:=by
 obtain ⟨A,c',css,e,hc,ha,hr⟩:=h;injection e with e1 e2 e3
 have hf:css.flatten≠[]:=fun e=>by
  have h1:=ha.flat;rw [e,List.length_nil] at h1;have h2:D.length*1=0:=h1.symm;exact hn (List.eq_nil_of_length_eq_zero oMx)
 obtain ⟨b',off',arr,fr,e4,h1, -⟩:=hr hf;rw [<-e1] at e4;injection e4 with e4;injection e4 with e5;subst e5;rintro rfl;obtain ⟨A',l',c'',k',h2, -⟩:=hs;rw [h1] at h2;injection h2 with h2;injection h2 with _ h2
 revert h2
 decide
theorem zRt {α:Type} {K:Kind α} {B g t:Nat} {w:World} {v:Value} {cs:List Value} {xs:List α} (h:zCo K B w v xs) (hb:Blk w g t cs) (ht:t≠K.t):∀ j,v.ownBlock=some j->g≠j:=fun j hj e=>by
 obtain ⟨-, -,cs2,fr,h1⟩:=h.blk j hj;subst e;unfold Blk at hb;rw [h1] at hb;injection hb with hb;injection hb with _ hb;exact ht hb.symm
theorem zCh {b:Nat} {S:zFv} {v:Value} {D:List Tbl} {w:World} (hsk:SK w b S) (hok:zFu S) (hv:Sl zOf w v D) (hD:DbK S D) :
  Calls Tryz.prog 16 #[.pointer (some ⟨b,0,none⟩),.agg S.cells,v] w fun e w'=>∃ (x:Dlt) (u:Value),e = .returned (.agg #[.int .i64 x.1,u])/\Sl zOe w' u x.2/\DltK S x/\Src w' b/\w.grownBy w' (some b):=by
 obtain ⟨Av,cv,rfl, -⟩:=hv.form;have HSKw:=oH hsk;have HSO:=oH hok;have HV:=oH hv;have HDB:=oH hD;have HDl:=oH hD.len;have hr6:=hok.fine.r2;have hr1:=hok.fine.r1;have hblt:=hsk.src.lt;have hba:Below w.heap.size w ((w.alloc (.cells S.cells 31)).alloc (.cells #[.int .i64 0,.slice none 0 0] 45)):=(bA).alloc sMx _;have HG0:=oH ((GS.refl hsk.src).all hba);have HS0:=oH (show Blk ((w.alloc (.cells S.cells 31)).alloc (.cells #[.int .i64 0,.slice none 0 0] 45)) w.heap.size 31 S.cells.toList from (Blk.new w _ S.cells.toList).alloc _);have HR0:=oH (show Blk ((w.alloc (.cells S.cells 31)).alloc (.cells #[.int .i64 0,.slice none 0 0] 45)) (w.heap.size+1) 45 [.int .i64 0,.slice none 0 0] from Blk.new' sMx _ [_,_]);have HN:=oH (zCm b (S.rs.length:Int) _ HG0.src oMx oMx);have HMR:=oH (fun (W:World) (r:Nat) (hr:r<S.rs.length) (hW:SK W b S)=>MRows_of (most:=2) hW hok hr dCx);have HCS:Hid (S.cells=#[.slice S.aa S.at1.length S.ca,.slice S.ar S.rs.length S.cr,.slice S.af S.fs.length S.cf,.int .i64 S.lb]):=oH rfl
 rw [HCS.out] at HG0 HS0 HR0 HN HMR ⊢;generalize S.rs.length=nr at *;generalize S.ca=ca at *;generalize S.cr=cr at *;generalize S.cf=cf at *;generalize S.aa=aa at *;generalize S.ar=ar at *;generalize S.af=af at *;generalize S.lb=lb at *;generalize S.at1.length=na at *;generalize S.fs.length=nf at *;have HDR:=oH (fun (r:Nat) (hr:r<D.length)=>hD.tab r hr);have HSR:=oH (fun (r:Nat) (hr:r<D.length)=>(hv.sl1 (K:=zOe) (t:=43) (by intro e;subst e;simp at hr)));have hsr:=hsk.src;clear hok hba HCS
 go_enter Tryz.func16,Tryz.ntmps16
 go_wp2_with fail;refine HN.mono ?_;rintro e w1 ⟨r,rfl,hr,hs1,hg1⟩
 have hrn:r<nr:=by omega
 have hrD:r<D.length:=by rw [HDl.out];exact hrn
 have HG1:=oH (HG0.step hg1 hs1);have HS1:=oH (HS0.src hg1 oMx);have HR1:=oH (HR0.src hg1 oMx);have s0:=HS1.at_ (i:=0) rfl;have s1:=HS1.at_ (i:=1) rfl;have s2:=HS1.at_ (i:=2) rfl;have s3:=HS1.at_ (i:=3) rfl;have hsl1:w.heap.size<w1.heap.size:=HS1.lt;have hsl2:w.heap.size+1<w1.heap.size:=HR1.lt;have hb8:Below w1.heap.size w1 (w1.alloc (.cells #[.int .i64 (r:Int),.slice none 0 0] 45)):=bA;have HD2:=oH (show Blk (w1.alloc (.cells #[.int .i64 (r:Int),.slice none 0 0] 45)) w1.heap.size 45 [.int .i64 (r:Int),.slice none 0 0] from Blk.new w1 _ [_,_]);have HG2:=oH (HG1.all hb8);have HR2:=oH (HR1.below hb8);have HMC:=oH (HMR.out _ r hrn (HG2.sk HSKw.out));clear hr hs1 hg1 hb8 HN HG0 HS0 HR0;go_wp2_with fail;refine HMC.mono ?_;rintro e w3 ⟨vl,L,rfl,hl,hp,hll,hs3,hg3⟩;obtain ⟨Al,cl,rfl, -⟩:=hl.form;have HL3:=oH (hl.low (B':=w.heap.size) HG2.gr.size);have HP3:=oH (hp.rawD dCx);have GS3:=oH (HG2.step hg3 hs3)
 have HD3:=oH (HD2.src hg3 oMx);have HR3:=oH (HR2.src hg3 oMx);have HNE:=oH (show w1.heap.size≠b/\w.heap.size+1≠b from ⟨oMx,oMx⟩);clear s0 s1 s2 s3 hl hp hs3 hg3 HMC HG2 HD2 HR2 HMR HS1 HR1 HG1;have HG8:=oH (show w.heap.size+1<w1.heap.size from hsl2);generalize w1.heap.size=g8 at *;obtain ⟨bd,offd,rfl,hbd,hcd⟩:=HSR.out r hrD;obtain ⟨u0,c0,hu0⟩:=hcd r hrD;have HNEB:=oH (hv.ne_src (by intro e;subst e;simp at hrD) hsr);have hTab:=HDR.out r hrD;have HT0:=oH hu0;obtain ⟨T0A,ct,rfl, -⟩:=hu0.form
 have HTC:Hid (∀ W,GS w b W->W.cell? ⟨bd,offd+r,none⟩=some (.slice T0A D[r].length ct)):=oH fun W h=>h.gr.cell c0 (fun e=>HNEB.out (by injection e))
 obtain ⟨xs,hxs⟩:=eXx ((S.rs[r]'hTab.1.lt).xs)
 have HKT:Hid (∀ x∈D[r],zCc S.at1 xs x.1):=oH fun x h=>hxs▸hTab.1.g x h
 have HPU:=oH (fun (M:Tbl) (ks:List ByteArray) (z:Int) (h:zFd S r M) (hk:zCc S.at1 xs ks) (hz : -100<=z/\z<=100)=>h.push (by rw [hxs];exact hk) hz);have HWT:=oH hTab.2.2;have hT60:=hTab.2.1;clear hcd c0 hu0 hTab HSR HDR hv hD hxs;generalize D[r]=TR at *
 by_cases hT0:TR.length=0
 case' pos =>
  have hq0:=HTC.out w3 GS3.out;have hbd3:bd<w3.heap.size:=Nat.lt_of_lt_of_le hbd GS3.gr.size;have hdl:=decide_eq_true hrD;rw [hT0] at hq0;obtain ⟨LV,rfl⟩:∃ LV,LV=L:=⟨_,rfl⟩;have HLv:=HL3;have HPv:=HP3;have GSv:=GS3;have HDv:=HD3;have HRv:=HR3;have HLL:Hid (LV.length<=3):=oH oMx;clear hT0;go_upto_region 7 with (fail);clear hq0 hdl
 case' neg =>
  have hTp:0<TR.length:=by omega
  obtain ⟨bt,offt,rfl,hbt0, -⟩:=HT0.sli2 (by intro e;subst e;simp at hTp);have hq0:=HTC.out w3 GS3.out;have hbd3:bd<w3.heap.size:=Nat.lt_of_lt_of_le hbd GS3.gr.size;have hdl:=decide_eq_true hrD;have hdt:=decide_eq_true hTp;have HN2:=oH (zCm b 2 _ GS3.src oMx oMx);go_wp2_with fail;refine HN2.mono ?_;rintro e w4 ⟨q4,rfl,hq4,hs4,hg4⟩;have GS4:=oH (GS3.step hg4 hs4);have HL4:=oH (HL3.src GS3.src hg4 dCx);have HD4:=oH (HD3.src hg4 HNE.1);have HR4:=oH (HR3.src hg4 HNE.2);clear hs4 hg4 hq0 hdl hdt HN2 GS3 HL3 HD3 HR3
  by_cases hq1:q4=1
  case' neg =>
   have hd4:((q4:Int)==1)=false:=by rw [beq_eq_false_iff_ne];omega
   obtain ⟨LV,rfl⟩:∃ LV,LV=L:=⟨_,rfl⟩;have HLv:=HL4;have HPv:=HP3;have GSv:=GS4;have HDv:=HD4;have HRv:=HR4;have HLL:Hid (LV.length<=3):=oH oMx;clear hq1;go_upto_region 7 with (fail);clear hd4
  case' pos =>
   have hd4:((q4:Int)==1)=true:=by rw [beq_iff_eq];omega
   clear hq1
   have HROW:Hid (∀ W,GS w b W->∀ q,(hq:q<TR.length)->∃ yA yn yc,W.cell? ⟨bt,offt+q*2,none⟩=some (.slice yA yn yc)/\W.cell? ⟨bt,offt+q*2+1,none⟩=some (.int .i64 TR[q].2)/\Sl zOg W (.slice yA yn yc) TR[q].1/\zCc S.at1 xs TR[q].1/\(1<=TR[q].2/\TR[q].2<=100)):=oH fun W h q hq=>by
    obtain ⟨-,u,h1,h2,h3⟩:=(HT0.src hsr h.gr dCx).sli2' hq;obtain ⟨yA,yc,rfl, -⟩:=h3.form;exact ⟨yA,_,yc,h1,h2,h3,HKT.out _ (List.getElem_mem hq),HWT.out _ (List.getElem_mem hq)⟩
   have HTT:Hid (∀ W,GS w b W->W.cell? ⟨bd,offd+r,none⟩=some (.slice (some ⟨bt,offt,none⟩) TR.length ct)):=HTC;go_upto_region 5 with (fail)
   go_cut [10] (fun v wc=>∃ (gy:Nat) (Ay:oAx) (ny cy:Nat) (zy:Int) (kk:List ByteArray),v = .pointer (some ⟨gy,0,none⟩)/\Blk wc gy 64 [.slice Ay ny cy,.int .i64 zy]/\Sl zOg wc (.slice Ay ny cy) kk/\zCc S.at1 xs kk/\(1<=zy/\zy<=100)/\zCo zOe w.heap.size wc (.slice Al L.length cl) L/\(∀ j,(Value.slice Al L.length cl).ownBlock=some j->j<gy)/\GS w b wc/\Blk wc g8 45 [.int .i64 (r:Int),.slice none 0 0]/\Blk wc (w.heap.size+1) 45 [.int .i64 0,.slice none 0 0]/\gy≠b)
   case first =>
    have GSz:=GS4;have HLz:=HL4;have HDz:=HD4;have HRz:=HR4
    have KBz:Hid (∀ W,Below w4.heap.size w4 W->W.cell? ⟨bd,offd+r,none⟩=some (.slice (some ⟨bt,offt,none⟩) TR.length ct)):=oH fun W hW=>HTT.out W (GS4.all hW)
    have HWz:=oH (Below.refl w4.heap.size w4).drew
    have hTR1:(1:Int)<=(TR.length:Int):=by omega
    have hTR2:(TR.length:Int)<=1000000:=by omega
    have HNG:=oH (show g8≠w4.heap.size/\w.heap.size+1≠w4.heap.size from ⟨by have:=HD4.lt;omega,by have:=HR4.lt;omega⟩);have hbd4:bd<w4.heap.size:=Nat.lt_of_lt_of_le hbd GS4.gr.size;refine xAq (S:=(fun w'=>w'.cell? ⟨bd,offd+r,none⟩=some (.slice (some ⟨bt,offt,none⟩) TR.length ct))) 14 (by kernel_rfl) rfl (by kernel_rfl) (by kernel_rfl) rfl (by exact KBz.out _ HWz.out) (fun hHeld=>?_);simp only [List.pop_toArray,List.dropLast_cons_cons,List.dropLast_singleton];refine tkH 0 ?_;refine tkH 1 ?_;refine tkH 2 ?_;refine tkH 3 ?_;refine tkH 4 ?_;refine tkH 5 ?_;refine tkH 6 ?_;refine tkH 7 ?_;refine tkH 8 ?_;refine tkH 9 ?_
    try simp only [Act.put,tkA,tkB,tkC]
    refine wpAnyH_ready (rs:=[10,13]) (by kernel_rfl) sMx ?_;refine AllReadyH.cons rfl (fun K hK=>?_) ?_
    ·clear hHeld
     go_simp
     (go_at_call 22;(with_reducible refine (zCm b (TR.length:Int) _ (GSz.out.all HWz.out).src hTR1 hTR2).mono ?_);rintro e wa ⟨qn,rfl,hq,hs,hg⟩;have GSa:=oH ((GSz.out.all HWz.out).step hg hs);have HLa:=oH ((HLz.out.below HWz.out).src (GSz.out.all HWz.out).src hg dCx);have HDa:=oH ((HDz.out.below HWz.out).src hg HNE.out.1);have HRa:=oH ((HRz.out.below HWz.out).src hg HNE.out.2);have hq2:qn<TR.length:=oMx;have hy:=HROW.out wa GSa.out qn hq2;obtain ⟨yA,yn,yc,y0,y1,yu,yk,yz⟩:=hy;have HYU:=oH yu;have HYK:=oH yk;have HYZ:=oH yz;have hbt:bt<wa.heap.size:=Nat.lt_of_lt_of_le hbt0 GSa.out.gr.size;generalize TR[qn].1=kk at *;generalize TR[qn].2=zy at *;have KBa:Hid (∀ W,Below wa.heap.size wa W->W.cell? ⟨bd,offd+r,none⟩=some (.slice (some ⟨bt,offt,none⟩) TR.length ct)):=oH fun W hW=>HTT.out W (GSa.out.all hW);clear hs hg yu yk yz)
     go_wp2_with fail;refine hK.out _ _ ?_ (fun hHeld=>?_)
     ·first|with_reducible exact KBa.out _ bRx|with_reducible exact KBa.out _ HWm.out|with_reducible exact KBz.out _ HWm.out
     clear hK K
     try simp only [Act.put,tkA,tkB,tkC]
     refine tkH 11 ?_
     try simp only [Act.put,tkA,tkB,tkC]
     refine wpAnyH_ready (rs:=[12,13]) (by kernel_rfl) sMx ?_;refine AllReadyH.cons rfl (fun K hK=>?_) ?_
     ·clear hHeld
      go_simp
      refine hK.out _ _ ?_ (fun hHeld=>?_)
      ·first|with_reducible exact KBa.out _ bRx|with_reducible exact KBa.out _ HWm.out|with_reducible exact KBz.out _ HWm.out
      clear hK K
      try simp only [Act.put,tkA,tkB,tkC]
      refine tkS 13 fun K hK=>?_
      go_simp
      have HWm:=oH ((Below.refl wa.heap.size wa).alloc lRx (.cells #[.slice none 0 0,.int .i64 0] 64));refine hK.out _ _ ?_ (fun hHeld=>?_)
      ·first|with_reducible exact KBa.out _ bRx|with_reducible exact KBa.out _ HWm.out|with_reducible exact KBz.out _ HWm.out
      clear hK K
      try simp only [Act.put,tkA,tkB,tkC]
      refine wpAnyH_done (by kernel_rfl) ?_ _;simp only [zWx,List.getElem_toArray,List.getElem_cons_succ,List.getElem_cons_zero];go_wp2_with fail
      go_meet
      first
       | exact ⟨wa.heap.size,_,_,_,_,kk,rfl,Blk.new wa 64 [_,_],HYU.below (bA),HYK.out,HYZ.out,HLa.alloc _,fun j hj=>(HLa.blk j hj).2.1,GSa.all (bA),HDa.alloc _,HRa.alloc _,by have:=GSa.gr.size;have:=GSa.lt;omega⟩
       | exact ⟨w4.heap.size,_,_,_,_,kk,rfl,(HYa.set 0 _).set 1 _,(HYU.storeT HYa.out).storeT (HYa.set 0 _),HYK.out,HYZ.out,(HLa.storeR HYa.out (fun j hj=>by have:=(HLz.blk j hj).2.1;omega)).storeR (HYa.set 0 _) (fun j hj=>by have:=(HLz.blk j hj).2.1;omega),fun j hj=>(HLz.blk j hj).2.1,(GSa.bel (bRx.setCell (p:=⟨w4.heap.size,0,none⟩) GSz.gr.size _)).bel (bRx.setCell (p:=⟨w4.heap.size,1,none⟩) GSz.gr.size _),(HDa.far HNG.1 _).far HNG.1 _,(HRa.far HNG.2 _).far HNG.2 _,by have:=GSz.gr.size;have:=GSz.lt;omega⟩
     refine AllReadyH.cons rfl (fun K hK=>?_) AllReadyH.nil
     go_simp
     have HWm:=oH ((Below.refl wa.heap.size wa).alloc lRx (.cells #[.slice none 0 0,.int .i64 0] 64));refine hK.out _ _ ?_ (fun hHeld=>?_)
     ·first|with_reducible exact KBa.out _ bRx|with_reducible exact KBa.out _ HWm.out|with_reducible exact KBz.out _ HWm.out
     clear hK K
     try simp only [Act.put,tkA,tkB,tkC]
     refine tkS 12 fun K hK=>?_
     go_simp
     refine hK.out _ _ ?_ (fun hHeld=>?_)
     ·first|with_reducible exact KBa.out _ bRx|with_reducible exact KBa.out _ HWm.out|with_reducible exact KBz.out _ HWm.out
     clear hK K
     try simp only [Act.put,tkA,tkB,tkC]
     refine wpAnyH_done (by kernel_rfl) ?_ _;simp only [zWx,List.getElem_toArray,List.getElem_cons_succ,List.getElem_cons_zero];go_wp2_with fail
     go_meet
     first
      | exact ⟨wa.heap.size,_,_,_,_,kk,rfl,Blk.new wa 64 [_,_],HYU.below (bA),HYK.out,HYZ.out,HLa.alloc _,fun j hj=>(HLa.blk j hj).2.1,GSa.all (bA),HDa.alloc _,HRa.alloc _,by have:=GSa.gr.size;have:=GSa.lt;omega⟩
      | exact ⟨w4.heap.size,_,_,_,_,kk,rfl,(HYa.set 0 _).set 1 _,(HYU.storeT HYa.out).storeT (HYa.set 0 _),HYK.out,HYZ.out,(HLa.storeR HYa.out (fun j hj=>by have:=(HLz.blk j hj).2.1;omega)).storeR (HYa.set 0 _) (fun j hj=>by have:=(HLz.blk j hj).2.1;omega),fun j hj=>(HLz.blk j hj).2.1,(GSa.bel (bRx.setCell (p:=⟨w4.heap.size,0,none⟩) GSz.gr.size _)).bel (bRx.setCell (p:=⟨w4.heap.size,1,none⟩) GSz.gr.size _),(HDa.far HNG.1 _).far HNG.1 _,(HRa.far HNG.2 _).far HNG.2 _,by have:=GSz.gr.size;have:=GSz.lt;omega⟩
    refine AllReadyH.cons rfl (fun K hK=>?_) AllReadyH.nil
    go_simp
    have HWm:=oH ((Below.refl w4.heap.size w4).alloc lRx (.cells #[.slice none 0 0,.int .i64 0] 64)).drew;have HYm:Hid (Blk (w4.alloc (.cells #[.slice none 0 0,.int .i64 0] 64)).drew w4.heap.size 64 [.slice none 0 0,.int .i64 0]):=oH (Blk.new w4 64 [_,_]).drew
    refine hK.out _ _ ?_ (fun hHeld=>?_)
    ·first|with_reducible exact KBa.out _ bRx|with_reducible exact KBa.out _ HWm.out|with_reducible exact KBz.out _ HWm.out
    clear hK K
    try simp only [Act.put,tkA,tkB,tkC]
    refine tkS 10 fun K hK=>?_
    go_simp
    (go_at_call 22;(with_reducible refine (zCm b (TR.length:Int) _ (GSz.out.all HWm.out).src hTR1 hTR2).mono ?_);rintro e wa ⟨qn,rfl,hq,hs,hg⟩;have GSa:=oH ((GSz.out.all HWm.out).step hg hs);have HLa:=oH ((HLz.out.below HWm.out).src (GSz.out.all HWm.out).src hg dCx);have HDa:=oH ((HDz.out.below HWm.out).src hg HNE.out.1);have HRa:=oH ((HRz.out.below HWm.out).src hg HNE.out.2);have HYa:=oH (HYm.out.src hg (by have:=GSz.out.gr.size;have:=GSz.out.lt;omega));have kc0:=HYa.out.at_ (i:=0) rfl;have kc1:=HYa.out.at_ (i:=1) rfl;have kf0:=HYa.out.fr 0;have kf1:=HYa.out.fr 1;have hq2:qn<TR.length:=oMx;have hy:=HROW.out wa GSa.out qn hq2;obtain ⟨yA,yn,yc,y0,y1,yu,yk,yz⟩:=hy;have HYU:=oH yu;have HYK:=oH yk;have HYZ:=oH yz;have hbt:bt<wa.heap.size:=Nat.lt_of_lt_of_le hbt0 GSa.out.gr.size;generalize TR[qn].1=kk at *;generalize TR[qn].2=zy at *;have KBa:Hid (∀ W,Below wa.heap.size wa W->W.cell? ⟨bd,offd+r,none⟩=some (.slice (some ⟨bt,offt,none⟩) TR.length ct)):=oH fun W hW=>HTT.out W (GSa.out.all hW);clear hs hg yu yk yz)
    go_wp2_with fail;refine hK.out _ _ ?_ (fun hHeld=>?_)
    ·first|with_reducible exact KBa.out _ bRx|with_reducible exact KBa.out _ HWm.out|with_reducible exact KBz.out _ HWm.out
    clear hK K
    try simp only [Act.put,tkA,tkB,tkC]
    refine tkH 11 ?_
    try simp only [Act.put,tkA,tkB,tkC]
    refine tkS 12 fun K hK=>?_
    go_simp
    refine hK.out _ _ ?_ (fun hHeld=>?_)
    ·first|with_reducible exact KBa.out _ bRx|with_reducible exact KBa.out _ HWm.out|with_reducible exact KBz.out _ HWm.out
    clear hK K
    try simp only [Act.put,tkA,tkB,tkC]
    refine wpAnyH_done (by kernel_rfl) ?_ _;simp only [zWx,List.getElem_toArray,List.getElem_cons_succ,List.getElem_cons_zero];go_wp2_with fail
    go_meet
    first
     | exact ⟨wa.heap.size,_,_,_,_,kk,rfl,Blk.new wa 64 [_,_],HYU.below (bA),HYK.out,HYZ.out,HLa.alloc _,fun j hj=>(HLa.blk j hj).2.1,GSa.all (bA),HDa.alloc _,HRa.alloc _,by have:=GSa.gr.size;have:=GSa.lt;omega⟩
     | exact ⟨w4.heap.size,_,_,_,_,kk,rfl,(HYa.set 0 _).set 1 _,(HYU.storeT HYa.out).storeT (HYa.set 0 _),HYK.out,HYZ.out,(HLa.storeR HYa.out (fun j hj=>by have:=(HLz.blk j hj).2.1;omega)).storeR (HYa.set 0 _) (fun j hj=>by have:=(HLz.blk j hj).2.1;omega),fun j hj=>(HLz.blk j hj).2.1,(GSa.bel (bRx.setCell (p:=⟨w4.heap.size,0,none⟩) GSz.gr.size _)).bel (bRx.setCell (p:=⟨w4.heap.size,1,none⟩) GSz.gr.size _),(HDa.far HNG.1 _).far HNG.1 _,(HRa.far HNG.2 _).far HNG.2 _,by have:=GSz.gr.size;have:=GSz.lt;omega⟩
   case' rest =>
    obtain ⟨gy,Ay,ny,cy,zy,kk,rfl,hyb,hyu,hyk,hyz,hlo,hnb,hgs,hdb,hrb,hyne⟩:=hcut;have HYz:=oH hyb;have HYU:=oH hyu;have HYK:=oH hyk;have HLz:=oH hlo;have HNB:=oH hnb;have GSz:=oH hgs;have HDz:=oH hdb;have HRz:=oH hrb;have HNE3:=oH hyne;have HL0:Hid (L.length<=1000):=oH oMx;obtain ⟨hzy1,hzy3⟩:=hyz
    have hzy2:zy<=100000:=by omega
    have KBz:Hid (∀ W,Below wc.heap.size wc W->W.cell? ⟨gy,0,none⟩=some (.slice Ay ny cy)/\W.cell? ⟨gy,1,none⟩=some (.int .i64 zy)):=oH fun W hW=>⟨(HYz.below hW).at_ (i:=0) rfl,(HYz.below hW).at_ (i:=1) rfl⟩
    have HWz:=oH (Below.refl wc.heap.size wc).drew;clear hyb hyu hyk hlo hnb hgs hdb hrb hyne GS4 HL4 HD4 HR4;obtain ⟨wz,hwz⟩:=eXx (wc);subst hwz;go_upto_region 6 with (fail);refine wp_region_held_drew (S:=(fun w'=>w'.cell? ⟨gy,0,none⟩=some (.slice Ay ny cy)/\w'.cell? ⟨gy,1,none⟩=some (.int .i64 zy))) (by kernel_rfl) (by exact KBz.out _ HWz.out) (fun hHeld=>?_);refine tkH 0 ?_;refine tkH 1 ?_;refine tkH 2 ?_;refine tkH 3 ?_;refine tkH 4 ?_;refine tkH 5 ?_
    try simp only [Act.put,tkA,tkB,tkC]
    refine tkS 6 fun K hK=>?_
    go_simp
    (go_at_call 29;(with_reducible refine (zEw b 1 zy _ (GSz.out.src.below HWz.out) hzy1 dCx hzy2).mono ?_);rintro e wa ⟨qn,rfl,hq,hs,hg⟩;have hga:=(zMt (b:=b) HWz.out).trans hg;have GSa:=oH (GSz.out.step hga hs);have HLa:=oH (HLz.out.src GSz.out.src hga dCx);have HDa:=oH (HDz.out.src hga HNE.out.1);have HRa:=oH (HRz.out.src hga HNE.out.2);have HYa:=oH (HYz.out.src hga HNE3.out);have hng:IntKind.i64.wrap (-qn) = -qn:=IntWalk.i64_in _ oMx;have HKU:=oH (HYU.out.src GSz.out.src hga dCx);have KBa:Hid (∀ W,Below wa.heap.size wa W->W.cell? ⟨gy,0,none⟩=some (.slice Ay ny cy)/\W.cell? ⟨gy,1,none⟩=some (.int .i64 zy)):=oH fun W hW=>⟨(HYa.out.below hW).at_ (i:=0) rfl,(HYa.out.below hW).at_ (i:=1) rfl⟩;clear hga hs hg)
    go_wp2_with fail;refine hK.out _ _ ?_ (fun hHeld=>?_)
    ·first|with_reducible exact KBa.out _ bRx|with_reducible exact KBa.out _ HWm.out|with_reducible exact KSc.out
    clear hK K
    try simp only [Act.put,tkA,tkB,tkC]
    refine tkH 7 ?_;refine tkH 8 ?_
    try simp only [Act.put,tkA,tkB,tkC]
    refine tkS 9 fun K hK=>?_
    go_simp
    have HWm:=oH ((Below.refl wa.heap.size wa).alloc lRx (.cells #[.slice Ay ny cy,.int .i64 (-qn)] 64));refine hK.out _ _ ?_ (fun hHeld=>?_)
    ·first|with_reducible exact KBa.out _ bRx|with_reducible exact KBa.out _ HWm.out|with_reducible exact KSc.out
    clear hK K
    try simp only [Act.put,tkA,tkB,tkC]
    refine tkS 10 fun K hK=>?_
    (refine zWf _ _ _ (by rfl) (by rfl) Tryz.underlying43 Tryz.kiRow (by go_simp) (HLa.below HWm.out) (by go_simp) (Sl.new (K:=zOe) (x:=(kk, -qn)) rfl ⟨_,rfl,HKU.out⟩) (by have:=HL0.out;simp only [List.length_singleton];omega) ((GSa.all HWm.out).gr.size) ?_;intro v' wd hap;obtain ⟨LV,hLV⟩:∃ LV,L++[(kk, -qn)]=LV:=⟨_,rfl⟩;rw [hLV] at hap;obtain ⟨An,cn,rfl, -⟩:=hap.own.form;have HLVE:=oH hLV;clear hLV;have HLv:=oH hap.own;have GSv:=oH ((GSa.all HWm.out).bel (hap.bel bRx));have HDv:=oH ((HDa.below HWm.out).app hap dCx);have HRv:=oH ((HRa.below HWm.out).app hap dCx);have hyc:=(HYa.below HWm.out).grown hap.gr (fun e=>by have:=HNB.out _ e.symm;omega);have KSc:Hid (wd.cell? ⟨gy,0,none⟩=some (.slice Ay ny cy)/\wd.cell? ⟨gy,1,none⟩=some (.int .i64 zy)):=oH ⟨hyc.at_ (i:=0) rfl,hyc.at_ (i:=1) rfl⟩;clear hyc;clear hap)
    refine hK.out _ _ ?_ (fun hHeld=>?_)
    ·first|with_reducible exact KBa.out _ bRx|with_reducible exact KBa.out _ HWm.out|with_reducible exact KSc.out
    clear hK K
    try simp only [Act.put,tkA,tkB,tkC]
    refine tkH 11 ?_
    try simp only [Act.put,tkA,tkB,tkC]
    refine wpAnyH_done (by kernel_rfl) ?_ _;have HPv:Hid (zFd S r LV):=oH (by have h:=HPU.out L kk (-qn) HP3.out HYK.out ⟨oMx,oMx⟩;rw [HLVE.out] at h;exact h);have HLL:Hid (LV.length<=3):=oH (by rw [<-HLVE.out,List.length_append,List.length_singleton];omega);go_upto_region 7 with (fail)
 all_goals
  have HN8:=oH (zCm b 8 _ GSv.src oMx oMx);go_wp2_with fail;refine HN8.mono ?_;rintro e w8 ⟨q8,rfl,hq8,hs8,hg8⟩;have GS8:=oH (GSv.step hg8 hs8);have HL8:=oH (HLv.src GSv.src hg8 dCx);have HD8:=oH (HDv.src hg8 HNE.1);have HR8:=oH (HRv.src hg8 HNE.2);clear hs8 hg8 hq8 HN8 GSv HLv HDv HRv
  by_cases h7:q8=7/\0<LV.length
  case' pos =>
   have hd7:((q8:Int)==7)=true:=by rw [beq_iff_eq];omega
   have hdp:=decide_eq_true h7.2;obtain ⟨gl,hAl,hgl1,hgl2⟩:=HL8.some_ (by intro e;have h:=h7.2;rw [e] at h;simp at h);subst hAl;have HRG:=oH (zEw b 1 9 w8 GS8.src dCx dCx dCx);have h7b:=h7.2;clear h7;go_wp2_with fail;refine HRG.mono ?_;rintro e w10 ⟨q10,rfl,hq10,hs10,hg10⟩;have GS10:=oH (GS8.step hg10 hs10);have HL10:=oH (HL8.src GS8.src hg10 dCx);have HD10:=oH (HD8.src hg10 HNE.1);have HR10:=oH (HR8.src hg10 HNE.2);have hng:IntKind.i64.wrap (-q10) = -q10:=IntWalk.i64_in _ oMx;have hw:=HL10.weight (i:=0) (ss:=(LV[0]'h7b).1) (z:=(LV[0]'h7b).2) (by rw [List.getElem?_eq_getElem h7b]) (-q10);obtain ⟨-,u10,m0,m1, -⟩:=HL10.sl.sli2' h7b;have hwf:=hw.2;obtain ⟨LW,hLW⟩:=eXx (LV.set 0 ((LV[0]'h7b).1, -q10));rw [hLW] at hw;have HLw:=oH hw.1
   have HPw:Hid (zFd S r LW):=oH (by
    rw [<-hLW]
    cases LV with
    | nil=>simp at h7b
    | cons x LV' =>
     obtain ⟨x1,x2⟩:=x
     exact HPv.head (z := -q10) ⟨oMx,oMx⟩)
   have HLLw:Hid (LW.length<=3):=oH (by rw [<-hLW,List.length_set];exact HLL.out);have GSw:=oH (GS10.bel (bRx.setCell (p:=⟨gl,1,none⟩) hgl1 (.int .i64 (-q10))));have HDw:=oH (HD10.far (p:=⟨gl,1,none⟩) (fun e=>by have h1:=(zRt HL10.out HD10.out dCx);exact h1 _ rfl e) (.int .i64 (-q10)));have HRw:=oH (HR10.far (p:=⟨gl,1,none⟩) (fun e=>by have h1:=(zRt HL10.out HR10.out dCx);exact h1 _ rfl e) (.int .i64 (-q10)));clear hw hLW hs10 hg10 HRG GS8 HL8 HD8 HR8 GS10 HD10 HR10 HL10;generalize (LV[0]'h7b).2=zz at m1;go_upto_region 9 with (fail);clear hd7 hdp m0 m1 hwf hng
  case' neg =>
   obtain ⟨LW,rfl⟩:∃ LW,LW=LV:=⟨_,rfl⟩;have HLw:=HL8;have HPw:=HPv;have HLLw:=HLL;have GSw:=GS8;have HDw:=HD8;have HRw:=HR8
   by_cases h8:q8=7
   case' pos =>
    have hd7:((q8:Int)==7)=true:=by rw [beq_iff_eq];omega
    have hdp:=decide_eq_false (show ¬0<LW.length from fun h=>h7 ⟨h8,h⟩);clear h7 h8
   case' neg =>
    have hd7:((q8:Int)==7)=false:=by rw [beq_eq_false_iff_ne];omega
    clear h7 h8
   all_goals go_upto_region 9 with (fail)
 all_goals
  have HRS:=oH (zEp HLw.sl (HPw.lit HSO.out (by have:=HLLw.out;omega)));have HDL:=oH (HPw.dlt HSO.out HLLw.out);go_wp2_with fail;refine HRS.mono ?_;rintro e w9 ⟨v9,rfl,ho,hb9⟩;obtain ⟨N,hN⟩:=eXx (norm LW);rw [hN] at ho HDL;obtain ⟨A9,c9,rfl, -⟩:=ho.form;have GS9:=oH (GSw.all hb9);have hd9:=HDw.below hb9;have hr9:=HRw.below hb9;have HS9:=oH ho.sl;have x0:=hd9.at_ (i:=0) rfl;have x1:=hd9.at_ (i:=1) rfl;have xf:=hd9.fr 1;have y0:=hr9.at_ (i:=0) rfl;have y1:=hr9.at_ (i:=1) rfl;have yf0:=hr9.fr 0;have yf1:=hr9.fr 1
  have hgne:w.heap.size+1≠g8:=by have:=HG8.out;omega
  have HRR:=oH (((hr9.far (p:=⟨g8,1,none⟩) hgne (.slice A9 N.length c9)).set 0 (.int .i64 (r:Int))).set 1 (.slice A9 N.length c9));have HSS:=oH (((HS9.store (i:=1) (u := .slice A9 N.length c9) hd9 dCx).store (i:=0) (u := .int .i64 (r:Int)) (hr9.far (p:=⟨g8,1,none⟩) hgne _) dCx).store (i:=1) (u := .slice A9 N.length c9) ((hr9.far (p:=⟨g8,1,none⟩) hgne _).set 0 _) dCx);have HGG:=oH (((GS9.bel (bRx.setCell (p:=⟨g8,1,none⟩) (by have:=HG8.out;show w.heap.size<=g8;omega) (.slice A9 N.length c9))).bel (bRx.setCell (p:=⟨w.heap.size+1,0,none⟩) (by show w.heap.size<=w.heap.size+1;omega) (.int .i64 (r:Int)))).bel (bRx.setCell (p:=⟨w.heap.size+1,1,none⟩) (by show w.heap.size<=w.heap.size+1;omega) (.slice A9 N.length c9)));clear ho hb9 hd9 hr9 hN HRS;go_wp2_with fail;have e0:=HRR.at_ (i:=0) rfl;have e1:=HRR.at_ (i:=1) rfl;exact bodyPost_ret (v := .agg #[.int .i64 (r:Int),.slice A9 N.length c9]) (by simp [results,Tryz.results16,go_sem,e0,e1]) rfl ⟨((r:Int),N),_,rfl,HSS.out,HDL.out,HGG.src,HGG.gr⟩
end Go.Proofs.YtafflnognagadaaGreatDoor
