import Derived.Test.YtbjaplppalcmgaaGreatDoorZMC
import Derived.Test.YtbjaplppalcmgaaGreatDoorZME
set_option maxHeartbeats 16000000
set_option maxRecDepth 100000
set_option linter.unusedVariables false
set_option linter.unusedSimpArgs false
set_option linter.unusedSectionVars false
namespace Go.Proofs.YtbjaplppalcmgaaGreatDoor
open Go.RowKit
theorem Tryz.infoNum:(Tryz.prog.info? 62).map (fun i=>(i.zero,i.size,i.bytes))=some (some (.agg #[.bool false,.slice none 0 0]),2,32):=by kernel_rfl
theorem Tryz.infoNums:(Tryz.prog.info? 67).map (fun i=>(i.zero,i.size,i.bytes))=some (some (.slice none 0 0),1,24):=by kernel_rfl
theorem zTk:∀ x∈(Value.agg #[.bool false,.slice none 0 0]).cells,∀ y,x ≠ .int .u64 y:=by intro x hx y e;subst e;simp [Value.cells] at hx
theorem zZx:∀ x∈(Value.slice none 0 0).cells,∀ y,x ≠ .int .u64 y:=by intro x hx y e;subst e;simp [Value.cells] at hx
theorem sl_no {A:oAx} {l c:Nat}:∀ x∈([.slice A l c]:List Value),∀ y,x ≠ .int .u64 y:=by intro x hx y e;subst e;simp at hx
theorem zZu {A:oAx} {l c:Nat}:∀ u∈([.slice A l c]:List Value),u.oneCell'=true:=by intro u hu;simp at hu;subst hu;rfl
theorem zIp {w w':World} (h:w.grownBy w' none):Below w.heap.size w w':=⟨h.os,h.tape,h.output,h.size,fun k hk=>h.block k hk sMx⟩
theorem zUj {w:World} {B e s n:Nat} {v:Value} {xs:List Value} (h:w.ownsRow B e s v n xs):∃ A c,v = .slice A n c/\n<=c:=by
 rcases h.2 with ⟨hv,h0⟩|⟨g,cap,cur,hv,hB,hg,hle,_⟩
 ·subst h0;exact ⟨none,0,hv,lRx⟩
 exact ⟨_,cap,hv,hle⟩
theorem zUi {w:World} {B e s n c:Nat} {A:oAx} {xs:List Value} (h:w.ownsRow B e s (.slice A n c) n xs) (hn:0<n):∃ g,A=some ⟨g,0,none⟩:=by
 rcases h.2 with ⟨_,h0⟩|⟨g,cap,cur,hv,_⟩
 ·omega
 injection hv with h1;exact ⟨g,h1⟩
theorem zUk {w:World} {B e s n c:Nat} {A:oAx} {cs:List Value} (h:w.ownsRow B e s (.slice A n c) n cs):zHh w A cs:=fun hne=>by
 rcases Nat.eq_zero_or_pos n with h0|h0
 ·subst h0;have:=h.1;rw [Nat.zero_mul] at this;exact absurd (List.eq_nil_of_length_eq_zero this) hne
 obtain ⟨g,rfl⟩:=zUi h h0;refine ⟨g,0,rfl,(h.lt g rfl).2,fun i hi=>?_⟩;rw [Nat.zero_add,h.cellAt i (by have:=h.1;omega),List.getElem?_eq_getElem hi]
theorem zUl {w:World} {B B' e s n:Nat} {v:Value} {xs:List Value} (h:w.ownsRow B e s v n xs) (hb:B'<=B):w.ownsRow B' e s v n xs:=⟨h.1,h.2.imp id fun ⟨g,cap,cur,h1,h2,h3⟩=>⟨g,cap,cur,h1,Nat.le_trans hb h2,h3⟩⟩
theorem Bex.toBelow {B x b:Nat} {w w':World} (h:Bex B x w w') (hb:b<=B) (hx:b<=x):Below b w w':=⟨h.os,h.tape,h.output,h.size,fun k hk=>h.block k oMx oMx⟩
theorem Bex.blk {B x g:Nat} {w w':World} {t:TypeId} {cs:List Value} (h:Bex B x w w') (hb:Blk w g t cs) (hg:g<B) (hne:g≠x):Blk w' g t cs:=(h.block g hg hne).trans hb
theorem zHa.zero (B:Nat) (w:World) (n:Nat) (P:Nat->Nat->Int):zHa B w (.slice none 0 0) [] n P :=
 ⟨World.ownsRow_nil _ _ _ _,fun r hr=>(by cases hr),fun r hr=>(by cases hr),List.nodup_nil,fun i hi=>(by simp at hi)⟩
theorem zBz:LL 1<=70:=by
 show (limbs 1).length<=70
 rw [zQi dCx dCx]
 decide
theorem xFp {w:World} {g:Nat} {cs:List Value} (h:zHh w (some ⟨g,0,none⟩) cs):∀ j u,cs[j]? = some u->w.cell? ((⟨g,0,none⟩:Addr).add j)=some u:=fun j u hu=>by
 have hadd:(⟨g,0,none⟩:Addr).add j=⟨g,j,none⟩:=by unfold Addr.add;split<;>simp_all
 have h1:=h.at_ hu;rw [Nat.zero_add] at h1;rw [hadd,h1]
structure TabR (w:World) (A:oAx) (rows:List zGg) (n:Nat) (P:Nat->Nat->Int):Prop where
 o:zHh w A (rows.map (zGg.val n))
 r:∀ r∈rows,zHh w (some ⟨r.g,0,none⟩) (zTd r.us)
 l:∀ r∈rows,r.us.length=n
 num:∀ i,(h:i<rows.length)->∀ k,(h2:k<rows[i].us.length)->zBs w rows[i].us[k].val (P i k)
theorem TabR.below {w w':World} {A:oAx} {rows:List zGg} {n:Nat} {P:Nat->Nat->Int} (h:TabR w A rows n P) (hb:Below w.heap.size w w'):TabR w' A rows n P:=⟨h.o.below hb,fun r hr=>(h.r r hr).below hb,h.l,fun i h1 k h2=>(h.num i h1 k h2).below hb⟩
theorem zHa.read {B:Nat} {w:World} {A:oAx} {c:Nat} {rows:List zGg} {n:Nat} {P:Nat->Nat->Int} (h:zHa B w (.slice A rows.length c) rows n P):TabR w A rows n P :=
 ⟨zUk h.o,fun r hr=>zUk (c:=r.cp) (h.r r hr),h.l,h.num⟩
theorem zHa.mono {B B':Nat} {w:World} {V:Value} {rows:List zGg} {n:Nat} {P:Nat->Nat->Int} (h:zHa B w V rows n P) (hb:B'<=B):zHa B' w V rows n P :=
 ⟨zUl h.o hb,fun r hr=>zUl (h.r r hr) hb,h.l,h.nd,h.num⟩
theorem zHa.push {B:Nat} {w w6:World} {V V2:Value} {rows:List zGg} {n:Nat} {P:Nat->Nat->Int} {r:zGg} (h:zHa B w V rows n P) (hr:w.ownsRow B 62 2 (r.val n) n (zTd r.us)) (hl:r.us.length=n) (hf:∀ a∈rows,a.g≠r.g) (hnum:∀ k,(h2:k<r.us.length)->zBs w r.us[k].val (P rows.length k)) (hV:NoU w V)
  (ho:w6.ownsRow B 67 1 V2 (rows.length+1) (rows.map (zGg.val n)++[r.val n])) (hg:w.grownBy w6 V.ownBlock):zHa B w6 V2 (rows++[r]) n P:=by
 refine ⟨by rw [List.length_append,List.map_append];exact ho,fun a ha=>?_,fun a ha=>?_,?_,fun i hi k hk=>?_⟩
 ·rcases List.mem_append.1 ha with h1|h1
  ·exact (h.r a h1).kept hg (zUr (h.r a h1) h.o dCx)
  rw [List.mem_singleton.1 h1];exact hr.kept hg (zUr hr h.o dCx)
 ·rcases List.mem_append.1 ha with h1|h1
  ·exact h.l a h1
  rw [List.mem_singleton.1 h1];exact hl
 ·rw [List.map_append,List.nodup_append];refine ⟨h.nd,by simp,fun a ha b hb=>?_⟩;obtain ⟨a',ha',rfl⟩:=List.mem_map.1 ha
  simp at hb
  subst hb;exact hf a' ha'
 by_cases e:i<rows.length
 ·have e2:(rows++[r])[i]=rows[i]:=List.getElem_append_left e;simp only [e2] at hk ⊢;exact (h.num i e k hk).clean hV hg
 obtain rfl:i=rows.length:=by simp at hi;omega
 have e2:(rows++[r])[rows.length]=r:=by simp
 simp only [e2] at hk ⊢;exact (hnum k hk).clean hV hg
structure zFh (B:Nat) (w wr:World) (x:Nat) (V:Value) (rows:List zGg) (n:Nat) (P:Nat->Nat->Int) (v:zCq):Prop where
 box:Blk wr x 69 [V,.slice none 0 0,.bool v.nb,.slice v.ad v.l v.c,.bool false]
 tab:zHa B wr V rows n P
 nou:NoU wr V
 val:zBs wr v.val 1
 xB:x<B
 bel:Bex B x w wr
 wB:B<=w.heap.size
section
variable {B x n:Nat} {w wr w' w6:World} {V V2:Value} {rows:List zGg} {P:Nat->Nat->Int} {v:zCq} {r:zGg}
theorem zFh.below (h:zFh B w wr x V rows n P v) (hb:Below wr.heap.size wr w'):zFh B w w' x V rows n P v :=
 ⟨h.box.below hb,h.tab.below hb,h.nou.below (fun k hk=>(h.tab.o.lt k hk).2) hb,h.val.below hb,h.xB,h.bel.below (Nat.le_trans h.wB h.bel.size) hb,h.wB⟩
theorem zFh.alloc (h:zFh B w wr x V rows n P v) (o:Obj):zFh B w (wr.alloc o) x V rows n P v:=h.below (bRx.alloc lRx o)
theorem zFh.far (h:zFh B w wr x V rows n P v):some x≠V.ownBlock:=fun e=>by
 have h1:=(h.tab.o.lt x e.symm).1;have h2:=h.xB;omega
theorem zFh.push (h:zFh B w wr x V rows n P v) (hr:wr.ownsRow B 62 2 (r.val n) n (zTd r.us)) (hl:r.us.length=n) (hf:∀ a∈rows,a.g≠r.g) (hnum:∀ k,(h2:k<r.us.length)->zBs wr r.us[k].val (P rows.length k))
  (ho:w6.ownsRow B 67 1 V2 (rows.length+1) (rows.map (zGg.val n)++[r.val n])) (hg:wr.grownBy w6 V.ownBlock) (hn:NoU w6 V2):zFh B w (w6.setCell ⟨x,0,none⟩ V2) x V2 (rows++[r]) n P v:=by
 have hb6:=h.box.grown hg h.far;have ht6:=h.tab.push hr hl hf hnum h.nou ho hg
 have hV:∀ z,V ≠ .int .u64 z:=by obtain ⟨A,c,rfl, -⟩:=zUj h.tab.o;intro z e;cases e
 have hno:∀ y∈([V,.slice none 0 0,.bool v.nb,.slice v.ad v.l v.c,.bool false]:List Value),∀ z,y ≠ .int .u64 z:=zIw hV (fun z e=>by cases e);refine ⟨hb6.set 0 V2,ht6.far h.xB hb6 hno 0 V2,hn.kept (zOc x 0 V2) (fun k hk=>(ho.lt k hk).2) ?_,(h.val.clean h.nou hg).box hb6 hno (zOc x 0 V2),h.xB,(h.bel.grown (Nat.le_trans h.wB h.bel.size) hg (fun k hk=>(h.tab.o.lt k hk).1)).set (.inl rfl) _ _,h.wB⟩
 rcases hv:V2.ownBlock with _|g
 ·exact .inl rfl
 refine .inr ?_;have:=(ho.lt g hv).1;have:=h.xB
 intro e
 injection e with e;omega
end
structure zFg (B:Nat) (w:World) (V:Value) (rows:List zGg) (n:Nat) (P:Nat->Nat->Int) (pv:Value) (ps:List Nat) (v:zCq) (vz:Int):Prop where
 tab:zHa B w V rows n P
 val:zBs w v.val vz
 pvt:w.ownsRow B 3 1 pv ps.length (vn ps)
theorem zFg.far {B:Nat} {w:World} {V:Value} {rows:List zGg} {n:Nat} {P:Nat->Nat->Int} {pv:Value} {ps:List Nat} {v:zCq} {vz:Int} (h:zFg B w V rows n P pv ps v vz) {x:Nat} {t:TypeId} {cs:List Value} (hx:x<B) (hb:Blk w x t cs) (hcs:∀ a∈cs,∀ z,a ≠ .int .u64 z) (j:Nat) (u:Value):zFg B (w.setCell ⟨x,j,none⟩ u) V rows n P pv ps v vz :=
 ⟨h.tab.far hx hb hcs j u,h.val.box hb hcs (zOc x j u),ownsRow_setCell_below h.pvt (a:=⟨x,j,none⟩) hx u⟩
theorem zFg.below {B:Nat} {w w':World} {V:Value} {rows:List zGg} {n:Nat} {P:Nat->Nat->Int} {pv:Value} {ps:List Nat} {v:zCq} {vz:Int} (h:zFg B w V rows n P pv ps v vz) (hb:Below w.heap.size w w'):zFg B w' V rows n P pv ps v vz:=⟨h.tab.below hb,h.val.below hb,zUm h.pvt hb⟩
theorem zFg.mono {B B':Nat} {w:World} {V:Value} {rows:List zGg} {n:Nat} {P:Nat->Nat->Int} {pv:Value} {ps:List Nat} {v:zCq} {vz:Int} (h:zFg B w V rows n P pv ps v vz) (hb:B'<=B):zFg B' w V rows n P pv ps v vz:=⟨h.tab.mono hb,h.val,zUl h.pvt hb⟩
theorem zSl {cs:List Value} {u:Value} {j:Nat} (h:∀ a∈cs,∀ z,a ≠ .int .u64 z) (hu:∀ z,u ≠ .int .u64 z):∀ a∈cs.set j u,∀ z,a ≠ .int .u64 z:=fun a ha=>by
 rcases List.mem_or_eq_of_mem_set ha with h1|rfl
 ·exact h a h1
 exact hu
theorem zFg.far5 {B:Nat} {w:World} {V:Value} {rows:List zGg} {n:Nat} {P:Nat->Nat->Int} {pv:Value} {ps:List Nat} {v:zCq} {vz:Int} (h:zFg B w V rows n P pv ps v vz) {x:Nat} {t:TypeId} {cs:List Value} (hx:x<B) (hb:Blk w x t cs) (hcs:∀ a∈cs,∀ z,a ≠ .int .u64 z) {a b c d e:Value} (ha:∀ z,a ≠ .int .u64 z) (hb':∀ z,b ≠ .int .u64 z) (hc:∀ z,c ≠ .int .u64 z) (hd:∀ z,d ≠ .int .u64 z) :
  zFg B (((((w.setCell ⟨x,0,none⟩ a).setCell ⟨x,1,none⟩ b).setCell ⟨x,2,none⟩ c).setCell ⟨x,3,none⟩ d).setCell ⟨x,4,none⟩ e) V rows n P pv ps v vz :=
 ((((h.far hx hb hcs 0 a).far hx (hb.set 0 a) (zSl hcs ha) 1 b).far hx ((hb.set 0 a).set 1 b) (zSl (zSl hcs ha) hb') 2 c).far hx (((hb.set 0 a).set 1 b).set 2 c) (zSl (zSl (zSl hcs ha) hb') hc) 3 d).far hx ((((hb.set 0 a).set 1 b).set 2 c).set 3 d) (zSl (zSl (zSl (zSl hcs ha) hb') hc) hd) 4 e
def RetRed (w:World) (m n:Nat) (s:zAr) (e:Ending) (w':World):Prop:=∃ (R cR:Nat) (rows:List zGg) (pv:Value) (v:zCq),e = .returned (.agg #[.slice (some ⟨R,0,none⟩) m cR,pv,.bool v.nb,.slice v.ad v.l v.c,.bool s.odd])/\rows.length=m/\zFg w.heap.size w' (.slice (some ⟨R,0,none⟩) m cR) rows n s.P pv s.ps v s.v/\Below w.heap.size w w'
theorem zFi (A:oAx) (c n cols:Nat) (qs:List zGg) (P:Nat->Nat->Int) (w:World) (h:TabR w A qs n P) (hm1:1<=qs.length) (hm2:qs.length<=12) (hn1:1<=n) (hn2:n<=100) (hcols:cols<=n) (hL:∀ i k,i<qs.length->LL (P i k)<=70) :
  Calls Tryz.prog 35 #[.slice A qs.length c,.int .i64 (cols:Int)] w (RetRed w qs.length n (eli qs.length P cols)):=by
 generalize hQ:RetRed w qs.length n (eli qs.length P cols)=Q;replace hQ:=oH hQ;obtain ⟨i0,hi,hz0,hz1,hz2⟩:=info_parts Tryz.infoNum;obtain ⟨j0,hj,hy0,hy1,hy2⟩:=info_parts Tryz.infoNums;obtain ⟨b,off,rfl, -⟩:=h.o (by intro e;rw [List.map_eq_nil_iff] at e;subst e;simp at hm1);have HT:=oH h;have HL:=oH hL;clear h hL
 go_enter Tryz.func35,Tryz.ntmps35
 go_wp2_with fail;refine (zCb _).mono ?_;rintro e w2 ⟨v2,rfl,hv2,hb2⟩;have HV2:=oH hv2;have HB2:=oH (((Below.refl w.heap.size w).alloc lRx (.cells #[.slice none 0 0,.slice none 0 0,.bool false,.slice none 0 0,.bool false] 69)).trans (hb2.mono sMx));have HR2:=oH ((Blk.new w 69 [.slice none 0 0,.slice none 0 0,.bool false,.slice none 0 0,.bool false]).below hb2);obtain ⟨na,A1,l1,c1,rfl⟩:=hv2.slice;clear hv2 hb2;go_wp2_with fail;have H0:=oH (show zFh (w2.heap.size+1) (w2.alloc (.cells #[.slice none 0 0,.slice none 0 0,.bool na,.slice A1 l1 c1,.bool false] 69)) (w2.alloc (.cells #[.slice none 0 0,.slice none 0 0,.bool na,.slice A1 l1 c1,.bool false] 69)) w2.heap.size (.slice none 0 0) [] n P ⟨na,A1,l1,c1⟩ from ⟨Blk.new _ _ _,zHa.zero _ _ _ _,NoU.nil _ _ _,HV2.below (bA),Nat.lt_succ_self _,Bex.refl _ _ _,by simp⟩);have HBb:=oH (HB2.alloc HB2.size (.cells #[.slice none 0 0,.slice none 0 0,.bool na,.slice A1 l1 c1,.bool false] 69))
 have HRb:=oH (HR2.alloc (.cells #[.slice none 0 0,.slice none 0 0,.bool na,.slice A1 l1 c1,.bool false] 69));have hxw:w.heap.size<w2.heap.size:=HR2.lt;generalize w2.alloc (.cells #[.slice none 0 0,.slice none 0 0,.bool na,.slice A1 l1 c1,.bool false] 69)=wb at *;clear HV2 HB2 HR2;generalize w2.heap.size=x at *
 go_loopw [13] (fun iv wr=>∃ (outs:List zGg) (V:Value),iv = .int .i64 (outs.length:Int)/\outs.length<=qs.length/\zFh (x+1) wb wr x V outs n P ⟨na,A1,l1,c1⟩) (fun iv _=>qs.length-(intOf iv).toNat)
 ·exact ⟨[],_,rfl,oLx,H0.out⟩
 obtain ⟨outs,V,rfl,hk,hs⟩:=hrel;obtain ⟨AV,cV,rfl, -⟩:=zUj hs.tab.o;have HS:=oH hs;have HBr:=oH (HBb.trans (hs.bel.toBelow (b:=w.heap.size) oMx oMx));have hszr:=Nat.le_trans hs.wB hs.bel.size;clear hs
 by_cases hlt:outs.length<qs.length
 ·have HTr:=oH (HT.below HBr.out);have hci:=HTr.o.at_ (i:=outs.length) (List.getElem?_eq_getElem (by simpa using hlt));simp only [List.getElem_map,zGg.val] at hci;have HRW:=oH (HTr.r _ (List.getElem_mem hlt));have HRL:=oH (HTr.l _ (List.getElem_mem hlt));have HNU:=oH (HTr.num outs.length hlt);generalize qs[outs.length]=q at *;obtain ⟨qg,qc,qu⟩:=q;have HLN:=oH (show (zTd qu).length=n*2 by rw [zTf];have:=HRL.out;simp only at this;rw [this]);simp only at hci
  have hx1:(0:Int)<=(outs.length:Int):=by omega
  have hx2:(outs.length:Int)<(qs.length:Int):=by omega
  have k0:=HS.box.at_ (i:=0) rfl;have f0:=HS.box.fr 0
  have hmax:outs.length<=12:=by omega
  have HFG:=oH (fun a (ha:a∈outs)=>(show a.g<wr.heap.size from ((HS.tab.r a ha).lt _ rfl).2));clear HTr;go_wp2_with fail
  go_region_law (first|(refine xAy _ (by rfl) _ _ _ (by rfl) wr.heap.size 62 i0 _ 2 32 Tryz.underlying67 hi hz0 hz1 hz2 rfl dCx (.slice none 0 0) 0 [] (by go_simp) (World.ownsRow_nil _ _ _ _) ⟨qg,0,none⟩ n qc (zTd qu) (by go_simp) HLN.out (xFp (HRW.below bRx.drew)) numc_one oMx (by unfold maxLen;omega) oMx sMx (NoU.nil _ _ _) zTk zTg ?_;intro g1 cap1 w5 hown5 hgrow5 hno5;have hb5:Below wr.heap.size wr w5:=(bRx.drew).trans (zIp hgrow5);rw [Nat.zero_add,List.nil_append] at hown5;have HS5:=oH (HS.below hb5);have HO5:=oH hown5;have HN5:=oH (fun k hk=>(HNU.out k hk).below hb5);have HG5:=oH (hown5.lt g1 rfl).1;have k5:=HS5.box.at_ (i:=0) rfl;have k5a:=(HS5.alloc (.cells #[.slice (some ⟨g1,0,none⟩) n cap1] 67)).box.at_ (i:=0) rfl;clear hown5 hgrow5 hno5 hb5)|(refine xAy _ (by rfl) _ _ _ (by rfl) (x+1) 67 j0 _ 1 24 Tryz.underlying63 hj hy0 hy1 hy2 rfl oMx (.slice AV outs.length cV) outs.length (outs.map (zGg.val n)) (by go_simp) (HS5.alloc (.cells #[.slice (some ⟨g1,0,none⟩) n cap1] 67)).tab.o ⟨w5.heap.size,0,none⟩ 1 1 [.slice (some ⟨g1,0,none⟩) n cap1] (by go_simp) rfl (World.news_of_block (cs:=#[.slice (some ⟨g1,0,none⟩) n cap1]) (t:=67) (fr:=(0,0)) (heap_alloc_new w5 _)) zZu oMx (by unfold maxLen;omega) oMx (by have h9:=HS5.box.lt;simp;omega) (HS5.alloc (.cells #[.slice (some ⟨g1,0,none⟩) n cap1] 67)).nou zZx sl_no ?_;intro g2 cap2 w6 hown6 hgrow6 hno6;have HS6:=oH ((HS5.alloc (.cells #[.slice (some ⟨g1,0,none⟩) n cap1] 67)).push (r:=⟨g1,cap1,qu⟩) (zUl (HO5.alloc _) hszr) HRL.out (fun a ha=>by have h8:=HFG.out a ha;have h9:=HG5.out;show a.g≠g1;omega) (fun k hk=>(HN5.out k hk).below (bA)) hown6 hgrow6 hno6);have HB6:=(HS5.alloc (.cells #[.slice (some ⟨g1,0,none⟩) n cap1] 67)).box.grown hgrow6 (HS5.alloc (.cells #[.slice (some ⟨g1,0,none⟩) n cap1] 67)).far;have k6:=HB6.at_ (i:=0) rfl;have f6:=HB6.fr 0;clear hown6 hgrow6 hno6 HB6))
  all_goals go_wp2_with fail
  all_goals go_roundw
  all_goals first
   | exact ⟨outs++[⟨g1,cap1,qu⟩],_,by simp only [List.length_append,List.length_singleton];go_num,by simp;omega,HS6.out⟩
   | (simp [intOf];omega)
 have hk':outs.length=qs.length:=by omega
 obtain ⟨wx,rfl⟩:=nWx wr;obtain ⟨R,rfl⟩:=zUi HS.tab.o oMx;have HP0:=oH (show zDf (x+1) wx wx x R cV outs n (eli qs.length P 0).P (.slice none 0 0) (eli qs.length P 0).ps ⟨na,A1,l1,c1⟩ (eli qs.length P 0).v (eli qs.length P 0).odd from ⟨HS.box,HS.tab,HS.val,World.ownsRow_nil _ _ _ _,NoU.nil _ _ _,HS.xB,Bex.refl _ _ _,hszr⟩);have HK:=oH hk';clear hk';go_wp2_with fail
 go_loopw [8] (fun iv wr=>∃ (k:Nat) (rows:List zGg) (pv:Value) (v:zCq),iv = .int .i64 (k:Int)/\k<=cols/\rows.length=qs.length/\zDf (x+1) wx wr x R cV rows n (eli qs.length P k).P pv (eli qs.length P k).ps v (eli qs.length P k).v (eli qs.length P k).odd) (fun iv _=>cols-(intOf iv).toNat)
 ·exact ⟨0,outs,_,_,rfl,oLx,HK.out,HP0.out⟩
 obtain ⟨k,rows,pv,v,rfl,hk2,hrl,hs⟩:=hrel;obtain ⟨wq,rfl⟩:=nWx wr;have HRL:=oH hrl
 by_cases hlt:k<cols
 ·have HS2:=oH hs;obtain ⟨hE1,hE2,hE3⟩:=zMu HL.out zBz k
  have hv0:(eli qs.length P k).v≠0:=by
   obtain ⟨F,hg, -⟩:=zMt qs.length P k
   intro e
   exact hg.v0 (by rw [e];rfl)
  have hstep:eli qs.length P (k+1)=(eli qs.length P k).step qs.length k:=rfl
  have HC:=oH (fun (W:World) (hW:zDe (x+1) x R cV n rows.length ((zAr.mk (eli qs.length P k).P (eli qs.length P k).ps (eli qs.length P k).v (eli qs.length P k).odd).step rows.length k) wq W)=>(show ∃ (rows:List zGg) (pv:Value) (v:zCq),rows.length=qs.length/\zDf (x+1) wx W x R cV rows n (eli qs.length P (k+1)).P pv (eli qs.length P (k+1)).ps v (eli qs.length P (k+1)).v (eli qs.length P (k+1)).odd from by
   obtain ⟨rows3,pv3,v3,hl3,hs3⟩:=hW;rw [hrl] at hl3 hs3
   exact ⟨rows3,pv3,v3,hl3,hs3.from hs.bel hs.wB⟩))
  have HPV:=oH (zVe (x+1) x R cV k n 300000 rows _ pv _ v _ _ wq hs.base oMx lRx (fun i j hi=>Nat.le_trans (hE1 i j oMx) (zOf lRx oMx)) (Nat.le_trans hE2 (zOf lRx oMx)) hv0 oMx oMx oMx);clear hs hE1 hE2 hE3 hv0 hstep hrl;go_wp2_with fail;refine HPV.mono ?_;rintro e w3 ⟨rfl,hpost⟩;have HN:=oH (HC.out w3 hpost);clear hpost;go_wp2_with fail;go_roundw
  case rel =>
   obtain ⟨rows3,pv3,v3,hl3,hs3⟩:=HN.out;exact ⟨k+1,rows3,pv3,v3,by go_num,oMx,hl3,hs3⟩
  simp [intOf];omega
 obtain rfl:k=cols:=by omega
 obtain ⟨Ap,cp,rfl⟩:=hs.pform;have HS2:=oH hs;have k0:=hs.box.at_ (i:=0) rfl;have k1:=hs.box.at_ (i:=1) rfl;have k2:=hs.box.at_ (i:=2) rfl;have k3:=hs.box.at_ (i:=3) rfl;have k4:=hs.box.at_ (i:=4) rfl;have hr:=hs.bel.blk (HS.bel.blk HRb.out oMx oMx) oMx oMx;have HR:=oH hr;have r0:=hr.at_ (i:=0) rfl;have r1:=hr.at_ (i:=1) rfl;have r2:=hr.at_ (i:=2) rfl;have r3:=hr.at_ (i:=3) rfl;have r4:=hr.at_ (i:=4) rfl;have f0:=hr.fr 0;have f1:=hr.fr 1;have f2:=hr.fr 2;have f3:=hr.fr 3;have f4:=hr.fr 4;have HBf:=oH (HBr.trans (hs.bel.toBelow (b:=w.heap.size) oMx oMx));have HRR:=oH (show zFg (x+1) wq (.slice (some ⟨R,0,none⟩) rows.length cV) rows n (eli qs.length P k).P (.slice Ap (eli qs.length P k).ps.length cp) (eli qs.length P k).ps v (eli qs.length P k).v from ⟨hs.tab,hs.val,hs.pvt⟩);clear hs hr hrl;generalize hps:(eli qs.length P k).ps.length=pl at *;replace hps:=oH hps;generalize hodd:(eli qs.length P k).odd=od at *
 replace hodd:=oH hodd;generalize hrw:rows.length=rl at *;replace hrw:=oH hrw;go_wp2_with fail;refine bodyPost_ret (v := .agg #[.slice (some ⟨R,0,none⟩) rl cV,.slice Ap pl cp,.bool v.nb,.slice v.ad v.l v.c,.bool od]) (by simp [results,Tryz.results35,go_sem,r0,r1,r2,r3,r4]) rfl ?_;have e1:=HRL.out;have e2:=HRR.out;rw [e1] at e2;rw [<-hQ.out,<-hodd.out,<-hps.out];refine ⟨R,cV,rows,_,v,by rw [e1,hps.out],by rw [hrw.out];exact e1,(e2.far5 oMx HR.out (zIw (fun z e=>by cases e) (fun z e=>by cases e)) (fun z e=>by cases e) (fun z e=>by cases e) (fun z e=>by cases e) (fun z e=>by cases e)).mono oMx,((((HBf.setCell (p:=⟨w.heap.size,0,none⟩) lRx _).setCell (p:=⟨w.heap.size,1,none⟩) lRx _).setCell (p:=⟨w.heap.size,2,none⟩) lRx _).setCell (p:=⟨w.heap.size,3,none⟩) lRx _).setCell (p:=⟨w.heap.size,4,none⟩) lRx _⟩
section
variable {P:Program} (w:World)
theorem zYd (t ty:TypeId) (base:Nat) (e:TypeId) (i:TypeInfo) (z:Value) (size bytes:Nat) (ht:P.underlying t=some (.slice e)) (hi:P.info? e=some i) (hz:i.zero=some z)
  (hsize:i.size=size) (hby:i.bytes=bytes) (hzs:z.cells.size=size) (hsz:0<size)
  (v:Value) (n:Nat) (xs:List Value) (hown:w.ownsRow base e size v n xs)
  (ad:Addr) (m c:Nat) (news:List Value) (hl:news.length=m*size) (hnews:∀ j u,news[j]? = some u->w.cell? (ad.add j)=some u) (h1:∀ u∈news,u.oneCell'=true)
  (hm:0<m) (h63:n+m<=maxLen) (hbytes:(n+m)*bytes<=140737488355328) (hbase:base<=w.heap.size) (hcl:NoU w v) (hzu:∀ x∈z.cells,∀ y,x ≠ .int .u64 y) (hnu:∀ x∈news,∀ y,x ≠ .int .u64 y) :
  ∃ g cap w',(Builtin.append_ #[t,t] ty #[v,.slice (some ad) m c]).run P w = .ok (.slice (some ⟨g,0,none⟩) (n+m) cap) w' /\
   w'.ownsRow base e size (.slice (some ⟨g,0,none⟩) (n+m) cap) (n+m) (xs++news)/\w.grownBy w' v.ownBlock/\NoU w' (.slice (some ⟨g,0,none⟩) (n+m) cap)/\(v.ownBlock=some g\/g=w.heap.size):=by
 obtain ⟨g,cap,w',hr,h2,h3,h4⟩:=zYf (P:=P) w t ty base e i z size bytes ht hi hz hsize hby hzs hsz v n xs hown ad m c news hl hnews h1 hm h63 hbytes hbase hcl hzu hnu;obtain ⟨g2,cap2,w2,hr2, -, -,h5, -⟩:=run_append_lies (P:=P) w t ty base e i z size bytes ht hi hz hsize hby hzs hsz v n xs hown ad m c news hl hnews h1 hm h63 hbytes hbase _ rfl;refine ⟨g,cap,w',hr,h2,h3,h4,?_⟩;rw [hr] at hr2;injection hr2 with hv hw;injection hv with hv;injection hv with hv;injection hv with hv;rw [hv];exact h5
theorem xAw {ops:Array Oper} {o:Oper} {a:Act} {K:Act->World->Prop} {Q:Exit->Act->World->Prop} {E:Prop} (hgd:o.guard=none) (s x:Operand) (t:TypeId)
  (ho:o.op = .call { callee := .builtin .append,args:=#[s,x],argTypes:=#[t,t] })
  (base:Nat) (e:TypeId) (i:TypeInfo) (z:Value) (size bytes:Nat) (ht:P.underlying t=some (.slice e)) (hi:P.info? e=some i) (hz:i.zero=some z)
  (hsize:i.size=size) (hby:i.bytes=bytes) (hzs:z.cells.size=size) (hsz:0<size)
  (v:Value) (n:Nat) (xs:List Value) (hs:a.eval s=v) (hown:w.ownsRow base e size v n xs)
  (ad:Addr) (m c:Nat) (news:List Value) (hx:a.eval x = .slice (some ad) m c) (hl:news.length=m*size) (hnews:∀ j u,news[j]? = some u->w.cell? (ad.add j)=some u) (h1:∀ u∈news,u.oneCell'=true)
  (hm:0<m) (h63:n+m<=maxLen) (hbytes:(n+m)*bytes<=140737488355328) (hbase:base<=w.heap.size) (hcl:NoU w v) (hzu:∀ x∈z.cells,∀ y,x ≠ .int .u64 y) (hnu:∀ x∈news,∀ y,x ≠ .int .u64 y)
  (h:∀ g cap w',w'.ownsRow base e size (.slice (some ⟨g,0,none⟩) (n+m) cap) (n+m) (xs++news)->w.grownBy w' v.ownBlock->NoU w' (.slice (some ⟨g,0,none⟩) (n+m) cap)->(v.ownBlock=some g\/g=w.heap.size)->K (a.put o.dst (.slice (some ⟨g,0,none⟩) (n+m) cap)) w') :
  if Region.wanted o (yielded ops a.tmps)=true then Oper.wp P o a w K Q else E:=by
 have hw:Region.wanted o (yielded ops a.tmps)=true:=by simp [Region.wanted,hgd]
 rw [if_pos hw];obtain ⟨g,cap,w',hr,h2,h3,h4,h5⟩:=zYd (P:=P) w t o.type base e i z size bytes ht hi hz hsize hby hzs hsz v n xs hown ad m c news hl hnews h1 hm h63 hbytes hbase hcl hzu hnu;unfold Oper.wp execOp;simp only [ho,resolve,invoke,builtin,Sem.run_bind,Sem.run_pure,Result.andThen_ok,List.map_toArray,List.map_cons,List.map_nil,hs,hx,hr];exact h g cap w' h2 h3 h4 h5
end
def zGg.self (r:zGg):Value := .slice (some ⟨r.g,0,none⟩) r.us.length r.cp
structure zHb (B:Nat) (w:World) (V:Value) (rows:List zGg) (P:Nat->Nat->Int):Prop where
 o:w.ownsRow B 67 1 V rows.length (rows.map zGg.self)
 r:∀ r∈rows,w.ownsRow B 62 2 r.self r.us.length (zTd r.us)
 nd:(rows.map (·.g)).Nodup
 num:∀ i,(h:i<rows.length)->∀ k,(h2:k<rows[i].us.length)->zBs w rows[i].us[k].val (P i k)
 nor:∀ r∈rows,NoU w r.self
section
variable {B n:Nat} {w w6 w':World} {V:Value} {rows:List zGg} {P:Nat->Nat->Int}
theorem zYy {r:zGg} (h:r.us.length=n):r.self=r.val n:=by unfold zGg.self zGg.val;rw [h]
theorem zHa.toW (h:zHa B w V rows n P) (hn:∀ r∈rows,NoU w (r.val n)):zHb B w V rows P:=by
 have e:∀ r∈rows,r.self=r.val n:=fun r hr=>zYy (h.l r hr)
 refine ⟨?_,fun r hr=>?_,h.nd,h.num,fun r hr=>by rw [e r hr];exact hn r hr⟩
 ·rw [List.map_congr_left e];exact h.o
 rw [e r hr,h.l r hr];exact h.r r hr
theorem zHb.toN (h:zHb B w V rows P) (hl:∀ r∈rows,r.us.length=n):zHa B w V rows n P:=by
 have e:∀ r∈rows,r.self=r.val n:=fun r hr=>zYy (hl r hr)
 refine ⟨?_,fun r hr=>?_,hl,h.nd,h.num⟩
 ·rw [<-List.map_congr_left e];exact h.o
 have:=h.r r hr;rw [e r hr,hl r hr] at this;exact this
theorem zHb.below (h:zHb B w V rows P) (hb:Below w.heap.size w w'):zHb B w' V rows P:=⟨zUm h.o hb,fun r hr=>zUm (h.r r hr) hb,h.nd,fun i hi k hk=>(h.num i hi k hk).below hb,fun r hr=>(h.nor r hr).below (fun k hk=>((h.r r hr).lt k hk).2) hb⟩
theorem zHb.grow {R c:Nat} (h:zHb B w (.slice (some ⟨R,0,none⟩) rows.length c) rows P) {i:Nat} (hi:i<rows.length) {r2:zGg} {u:zCq} {z:Int} (hu2:r2.us=rows[i].us++[u]) (hu:zBs w u.val z) (hz:P i rows[i].us.length=z)
  (ho:w6.ownsRow B 62 2 r2.self r2.us.length (zTd r2.us)) (hg:w.grownBy w6 rows[i].self.ownBlock) (hn:NoU w6 r2.self) (hgg:rows[i].g=r2.g\/r2.g=w.heap.size) :
  zHb B (w6.setCell ⟨R,i,none⟩ r2.self) (.slice (some ⟨R,0,none⟩) rows.length c) (rows.set i r2) P/\(∀ v y,zBs w v y->zBs (w6.setCell ⟨R,i,none⟩ r2.self) v y)/\Below B w (w6.setCell ⟨R,i,none⟩ r2.self):=by
 have hri:=h.r _ (List.getElem_mem hi);have hoo:w6.ownsRow B 67 1 (.slice (some ⟨R,0,none⟩) rows.length c) rows.length (rows.map zGg.self):=h.o.kept hg (zUr h.o hri dCx);have hs1:=(hoo.stored i r2.self).1;have hg1:=(hoo.stored i r2.self).2
 have hno:∀ x∈rows.map zGg.self,∀ z,x ≠ .int .u64 z:=fun x hx z e=>by
  obtain ⟨a,_,e2⟩:=List.mem_map.1 hx;rw [<-e2] at e
  cases e
 have hkeep:∀ v y,zBs w v y->zBs (w6.setCell ⟨R,i,none⟩ r2.self) v y:=fun v y hv=>(hv.clean (h.nor _ (List.getElem_mem hi)) hg).row hoo hno oMx _
 have hmap:(rows.map zGg.self).set i r2.self=(rows.set i r2).map zGg.self:=by rw [List.map_set]
 rw [hmap] at hs1
 have hne:∀ a,(ha:a<rows.length)->a≠i->rows[a].g≠rows[i].g:=fun a ha hai=>by
  have:=List.pairwise_iff_getElem.1 h.nd
  rcases Nat.lt_or_ge a i with h1|h1
  ·have:=this a i (by simpa using ha) (by simpa using hi) h1
   simpa using this
  have:=this i a (by simpa using hi) (by simpa using ha) oMx
  simpa using Ne.symm (by simpa using this)
 have hlt:∀ a,(ha:a<rows.length)->rows[a].g<w.heap.size:=fun a ha=>((h.r _ (List.getElem_mem ha)).lt _ rfl).2
 have hkr:∀ a,(ha:a<rows.length)->a≠i->(w6.setCell ⟨R,i,none⟩ r2.self).ownsRow B 62 2 rows[a].self rows[a].us.length (zTd rows[a].us)/\NoU (w6.setCell ⟨R,i,none⟩ r2.self) rows[a].self:=fun a ha hai=>by
  have h1:=h.r _ (List.getElem_mem ha)
  have h2:rows[a].self.ownBlock=none\/rows[a].self.ownBlock≠rows[i].self.ownBlock := .inr (by
   intro e
   have:some rows[a].g=some rows[i].g:=e;injection this with this
   exact hne a ha hai this)
  have h3:=h1.kept hg h2;have h4:=(h.nor _ (List.getElem_mem ha)).kept hg (fun k hk=>(h1.lt k hk).2) h2;have h5:=zUr h3 hoo dCx;exact ⟨h3.kept hg1 h5,h4.kept hg1 (fun k hk=>(h3.lt k hk).2) h5⟩
 have ho5:=zUr ho hoo dCx;have hown2:=ho.kept hg1 ho5;have hnou2:=hn.kept hg1 (fun k hk=>(ho.lt k hk).2) ho5;have hR:=(h.o.lt R rfl).1;refine ⟨⟨by rw [List.length_set];exact hs1,fun r hr=>?_,?_,fun a ha k hk=>?_,fun r hr=>?_⟩,hkeep,?_⟩
 ·obtain ⟨a,ha,rfl⟩:=List.getElem_of_mem hr
  have ha':a<rows.length:=by simpa using ha
  by_cases e:a=i
  ·subst e;simp only [List.getElem_set_self];exact hown2
  rw [List.getElem_set_ne (Ne.symm e)];exact (hkr a ha' e).1
 ·rw [List.map_set];rw [List.nodup_iff_pairwise_ne,List.pairwise_iff_getElem]
  intro a b ha hb hab
  have ha':a<rows.length:=by simpa using ha
  have hb':b<rows.length:=by simpa using hb
  rw [List.getElem_set,List.getElem_set,List.getElem_map,List.getElem_map];have hd:=List.pairwise_iff_getElem.1 h.nd a b (by simpa using ha') (by simpa using hb') hab;rw [List.getElem_map,List.getElem_map] at hd
  split
  ·rename_i e1
   split
   ·omega
   rename_i e2
   subst e1
   rcases hgg with h1|h1
   ·intro e;exact hd (h1.trans e)
   have:=hlt b hb';omega
  rename_i e1
  split
  ·rename_i e2
   subst e2
   rcases hgg with h1|h1
   ·intro e;exact hd (e.trans h1.symm)
   have:=hlt a ha';omega
  exact hd
 ·have ha':a<rows.length:=by simpa using ha
  by_cases e:a=i
  ·subst e;simp only [List.getElem_set_self] at hk ⊢
   have hk2:k<(rows[a].us++[u]).length:=by rw [<-hu2];exact hk
   have e3:r2.us[k]=(rows[a].us++[u])[k]:=by simp only [hu2]
   rw [e3]
   by_cases e4:k<rows[a].us.length
   ·rw [List.getElem_append_left e4];exact hkeep _ _ (h.num a ha' k e4)
   have hk3:k<rows[a].us.length+1:=by simpa using hk2
   obtain rfl:k=rows[a].us.length:=by omega
   rw [List.getElem_append_right oMx];simp only [Nat.sub_self,List.getElem_singleton];rw [hz];exact hkeep _ _ hu
  simp only [List.getElem_set_ne (Ne.symm e)] at hk ⊢;exact hkeep _ _ (h.num a ha' k hk)
 ·obtain ⟨a,ha,rfl⟩:=List.getElem_of_mem hr
  have ha':a<rows.length:=by simpa using ha
  by_cases e:a=i
  ·subst e;simp only [List.getElem_set_self];exact hnou2
  rw [List.getElem_set_ne (Ne.symm e)];exact (hkr a ha' e).2
 exact ((Below.refl B w).grown hg (Nat.le_of_lt (Nat.lt_of_le_of_lt hR (h.o.lt R rfl).2)) (fun k hk=>(hri.lt k hk).1)).setCell (p:=⟨R,i,none⟩) hR _
end
end Go.Proofs.YtbjaplppalcmgaaGreatDoor
