import Derived.Test.YtbjaplppalcmgaaGreatDoorZMF
import Derived.Test.YtbjaplppalcmgaaGreatDoorZMD
set_option maxHeartbeats 16000000
set_option maxRecDepth 100000
set_option linter.unusedVariables false
set_option linter.unusedSimpArgs false
set_option linter.unusedSectionVars false
namespace Go.Proofs.YtbjaplppalcmgaaGreatDoor
open Go.RowKit
structure zGe where
 ad:Option Addr
 cp:Nat
 us:List FrV
def zGe.val (n:Nat) (r:zGe):Value := .slice r.ad n r.cp
structure zGz (B:Nat) (w:World) (V:Value) (rows:List zGe) (n:Nat) (M:mRx):Prop where
 o:w.ownsRow B 71 1 V rows.length (rows.map (zGe.val n))
 nou:NoU w V
 r:∀ r∈rows,w.ownsRow B 73 4 (r.val n) n (frc r.us)
 l:∀ r∈rows,r.us.length=n
 num:∀ i,(h:i<rows.length)->∀ k,(h2:k<rows[i].us.length)->zBo w rows[i].us[k].val (M i k)
theorem Tryz.infoFrs:(Tryz.prog.info? 71).map (fun i=>(i.zero,i.size,i.bytes))=some (some (.slice none 0 0),1,24):=by kernel_rfl
section
variable {B x n:Nat} {w wb wr w' w6:World} {V V2:Value} {rows:List zGe} {M:mRx} {dv:zCq} {D:Int}
theorem NoU.far (h:NoU w V) (hl:∀ k,V.ownBlock=some k->B<=k/\k<w.heap.size) {g:Nat} (hg:g<B) (j:Nat) (u:Value):NoU (w.setCell ⟨g,j,none⟩ u) V:=by
 refine h.kept (zOc g j u) (fun k hk=>(hl k hk).2) ?_
 rcases hv:V.ownBlock with _|k
 ·exact .inl rfl
 refine .inr ?_;have:=(hl k hv).1
 intro e
 injection e with e;omega
theorem zGz.below (h:zGz B w V rows n M) (hb:Below w.heap.size w w'):zGz B w' V rows n M:=⟨zUm h.o hb,h.nou.below (fun k hk=>(h.o.lt k hk).2) hb,fun r hr=>zUm (h.r r hr) hb,h.l,fun i hi k hk=>(h.num i hi k hk).below hb⟩
theorem zGz.far (h:zGz B w V rows n M) {g:Nat} {t:TypeId} {cs:List Value} (hx:g<B) (hb:Blk w g t cs) (hcs:∀ a∈cs,∀ z,a ≠ .int .u64 z) (j:Nat) (u:Value):zGz B (w.setCell ⟨g,j,none⟩ u) V rows n M :=
 ⟨ownsRow_setCell_below h.o (a:=⟨g,j,none⟩) hx u,h.nou.far (fun k hk=>h.o.lt k hk) hx j u,fun r hr=>ownsRow_setCell_below (h.r r hr) (a:=⟨g,j,none⟩) hx u,h.l,fun i hi k hk=>(h.num i hi k hk).box hb hcs (zOc g j u)⟩
theorem zGz.zero (B:Nat) (w:World) (n:Nat) (M:mRx):zGz B w (.slice none 0 0) [] n M :=
 ⟨World.ownsRow_nil _ _ _ _,NoU.nil _ _ _,fun r hr=>(by cases hr),fun r hr=>(by cases hr),fun i hi=>(by simp at hi)⟩
theorem zGz.grown (h:zGz B w V rows n M) {B' e s k:Nat} {pv:Value} {xs:List Value} (hp:w.ownsRow B' e s pv k xs) (he:71≠e/\73≠e) (hn:NoU w pv) (hg:w.grownBy w' pv.ownBlock):zGz B w' V rows n M :=
 ⟨h.o.kept hg (zUr h.o hp he.1),h.nou.kept hg (fun k hk=>(h.o.lt k hk).2) (zUr h.o hp he.1),fun r hr=>(h.r r hr).kept hg (zUr (h.r r hr) hp he.2),h.l,fun i hi k hk=>(h.num i hi k hk).clean hn hg⟩
theorem zGz.push (h:zGz B w V rows n M) {r:zGe} (hr:w.ownsRow B 73 4 (r.val n) n (frc r.us)) (hl:r.us.length=n) (hnum:∀ k,(h2:k<r.us.length)->zBo w r.us[k].val (M rows.length k))
  (ho:w6.ownsRow B 71 1 V2 (rows.length+1) (rows.map (zGe.val n)++[r.val n])) (hg:w.grownBy w6 V.ownBlock) (hn:NoU w6 V2):zGz B w6 V2 (rows++[r]) n M:=by
 refine ⟨by rw [List.length_append,List.map_append];exact ho,hn,fun a ha=>?_,fun a ha=>?_,fun i hi k hk=>?_⟩
 ·rcases List.mem_append.1 ha with h1|h1
  ·exact (h.r a h1).kept hg (zUr (h.r a h1) h.o dCx)
  rw [List.mem_singleton.1 h1];exact hr.kept hg (zUr hr h.o dCx)
 ·rcases List.mem_append.1 ha with h1|h1
  ·exact h.l a h1
  rw [List.mem_singleton.1 h1];exact hl
 by_cases e:i<rows.length
 ·have e2:(rows++[r])[i]=rows[i]:=List.getElem_append_left e;simp only [e2] at hk ⊢;exact (h.num i e k hk).clean h.nou hg
 obtain rfl:i=rows.length:=by simp at hi;omega
 have e2:(rows++[r])[rows.length]=r:=by simp
 simp only [e2] at hk ⊢;exact (hnum k hk).clean h.nou hg
structure OfA (B:Nat) (wb wr:World) (x:Nat) (V:Value) (rows:List zGe) (n:Nat) (M:mRx) (dv:zCq) (D:Int):Prop where
 box:Blk wr x 65 [.bool dv.nb,.slice dv.ad dv.l dv.c,.slice none 0 0]
 tab:zGz B wr V rows n M
 den:zBs wr dv.val D
 xB:x<B
 bel:Bex B x wb wr
 wB:B<=wb.heap.size
theorem xCy {a:Bool} {A A':oAx} {l c l' c':Nat}:∀ y∈([.bool a,.slice A l c,.slice A' l' c']:List Value),∀ z,y ≠ .int .u64 z:=by
 intro y hy z
 simp at hy
 rcases hy with rfl|rfl|rfl<;>(intro e;cases e)
theorem OfA.below (h:OfA B wb wr x V rows n M dv D) (hb:Below wr.heap.size wr w'):OfA B wb w' x V rows n M dv D :=
 ⟨h.box.below hb,h.tab.below hb,h.den.below hb,h.xB,h.bel.below (Nat.le_trans h.wB h.bel.size) hb,h.wB⟩
theorem OfA.alloc (h:OfA B wb wr x V rows n M dv D) (o:Obj):OfA B wb (wr.alloc o) x V rows n M dv D:=h.below (bRx.alloc lRx o)
theorem OfA.put (h:OfA B wb wr x V rows n M dv D) {u:zCq} {z:Int} (hu:zBs wr u.val z):OfA B wb ((wr.setCell ⟨x,0,none⟩ (.bool u.nb)).setCell ⟨x,1,none⟩ (.slice u.ad u.l u.c)) x V rows n M u z:=by
 have b1:Blk (wr.setCell ⟨x,0,none⟩ (.bool u.nb)) x 65 [.bool u.nb,.slice dv.ad dv.l dv.c,.slice none 0 0]:=h.box.set 0 _;exact ⟨b1.set 1 _,(h.tab.far h.xB h.box xCy 0 _).far h.xB b1 xCy 1 _,(hu.box h.box xCy (zOc x 0 _)).box b1 xCy (zOc x 1 _),h.xB,(h.bel.set (.inl rfl) _ _).set (.inl rfl) _ _,h.wB⟩
theorem OfA.push (h:OfA B wb wr x V rows n M dv D) {r:zGe} (hr:wr.ownsRow B 73 4 (r.val n) n (frc r.us)) (hl:r.us.length=n) (hnum:∀ k,(h2:k<r.us.length)->zBo wr r.us[k].val (M rows.length k))
  (ho:w6.ownsRow B 71 1 V2 (rows.length+1) (rows.map (zGe.val n)++[r.val n])) (hg:wr.grownBy w6 V.ownBlock) (hn:NoU w6 V2):OfA B wb w6 x V2 (rows++[r]) n M dv D :=
 ⟨h.box.grown hg (fun e=>by have h1:=(h.tab.o.lt x e.symm).1;have h2:=h.xB;omega),h.tab.push hr hl hnum ho hg hn,h.den.clean h.tab.nou hg,h.xB,h.bel.grown (Nat.le_trans h.wB h.bel.size) hg (fun k hk=>(h.tab.o.lt k hk).1),h.wB⟩
structure OfB (B:Nat) (wb wr:World) (x:Nat) (V:Value) (rows:List zGe) (n:Nat) (M:mRx) (dv:zCq) (D:Int) (C:Value) (outs:List zGg) (P:Nat->Nat->Int):Prop where
 box:Blk wr x 65 [.bool dv.nb,.slice dv.ad dv.l dv.c,C]
 tab:zGz B wr V rows n M
 den:zBs wr dv.val D
 cel:zHa B wr C outs n P
 nou:NoU wr C
 nor:∀ r∈outs,NoU wr (r.val n)
 xB:x<B
 bel:Bex B x wb wr
 wB:B<=wb.heap.size
theorem OfA.turn (h:OfA B wb wr x V rows n M dv D) (P:Nat->Nat->Int):OfB B wb wr x V rows n M dv D (.slice none 0 0) [] P :=
 ⟨h.box,h.tab,h.den,zHa.zero _ _ _ _,NoU.nil _ _ _,fun r hr=>(by cases hr),h.xB,h.bel,h.wB⟩
variable {C C2:Value} {outs:List zGg} {P:Nat->Nat->Int}
theorem OfB.below (h:OfB B wb wr x V rows n M dv D C outs P) (hb:Below wr.heap.size wr w'):OfB B wb w' x V rows n M dv D C outs P :=
 ⟨h.box.below hb,h.tab.below hb,h.den.below hb,h.cel.below hb,h.nou.below (fun k hk=>(h.cel.o.lt k hk).2) hb,fun r hr=>(h.nor r hr).below (fun k hk=>((h.cel.r r hr).lt k hk).2) hb,h.xB,h.bel.below (Nat.le_trans h.wB h.bel.size) hb,h.wB⟩
theorem OfB.alloc (h:OfB B wb wr x V rows n M dv D C outs P) (o:Obj):OfB B wb (wr.alloc o) x V rows n M dv D C outs P:=h.below (bRx.alloc lRx o)
theorem OfB.far (h:OfB B wb wr x V rows n M dv D C outs P):some x≠C.ownBlock:=fun e=>by
 have h1:=(h.cel.o.lt x e.symm).1;have h2:=h.xB;omega
theorem OfB.no (h:OfB B wb wr x V rows n M dv D C outs P):∀ y∈([.bool dv.nb,.slice dv.ad dv.l dv.c,C]:List Value),∀ z,y ≠ .int .u64 z:=by
 obtain ⟨A,c,rfl, -⟩:=zUj h.cel.o;exact xCy
theorem OfB.push (h:OfB B wb wr x V rows n M dv D C outs P) {r:zGg} (hr:wr.ownsRow B 62 2 (r.val n) n (zTd r.us)) (hl:r.us.length=n) (hf:∀ a∈outs,a.g≠r.g) (hnum:∀ k,(h2:k<r.us.length)->zBs wr r.us[k].val (P outs.length k)) (hnr:NoU wr (r.val n))
  (ho:w6.ownsRow B 67 1 C2 (outs.length+1) (outs.map (zGg.val n)++[r.val n])) (hg:wr.grownBy w6 C.ownBlock) (hn:NoU w6 C2):OfB B wb (w6.setCell ⟨x,2,none⟩ C2) x V rows n M dv D C2 (outs++[r]) P:=by
 have hb6:=h.box.grown hg h.far;have ht6:=h.cel.push hr hl hf hnum h.nou ho hg;have hf6:=h.tab.grown h.cel.o dCx h.nou hg;have hno:=h.no
 have hnr6:∀ a∈outs++[r],NoU w6 (a.val n):=fun a ha=>by
  rcases List.mem_append.1 ha with h1|h1
  ·exact (h.nor a h1).kept hg (fun k hk=>((h.cel.r a h1).lt k hk).2) (zUr (h.cel.r a h1) h.cel.o dCx)
  rw [List.mem_singleton.1 h1];exact hnr.kept hg (fun k hk=>(hr.lt k hk).2) (zUr hr h.cel.o dCx)
 exact ⟨hb6.set 2 C2,hf6.far h.xB hb6 hno 2 C2,(h.den.clean h.nou hg).box hb6 hno (zOc x 2 C2),ht6.far h.xB hb6 hno 2 C2,hn.far (fun k hk=>ho.lt k hk) h.xB 2 C2,fun a ha=>(hnr6 a ha).far (fun k hk=>(ht6.r a ha).lt k hk) h.xB 2 C2,h.xB,(h.bel.grown (Nat.le_trans h.wB h.bel.size) hg (fun k hk=>(h.cel.o.lt k hk).1)).set (.inl rfl) _ _,h.wB⟩
end
theorem OfB.res {B x n:Nat} {wb wr:World} {V:Value} {rows:List zGe} {M:mRx} {dv:zCq} {D:Int} {C:Value} {outs:List zGg} {P:Nat->Nat->Int} (h:OfB B wb wr x V rows n M dv D C outs P) {g:Nat} (hg:g<B) {t:TypeId} {cs:List Value} (hb:Blk wr g t cs) (hcs:∀ a∈cs,∀ z,a ≠ .int .u64 z) {a b c:Value} (ha:∀ z,a ≠ .int .u64 z) (hb':∀ z,b ≠ .int .u64 z) :
  zHa B (((wr.setCell ⟨g,0,none⟩ a).setCell ⟨g,1,none⟩ b).setCell ⟨g,2,none⟩ c) C outs n P/\NoU (((wr.setCell ⟨g,0,none⟩ a).setCell ⟨g,1,none⟩ b).setCell ⟨g,2,none⟩ c) C/\(∀ r∈outs,NoU (((wr.setCell ⟨g,0,none⟩ a).setCell ⟨g,1,none⟩ b).setCell ⟨g,2,none⟩ c) (r.val n))/\zBs (((wr.setCell ⟨g,0,none⟩ a).setCell ⟨g,1,none⟩ b).setCell ⟨g,2,none⟩ c) dv.val D:=by
 have hb1:=hb.set 0 a;have hb2:=hb1.set 1 b;have hn1:=zSl (j:=0) hcs ha;have hn2:=zSl (j:=1) hn1 hb';have t1:=h.cel.far hg hb hcs 0 a;have t2:=t1.far hg hb1 hn1 1 b;exact ⟨t2.far hg hb2 hn2 2 c,((h.nou.far (fun k hk=>h.cel.o.lt k hk) hg 0 a).far (fun k hk=>t1.o.lt k hk) hg 1 b).far (fun k hk=>t2.o.lt k hk) hg 2 c,fun r hr=>(((h.nor r hr).far (fun k hk=>(h.cel.r r hr).lt k hk) hg 0 a).far (fun k hk=>(t1.r r hr).lt k hk) hg 1 b).far (fun k hk=>(t2.r r hr).lt k hk) hg 2 c,((h.den.box hb hcs (zOc g 0 a)).box hb1 hn1 (zOc g 1 b)).box hb2 hn2 (zOc g 2 c)⟩
structure RowS (B:Nat) (w:World) (g n:Nat) (us:List zCq) (z:Nat->Int) (k:Nat):Prop where
 own:w.ownsRow B 62 2 (.slice (some ⟨g,0,none⟩) n n) n (zTd us)
 len:us.length=n
 num:∀ j,j<k->(h:j<us.length)->zBs w us[j].val (z j)
 nou:NoU w (.slice (some ⟨g,0,none⟩) n n)
section
variable {B g n k:Nat} {w w':World} {us:List zCq} {z:Nat->Int}
theorem RowS.below (h:RowS B w g n us z k) (hb:Below w.heap.size w w'):RowS B w' g n us z k:=⟨zUm h.own hb,h.len,fun j hj h2=>(h.num j hj h2).below hb,h.nou.below (fun k hk=>(h.own.lt k hk).2) hb⟩
theorem NoU.set {v:Value} (h:NoU w v) (g j:Nat) {u:Value} (hu:∀ z,u ≠ .int .u64 z) (hl:∀ k,v.ownBlock=some k->k<w.heap.size):NoU (w.setCell ⟨g,j,none⟩ u) v:=by
 by_cases e:v.ownBlock=some g
 ·intro g' cs t fr hg hc x hx
  rw [e] at hg;injection hg with hg;subst hg;obtain ⟨o,ho⟩:∃ o,w.heap[g]? = some o:=⟨_,Array.getElem?_eq_getElem (hl g e)⟩
  cases o with
  | cells cs0 t0 fr0 =>
   have h2:(w.setCell ⟨g,j,none⟩ u).heap[g]? = some (.cells (cs0.setIfInBounds j u) t0 fr0):=by
    simp [World.setCell,Array.getElem?_modify,ho]
   rw [h2] at hc;injection hc with hc;injection hc with hc;subst hc
   rcases Array.mem_or_eq_of_mem_setIfInBounds hx with h3|rfl
   ·exact h g cs0 t0 fr0 e ho x h3
   exact hu
  | _ =>
   have h2:(w.setCell ⟨g,j,none⟩ u).heap[g]? = w.heap[g]? := by simp [World.setCell,Array.getElem?_modify,ho]
   rw [h2,ho] at hc
   cases hc
 exact h.kept (zOc g j u) hl (.inr e)
theorem RowS.store (h:RowS B w g n us z k) (hk:k<n) {u:zCq} (hu:zBs w u.val (z k)):RowS B ((w.setCell ⟨g,k*2,none⟩ (.bool u.nb)).setCell ⟨g,k*2+1,none⟩ (.slice u.ad u.l u.c)) g n (us.set k u) z (k+1):=by
 have hr1:=(h.own.stored (k*2) (.bool u.nb)).1;have hr2:=(hr1.stored (k*2+1) (.slice u.ad u.l u.c)).1;rw [zTh (by have:=h.len;omega) u] at hr2
 have hno1:∀ x∈(zTd us).set (k*2) (.bool u.nb),∀ z,x ≠ .int .u64 z:=fun x hx z=>by
  rcases List.mem_or_eq_of_mem_set hx with h1|rfl
  ·exact zTg x h1 z
  intro e;cases e
 have hkeep:∀ v y,zBs w v y->zBs ((w.setCell ⟨g,k*2,none⟩ (.bool u.nb)).setCell ⟨g,k*2+1,none⟩ (.slice u.ad u.l u.c)) v y:=fun v y hv =>
  (hv.row h.own zTg oMx _).row hr1 hno1 oMx _
 refine ⟨hr2,by rw [List.length_set];exact h.len,fun j hj h2=>?_,(h.nou.set g _ (fun z e=>by cases e) (fun k hk=>(h.own.lt k hk).2)).set g _ (fun z e=>by cases e) (fun k hk=>(hr1.lt k hk).2)⟩
 by_cases e:j=k
 ·subst e;rw [List.getElem_set_self];exact hkeep _ _ hu
 rw [List.getElem_set_ne (Ne.symm e)];exact hkeep _ _ (h.num j oMx (by simpa using h2))
end
def xGi:zCq:=⟨false,none,0,0⟩
theorem numc_rep (n:Nat):zTd (List.replicate n xGi)=(madeCells #[.bool false,.slice none 0 0] (n*2)).toList:=by
 apply List.ext_getElem?
 intro j
 by_cases hj:j<n*2
 ·have h1:j/2<(List.replicate n xGi).length:=by simp;omega
  have h2:=zTe h1;rw [List.getElem_replicate] at h2
  have h3:(madeCells #[.bool false,.slice none 0 0] (n*2)).toList[j]? = some ((#[Value.bool false,.slice none 0 0])[j%2]!):=by
   simp [madeCells,hj]
  rw [h3]
  rcases Nat.mod_two_eq_zero_or_one j with h|h
  ·rw [h,show j=j/2*2 by omega];rw [h2.1]
   rfl
  rw [h,show j=j/2*2+1 by omega];rw [h2.2]
  rfl
 rw [List.getElem?_eq_none (by rw [zTf];simp;omega),List.getElem?_eq_none (by simp [madeCells];omega)]
theorem zYl (n:Nat) (hn:n<=1000000) (w:World):(Instr.makeSlice 67 (.int .i64 (n:Int)) (.int .i64 (n:Int))).run Tryz.prog w = .ok (.slice (some ⟨w.heap.size,0,none⟩) n n) (w.alloc (.cells (zTd (List.replicate n xGi)).toArray 62)):=by
 obtain ⟨i0,hi,hz0,hz1,hz2⟩:=info_parts Tryz.infoNum;have hr:=run_make (P:=Tryz.prog) w 67 62 i0 (.agg #[.bool false,.slice none 0 0]) Tryz.underlying67 hi hz0 .i64 .i64 n n oMx (Int.le_refl _) (by rw [hz2];omega) oMx
 have hm:madeCells (Value.agg #[.bool false,.slice none 0 0]).cells (n*2)=(zTd (List.replicate n xGi)).toArray:=by
  rw [numc_rep];rfl
 simp only [Int.toNat_natCast,hz1,hm] at hr;exact hr
theorem RowS.made (w:World) (n:Nat) (z:Nat->Int) (hn:n<=1000000):RowS w.heap.size (w.alloc (.cells (zTd (List.replicate n xGi)).toArray 62)) w.heap.size n (List.replicate n xGi) z 0:=by
 have hb:=Blk.new w 62 (zTd (List.replicate n xGi));refine ⟨⟨by rw [zTf];simp,.inr ⟨w.heap.size,n,(zTd (List.replicate n xGi)).toArray,rfl,lRx,hb,lRx,by unfold maxLen;omega,by rw [List.size_toArray,zTf,List.length_replicate],by rw [List.toList_toArray];exact List.take_of_length_le (by rw [zTf,List.length_replicate];exact lRx)⟩⟩,by simp,fun j hj=>by omega,fun g cs t fr hg hc x hx=>?_⟩
 obtain rfl:w.heap.size=g:=by simpa [Value.ownBlock] using hg
 have h2:(w.alloc (.cells (zTd (List.replicate n xGi)).toArray 62)).heap[w.heap.size]? = _:=hb;rw [h2] at hc;injection hc with hc;injection hc with hc;subst hc;exact zTg x (by simpa using hx)
def RetTab (w:World) (m n:Nat) (D:Int) (P:Nat->Nat->Int) (e:Ending) (w':World):Prop:=∃ (R cR:Nat) (rows:List zGg) (dv:zCq),e = .returned (.agg #[.bool dv.nb,.slice dv.ad dv.l dv.c,.slice (some ⟨R,0,none⟩) m cR])/\rows.length=m/\zHa w.heap.size w' (.slice (some ⟨R,0,none⟩) m cR) rows n P/\NoU w' (.slice (some ⟨R,0,none⟩) m cR)/\(∀ r∈rows,NoU w' (r.val n))/\zBs w' dv.val D/\Below w.heap.size w w'
noncomputable def zRf (rs:List zGh):List (List Rat):=rs.map fun r=>r.ss.map xDx
noncomputable def zRi (rs:List zGh) (i k:Nat):Rat:=(((zRf rs).getD i []).getD k 0)
noncomputable def zQz (rs:List zGh):Int:=zLi 1 (zRf rs)
noncomputable def zRg (rs:List zGh) (i k:Nat):Int:=celN (zQz rs) (zRi rs i k)
theorem LL_lcm (x y:Int):LL (zPk x y)<=LL x+LL y:=Nat.le_trans (zBy _ _) (Nat.add_le_add_right (zBx _ _) _)
theorem zLc {b:Nat}:∀ {l:List Rat} {d:Int},(∀ q∈l,LL (q.den:Int)<=b)->LL (zLb d l)<=LL d+l.length*b
 | [],_,_=>by simp [zLb]
 | q::l,d,h=>by
  have h1:=zLc (l:=l) (d:=zPk d (q.den:Int)) fun x hx=>h x (by simp [hx])
  have h2:=LL_lcm d (q.den:Int);have h3:=h q sMx
  show LL (zLb (zPk d (q.den:Int)) l)<=_
  rw [List.length_cons,Nat.succ_mul];omega
theorem zLj {b n:Nat}:∀ {m:List (List Rat)} {d:Int},(∀ l∈m,l.length<=n/\∀ q∈l,LL (q.den:Int)<=b)->LL (zLi d m)<=LL d+m.length*(n*b)
 | [],_,_=>by simp [zLi]
 | l::m,d,h=>by
  have h1:=zLj (m:=m) (d:=zLb d l) fun x hx=>h x (by simp [hx])
  obtain ⟨h2,h3⟩:=h l sMx;have h4:=zLc (d:=d) h3;have h5:=Nat.mul_le_mul_right b h2
  show LL (zLi (zLb d l) m)<=_
  rw [List.length_cons,Nat.succ_mul];omega
structure RowH (B:Nat) (w:World) (V:Value) (us:List FrV) (qs:List Rat):Prop where
 own:w.ownsRow B 73 4 V us.length (frc us)
 nou:NoU w V
 frs:zBp w us qs
theorem RowH.below {B:Nat} {w w':World} {V:Value} {us:List FrV} {qs:List Rat} (h:RowH B w V us qs) (hb:Below w.heap.size w w'):RowH B w' V us qs:=⟨zUm h.own hb,h.nou.below (fun k hk=>(h.own.lt k hk).2) hb,h.frs.below hb⟩
theorem RowH.far {B:Nat} {w:World} {V:Value} {us:List FrV} {qs:List Rat} (h:RowH B w V us qs) {g:Nat} {t:TypeId} {cs:List Value} (hx:g<B) (hb:Blk w g t cs) (hcs:∀ a∈cs,∀ z,a ≠ .int .u64 z) (j:Nat) (u:Value):RowH B (w.setCell ⟨g,j,none⟩ u) V us qs :=
 ⟨ownsRow_setCell_below h.own (a:=⟨g,j,none⟩) hx u,h.nou.far (fun k hk=>h.own.lt k hk) hx j u,h.frs.1,fun i h1 h2=>(h.frs.2 i h1 h2).box hb hcs (zOc g j u)⟩
theorem RowH.row {B n c:Nat} {w:World} {A:oAx} {us:List FrV} {qs:List Rat} (h:RowH B w (.slice A us.length c) us qs) (hn:us.length=n):w.ownsRow B 73 4 (zGe.val n ⟨A,c,us⟩) n (frc us):=by subst hn;exact h.own
theorem zRj {rs:List zGh} {i k:Nat} (hi:i<rs.length) (hk:k<rs[i].ss.length):zRi rs i k=xDx rs[i].ss[k]:=by
 unfold zRi zRf
 simp [List.getD_eq_getElem?_getD,hi,hk]
theorem den_LL (s:ByteArray):LL ((xDx s).den:Int)<=45:=by
 unfold LL;rw [Int.natAbs_natCast];exact (xDz s).2
theorem zRk (rs:List zGh) (i k:Nat):Sz 45 (zRi rs i k):=by
 unfold zRi;rw [List.getD_eq_getElem?_getD]
 rcases h:((zRf rs).getD i [])[k]? with _|q
 ·exact Sz.zero.mono dCx
 have h1:=List.mem_of_getElem? h;rw [List.getD_eq_getElem?_getD] at h1
 rcases h2:(zRf rs)[i]? with _|l
 ·rw [h2] at h1;simp at h1
 rw [h2] at h1;obtain ⟨r, -,rfl⟩:=List.mem_map.1 (List.mem_of_getElem? h2);obtain ⟨s, -,rfl⟩:=List.mem_map.1 (show q∈r.ss.map xDx from h1);exact xDz s
theorem zRc (rs:List zGh):0<zQz rs:=zLn _ dCx
theorem zGz.num_at {B:Nat} {w:World} {V:Value} {rows:List zGe} {n:Nat} {M:mRx} (h:zGz B w V rows n M) {i:Nat} (hi:i<rows.length) {r:zGe} (hr:rows[i]=r) {k:Nat} (hk:k<r.us.length):zBo w r.us[k].val (M i k):=by subst hr;exact h.num i hi k hk
theorem s6_alloc {W:World} {p1 p2 p3 p4 p5 p6:Addr} {a b c d e f:Value} (h:W.cell? p1=some a/\W.cell? p2=some b/\W.cell? p3=some c/\W.cell? p4=some d/\W.cell? p5=some e/\W.cell? p6=some f) (o:Obj) :
  (W.alloc o).cell? p1=some a/\(W.alloc o).cell? p2=some b/\(W.alloc o).cell? p3=some c/\(W.alloc o).cell? p4=some d/\(W.alloc o).cell? p5=some e/\(W.alloc o).cell? p6=some f:=by
 have hb:Below W.heap.size W (W.alloc o):=bRx.alloc lRx o;obtain ⟨h1,h2,h3,h4,h5,h6⟩:=h;exact ⟨kP hb h1,kP hb h2,kP hb h3,kP hb h4,kP hb h5,kP hb h6⟩
theorem box_rel {W0 w2 W:World} {a:Nat} {x2:Bool} {X2:oAx} {y2 z2:Nat} {q:Int} (KP:Kp W0.heap.size w2 W) (c0:W.cell? ⟨a,0,none⟩=some (.bool x2)) (c1:W.cell? ⟨a,1,none⟩=some (.slice X2 y2 z2)) (hn:zBs w2 (.agg #[.bool x2,.slice X2 y2 z2]) q) (hB:Below W0.heap.size W0 w2) (hge:W0.heap.size<=a) :
  ∃ (g:Nat) (nb:Bool) (S:oAx) (l c:Nat),(Value.pointer (some ⟨a,0,none⟩)) = .pointer (some ⟨g,0,none⟩)/\W0.heap.size<=g/\W.cell? ⟨g,0,none⟩=some (.bool nb)/\W.cell? ⟨g,1,none⟩=some (.slice S l c)/\zBs W (.agg #[.bool nb,.slice S l c]) q/\Below W0.heap.size W0 W :=
 ⟨a,x2,X2,y2,z2,rfl,hge,c0,c1,KP.num hn,hB.trans KP.bel⟩
theorem zVb {rs:List zGh} {n:Nat} (hf:zBb rs n) (i:Nat) {l:List Rat} (hl:l.length<=12) (hq:∀ q∈l,LL (q.den:Int)<=45):LL (zLb (zLi 1 ((zRf rs).take i)) l)<=7100:=by
 have h1:=zLc (d:=zLi 1 ((zRf rs).take i)) hq
 have h2:LL (zLi 1 ((zRf rs).take i))<=LL 1+((zRf rs).take i).length*(12*45):=zLj fun x hx=>by
  obtain ⟨r,hr,rfl⟩:=List.mem_map.1 (List.mem_of_mem_take hx);refine ⟨by rw [List.length_map,hf.row r hr];exact hf.n12,fun q hq=>?_⟩;obtain ⟨s, -,rfl⟩:=List.mem_map.1 hq;exact den_LL s
 have h3:((zRf rs).take i).length<=12:=by rw [List.length_take];have:=hf.m;unfold zRf;rw [List.length_map];omega
 have h4:=zBz;have h5:=Nat.mul_le_mul_right 45 hl;have h6:=Nat.mul_le_mul_right (12*45) h3;omega
theorem zRa {rs:List zGh} {n:Nat} (hf:zBb rs n):LL (zQz rs)<=7100:=by
 have:=zVb hf rs.length (l:=[]) dCx (fun q hq=>by cases hq);rw [List.take_of_length_le (by unfold zRf;simp)] at this;exact this
theorem part_pos (rs:List zGh) (i:Nat) (l:List Rat):0<zLb (zLi 1 ((zRf rs).take i)) l:=zLg l (zLn _ dCx)
theorem zCs (A:oAx) (c n:Nat) (rs:List zGh) (w:World) (h:zCj w A rs) (hf:zBb rs n) (hm1:1<=rs.length) (hn1:1<=n) (henv:Env w) :
  Calls Tryz.prog 34 #[.slice A rs.length c] w (RetTab w rs.length n (zQz rs) (zRg rs)):=by
 generalize hQ:RetTab w rs.length n (zQz rs) (zRg rs)=Q;replace hQ:=oH hQ;obtain ⟨i0,hi,hz0,hz1,hz2⟩:=info_parts Tryz.infoFrs;obtain ⟨j0,hj,hy0,hy1,hy2⟩:=info_parts Tryz.infoNums;obtain ⟨b,off,rfl, -⟩:=h.o (by intro e;have:=zXg rs;rw [e] at this;simp at this;omega);have HM:=oH h;have HF:=oH hf;have HE:=oH henv;have hm12:=hf.m;have hn12:=hf.n12;clear h hf henv
 go_enter Tryz.func34,Tryz.ntmps34
 go_wp2_with fail;refine (zCb _).mono ?_;rintro e w2 ⟨v2,rfl,hv2,hb2⟩;have HV2:=oH hv2;have HB2:=oH (((Below.refl w.heap.size w).alloc lRx (.cells #[.bool false,.slice none 0 0,.slice none 0 0] 65)).trans (hb2.mono sMx));have HR2:=oH ((Blk.new w 65 [.bool false,.slice none 0 0,.slice none 0 0]).below hb2);obtain ⟨na,A1,l1,c1,rfl⟩:=hv2.slice;clear hv2 hb2;go_wp2_with fail;have H0:=oH (show OfA (w2.heap.size+1) (w2.alloc (.cells #[.bool na,.slice A1 l1 c1,.slice none 0 0] 65)) (w2.alloc (.cells #[.bool na,.slice A1 l1 c1,.slice none 0 0] 65)) w2.heap.size (.slice none 0 0) [] n (zRi rs) ⟨na,A1,l1,c1⟩ 1 from ⟨Blk.new _ _ _,zGz.zero _ _ _ _,HV2.below (bA),Nat.lt_succ_self _,Bex.refl _ _ _,by simp⟩);have HBb:=oH (HB2.alloc HB2.size (.cells #[.bool na,.slice A1 l1 c1,.slice none 0 0] 65));have HRb:=oH (HR2.alloc (.cells #[.bool na,.slice A1 l1 c1,.slice none 0 0] 65));have hxw:w.heap.size<w2.heap.size:=HR2.lt
 generalize w2.alloc (.cells #[.bool na,.slice A1 l1 c1,.slice none 0 0] 65)=wb at *;clear HV2 HB2 HR2;generalize w2.heap.size=x at *
 go_loopw [4,6,7,9,21] (fun v _ _ _ iv wr=>∃ (rows:List zGe) (dv:zCq),iv = .int .i64 (rows.length:Int)/\rows.length<=rs.length/\OfA (x+1) wb wr x v rows n (zRi rs) dv (zLi 1 ((zRf rs).take rows.length))) (fun _ _ _ _ iv _=>rs.length-(intOf iv).toNat)
 ·exact ⟨[],⟨na,A1,l1,c1⟩,rfl,oLx,H0.out⟩
 obtain ⟨rows,dv,rfl,hk,hs⟩:=hrel;obtain ⟨AV,cV,rfl, -⟩:=zUj hs.tab.o;obtain ⟨wi,rfl⟩:=nWx wr;have HS:=oH hs;have HBr:=oH (HBb.trans (hs.bel.toBelow (b:=w.heap.size) oMx oMx));have hszr:=Nat.le_trans hs.wB hs.bel.size;clear hs
 by_cases hlt:rows.length<rs.length
 ·have hmi:=HM.below HBr.out;have hci:=hmi.o.at_ (zXf hlt);have HRI:=oH (hmi.i _ (List.getElem_mem hlt));have hrn:rs[rows.length].ss.length=n:=HF.row _ (List.getElem_mem hlt);have HTX:=oH (HF.txt _ (List.getElem_mem hlt));have HQA:=oH (fun k (hk:k<rs[rows.length].ss.length)=>zRj hlt hk)
  have HDS:=oH (show (zRf rs).take (rows.length+1)=(zRf rs).take rows.length++[rs[rows.length].ss.map xDx] by
   rw [List.take_succ_eq_append_getElem (by unfold zRf;simpa using hlt)];unfold zRf
   simp)
  obtain ⟨D0,hD0⟩:=eXx (zLi 1 ((zRf rs).take rows.length));have HPL:=oH (fun (l:List Rat) hl hq=>zVb HF.out rows.length (l:=l) hl hq);have HPP:=oH (fun (l:List Rat)=>part_pos rs rows.length l);rw [hD0] at HS HPL HPP;have HD0:=oH hD0;clear hD0 hmi;generalize rs[rows.length]=r at *;have HSL:=oH (zAx r.ad r.ss r.cp wi HRI.out oMx (fun s hs=>(HTX.out s hs).1) (HE.below HBr.out));have HRN:=oH hrn
  have hx1:(0:Int)<=(rows.length:Int):=by omega
  have hx2:(rows.length:Int)<(rs.length:Int):=by omega
  clear hrn;go_wp2_with fail;refine HSL.mono ?_;rintro e w3 ⟨v3,us,rfl,hown,hno,hfr,hb⟩
  have hul:us.length=n:=by have:=hfr.1;rw [List.length_map,HRN.out] at this;exact this
  obtain ⟨A3,c3,rfl, -⟩:=zUj hown;obtain ⟨g3,rfl⟩:=zUi hown oMx;have HUL:=oH hul
  have hub:us.length<=12:=by omega
  have HR3:=oH (show RowH wi.heap.size w3 (.slice (some ⟨g3,0,none⟩) us.length c3) us (r.ss.map xDx) from ⟨hown,hno,hfr⟩);have HS3:=oH (HS.below hb);have hs3:=hb.size;obtain ⟨ql,hql⟩:=eXx (r.ss.map xDx);rw [hql] at HR3 HDS;have HQL:=oH hql;clear hown hno hfr hb hql hul;go_wp2_with fail
  go_loopw [9,29] (fun _ jv wr=>∃ (k:Nat) (dw:zCq),jv = .int .i64 (k:Int)/\k<=us.length/\OfA (x+1) wb wr x (.slice AV rows.length cV) rows n (zRi rs) dw (zLb D0 (ql.take k))/\RowH wi.heap.size wr (.slice (some ⟨g3,0,none⟩) us.length c3) us ql) (fun _ jv _=>us.length-(intOf jv).toNat)
  ·exact ⟨0,dv,rfl,oLx,HS3.out,HR3.out⟩
  obtain ⟨k,dw,rfl,hk2,hs2,hr2⟩:=hrel;obtain ⟨wq,rfl⟩:=nWx wr
  by_cases hlt2:k<us.length
  ·have hkq:k<ql.length:=by have:=hr2.frs.1;omega
   have hqm:∀ q∈ql,LL (q.den:Int)<=45:=fun q hq=>by
    rw [<-HQL.out] at hq;obtain ⟨s, -,rfl⟩:=List.mem_map.1 hq;exact den_LL s
   have HDE:=oH (show zLb D0 (ql.take (k+1))=zPk (zLb D0 (ql.take k)) (ql[k].den:Int) by rw [List.take_succ_eq_append_getElem hkq,zLh]);have hLD:=HPL.out (ql.take k) (by rw [List.length_take];have:=HUL.out;omega) (fun q hq=>hqm q (List.mem_of_mem_take hq));have hPD:=HPP.out (ql.take k);have hLq:=hqm _ (List.getElem_mem hkq);have hfq:zBo wq us[k].val ql[k]:=hr2.frs.2 k hlt2 hkq;have e0:=(hr2.own.cellAt (k*4) oMx).trans (zNo hlt2).1;have e1:=(hr2.own.cellAt (k*4+1) oMx).trans (zNo hlt2).2.1;have e2:=(hr2.own.cellAt (k*4+2) oMx).trans (zNo hlt2).2.2.1;have e3:=(hr2.own.cellAt (k*4+3) oMx).trans (zNo hlt2).2.2.2;generalize us[k]=u at *;generalize ql[k]=q at *;obtain ⟨na4,A4,l4,c4,nb4,B4,m4,d4⟩:=u;have HF4:=oH (show zBo (wq.alloc (.cells #[.bool na4,.slice A4 l4 c4,.bool nb4,.slice B4 m4 d4] 73)) (.agg #[.bool na4,.slice A4 l4 c4,.bool nb4,.slice B4 m4 d4]) q from hfq.below (bA));have HS4:=oH (hs2.alloc (.cells #[.bool na4,.slice A4 l4 c4,.bool nb4,.slice B4 m4 d4] 73))
   have HR4:=oH (hr2.below (bRx.alloc lRx (.cells #[.bool na4,.slice A4 l4 c4,.bool nb4,.slice B4 m4 d4] 73)));have hb4:=Blk.new wq 73 [.bool na4,.slice A4 l4 c4,.bool nb4,.slice B4 m4 d4]
   have hx3:(0:Int)<=(k:Int):=by omega
   have hx4:(k:Int)<(us.length:Int):=by omega
   have hsw:wi.heap.size<=(wq.alloc (.cells #[.bool na4,.slice A4 l4 c4,.bool nb4,.slice B4 m4 d4] 73)).heap.size:=by have:=(hr2.own.lt g3 rfl);simp;omega
   have HXI:=oH (show x<wi.heap.size by omega);clear hs2 hr2 hfq hqm;go_upto_region 10 with (fail);clear e0 e1 e2 e3;generalize (wq.alloc (.cells #[.bool na4,.slice A4 l4 c4,.bool nb4,.slice B4 m4 d4] 73))=W at *;have t0:=hb4.at_ (i:=0) rfl;have t1:=hb4.at_ (i:=1) rfl;have t2:=hb4.at_ (i:=2) rfl;have t3:=hb4.at_ (i:=3) rfl;have x0:=HS4.box.at_ (i:=0) rfl;have x1:=HS4.box.at_ (i:=1) rfl;clear hb4;obtain ⟨Dk,hDk⟩:=eXx (zLb D0 (ql.take k));rw [hDk] at hLD hPD HS4 HDE;clear hDk
   go_region_with (first|(go_at_call 71;(with_reducible refine (Lcm_any _ _ Dk (q.den:Int) _ HD5.out HV4.out oMx oMx oMx).mono ?_);rintro e w5 ⟨v5,rfl,hv,hb⟩;have HW5:=bTx2 HW4 hb;have HS6:=oH (HS5.out.below hb);have HV5:=oH hv;obtain ⟨xb,Xb,yb,zb,rfl⟩:=hv.slice;have z0:=HS6.out.box.at_ (i:=0) rfl;have z1:=HS6.out.box.at_ (i:=1) rfl;have f0:=HS6.out.box.fr 0;have f1:=HS6.out.box.fr 1;clear hv hb)|(go_at_call 72;(with_reducible refine (zAv _ q _ (HF4.out.below (by first|with_reducible exact bRx|with_reducible exact bRx.drew))).mono ?_);rintro e w4 ⟨v4,rfl,hv,hb⟩;have hw:Below W.heap.size W w4:=Below.trans (by first|with_reducible exact bRx|with_reducible exact bRx.drew) (hb.mono (by first|exact lRx));have HW4:=oH hw;have HS5:=oH (HS4.out.below hw);have HV4:=oH hv;have HD5:=oH (show zBs w4 (.agg #[.bool dw.nb,.slice dw.ad dw.l dw.c]) Dk from HS5.out.den);obtain ⟨xa,Xa,ya,za,rfl⟩:=hv.slice;have y0:=HS5.out.box.at_ (i:=0) rfl;have y1:=HS5.out.box.at_ (i:=1) rfl;clear hv hb hw))
   all_goals
    go_wp2_with fail;go_roundw
    case rel =>
     refine ⟨k+1,⟨xb,Xb,yb,zb⟩,by go_num,oMx,by rw [HDE.out];exact HS6.put (u:=⟨xb,Xb,yb,zb⟩) HV5.out,?_⟩;have b1:Blk (w5.setCell ⟨x,0,none⟩ (.bool xb)) x 65 [.bool xb,.slice dw.ad dw.l dw.c,.slice none 0 0]:=HS6.box.set 0 _;exact ((HR4.below HW5.out).far HXI.out HS6.box xCy 0 _).far HXI.out b1 xCy 1 _
    simp [intOf];omega
  obtain rfl:k=us.length:=by omega
  have HSA:=oH hs2;have HRA:=oH hr2;clear hs2 hr2;have HSB:=oH (HSA.alloc (.cells #[.slice (some ⟨g3,0,none⟩) us.length c3] 71));have HRB:=oH (HRA.below (bRx.alloc lRx (.cells #[.slice (some ⟨g3,0,none⟩) us.length c3] 71)))
  have hmx:rows.length<=12:=by omega
  go_upto_region 12 with (fail)
  go_wp2_with (at_builtin;go_loud (refine xFv _ rfl _ _ 112 rfl (x+1) 71 i0 _ 1 24 Tryz.underlying112 hi hz0 hz1 hz2 rfl dCx _ _ _ rfl HSB.tab.o ⟨wq.heap.size,0,none⟩ 1 1 [.slice (some ⟨g3,0,none⟩) us.length c3] rfl rfl (World.news_of_block (cs:=#[.slice (some ⟨g3,0,none⟩) us.length c3]) (t:=71) (fr:=(0,0)) (heap_alloc_new wq _)) zZu oMx (by unfold maxLen;omega) oMx (by have:=HSB.bel.size;have:=HSB.wB;omega) HSB.tab.nou zZx sl_no ?_))
  intro g cap w7 hown7 hgrow7 hno7
  have hul:=HUL.out;rw [hul] at hown7;have HR7:=HRB.row hul
  have HS7:=oH (HSB.push (r:=⟨some ⟨g3,0,none⟩,c3,us⟩) (zUl HR7 oMx) hul (fun j hj=>by
   have hj':j<us.length:=hj;have h1:=HRB.frs.2 j hj' (by have:=HRB.frs.1;omega);have h2:=HQA.out j (by rw [HRN.out,<-hul];exact hj');rw [h2];have h3:=HQL.out;subst h3
   simpa using h1) hown7 hgrow7 hno7)
  clear hown7 hgrow7 hno7 HR7 hul;go_wp2_with fail;go_roundw
  ·exact ⟨rows++[⟨some ⟨g3,0,none⟩,c3,us⟩],dw,by simp only [List.length_append,List.length_singleton];go_num,by simp;omega,by rw [List.length_append,List.length_singleton,HDS.out,zLo,HD0.out];have h9:=HS7.out;rw [show ql.take us.length=ql from List.take_of_length_le (by have:=HRA.frs.1;omega)] at h9;exact h9⟩
  simp [intOf];omega
 -- PHASE 2
 have hk':rows.length=rs.length:=by omega
 have HK:=oH hk';obtain ⟨R1,rfl⟩:=zUi HS.tab.o oMx
 have HB0:=oH (show OfB (x+1) wb wi x (.slice (some ⟨R1,0,none⟩) rows.length cV) rows n (zRi rs) dv (zQz rs) (.slice none 0 0) [] (zRg rs) from by
  have h9:=HS.out;rw [show (zRf rs).take rows.length=zRf rs from List.take_of_length_le (by unfold zRf;rw [List.length_map];omega)] at h9
  exact h9.turn _)
 have hLD:=zRa HF.out;have hPD:=zRc rs;obtain ⟨D,hD⟩:=eXx (zQz rs);have HPE:=oH (fun i k=>(show zRg rs i k=(zRi rs i k).num*(zQz rs/((zRi rs i k).den:Int)) from rfl));rw [hD] at hLD hPD HB0 HPE;have HDD:=oH hD
 have hr12:rows.length<=12:=by omega
 clear hk' hD;go_wp2_with fail
 go_loopw [47] (fun iv wr=>∃ (outs:List zGg) (C:Value),iv = .int .i64 (outs.length:Int)/\outs.length<=rows.length/\OfB (x+1) wb wr x (.slice (some ⟨R1,0,none⟩) rows.length cV) rows n (zRi rs) dv D C outs (zRg rs)) (fun iv _=>rows.length-(intOf iv).toNat)
 ·exact ⟨[],_,rfl,oLx,HB0.out⟩
 obtain ⟨outs,C,rfl,hk3,hs3⟩:=hrel;obtain ⟨AC,cC,rfl, -⟩:=zUj hs3.cel.o;obtain ⟨wo,rfl⟩:=nWx wr;have HO:=oH hs3;have hszo:=Nat.le_trans hs3.wB hs3.bel.size;have HBo:=oH (HBb.trans (hs3.bel.toBelow (b:=w.heap.size) oMx oMx))
 by_cases hlt3:outs.length<rows.length
 ·have hci:=hs3.tab.o.cellAt outs.length oMx;rw [List.getElem?_map,List.getElem?_eq_getElem hlt3] at hci;have hro:=hs3.tab.r _ (List.getElem_mem hlt3);have HMEM:=oH (List.getElem_mem hlt3);have HUL:=oH (hs3.tab.l _ (List.getElem_mem hlt3));obtain ⟨r,hr⟩:=eXx (rows[outs.length]);have HRE:=oH hr;rw [hr] at hci hro HMEM HUL;clear hr;obtain ⟨ra,rc,us⟩:=r;obtain ⟨g3,hg3⟩:=zUi (show wo.ownsRow (x+1) 73 4 (.slice ra n rc) n (frc us) from hro) oMx;subst hg3;have hci2:wo.cell? ⟨R1,outs.length,none⟩=some (.slice (some ⟨g3,0,none⟩) n rc):=hci;have hmk:=zYl n oMx
  have hx1:(0:Int)<=(outs.length:Int):=by omega
  have hx2:(outs.length:Int)<(rows.length:Int):=by omega
  have HW0:=oH ((Below.refl wo.heap.size wo).alloc lRx (.cells (zTd (List.replicate n xGi)).toArray 62));have HR0:=oH (RowS.made wo n (zRg rs outs.length) oMx);clear hci hro hs3;go_wp2_with fail;clear hci2 hmk;generalize wo.alloc (.cells (zTd (List.replicate n xGi)).toArray 62)=w0 at *;obtain ⟨go,hgo⟩:=eXx (wo.heap.size);rw [hgo] at HW0 HR0;have HGO:=oH hgo;rw [hgo]
  have hszg:x+1<=go:=by omega
  clear hgo
  go_loopw [56] (fun jv wr=>∃ (k:Nat) (vs:List zCq),jv = .int .i64 (k:Int)/\k<=n/\Below go wo wr/\RowS go wr go n vs (zRg rs outs.length) k) (fun jv _=>n-(intOf jv).toNat)
  ·exact ⟨0,_,rfl,oLx,HW0.out,HR0.out⟩
  obtain ⟨k,vs,rfl,hk4,hbo,hrs⟩:=hrel;obtain ⟨wq,rfl⟩:=nWx wr;have HWq:=oH (show Below wo.heap.size wo wq by rw [HGO.out];exact hbo);have hsq:=HO.below HWq.out
  by_cases hlt4:k<n
  ·have hro:wq.ownsRow (x+1) 73 4 (.slice (some ⟨g3,0,none⟩) n rc) n (frc us):=hsq.tab.r _ HMEM.out
   have hku:k<us.length:=by have h9:us.length=n:=HUL.out;omega
   have e0:=(hro.cellAt (k*4) oMx).trans (zNo hku).1;have e1:=(hro.cellAt (k*4+1) oMx).trans (zNo hku).2.1;have e2:=(hro.cellAt (k*4+2) oMx).trans (zNo hku).2.2.1;have e3:=(hro.cellAt (k*4+3) oMx).trans (zNo hku).2.2.2;have hfq:zBo wq us[k].val (zRi rs outs.length k):=hsq.tab.num_at hlt3 HRE.out (k:=k) hku;have hQS:=zRk rs outs.length k;have HPQ:=oH (HPE.out outs.length k);generalize us[k]=u at *;generalize zRi rs outs.length k=q at *;obtain ⟨na4,A4,l4,c4,nb4,B4,m4,d4⟩:=u;have HFW:=oH (show zBo (wq.alloc (.cells #[.bool na4,.slice A4 l4 c4,.bool nb4,.slice B4 m4 d4] 73)) (.agg #[.bool na4,.slice A4 l4 c4,.bool nb4,.slice B4 m4 d4]) q from hfq.below (bA));have HSW:=oH (hsq.alloc (.cells #[.bool na4,.slice A4 l4 c4,.bool nb4,.slice B4 m4 d4] 73));have HXW:=oH (show zBs (wq.alloc (.cells #[.bool na4,.slice A4 l4 c4,.bool nb4,.slice B4 m4 d4] 73)) (.agg #[.bool dv.nb,.slice dv.ad dv.l dv.c]) D from HSW.den)
   have HRW:=oH (hrs.below (bRx.alloc lRx (.cells #[.bool na4,.slice A4 l4 c4,.bool nb4,.slice B4 m4 d4] 73)));have HWW:=oH (HWq.alloc HWq.size (.cells #[.bool na4,.slice A4 l4 c4,.bool nb4,.slice B4 m4 d4] 73));have hbk:=Blk.new wq 73 [.bool na4,.slice A4 l4 c4,.bool nb4,.slice B4 m4 d4]
   have hx3:(0:Int)<=(k:Int):=by omega
   have hx4:(k:Int)<(n:Int):=by omega
   have hLD2:(limbs D.natAbs).length<=7100:=hLD
   have hqd:(limbs (q.den:Int).natAbs).length<=45:=by rw [Int.natAbs_natCast];exact hQS.2
   have hqn:(limbs q.num.natAbs).length<=45:=hQS.1;have hdq:(limbs (D/(q.den:Int)).natAbs).length<=7100:=Nat.le_trans (zBx _ _) hLD;have hqp:=q.den_pos;have HGY:=oH (show go<wq.heap.size from (hrs.own.lt go rfl).2);clear hro hku hfq hQS hsq hrs hbo;go_upto_region 21 with (fail);clear e0 e1 e2 e3;generalize (wq.alloc (.cells #[.bool na4,.slice A4 l4 c4,.bool nb4,.slice B4 m4 d4] 73))=W at *;generalize wq.heap.size=y at *;have t0:=hbk.at_ (i:=0) rfl;have t1:=hbk.at_ (i:=1) rfl;have t2:=hbk.at_ (i:=2) rfl;have t3:=hbk.at_ (i:=3) rfl;have x0:=HSW.box.at_ (i:=0) rfl;have x1:=HSW.box.at_ (i:=1) rfl;have hyW:=hbk.lt;have hxW:=HSW.box.lt;have KB:=oH (fun W' (hW:Below W.heap.size W W')=>(show W'.cell? ⟨x,0,none⟩=some (.bool dv.nb)/\W'.cell? ⟨x,1,none⟩=some (.slice dv.ad dv.l dv.c)/\W'.cell? ⟨y,0,none⟩=some (.bool na4)/\W'.cell? ⟨y,1,none⟩=some (.slice A4 l4 c4)/\W'.cell? ⟨y,2,none⟩=some (.bool nb4)/\W'.cell? ⟨y,3,none⟩=some (.slice B4 m4 d4) from ⟨kP hW x0,kP hW x1,kP hW t0,kP hW t1,kP hW t2,kP hW t3⟩))
   clear hbk
   go_cut [15,16] from 57 to 75 (fun v u wc=>∃ (g:Nat) (nb:Bool) (S:oAx) (l c:Nat),v = .pointer (some ⟨g,0,none⟩)/\W.heap.size<=g/\wc.cell? ⟨g,0,none⟩=some (.bool nb)/\wc.cell? ⟨g,1,none⟩=some (.slice S l c)/\zBs wc (.agg #[.bool nb,.slice S l c]) (D/(q.den:Int))/\Below W.heap.size W wc)
   case first =>
    have KS0:Hid (W.drew.cell? ⟨x,0,none⟩=some (.bool dv.nb)/\W.drew.cell? ⟨x,1,none⟩=some (.slice dv.ad dv.l dv.c)/\W.drew.cell? ⟨y,0,none⟩=some (.bool na4)/\W.drew.cell? ⟨y,1,none⟩=some (.slice A4 l4 c4)/\W.drew.cell? ⟨y,2,none⟩=some (.bool nb4)/\W.drew.cell? ⟨y,3,none⟩=some (.slice B4 m4 d4)):=oH ⟨x0,x1,t0,t1,t2,t3⟩
    have nx00:¬(x=W.heap.size):=oMx;have nx01:¬(W.heap.size=x):=oMx;have nx02:¬(x=W.heap.size+1):=oMx;have nx03:¬(W.heap.size+1=x):=oMx;have nx04:¬(y=W.heap.size):=oMx;have nx05:¬(W.heap.size=y):=oMx;have nx06:¬(y=W.heap.size+1):=oMx;have nx07:¬(W.heap.size+1=y):=oMx;skip
    have ng0:=World.new_ne W ⟨x,0,none⟩ x0;have ng1:=World.new_ne W ⟨y,0,none⟩ t0
    go_region_held3 (fun w'=>w'.cell? ⟨x,0,none⟩=some (.bool dv.nb)/\w'.cell? ⟨x,1,none⟩=some (.slice dv.ad dv.l dv.c)/\w'.cell? ⟨y,0,none⟩=some (.bool na4)/\w'.cell? ⟨y,1,none⟩=some (.slice A4 l4 c4)/\w'.cell? ⟨y,2,none⟩=some (.bool nb4)/\w'.cell? ⟨y,3,none⟩=some (.slice B4 m4 d4)) (first|with_reducible exact KS0.out|with_reducible exact KS1.out|with_reducible exact KS2.out|(with_reducible refine s6_alloc ?_ _;assumption)|go_keep) (first|(go_at_call 72;(with_reducible refine (zAv _ q _ (HFW.out.below (by first|with_reducible exact bRx|with_reducible exact bRx.drew|with_reducible exact bA|with_reducible exact (bA).alloc sMx _|with_reducible exact bA.drew|with_reducible exact ((bA).alloc sMx _).drew))).mono ?_);rintro e w1 ⟨v1,rfl,hv,hb⟩;have HV1:=oH hv;have hbw:Below W.heap.size W w1:=Below.trans (by first|with_reducible exact bRx|with_reducible exact bRx.drew|with_reducible exact bA|with_reducible exact (bA).alloc sMx _|with_reducible exact bA.drew|with_reducible exact ((bA).alloc sMx _).drew) (hb.mono leH);have HW1:=oH hbw;have HX1:=oH (HXW.out.below hbw);have KS1:=oH (KB.out w1 hbw);have sz1:=hbw.size;(first|(have za1:=((Blk.new W 62 [.bool false,.slice none 0 0]).alloc (.cells #[.bool false,.slice none 0 0] 62)).below (Below.trans bRd (hb.mono leH));have zb1:=(Blk.new' (w:=W.alloc (.cells #[.bool false,.slice none 0 0] 62)) (g:=W.heap.size+1) sMx 62 [.bool false,.slice none 0 0]).below (Below.trans bRd (hb.mono leH));have za10:=za1.at_ (i:=0) rfl;have za11:=za1.at_ (i:=1) rfl;have zb10:=zb1.at_ (i:=0) rfl;have zb11:=zb1.at_ (i:=1) rfl;have ya10:=za1.fr 0;have ya11:=za1.fr 1;have yb10:=zb1.fr 0;have yb11:=zb1.fr 1;have sa1:=za1.lt;have sb1:=zb1.lt;have ZA1:=oH za1;have ZB1:=oH zb1;clear za1 zb1)|(have za1:=(Blk.new W 62 [.bool false,.slice none 0 0]).below (Below.trans bRd (hb.mono leH));have za10:=za1.at_ (i:=0) rfl;have za11:=za1.at_ (i:=1) rfl;have ya10:=za1.fr 0;have ya11:=za1.fr 1;have sa1:=za1.lt;have ZA1:=oH za1;clear za1)|skip);obtain ⟨x1,X1,y1,z1,rfl⟩:=hv.slice;obtain ⟨q10,q11,q12,q13,q14,q15⟩:=KB.out w1 hbw;have nx10:¬(x=w1.heap.size):=oMx;have nx11:¬(w1.heap.size=x):=oMx;have nx12:¬(x=w1.heap.size+1):=oMx;have nx13:¬(w1.heap.size+1=x):=oMx;have nx14:¬(y=w1.heap.size):=oMx;have nx15:¬(w1.heap.size=y):=oMx;have nx16:¬(y=w1.heap.size+1):=oMx;have nx17:¬(w1.heap.size+1=y):=oMx;clear hv hb hbw)|(go_at_call 73;(with_reducible refine (zAp _ _ D (q.den:Int) _ (HX1.out.below (by first|with_reducible exact bRx|with_reducible exact bRx.drew|with_reducible exact bA|with_reducible exact (bA).alloc sMx _|with_reducible exact bA.drew|with_reducible exact ((bA).alloc sMx _).drew)) (HV1.out.below (by first|with_reducible exact bRx|with_reducible exact bRx.drew|with_reducible exact bA|with_reducible exact (bA).alloc sMx _|with_reducible exact bA.drew|with_reducible exact ((bA).alloc sMx _).drew)) oMx oMx oMx).mono ?_);rintro e w2 ⟨v2,u2,rfl,hq,hr,hb⟩;have HQ2:=oH hq;have hbw:Below w1.heap.size w1 w2:=Below.trans (by first|with_reducible exact bRx|with_reducible exact bRx.drew|with_reducible exact bA|with_reducible exact (bA).alloc sMx _|with_reducible exact bA.drew|with_reducible exact ((bA).alloc sMx _).drew) (hb.mono leH);have HW2:=bTx2 HW1 hbw;have KS2:=oH (KB.out w2 HW2.out);have sz2:=hbw.size;obtain ⟨q20,q21,q22,q23,q24,q25⟩:=KB.out w2 HW2.out;(first|(have ZA1':=oH (ZA1.out.below hbw);have zc0:=ZA1'.out.at_ (i:=0) rfl;have zc1:=ZA1'.out.at_ (i:=1) rfl;have yc0:=ZA1'.out.fr 0;have yc1:=ZA1'.out.fr 1;have sc:=ZA1'.out.lt)|skip);(first|(have ZB1':=oH (ZB1.out.below hbw);have zd0:=ZB1'.out.at_ (i:=0) rfl;have zd1:=ZB1'.out.at_ (i:=1) rfl;have yd0:=ZB1'.out.fr 0;have yd1:=ZB1'.out.fr 1;have sd:=ZB1'.out.lt)|skip);(first|(have za2:=((Blk.new w1 62 [.bool false,.slice none 0 0]).alloc (.cells #[.bool false,.slice none 0 0] 62)).below (Below.trans bRd (hb.mono leH));have zb2:=(Blk.new' (w:=w1.alloc (.cells #[.bool false,.slice none 0 0] 62)) (g:=w1.heap.size+1) sMx 62 [.bool false,.slice none 0 0]).below (Below.trans bRd (hb.mono leH));have za20:=za2.at_ (i:=0) rfl;have za21:=za2.at_ (i:=1) rfl;have zb20:=zb2.at_ (i:=0) rfl;have zb21:=zb2.at_ (i:=1) rfl;have ya20:=za2.fr 0;have ya21:=za2.fr 1;have yb20:=zb2.fr 0;have yb21:=zb2.fr 1;have sa2:=za2.lt;have sb2:=zb2.lt;have ZA2:=oH za2;have ZB2:=oH zb2;clear za2 zb2)|(have za2:=(Blk.new w1 62 [.bool false,.slice none 0 0]).below (Below.trans bRd (hb.mono leH));have za20:=za2.at_ (i:=0) rfl;have za21:=za2.at_ (i:=1) rfl;have ya20:=za2.fr 0;have ya21:=za2.fr 1;have sa2:=za2.lt;have ZA2:=oH za2;clear za2)|skip);obtain ⟨x2,X2,y2,z2,rfl⟩:=hq.slice;obtain ⟨x3,X3,y3,z3,rfl⟩:=hr.slice;have nx20:¬(x=w2.heap.size):=oMx;have nx21:¬(w2.heap.size=x):=oMx;have nx22:¬(x=w2.heap.size+1):=oMx;have nx23:¬(w2.heap.size+1=x):=oMx;have nx24:¬(y=w2.heap.size):=oMx;have nx25:¬(w2.heap.size=y):=oMx;have nx26:¬(y=w2.heap.size+1):=oMx;have nx27:¬(w2.heap.size+1=y):=oMx;clear hq hr hb hbw))
    all_goals go_wp2_with fail
    all_goals go_meet
    all_goals
     have hz1:=HW1.size;have hz2:=HW2.size;refine box_rel (w2:=w2) ?_ ?_ ?_ HQ2.out HW2.out oMx
     ·repeat' first
       | with_reducible exact Kp.refl _ _
       | (with_reducible refine Kp.set ?_ oMx (by first|exact .inl oMx|with_reducible exact .inr ZA1'.out|with_reducible exact .inr ZB1'.out|with_reducible exact .inr ZA2.out|with_reducible exact .inr ZB2.out) _ _)
       | (with_reducible refine Kp.alloc ?_ oMx _)
       | (with_reducible refine Kp.drew ?_)
     ·go_simp
     go_simp
   case rest =>
    obtain ⟨gb,nb5,S5,l5,c5,rfl,hgb,m0,m1,hq5,hbc⟩:=hcut;have HGc:=oH hq5;have HBC:=oH hbc;have HFc:=oH (HFW.below hbc);have HRc:=oH (HRW.below hbc);have s0:=kP hbc t0;have s1:=kP hbc t1;have s2:=kP hbc t2;have s3:=kP hbc t3;have KC:=oH (fun W' (hW:Below wc.heap.size wc W')=>(show W'.cell? ⟨y,0,none⟩=some (.bool na4)/\W'.cell? ⟨y,1,none⟩=some (.slice A4 l4 c4)/\W'.cell? ⟨y,2,none⟩=some (.bool nb4)/\W'.cell? ⟨y,3,none⟩=some (.slice B4 m4 d4)/\W'.cell? ⟨gb,0,none⟩=some (.bool nb5)/\W'.cell? ⟨gb,1,none⟩=some (.slice S5 l5 c5) from ⟨kP hW s0,kP hW s1,kP hW s2,kP hW s3,kP hW m0,kP hW m1⟩));have KT0:Hid (wc.drew.cell? ⟨y,0,none⟩=some (.bool na4)/\wc.drew.cell? ⟨y,1,none⟩=some (.slice A4 l4 c4)/\wc.drew.cell? ⟨y,2,none⟩=some (.bool nb4)/\wc.drew.cell? ⟨y,3,none⟩=some (.slice B4 m4 d4)/\wc.drew.cell? ⟨gb,0,none⟩=some (.bool nb5)/\wc.drew.cell? ⟨gb,1,none⟩=some (.slice S5 l5 c5)):=oH ⟨s0,s1,s2,s3,m0,m1⟩
    have hgl:go<W.heap.size:=(HRW.own.lt go rfl).2;have hgy:=HGY.out;have ny1:¬(go=y):=oMx;have ny2:¬(y=go):=oMx;have ny3:¬(go=gb):=oMx;have ny4:¬(gb=go):=oMx;clear hq5 hbc t0 t1 t2 t3 x0 x1 hyW hxW hgy;go_wp2_with fail
    go_region_held3 (fun w'=>w'.cell? ⟨y,0,none⟩=some (.bool na4)/\w'.cell? ⟨y,1,none⟩=some (.slice A4 l4 c4)/\w'.cell? ⟨y,2,none⟩=some (.bool nb4)/\w'.cell? ⟨y,3,none⟩=some (.slice B4 m4 d4)/\w'.cell? ⟨gb,0,none⟩=some (.bool nb5)/\w'.cell? ⟨gb,1,none⟩=some (.slice S5 l5 c5)) (first|with_reducible exact KT0.out|with_reducible exact KT6.out|with_reducible exact KT7.out|go_keep) (first|(go_at_call 74;(with_reducible refine (FNum_any _ q _ (HFc.out.below (by first|with_reducible exact bRx|with_reducible exact bRx.drew))).mono ?_);rintro e w6 ⟨v6,rfl,hv,hb⟩;have hw:Below wc.heap.size wc w6:=Below.trans (by first|with_reducible exact bRx|with_reducible exact bRx.drew) hb;have HW6:=oH hw;have HV6:=oH hv;have HG6:=oH (HGc.out.below hw);have KT6:Hid (w6.cell? ⟨y,0,none⟩=some (.bool na4)/\w6.cell? ⟨y,1,none⟩=some (.slice A4 l4 c4)/\w6.cell? ⟨y,2,none⟩=some (.bool nb4)/\w6.cell? ⟨y,3,none⟩=some (.slice B4 m4 d4)/\w6.cell? ⟨gb,0,none⟩=some (.bool nb5)/\w6.cell? ⟨gb,1,none⟩=some (.slice S5 l5 c5)):=oH (KC.out w6 hw);obtain ⟨xa,Xa,ya,za,rfl⟩:=hv.slice;clear hv hb hw)|(go_at_call 37;(with_reducible refine (zCl _ _ q.num (D/(q.den:Int)) _ HV6.out HG6.out oMx oMx).mono ?_);rintro e w7 ⟨v7,rfl,hv,hb⟩;have HW7:=bTx2 HW6 hb;have HV7:=oH hv;have KT7:Hid (w7.cell? ⟨y,0,none⟩=some (.bool na4)/\w7.cell? ⟨y,1,none⟩=some (.slice A4 l4 c4)/\w7.cell? ⟨y,2,none⟩=some (.bool nb4)/\w7.cell? ⟨y,3,none⟩=some (.slice B4 m4 d4)/\w7.cell? ⟨gb,0,none⟩=some (.bool nb5)/\w7.cell? ⟨gb,1,none⟩=some (.slice S5 l5 c5)):=oH (KC.out w7 HW7.out);have hrw:=HRc.out.below HW7.out;have HRW:=oH hrw;have p0:=(hrw.own.cellAt (k*2) oMx).trans (zTe (by have:=HRc.out.len;omega)).1;have p1:=(hrw.own.cellAt (k*2+1) oMx).trans (zTe (by have:=HRc.out.len;omega)).2;have p2:=hrw.own.frozenAt (k*2);have p3:=hrw.own.frozenAt (k*2+1);obtain ⟨xb,Xb,yb,zb,rfl⟩:=hv.slice;clear hv hb hrw))
    all_goals go_wp2_with fail
    all_goals go_roundw
    case rel =>
     refine ⟨k+1,vs.set k ⟨xb,Xb,yb,zb⟩,by go_num,oMx,?_,HRW.store (u:=⟨xb,Xb,yb,zb⟩) hlt4 (by show zBs _ _ (zRg rs outs.length k);rw [HPQ.out];exact HV7.out)⟩;have h9:=(HWW.trans ((HBC.trans (HW7.mono HBC.size)).mono HWW.size)).mono (Nat.le_of_eq HGO.symm);exact (h9.setCell (p:=⟨go,k*2,none⟩) lRx _).setCell (p:=⟨go,k*2+1,none⟩) lRx _
    simp [intOf];omega
  obtain rfl:n=k:=by omega
  have HSB:=oH (hsq.alloc (.cells #[.slice (some ⟨go,0,none⟩) n n] 67));have HRB:=oH (hrs.below (bRx.alloc lRx (.cells #[.slice (some ⟨go,0,none⟩) n n] 67)));have k2:=hsq.box.at_ (i:=2) rfl
  have hmx:outs.length<=12:=by omega
  have hsz9:x+1<=(wq.alloc (.cells #[.slice (some ⟨go,0,none⟩) n n] 67)).heap.size:=by have h8:=HSB.bel.size;have h9:=HSB.wB;omega
  have HFG:=oH (fun a (ha:a∈outs)=>(show a.g≠go by have h8:a.g<wo.heap.size:=((HO.cel.r a ha).lt _ rfl).2;have h9:=HGO.out;omega));clear hsq hrs hbo
  go_wp2_with (at_builtin;go_loud (refine xFv _ rfl _ _ 63 rfl (x+1) 67 j0 _ 1 24 Tryz.underlying63 hj hy0 hy1 hy2 rfl dCx _ _ _ rfl HSB.cel.o ⟨wq.heap.size,0,none⟩ 1 1 [.slice (some ⟨go,0,none⟩) n n] rfl rfl (World.news_of_block (cs:=#[.slice (some ⟨go,0,none⟩) n n]) (t:=67) (fr:=(0,0)) (heap_alloc_new wq _)) zZu oMx (by unfold maxLen;omega) oMx hsz9 HSB.nou zZx sl_no ?_))
  intro g cap w7 hown7 hgrow7 hno7
  have HS7:=oH (HSB.push (r:=⟨go,n,vs⟩) (zUl HRB.own hszg) HRB.len (fun a ha=>HFG.out a ha) (fun j hj=>HRB.num j (by have h8:=HRB.len;have h9:j<vs.length:=hj;omega) hj) HRB.nou hown7 hgrow7 hno7);have hb7:=HSB.box.grown hgrow7 HSB.far;have k7:=hb7.at_ (i:=2) rfl;have f7:=hb7.fr 2;clear hown7 hgrow7 hno7 hb7 k2;go_wp2_with fail;go_roundw
  ·exact ⟨outs++[⟨go,n,vs⟩],_,by simp only [List.length_append,List.length_singleton];go_num,by simp;omega,HS7.out⟩
  simp [intOf];omega
 have hk9:outs.length=rows.length:=by omega
 obtain ⟨R2,rfl⟩:=zUi hs3.cel.o oMx;have k0:=hs3.box.at_ (i:=0) rfl;have k1:=hs3.box.at_ (i:=1) rfl;have k2:=hs3.box.at_ (i:=2) rfl;have hr:=hs3.bel.blk HRb.out oMx oMx;have HR:=oH hr;have r0:=hr.at_ (i:=0) rfl;have r1:=hr.at_ (i:=1) rfl;have r2:=hr.at_ (i:=2) rfl;have f0:=hr.fr 0;have f1:=hr.fr 1;have f2:=hr.fr 2;have HK9:=oH hk9;clear hr hk9 hs3;go_wp2_with fail;refine bodyPost_ret (v := .agg #[.bool dv.nb,.slice dv.ad dv.l dv.c,.slice (some ⟨R2,0,none⟩) outs.length cC]) (by simp [results,Tryz.results34,go_sem,r0,r1,r2]) rfl ?_
 have e1:outs.length=rs.length:=by rw [HK9.out,HK.out]
 obtain ⟨h1,h2,h3,h4⟩:=HO.res (g:=w.heap.size) oMx HR.out xCy (a := .bool dv.nb) (b := .slice dv.ad dv.l dv.c) (c := .slice (some ⟨R2,0,none⟩) outs.length cC) (fun z e=>by cases e) (fun z e=>by cases e);rw [<-hQ.out,<-e1,HDD.out];exact ⟨R2,cC,outs,dv,rfl,rfl,h1.mono oMx,h2,h3,h4,((HBo.setCell (p:=⟨w.heap.size,0,none⟩) lRx _).setCell (p:=⟨w.heap.size,1,none⟩) lRx _).setCell (p:=⟨w.heap.size,2,none⟩) lRx _⟩
end Go.Proofs.YtbjaplppalcmgaaGreatDoor
