import Derived.Test.YtafflnognagadaaGreatDoorZOQ
set_option maxHeartbeats 16000000
set_option maxRecDepth 100000
set_option linter.unusedVariables false
set_option linter.unusedSimpArgs false
set_option linter.unusedSectionVars false
namespace Go.RowKit
open Go
section
variable {P : Program} {md : Region.Mode} {ops : Array Oper} {Q : Exit -> Act -> World -> Prop} {S S' : World -> Prop} {n : Nat}
def wpAnyU (P : Program) (md : Region.Mode) (ops : Array Oper) (Q : Exit -> Act -> World -> Prop) (S : World -> Prop) (n : Nat) : Nat -> Array Bool -> Act -> World -> Prop
 | 0, listed, a, w => Region.ready md ops listed = [] /\ Q .normal a w
 | fuel + 1, listed, a, w =>
  (Region.ready md ops listed = [] -> Q .normal a w) /\
  ∀ i ∈ Region.ready md ops listed, wpOp P ops Q i (fun a' w' => ((listed.setIfInBounds i true).getD n true = true \/ S w') /\ wpAnyU P md ops Q S n fuel (listed.setIfInBounds i true) a' w') a w
theorem wpAny_of_U : ∀ (fuel : Nat) (listed : Array Bool) (a : Act) (w : World), wpAnyU P md ops Q S n fuel listed a w -> wpAny P md ops Q fuel listed a w
 | 0, _, _, _, h => h
 | fuel + 1, _, _, _, h => ⟨h.1, fun i hi => wpOp_mono (fun a' w' h' => wpAny_of_U fuel _ a' w' h'.2) (h.2 i hi)⟩
theorem listed_more {l : Array Bool} {i : Nat} (h : l.getD n true = true) : (l.setIfInBounds i true).getD n true = true := by
 by_cases e : i = n
 ·subst e
  simp [Array.getD_eq_getD_getElem?, Array.getElem?_setIfInBounds]
  split <;> simp_all
 rw [getD_set_ne true e]; exact h
theorem wpAnyU_first {i : Nat} {oi : Oper} {v : Value} (hi : ops[i]? = some oi) (hsel : ∀ (j : Nat) (o : Oper) cs b, ops[j]? = some o -> o.op ≠ .select cs b)
  (hQ : ∀ c a w, Q (.panic c) (a.put oi.dst v) w -> Q (.panic c) a w) (hSS : ∀ w, S w -> S' w) (hin : i ≠ n) :
  ∀ (fuel : Nat) (listed : Array Bool) (a : Act) (w : World),
   ((∀ w, S' w) \/ (∃ on, ops[n]? = some on /\ ∃ e ∈ on.after, Region.binds md e = true /\ e.on = i) /\ listed.getD n true = false) ->
   (∀ j oj, ops[j]? = some oj -> j ≠ i -> listed.getD j true = false -> (∀ e ∈ oj.after, Region.binds md e = true -> e.on ≠ i) -> oi.apart ops oj = true) ->
   i ∈ Region.ready md ops listed -> YieldsIf P ops S' oi v a -> (listed.getD n true = true \/ S w) ->
   wpAnyU P md ops Q S n fuel (listed.setIfInBounds i true) (a.put oi.dst v) w -> wpAnyU P md ops Q S n (fuel + 1) listed a w := by
 intro fuel
 have key : ∀ {listed : Array Bool} {w : World}, ((∀ w, S' w) \/ (∃ on, ops[n]? = some on /\ ∃ e ∈ on.after, Region.binds md e = true /\ e.on = i) /\ listed.getD n true = false) -> (listed.getD n true = true \/ S w) -> S' w := by
  rintro listed w (h | ⟨-, h⟩) hs
  ·exact h w
  rcases hs with hs | hs
  ·rw [h] at hs; cases hs
  exact hSS _ hs
 induction fuel with
 | zero =>
  intro listed a w hb _ hr hy hS H
  refine ⟨fun h => (by rw [h] at hr; cases hr), fun j hj => ?_⟩
  by_cases hji : j = i
  ·subst hji; exact hy.wpOp hi (key hb hS) ⟨hS.imp listed_more id, H⟩
  have := ready_mono hj hji;rw [H.1] at this
  cases this
 | succ fuel ih =>
  intro listed a w hb hfree hr hy hS H
  refine ⟨fun h => (by rw [h] at hr; cases hr), fun j hj => ?_⟩
  by_cases hji : j = i
  ·subst hji; exact hy.wpOp hi (key hb hS) ⟨hS.imp listed_more id, H⟩
  have h1 := H.2 j (ready_mono hj hji);obtain ⟨hjun, oj, hoj, hall⟩ := mem_ready.1 hj
  have hnot : ∀ e ∈ oj.after, Region.binds md e = true -> e.on ≠ i := fun e he hbe heq => by
   have h1 := hall e he hbe;have h0 := (mem_ready.1 hr).1;rw [heq] at h1
   rcases Nat.lt_or_ge i listed.size with h' | h'
   ·simp [h'] at h0 h1; rw [h0] at h1; cases h1
   simp [Array.getElem?_eq_none h'] at h1
  have hb' : (∀ w, S' w) \/ (∃ on, ops[n]? = some on /\ ∃ e ∈ on.after, Region.binds md e = true /\ e.on = i) /\ (listed.setIfInBounds j true).getD n true = false := by
   refine hb.imp id fun ⟨h2, h3⟩ => ⟨h2, ?_⟩
   by_cases hjn : j = n
   ·subst hjn;obtain ⟨on, ho, e, he, hbe, heq⟩ := h2;rw [hoj] at ho;obtain rfl := Option.some.inj ho;exact absurd heq (hnot e he hbe)
   rw [getD_set_ne true hjn]; exact h3
  have h2 := wpOp_putIf hoj (hfree j oj hoj hji hjun hnot) (fun cs b => hsel i oi cs b hi) (fun cs b => hsel j oj cs b hoj) hQ hy h1
  have hfree' : ∀ k ok, ops[k]? = some ok -> k ≠ i -> (listed.setIfInBounds j true).getD k true = false ->
    (∀ e ∈ ok.after, Region.binds md e = true -> e.on ≠ i) -> oi.apart ops ok = true := fun k ok hk hki hun hno => by
   refine hfree k ok hk hki ?_ hno
   by_cases hjk : j = k
   ·subst hjk; exact hjun
   rw [getD_set_ne true hjk] at hun; exact hun
  refine wpOp_mono (fun a' w' h3 => ?_) h2
  have h4 : (listed.setIfInBounds j true).getD n true = true \/ S w' := by
   rcases h3.2.1 with h5 | h5
   ·rw [Array.setIfInBounds_comm _ _ (Ne.symm hji), getD_set_ne true hin] at h5;exact .inl h5
   exact .inr h5
  refine ⟨h4, ih (listed.setIfInBounds j true) a' w' hb' hfree' (ready_mono hr (Ne.symm hji)) h3.1 h4 ?_⟩;rw [Array.setIfInBounds_comm _ _ hji];exact h3.2.2
def boundB (md : Region.Mode) (ops : Array Oper) (n i : Nat) (listed : Array Bool) : Bool := (match ops[n]? with | some o => o.after.toList.any fun e => Region.binds md e && e.on == i | none => false) && !listed.getD n true && !(i == n)
theorem boundB_spec {i : Nat} {listed : Array Bool} (h : boundB md ops n i listed = true) : ((∃ on, ops[n]? = some on /\ ∃ e ∈ on.after, Region.binds md e = true /\ e.on = i) /\ listed.getD n true = false) /\ i ≠ n := by
 unfold boundB at h;simp only [Bool.and_eq_true, Bool.not_eq_true', beq_eq_false_iff_ne] at h;obtain ⟨⟨h1, h2⟩, h3⟩ := h;refine ⟨⟨?_, h2⟩, h3⟩
 split at h1
 ·rename_i on ho
  obtain ⟨e, he, h4⟩ := List.any_eq_true.1 h1;simp only [Bool.and_eq_true, beq_iff_eq] at h4;exact ⟨on, ho, e, Array.mem_toList_iff.1 he, h4.1, h4.2⟩
 cases h1
theorem wpAnyU_take {i : Nat} {oi : Oper} {v : Value} {fuel : Nat} {listed : Array Bool} {a : Act} {w : World} (hi : ops[i]? = some oi) (hb : boundB md ops n i listed = true)
  (hs : Region.noSelect ops = true) (hf : Region.free md ops listed i = true) (hr : (Region.ready md ops listed).contains i = true)
  (hQ : ∀ c a w, Q (.panic c) (a.put oi.dst v) w -> Q (.panic c) a w) (hy : YieldsIf P ops S oi v a) (hS : S w)
  (h : wpAnyU P md ops Q S n fuel (listed.setIfInBounds i true) (a.put oi.dst v) w) : wpAnyU P md ops Q S n (fuel + 1) listed a w :=
 wpAnyU_first (S' := S) hi (Region.noSelect_spec hs) hQ (fun _ h => h) (boundB_spec hb).2 fuel listed a w (.inr (boundB_spec hb).1) (Region.free_spec hi hf) (by simpa using hr) hy (.inr hS) h
theorem wpAnyU_takeF {i : Nat} {oi : Oper} {v : Value} {fuel : Nat} {listed : Array Bool} {a : Act} {w : World} (hi : ops[i]? = some oi) (hin : i ≠ n)
  (hs : Region.noSelect ops = true) (hf : Region.free md ops listed i = true) (hr : (Region.ready md ops listed).contains i = true)
  (hQ : ∀ c a w, Q (.panic c) (a.put oi.dst v) w -> Q (.panic c) a w) (hy : YieldsIf P ops (fun _ => True) oi v a) (hS : S w)
  (h : wpAnyU P md ops Q S n fuel (listed.setIfInBounds i true) (a.put oi.dst v) w) : wpAnyU P md ops Q S n (fuel + 1) listed a w :=
 wpAnyU_first (S' := fun _ => True) hi (Region.noSelect_spec hs) hQ (fun _ _ => trivial) hin fuel listed a w (.inl fun _ => trivial) (Region.free_spec hi hf) (by simpa using hr) hy (.inr hS) h
theorem wpAnyU_one {i : Nat} {o : Oper} {fuel : Nat} {listed : Array Bool} {a : Act} {w : World} (hr : Region.ready md ops listed = [i]) (ho : ops[i]? = some o)
  (h : ∀ K' : Act -> World -> Prop, Shut (∀ a w, S w -> (S w -> wpAnyU P md ops Q S n fuel (listed.setIfInBounds i true) a w) -> K' a w) -> if Region.wanted o (yielded ops a.tmps) = true then Oper.wp P o a w K' Q else K' (a.put o.dst undef) w) : wpAnyU P md ops Q S n (fuel + 1) listed a w :=
 ⟨fun h0 => absurd (hr ▸ h0) (by simp), fun j hj => by
  rw [hr, List.mem_singleton] at hj;subst hj
  exact wpOp_step ho fun K' hK => h K' fun a w hS hW => hK a w ⟨.inr hS, hW hS⟩⟩
theorem wpAnyU_n {o : Oper} {fuel : Nat} {listed : Array Bool} {a : Act} {w : World} (hr : Region.ready md ops listed = [n]) (hl : (listed.setIfInBounds n true).getD n true = true) (ho : ops[n]? = some o)
  (h : ∀ K' : Act -> World -> Prop, Shut (∀ a w, wpAnyU P md ops Q S n fuel (listed.setIfInBounds n true) a w -> K' a w) -> if Region.wanted o (yielded ops a.tmps) = true then Oper.wp P o a w K' Q else K' (a.put o.dst undef) w) : wpAnyU P md ops Q S n (fuel + 1) listed a w :=
 ⟨fun h0 => absurd (hr ▸ h0) (by simp), fun j hj => by
  rw [hr, List.mem_singleton] at hj;subst hj
  exact wpOp_step ho fun K' hK => h K' fun a w hW => hK a w ⟨.inl hl, hW⟩⟩
theorem wpAnyU_done {listed : Array Bool} {a : Act} {w : World} (hr : Region.ready md ops listed = []) (h : Q .normal a w) :
  ∀ fuel, wpAnyU P md ops Q S n fuel listed a w
 | 0 => ⟨hr, h⟩
 | _ + 1 => ⟨fun _ => h, by rw [hr]; simp⟩
theorem wp_region_ung {id : Nat} {a : Act} {w : World} (n : Nat) (hm : P.follows .mixedOrders = true) (hS : S w.drew)
  (h : S w.drew -> wpAnyU P .any ops Q S n ops.size (Array.replicate ops.size false) a w.drew) : (Code.region id ops true).wp P Q a w :=
 wp_region_any hm (wpAny_of_U _ _ _ _ (h hS))
end
end Go.RowKit
namespace Go.Proofs.YtafflnognagadaaGreatDoor
open Go.RowKit
structure zCk (S:zFv) (most:Nat) (fi:Int) (D:List Tbl) (l:List Chn):Prop where
 his:zBj S fi D l
 len:fi+l.length<=most
 tim:∀ c∈l,c.1<=20
theorem zCi {b rows most:Nat} {S:zFv} {w:World} (hsk:SK w b S) (hok:zFu S) (hlow:zCg S) (hr1:2<=rows) (hr2:rows<=5) (hm:most<=6) :
  Calls Tryz.prog 13 #[.pointer (some ⟨b,0,none⟩),.agg S.cells,.int .i64 (rows:Int),.int .i64 (most:Int)] w fun e w'=>∃ fi vb vc D l,e = .returned (.agg #[.int .i64 fi,vb,vc])/\Sl zOf w' vb D/\Sl zOc w' vc l/\zCk S most fi D l/\Src w' b/\w.grownBy w' (some b):=by
 have HSKw:=oH hsk;have HSO:=oH hok;have HLOW:=oH hlow;have hblt:=hsk.src.lt;have hba:Below w.heap.size w ((w.alloc (.cells S.cells 31)).alloc (.cells #[.int .i64 0,.slice none 0 0,.slice none 0 0] 37)):=(bA).alloc sMx _;have HG0:=oH ((GS.refl hsk.src).all hba);have HS0:=oH (show Blk ((w.alloc (.cells S.cells 31)).alloc (.cells #[.int .i64 0,.slice none 0 0,.slice none 0 0] 37)) w.heap.size 31 S.cells.toList from (Blk.new w _ S.cells.toList).alloc _);have HR0:=oH (show Blk ((w.alloc (.cells S.cells 31)).alloc (.cells #[.int .i64 0,.slice none 0 0,.slice none 0 0] 37)) (w.heap.size+1) 37 [.int .i64 0,.slice none 0 0,.slice none 0 0] from Blk.new' sMx _ [_,_,_]);have HRI:=oH (fun (W:World) (hW:GS w b W)=>MRich_of (most:=rows) (hW.sk hsk) hok hlow hr1 hr2);have HNW:=oH (fun (W:World) (hW:GS w b W) (D:List Tbl) (v:Value) (h1:Sl zOf W v D) (h2:DbK S D)=>RNew_of (hW.sk hsk).mem hok hlow h1 h2)
 have HAT:=oH (fun (W:World) (hW:GS w b W) (ub uc:Value) (D:List Tbl) (l:List Chn) (h1:Sl zOf W ub D) (h2:Sl zOc W uc l) (h3:zBj S 0 D l) (v:Int)=>zDp (v:=v) (hW.sk hsk).mem hok hlow h1 h2 h3);have HDT:=oH (fun (W:World) (hW:GS w b W) (D:List Tbl) (v:Value) (h1:Sl zOf W v D) (h2:DbK S D)=>zCh (hW.sk hsk) hok h1 h2);have HCM:=oH (fun (W:World) (hW:GS w b W) (ub uc u:Value) (D:List Tbl) (l:List Chn) (t:Int) (ds:List Dlt) (h1:Sl zOf W ub D) (h2:Sl zOc W uc l) (h3:zBj S 0 D l) (h4:Sl zOd W u ds) (h5:zAg S ds) (h6:l.length<24) (h7:zOi l<=t) (h8:t<=1099511627776)=>zDv (hW.sk hsk).mem hok hlow h1 h2 h3 h4 h5 h6 h7 h8);have HCT:=oH (fun (W:World) (hW:GS w b W) (ub uc:Value) (D:List Tbl) (l:List Chn) (h1:Sl zOf W ub D) (h2:Sl zOc W uc l) (h3:zBj S 0 D l) (v:Int)=>zDw (v:=v) (hW.sk hsk).mem hok hlow h1 h2 h3);have HNE:=oH (show w.heap.size≠b/\w.heap.size+1≠b from ⟨oMx,oMx⟩);clear hba;generalize hcs:S.cells=cs at HG0 HS0 HR0 HRI HNW HAT HDT HCM HCT ⊢
 obtain ⟨q0,q1,q2,q3q,hq⟩:∃ a b c d,cs=#[a,b,c,d]:=⟨_,_,_,_,hcs.symm⟩;subst hq;clear hcs hsk hok hlow
 go_enter Tryz.func13,Tryz.ntmps13
 go_upto_region 1 with (fail)
 go_cut [9,10] (fun v9 v10 wc=>∃ (gh:Nat) (vb vc:Value) (D:List Tbl),v9 = .pointer (some ⟨gh,0,none⟩)/\v10 = .int .i64 0/\Blk wc gh 37 [.int .i64 0,vb,vc]/\Sl zOf wc vb D/\Sl zOc wc vc []/\DbK S D/\GS w b wc/\Blk wc w.heap.size 31 [q0,q1,q2,q3q]/\Blk wc (w.heap.size+1) 37 [.int .i64 0,.slice none 0 0,.slice none 0 0]/\w.heap.size+1<gh)
 case first =>
  generalize ((w.alloc (.cells #[q0,q1,q2,q3q] 31)).alloc (.cells #[.int .i64 0,.slice none 0 0,.slice none 0 0] 37))=wz at *;have GSz:=HG0;have HSBz:=HS0;have HRBz:=HR0;have HNZ:=oH (show w.heap.size+1<wz.heap.size from HR0.lt);have HNZA:=oH (fun (W:World) (h:GS w b W)=>(show True from trivial))
  have KBz:Hid (∀ W,Below wz.heap.size wz W->W.cell? ⟨w.heap.size,0,none⟩=some (q0)/\W.cell? ⟨w.heap.size,1,none⟩=some (q1)/\W.cell? ⟨w.heap.size,2,none⟩=some (q2)/\W.cell? ⟨w.heap.size,3,none⟩=some (q3q)):=oH fun W hW=>⟨(HSBz.below hW).at_ (i:=0) rfl,(HSBz.below hW).at_ (i:=1) rfl,(HSBz.below hW).at_ (i:=2) rfl,(HSBz.below hW).at_ (i:=3) rfl⟩
  have HWz:=oH (Below.refl wz.heap.size wz).drew;refine wp_region_held_drew (S:=(fun w'=>w'.cell? ⟨w.heap.size,0,none⟩=some (q0)/\w'.cell? ⟨w.heap.size,1,none⟩=some (q1)/\w'.cell? ⟨w.heap.size,2,none⟩=some (q2)/\w'.cell? ⟨w.heap.size,3,none⟩=some (q3q))) (by kernel_rfl) (by exact KBz.out _ HWz.out) (fun hHeld=>?_);refine tkH 0 ?_;refine tkH 1 ?_;refine tkH 2 ?_;refine tkH 3 ?_
  try simp only [Act.put,tkA,tkB,tkC]
  refine wpAnyH_ready (rs:=[4,9]) (by kernel_rfl) sMx ?_;refine AllReadyH.cons rfl (fun K hK=>?_) ?_
  ·clear hHeld
   go_simp
   (go_at_call 33;(with_reducible refine (HRI.out _ (GSz.out.all HWz.out)).mono ?_);rintro e wa ⟨va,D,rfl,ho,hdb,hs,hg⟩;obtain ⟨Aa,ca,rfl, -⟩:=ho.form;have GSa:=oH ((GSz.out.all HWz.out).step hg hs);have HOa:=oH ho.sl;have HDb:=oH hdb;have HSBa:=oH ((HSBz.out.below HWz.out).src hg HNE.out.1);have HRBa:=oH ((HRBz.out.below HWz.out).src hg HNE.out.2);have KBa:Hid (∀ W,Below wa.heap.size wa W->W.cell? ⟨w.heap.size,0,none⟩=some (q0)/\W.cell? ⟨w.heap.size,1,none⟩=some (q1)/\W.cell? ⟨w.heap.size,2,none⟩=some (q2)/\W.cell? ⟨w.heap.size,3,none⟩=some (q3q)):=oH fun W hW=>⟨(HSBa.out.below hW).at_ (i:=0) rfl,(HSBa.out.below hW).at_ (i:=1) rfl,(HSBa.out.below hW).at_ (i:=2) rfl,(HSBa.out.below hW).at_ (i:=3) rfl⟩;clear ho hs hg hdb)
   go_wp2_with fail;refine hK.out _ _ ?_ (fun hHeld=>?_)
   ·first|with_reducible exact KS11.out|with_reducible exact KS10.out _ HK10.out|with_reducible exact KBa.out _ HWm.out|with_reducible exact KBa.out _ HWb.out|with_reducible exact KBa.out _ bRx|with_reducible exact KBz.out _ HWm.out
   clear hK K
   try simp only [Act.put,tkA,tkB,tkC]
   refine wpAnyH_ready (rs:=[5,9]) (by kernel_rfl) sMx ?_;refine AllReadyH.cons rfl (fun K hK=>?_) ?_
   ·clear hHeld
    go_simp
    (go_at_call 32;(with_reducible refine (HNW.out _ GSa.out D (.slice Aa D.length ca) (HOa.out) HDb.out).mono ?_);rintro e wb ⟨vb,vc,rfl,hb1,hc1,hbel⟩;obtain ⟨Ab,cb,rfl, -⟩:=hb1.form;obtain ⟨Ac,cc,rfl, -⟩:=hc1.form;have HWb:Hid (Below wa.heap.size wa wb):=oH (hbel);have HVb:=oH hb1;have HVc:=oH hc1;have GSb:=oH (GSa.out.all HWb.out);have HSBb:=oH (HSBa.out.below HWb.out);have HRBb:=oH (HRBa.out.below HWb.out);clear hb1 hc1 hbel)
    go_wp2_with fail;refine hK.out _ _ ?_ (fun hHeld=>?_)
    ·first|with_reducible exact KS11.out|with_reducible exact KS10.out _ HK10.out|with_reducible exact KBa.out _ HWm.out|with_reducible exact KBa.out _ HWb.out|with_reducible exact KBa.out _ bRx|with_reducible exact KBz.out _ HWm.out
    clear hK K
    try simp only [Act.put,tkA,tkB,tkC]
    refine tkH 6 ?_;refine tkH 7 ?_;refine tkH 8 ?_
    try simp only [Act.put,tkA,tkB,tkC]
    refine tkS 9 fun K hK=>?_
    go_simp
    have HWm:=oH (HWb.alloc HWb.size (.cells #[.int .i64 0,.slice none 0 0,.slice none 0 0] 37));refine hK.out _ _ ?_ (fun hHeld=>?_)
    ·first|with_reducible exact KS11.out|with_reducible exact KS10.out _ HK10.out|with_reducible exact KBa.out _ HWm.out|with_reducible exact KBa.out _ HWb.out|with_reducible exact KBa.out _ bRx|with_reducible exact KBz.out _ HWm.out
    clear hK K
    try simp only [Act.put,tkA,tkB,tkC]
    refine tkS 10 fun K hK=>?_
    go_simp
    have KS10:Hid (∀ W,Below wa.heap.size wa W->W.cell? ⟨w.heap.size,0,none⟩=some (q0)/\W.cell? ⟨w.heap.size,1,none⟩=some (q1)/\W.cell? ⟨w.heap.size,2,none⟩=some (q2)/\W.cell? ⟨w.heap.size,3,none⟩=some (q3q)):=KBa;have HK10:=oH (HWb.alloc HWb.size (.cells #[.int .i64 0,.slice Ab D.length cb,.slice Ac 0 cc] 37))
    refine hK.out _ _ ?_ (fun hHeld=>?_)
    ·first|with_reducible exact KS11.out|with_reducible exact KS10.out _ HK10.out|with_reducible exact KBa.out _ HWm.out|with_reducible exact KBa.out _ HWb.out|with_reducible exact KBa.out _ bRx|with_reducible exact KBz.out _ HWm.out
    clear hK K
    try simp only [Act.put,tkA,tkB,tkC]
    refine tkH 11 ?_
    try simp only [Act.put,List.setIfInBounds_toArray,List.set_cons_zero,List.set_cons_succ,List.getElem_toArray,List.getElem_cons_succ,List.getElem_cons_zero,List.getElem?_toArray,List.getElem?_cons_succ,List.getElem?_cons_zero,Option.getD_some]
    refine wpAnyH_done (by kernel_rfl) ?_ _;go_wp2_with fail
    go_meet
    first
     | exact ⟨wb.heap.size,.slice Ab D.length cb,.slice Ac 0 cc,D,rfl,rfl,Blk.new wb 37 [_,_,_],HVb.below (bA),HVc.below (bA),HDb.out,GSb.all (bA),HSBb.alloc _,HRBb.alloc _,by have:=HRBb.lt;omega⟩
     | exact ⟨wa.heap.size,.slice Ab D.length cb,.slice Ac 0 cc,D,rfl,rfl,HB10.1,HVb.kp HB10.2.1 dCx,HVc.kp HB10.2.1 dCx,HDb.out,GSb.bel (HB10.2.2 _ (by have:=HRBz.lt;have:=HRBa.lt;omega)),HSBb.under (HB10.2.2 (w.heap.size+2) (by have:=HRBz.lt;have:=HRBa.lt;omega)) oMx,HRBb.under (HB10.2.2 (w.heap.size+2) (by have:=HRBz.lt;have:=HRBa.lt;omega)) oMx,by have:=HRBz.lt;have:=HRBa.lt;omega⟩
     | exact ⟨wz.heap.size,.slice Ab D.length cb,.slice Ac 0 cc,D,rfl,rfl,HB10.1,HVb.kp HB10.2.1 dCx,HVc.kp HB10.2.1 dCx,HDb.out,GSb.bel (HB10.2.2 _ (by have:=HRBz.lt;have:=HRBa.lt;omega)),HSBb.under (HB10.2.2 (w.heap.size+2) (by have:=HRBz.lt;have:=HRBa.lt;omega)) oMx,HRBb.under (HB10.2.2 (w.heap.size+2) (by have:=HRBz.lt;have:=HRBa.lt;omega)) oMx,by have:=HRBz.lt;have:=HRBa.lt;omega⟩
   refine AllReadyH.cons rfl (fun K hK=>?_) AllReadyH.nil
   go_simp
   have HWm:=oH ((Below.refl wa.heap.size wa).alloc lRx (.cells #[.int .i64 0,.slice none 0 0,.slice none 0 0] 37));have HXm:=oH (show Blk (wa.alloc (.cells #[.int .i64 0,.slice none 0 0,.slice none 0 0] 37)) wa.heap.size 37 [.int .i64 0,.slice none 0 0,.slice none 0 0] from Blk.new wa _ [_,_,_])
   refine hK.out _ _ ?_ (fun hHeld=>?_)
   ·first|with_reducible exact KS11.out|with_reducible exact KS10.out _ HK10.out|with_reducible exact KBa.out _ HWm.out|with_reducible exact KBa.out _ HWb.out|with_reducible exact KBa.out _ bRx|with_reducible exact KBz.out _ HWm.out
   clear hK K
   try simp only [Act.put,tkA,tkB,tkC]
   refine tkS 5 fun K hK=>?_
   go_simp
   (go_at_call 32;(with_reducible refine (HNW.out _ (GSa.out.all HWm.out) D (.slice Aa D.length ca) (HOa.out.below HWm.out) HDb.out).mono ?_);rintro e wb ⟨vb,vc,rfl,hb1,hc1,hbel⟩;obtain ⟨Ab,cb,rfl, -⟩:=hb1.form;obtain ⟨Ac,cc,rfl, -⟩:=hc1.form;have HWb:Hid (Below wa.heap.size wa wb):=bTx2 HWm hbel;have HVb:=oH hb1;have HVc:=oH hc1;have GSb:=oH (GSa.out.all HWb.out);have HSBb:=oH (HSBa.out.below HWb.out);have HRBb:=oH (HRBa.out.below HWb.out);have HXb:=oH (HXm.out.below hbel);have kx0:=HXb.out.at_ (i:=0) rfl;have kx1:=HXb.out.at_ (i:=1) rfl;have kx2:=HXb.out.at_ (i:=2) rfl;have fx0:=HXb.out.fr 0;have fx1:=HXb.out.fr 1;have fx2:=HXb.out.fr 2;clear hb1 hc1 hbel)
   go_wp2_with fail;refine hK.out _ _ ?_ (fun hHeld=>?_)
   ·first|with_reducible exact KS11.out|with_reducible exact KS10.out _ HK10.out|with_reducible exact KBa.out _ HWm.out|with_reducible exact KBa.out _ HWb.out|with_reducible exact KBa.out _ bRx|with_reducible exact KBz.out _ HWm.out
   clear hK K
   try simp only [Act.put,tkA,tkB,tkC]
   refine tkH 6 ?_;refine tkH 7 ?_;refine tkH 8 ?_
   try simp only [Act.put,tkA,tkB,tkC]
   refine tkS 10 fun K hK=>?_
   go_simp
   have HB10:=oH (zIc HXb.out (.int .i64 0) (.slice Ab D.length cb) (.slice Ac 0 cc));have KS11:Hid ((((wb.setCell ⟨wa.heap.size,0,none⟩ (.int .i64 0)).setCell ⟨wa.heap.size,1,none⟩ (.slice Ab D.length cb)).setCell ⟨wa.heap.size,2,none⟩ (.slice Ac 0 cc)).cell? ⟨w.heap.size,0,none⟩=some (q0)/\(((wb.setCell ⟨wa.heap.size,0,none⟩ (.int .i64 0)).setCell ⟨wa.heap.size,1,none⟩ (.slice Ab D.length cb)).setCell ⟨wa.heap.size,2,none⟩ (.slice Ac 0 cc)).cell? ⟨w.heap.size,1,none⟩=some (q1)/\(((wb.setCell ⟨wa.heap.size,0,none⟩ (.int .i64 0)).setCell ⟨wa.heap.size,1,none⟩ (.slice Ab D.length cb)).setCell ⟨wa.heap.size,2,none⟩ (.slice Ac 0 cc)).cell? ⟨w.heap.size,2,none⟩=some (q2)/\(((wb.setCell ⟨wa.heap.size,0,none⟩ (.int .i64 0)).setCell ⟨wa.heap.size,1,none⟩ (.slice Ab D.length cb)).setCell ⟨wa.heap.size,2,none⟩ (.slice Ac 0 cc)).cell? ⟨w.heap.size,3,none⟩=some (q3q)):=oH (by have hf:=((HSBb.far (p:=⟨wa.heap.size,0,none⟩) (by have:=HSBz.lt;have:=HSBa.lt;show w.heap.size≠wa.heap.size;omega) (.int .i64 0)).far (p:=⟨wa.heap.size,1,none⟩) (by have:=HSBz.lt;have:=HSBa.lt;show w.heap.size≠wa.heap.size;omega) (.slice Ab D.length cb)).far (p:=⟨wa.heap.size,2,none⟩) (by have:=HSBz.lt;have:=HSBa.lt;show w.heap.size≠wa.heap.size;omega) (.slice Ac 0 cc);exact ⟨hf.at_ (i:=0) rfl,hf.at_ (i:=1) rfl,hf.at_ (i:=2) rfl,hf.at_ (i:=3) rfl⟩)
   refine hK.out _ _ ?_ (fun hHeld=>?_)
   ·first|with_reducible exact KS11.out|with_reducible exact KS10.out _ HK10.out|with_reducible exact KBa.out _ HWm.out|with_reducible exact KBa.out _ HWb.out|with_reducible exact KBa.out _ bRx|with_reducible exact KBz.out _ HWm.out
   clear hK K
   try simp only [Act.put,tkA,tkB,tkC]
   refine tkH 11 ?_
   try simp only [Act.put,List.setIfInBounds_toArray,List.set_cons_zero,List.set_cons_succ,List.getElem_toArray,List.getElem_cons_succ,List.getElem_cons_zero,List.getElem?_toArray,List.getElem?_cons_succ,List.getElem?_cons_zero,Option.getD_some]
   refine wpAnyH_done (by kernel_rfl) ?_ _;go_wp2_with fail
   go_meet
   first
    | exact ⟨wb.heap.size,.slice Ab D.length cb,.slice Ac 0 cc,D,rfl,rfl,Blk.new wb 37 [_,_,_],HVb.below (bA),HVc.below (bA),HDb.out,GSb.all (bA),HSBb.alloc _,HRBb.alloc _,by have:=HRBb.lt;omega⟩
    | exact ⟨wa.heap.size,.slice Ab D.length cb,.slice Ac 0 cc,D,rfl,rfl,HB10.1,HVb.kp HB10.2.1 dCx,HVc.kp HB10.2.1 dCx,HDb.out,GSb.bel (HB10.2.2 _ (by have:=HRBz.lt;have:=HRBa.lt;omega)),HSBb.under (HB10.2.2 (w.heap.size+2) (by have:=HRBz.lt;have:=HRBa.lt;omega)) oMx,HRBb.under (HB10.2.2 (w.heap.size+2) (by have:=HRBz.lt;have:=HRBa.lt;omega)) oMx,by have:=HRBz.lt;have:=HRBa.lt;omega⟩
    | exact ⟨wz.heap.size,.slice Ab D.length cb,.slice Ac 0 cc,D,rfl,rfl,HB10.1,HVb.kp HB10.2.1 dCx,HVc.kp HB10.2.1 dCx,HDb.out,GSb.bel (HB10.2.2 _ (by have:=HRBz.lt;have:=HRBa.lt;omega)),HSBb.under (HB10.2.2 (w.heap.size+2) (by have:=HRBz.lt;have:=HRBa.lt;omega)) oMx,HRBb.under (HB10.2.2 (w.heap.size+2) (by have:=HRBz.lt;have:=HRBa.lt;omega)) oMx,by have:=HRBz.lt;have:=HRBa.lt;omega⟩
  refine AllReadyH.cons rfl (fun K hK=>?_) AllReadyH.nil
  go_simp
  have HWm:=oH ((Below.refl wz.heap.size wz).alloc lRx (.cells #[.int .i64 0,.slice none 0 0,.slice none 0 0] 37)).drew;have HXm:Hid (Blk (wz.alloc (.cells #[.int .i64 0,.slice none 0 0,.slice none 0 0] 37)).drew wz.heap.size 37 [.int .i64 0,.slice none 0 0,.slice none 0 0]):=oH (Blk.new wz 37 [_,_,_]).drew
  refine hK.out _ _ ?_ (fun hHeld=>?_)
  ·first|with_reducible exact KS11.out|with_reducible exact KS10.out _ HK10.out|with_reducible exact KBa.out _ HWm.out|with_reducible exact KBa.out _ HWb.out|with_reducible exact KBa.out _ bRx|with_reducible exact KBz.out _ HWm.out
  clear hK K
  try simp only [Act.put,tkA,tkB,tkC]
  refine tkS 4 fun K hK=>?_
  go_simp
  (go_at_call 33;(with_reducible refine (HRI.out _ (GSz.out.all HWm.out)).mono ?_);rintro e wa ⟨va,D,rfl,ho,hdb,hs,hg⟩;obtain ⟨Aa,ca,rfl, -⟩:=ho.form;have GSa:=oH ((GSz.out.all HWm.out).step hg hs);have HOa:=oH ho.sl;have HDb:=oH hdb;have HSBa:=oH ((HSBz.out.below HWm.out).src hg HNE.out.1);have HRBa:=oH ((HRBz.out.below HWm.out).src hg HNE.out.2);have HXa:=oH (HXm.out.src hg (by have:=GSz.out.gr.size;have:=GSz.out.lt;omega));have KBa:Hid (∀ W,Below wa.heap.size wa W->W.cell? ⟨w.heap.size,0,none⟩=some (q0)/\W.cell? ⟨w.heap.size,1,none⟩=some (q1)/\W.cell? ⟨w.heap.size,2,none⟩=some (q2)/\W.cell? ⟨w.heap.size,3,none⟩=some (q3q)):=oH fun W hW=>⟨(HSBa.out.below hW).at_ (i:=0) rfl,(HSBa.out.below hW).at_ (i:=1) rfl,(HSBa.out.below hW).at_ (i:=2) rfl,(HSBa.out.below hW).at_ (i:=3) rfl⟩;clear ho hs hg hdb)
  go_wp2_with fail;refine hK.out _ _ ?_ (fun hHeld=>?_)
  ·first|with_reducible exact KS11.out|with_reducible exact KS10.out _ HK10.out|with_reducible exact KBa.out _ HWm.out|with_reducible exact KBa.out _ HWb.out|with_reducible exact KBa.out _ bRx|with_reducible exact KBz.out _ HWm.out
  clear hK K
  try simp only [Act.put,tkA,tkB,tkC]
  refine tkS 5 fun K hK=>?_
  go_simp
  (go_at_call 32;(with_reducible refine (HNW.out _ GSa.out D (.slice Aa D.length ca) (HOa.out) HDb.out).mono ?_);rintro e wb ⟨vb,vc,rfl,hb1,hc1,hbel⟩;obtain ⟨Ab,cb,rfl, -⟩:=hb1.form;obtain ⟨Ac,cc,rfl, -⟩:=hc1.form;have HWb:Hid (Below wa.heap.size wa wb):=oH (hbel);have HVb:=oH hb1;have HVc:=oH hc1;have GSb:=oH (GSa.out.all HWb.out);have HSBb:=oH (HSBa.out.below HWb.out);have HRBb:=oH (HRBa.out.below HWb.out);have HXb:=oH (HXa.out.below hbel);have kx0:=HXb.out.at_ (i:=0) rfl;have kx1:=HXb.out.at_ (i:=1) rfl;have kx2:=HXb.out.at_ (i:=2) rfl;have fx0:=HXb.out.fr 0;have fx1:=HXb.out.fr 1;have fx2:=HXb.out.fr 2;clear hb1 hc1 hbel)
  go_wp2_with fail;refine hK.out _ _ ?_ (fun hHeld=>?_)
  ·first|with_reducible exact KS11.out|with_reducible exact KS10.out _ HK10.out|with_reducible exact KBa.out _ HWm.out|with_reducible exact KBa.out _ HWb.out|with_reducible exact KBa.out _ bRx|with_reducible exact KBz.out _ HWm.out
  clear hK K
  try simp only [Act.put,tkA,tkB,tkC]
  refine tkH 6 ?_;refine tkH 7 ?_;refine tkH 8 ?_
  try simp only [Act.put,tkA,tkB,tkC]
  refine tkS 10 fun K hK=>?_
  go_simp
  have HB10:=oH (zIc HXb.out (.int .i64 0) (.slice Ab D.length cb) (.slice Ac 0 cc));have KS11:Hid ((((wb.setCell ⟨wz.heap.size,0,none⟩ (.int .i64 0)).setCell ⟨wz.heap.size,1,none⟩ (.slice Ab D.length cb)).setCell ⟨wz.heap.size,2,none⟩ (.slice Ac 0 cc)).cell? ⟨w.heap.size,0,none⟩=some (q0)/\(((wb.setCell ⟨wz.heap.size,0,none⟩ (.int .i64 0)).setCell ⟨wz.heap.size,1,none⟩ (.slice Ab D.length cb)).setCell ⟨wz.heap.size,2,none⟩ (.slice Ac 0 cc)).cell? ⟨w.heap.size,1,none⟩=some (q1)/\(((wb.setCell ⟨wz.heap.size,0,none⟩ (.int .i64 0)).setCell ⟨wz.heap.size,1,none⟩ (.slice Ab D.length cb)).setCell ⟨wz.heap.size,2,none⟩ (.slice Ac 0 cc)).cell? ⟨w.heap.size,2,none⟩=some (q2)/\(((wb.setCell ⟨wz.heap.size,0,none⟩ (.int .i64 0)).setCell ⟨wz.heap.size,1,none⟩ (.slice Ab D.length cb)).setCell ⟨wz.heap.size,2,none⟩ (.slice Ac 0 cc)).cell? ⟨w.heap.size,3,none⟩=some (q3q)):=oH (by have hf:=((HSBb.far (p:=⟨wz.heap.size,0,none⟩) (by have:=HSBz.lt;have:=HSBa.lt;show w.heap.size≠wz.heap.size;omega) (.int .i64 0)).far (p:=⟨wz.heap.size,1,none⟩) (by have:=HSBz.lt;have:=HSBa.lt;show w.heap.size≠wz.heap.size;omega) (.slice Ab D.length cb)).far (p:=⟨wz.heap.size,2,none⟩) (by have:=HSBz.lt;have:=HSBa.lt;show w.heap.size≠wz.heap.size;omega) (.slice Ac 0 cc);exact ⟨hf.at_ (i:=0) rfl,hf.at_ (i:=1) rfl,hf.at_ (i:=2) rfl,hf.at_ (i:=3) rfl⟩)
  refine hK.out _ _ ?_ (fun hHeld=>?_)
  ·first|with_reducible exact KS11.out|with_reducible exact KS10.out _ HK10.out|with_reducible exact KBa.out _ HWm.out|with_reducible exact KBa.out _ HWb.out|with_reducible exact KBa.out _ bRx|with_reducible exact KBz.out _ HWm.out
  clear hK K
  try simp only [Act.put,tkA,tkB,tkC]
  refine tkH 11 ?_
  try simp only [Act.put,List.setIfInBounds_toArray,List.set_cons_zero,List.set_cons_succ,List.getElem_toArray,List.getElem_cons_succ,List.getElem_cons_zero,List.getElem?_toArray,List.getElem?_cons_succ,List.getElem?_cons_zero,Option.getD_some]
  refine wpAnyH_done (by kernel_rfl) ?_ _;go_wp2_with fail
  go_meet
  first
   | exact ⟨wb.heap.size,.slice Ab D.length cb,.slice Ac 0 cc,D,rfl,rfl,Blk.new wb 37 [_,_,_],HVb.below (bA),HVc.below (bA),HDb.out,GSb.all (bA),HSBb.alloc _,HRBb.alloc _,by have:=HRBb.lt;omega⟩
   | exact ⟨wa.heap.size,.slice Ab D.length cb,.slice Ac 0 cc,D,rfl,rfl,HB10.1,HVb.kp HB10.2.1 dCx,HVc.kp HB10.2.1 dCx,HDb.out,GSb.bel (HB10.2.2 _ (by have:=HRBz.lt;have:=HRBa.lt;omega)),HSBb.under (HB10.2.2 (w.heap.size+2) (by have:=HRBz.lt;have:=HRBa.lt;omega)) oMx,HRBb.under (HB10.2.2 (w.heap.size+2) (by have:=HRBz.lt;have:=HRBa.lt;omega)) oMx,by have:=HRBz.lt;have:=HRBa.lt;omega⟩
   | exact ⟨wz.heap.size,.slice Ab D.length cb,.slice Ac 0 cc,D,rfl,rfl,HB10.1,HVb.kp HB10.2.1 dCx,HVc.kp HB10.2.1 dCx,HDb.out,GSb.bel (HB10.2.2 _ (by have:=HRBz.lt;have:=HRBa.lt;omega)),HSBb.under (HB10.2.2 (w.heap.size+2) (by have:=HRBz.lt;have:=HRBa.lt;omega)) oMx,HRBb.under (HB10.2.2 (w.heap.size+2) (by have:=HRBz.lt;have:=HRBa.lt;omega)) oMx,by have:=HRBz.lt;have:=HRBa.lt;omega⟩
 case rest =>
  obtain ⟨gh,vb,vc,D,rfl,rfl,hhb,hvb,hvc,hdb,hgs,hsb,hrb,hgh⟩:=hcut
  have hg0:IntKind.i64.wrap ((most:Int)+1)=((most+1:Nat):Int):=by rw [IntWalk.i64_in _ oMx];omega
  have HN:=oH (zCm b ((most+1:Nat):Int) wc hgs.src oMx oMx);have HHB:=oH hhb;have HVB:=oH hvb;have HVC:=oH hvc;have HDB:=oH hdb;have HGS:=oH hgs;have HSB:=oH hsb;have HRB:=oH hrb;clear hhb hvb hvc hdb hgs hsb hrb HG0 HS0 HR0 HRI HNW;go_wp2_with fail;refine HN.mono ?_;rintro e w1 ⟨k0,rfl,hk0,hs1,hg1⟩;have HG1:=oH (HGS.step hg1 hs1);have HH1:=oH (HHB.src hg1 oMx);have HVB1:=oH (HVB.src HGS.src hg1 dCx);have HVC1:=oH (HVC.src HGS.src hg1 dCx);have HS1:=oH (HSB.src hg1 HNE.1);have HR1:=oH (HRB.src hg1 HNE.2);clear hs1 hg1 HN HGS HHB HVB HVC HSB HRB hg0;go_wp2_with fail
  go_loopw [11,12] (fun tv kv wr=>∃ (n:Nat) (tm:Int) (vb vc:Value) (l:List Chn),tv = .int .i64 tm/\kv = .int .i64 (n:Int)/\Blk wr gh 37 [.int .i64 0,vb,vc]/\Sl zOf wr vb D/\Sl zOc wr vc l/\zBj S 0 D l/\zOi l<=tm/\tm+2*(n:Int)<=12/\l.length+n<=most/\GS w b wr/\Blk wr w.heap.size 31 [q0,q1,q2,q3q]/\Blk wr (w.heap.size+1) 37 [.int .i64 0,.slice none 0 0,.slice none 0 0]) (fun _ kv _=>(intOf kv).toNat)
  ·exact ⟨k0,0,_,_,[],rfl,rfl,HH1.out,HVB1.out,HVC1.out,.new HDB.out,dCx,oMx,by simp only [List.length_nil];omega,HG1.out,HS1.out,HR1.out⟩
  clear HG1 HH1 HVB1 HVC1 HS1 HR1;obtain ⟨n,tm,vb,vc,l,rfl,rfl,hhb,hvb,hvc,hhk,hlt,htm,hln,hgs,hsb,hrb⟩:=hrel;obtain ⟨Ab,cb,rfl, -⟩:=hvb.form;obtain ⟨Ac,cc,rfl, -⟩:=hvc.form;have HHB:=oH hhb;have HVB:=oH hvb;have HVC:=oH hvc;have HIS:=oH hhk;have hl0:=hhk.last.1;have HGS:=oH hgs;have HSB:=oH hsb;have HRB:=oH hrb;clear hhb hvb hvc hhk hgs hsb hrb
  by_cases hn:0<n
  ·have hd:=decide_eq_true hn;have HN3:=oH (zCm b 3 wr HGS.src oMx oMx);go_wp2_with fail;refine HN3.mono ?_;rintro e w2 ⟨q3',rfl,hq3,hs2,hg2⟩;obtain ⟨q3,hq3e⟩:∃ q3:Int,(q3':Int)=q3:=⟨_,rfl⟩;rw [hq3e] at hq3 ⊢
   have hq30:0<=q3:=by omega
   clear hq3e;have hgt:IntKind.i64.wrap (tm+q3)=tm+q3:=IntWalk.i64_in _ oMx;have GS2:=oH (HGS.step hg2 hs2);have HH2:=oH (HHB.src hg2 oMx);have HVB2:=oH (HVB.src HGS.src hg2 dCx);have HVC2:=oH (HVC.src HGS.src hg2 dCx);have HS2:=oH (HSB.src hg2 HNE.1);have HR2:=oH (HRB.src hg2 HNE.2)
   have HLA:=oH (fun (W:World)=>(show Calls Tryz.prog 24 #[.agg #[.int .i64 0,.slice Ab D.length cb,.slice Ac l.length cc]] W fun e w'=>e = .returned (.int .i64 (l.length:Int))/\Below W.heap.size W w' from by
    have h:=zEe (fi:=0) (ub := .slice Ab D.length cb) (A:=Ac) (n:=l.length) (c:=cc) (w:=W) dCx dCx oMx;rw [Int.zero_add] at h
    exact h))
   have HAC:=oH (fun (W:World) (hW:Below w2.heap.size w2 W)=>(show Calls Tryz.prog 23 #[.agg #[q0,q1,q2,q3q],.agg #[.int .i64 0,.slice Ab D.length cb,.slice Ac l.length cc],.int .i64 (l.length:Int)] W (zFk W 0 (zZm D l l.length)) from by
    have h:=HAT.out W (GS2.all hW) _ _ D l (HVB2.below hW) (HVC2.below hW) HIS.out (0+(l.length:Int));rw [zHf,zHj,Int.zero_add] at h
    exact h))
   clear hs2 hg2 HN3 HGS HHB HVB HVC HSB HRB;generalize hnb:D.length=nb at *;have HNB0:=oH hnb;clear hnb
   have KB:Hid (∀ W,Below w2.heap.size w2 W->W.cell? ⟨w.heap.size,0,none⟩=some (q0)/\W.cell? ⟨w.heap.size,1,none⟩=some (q1)/\W.cell? ⟨w.heap.size,2,none⟩=some (q2)/\W.cell? ⟨w.heap.size,3,none⟩=some (q3q)/\W.cell? ⟨gh,0,none⟩=some (.int .i64 0)/\W.cell? ⟨gh,1,none⟩=some (.slice Ab nb cb)/\W.cell? ⟨gh,2,none⟩=some (.slice Ac l.length cc)):=oH fun W hW=>⟨(HS2.below hW).at_ (i:=0) rfl,(HS2.below hW).at_ (i:=1) rfl,(HS2.below hW).at_ (i:=2) rfl,(HS2.below hW).at_ (i:=3) rfl,(HH2.below hW).at_ (i:=0) rfl,(HH2.below hW).at_ (i:=1) rfl,(HH2.below hW).at_ (i:=2) rfl⟩
   have HWz:=oH (Below.refl w2.heap.size w2).drew;go_wp2_with fail;refine wp_region_held_drew (S:=(fun w'=>w'.cell? ⟨w.heap.size,0,none⟩=some (q0)/\w'.cell? ⟨w.heap.size,1,none⟩=some (q1)/\w'.cell? ⟨w.heap.size,2,none⟩=some (q2)/\w'.cell? ⟨w.heap.size,3,none⟩=some (q3q)/\w'.cell? ⟨gh,0,none⟩=some (.int .i64 0)/\w'.cell? ⟨gh,1,none⟩=some (.slice Ab nb cb)/\w'.cell? ⟨gh,2,none⟩=some (.slice Ac l.length cc))) (by kernel_rfl) (by exact KB.out _ HWz.out) (fun hHeld=>?_);refine tkH 0 ?_;refine tkH 1 ?_;refine tkH 2 ?_
   try simp only [Act.put,tkA,tkB,tkC]
   refine tkS 3 fun K hK=>?_
   go_simp
   (go_at_call 24;(with_reducible refine (HLA.out w2.drew).mono ?_);rintro e wa ⟨rfl,hb⟩;have hw:Below w2.heap.size w2 wa:=HWz.out.trans (hb.mono HWz.out.size);have HWa:=oH hw;clear hb hw)
   go_wp2_with fail;refine hK.out _ _ ?_ (fun hHeld=>?_)
   ·first|with_reducible exact KB.out _ HWb.out|with_reducible exact KB.out _ HWa.out
   clear hK K
   try simp only [Act.put,tkA,tkB,tkC]
   refine tkS 4 fun K hK=>?_
   go_simp
   (go_at_call 23;(with_reducible refine (HAC.out _ HWa.out).mono ?_);rintro e wb ⟨vd,rfl,hs,hb⟩;obtain ⟨Ad,cd,rfl, -⟩:=hs.form;have HWb:=bTx2 HWa hb;have HSb:=oH hs;clear hs hb)
   go_wp2_with fail;refine hK.out _ _ ?_ (fun hHeld=>?_)
   ·first|with_reducible exact KB.out _ HWb.out|with_reducible exact KB.out _ HWa.out
   clear hK K
   try simp only [Act.put,tkA,tkB,tkC]
   refine tkH 5 ?_;refine tkH 6 ?_;refine tkH 7 ?_;refine tkH 8 ?_;refine tkH 9 ?_
   try simp only [Act.put,List.setIfInBounds_toArray,List.set_cons_zero,List.set_cons_succ,List.getElem_toArray,List.getElem_cons_succ,List.getElem_cons_zero,List.getElem?_toArray,List.getElem?_cons_succ,List.getElem?_cons_zero,Option.getD_some]
   refine wpAnyH_done (by kernel_rfl) ?_ _;have GSb:=oH (GS2.all HWb.out);have HHb:=oH (HH2.below HWb.out);have HVBb:=oH (HVB2.below HWb.out);have HVCb:=oH (HVC2.below HWb.out);have HSSb:=oH (HS2.below HWb.out);have HRb:=oH (HR2.below HWb.out);have HDC:=oH (HDT.out wb GSb.out (zZm D l l.length) _ HSb.out (HIS.db lRx));have s0:=HSSb.at_ (i:=0) rfl;have s1:=HSSb.at_ (i:=1) rfl;have s2:=HSSb.at_ (i:=2) rfl;have s3:=HSSb.at_ (i:=3) rfl;clear KB HWz HWa HWb GS2 HH2 HVB2 HVC2 HS2 HR2 HLA HAC HSb;go_wp2_with fail;refine HDC.mono ?_;rintro e w5 ⟨⟨x1,T⟩,u,rfl,hu,hx,hs5,hg5⟩;simp only at hu ⊢;obtain ⟨Au,cu,rfl, -⟩:=hu.form;have hal:Below w5.heap.size w5 (w5.alloc (.cells #[.int .i64 x1,.slice Au T.length cu] 45)):=bA
   have HX6:=oH (show GS w b (w5.alloc (.cells #[.int .i64 x1,.slice Au T.length cu] 45))/\Blk (w5.alloc (.cells #[.int .i64 x1,.slice Au T.length cu] 45)) w5.heap.size 45 [.int .i64 x1,.slice Au T.length cu]/\Blk (w5.alloc (.cells #[.int .i64 x1,.slice Au T.length cu] 45)) gh 37 [.int .i64 0,.slice Ab nb cb,.slice Ac l.length cc]/\Sl zOf (w5.alloc (.cells #[.int .i64 x1,.slice Au T.length cu] 45)) (.slice Ab nb cb) D/\Sl zOc (w5.alloc (.cells #[.int .i64 x1,.slice Au T.length cu] 45)) (.slice Ac l.length cc) l/\Blk (w5.alloc (.cells #[.int .i64 x1,.slice Au T.length cu] 45)) w.heap.size 31 [q0,q1,q2,q3q]/\Blk (w5.alloc (.cells #[.int .i64 x1,.slice Au T.length cu] 45)) (w.heap.size+1) 37 [.int .i64 0,.slice none 0 0,.slice none 0 0]/\Sl zOe (w5.alloc (.cells #[.int .i64 x1,.slice Au T.length cu] 45)) (.slice Au T.length cu) T from
    ⟨(GSb.step hg5 hs5).all hal,Blk.new w5 _ [_,_],(HHb.src hg5 oMx).below hal,(HVBb.src GSb.src hg5 dCx).below hal,(HVCb.src GSb.src hg5 dCx).below hal,(HSSb.src hg5 HNE.1).below hal,(HRb.src hg5 HNE.2).below hal,hu.below hal⟩)
   have HDX:=oH hx;have hgh5:gh<w5.heap.size:=(HHb.src hg5 oMx).lt;clear hu hx hs5 hg5 hal s0 s1 s2 s3 HDC GSb HHb HVBb HVCb HSSb HRb;go_upto_region 10 with (fail);generalize w5.alloc (.cells #[.int .i64 x1,.slice Au T.length cu] 45)=w6 at HX6 ⊢;generalize w5.heap.size=gd at *;obtain ⟨z1,z2,z3,z4,z5,z6,z7,z8⟩:=HX6.out;have GS6:=oH z1;have HD6:=oH z2;have HH6:=oH z3;have HVB6:=oH z4;have HVC6:=oH z5;have HS6:=oH z6;have HR6:=oH z7;have HU6:=oH z8;have d1:=z2.at_ (i:=1) rfl
   have hgdb:gd≠b:=by omega
   clear z1 z2 z3 z4 z5 z6 z7 z8 HX6
   by_cases hT:0<T.length
   case' neg =>
    have hdT:=decide_eq_false hT;obtain ⟨dsv,hds⟩:∃ d:List Dlt,d=[]:=⟨_,rfl⟩;have GSv:=GS6;have HHv:=HH6;have HVBv:=HVB6;have HVCv:=HVC6;have HSv:=HS6;have HRv:=HR6;have HDSv:Hid (Sl zOd w6 (.slice none 0 0) dsv):=oH (by rw [hds];exact .nil _ _ _ _);have HCHv:Hid (zAg S dsv):=oH (by rw [hds];exact .nil _);clear hds hT;go_upto_region 12 with (fail);clear hdT d1
   case' pos =>
    have hdT:=decide_eq_true hT;have HN5:=oH (zCm b 5 w6 GS6.src oMx oMx);go_wp2_with fail;refine HN5.mono ?_;rintro e w7 ⟨q5,rfl,hq5,hs7,hg7⟩;have GS7:=oH (GS6.step hg7 hs7);have HD7:=oH (HD6.src hg7 hgdb);have HH7:=oH (HH6.src hg7 oMx);have HVB7:=oH (HVB6.src GS6.src hg7 dCx);have HVC7:=oH (HVC6.src GS6.src hg7 dCx);have HS7:=oH (HS6.src hg7 HNE.1);have HR7:=oH (HR6.src hg7 HNE.2);have HU7:=oH (HU6.src GS6.src hg7 dCx);clear hs7 hg7 hq5 HN5 d1 hdT GS6 HD6 HH6 HVB6 HVC6 HS6 HR6 HU6
    by_cases hq50:0<q5
    case' neg =>
     have hd5:=decide_eq_false hq50;obtain ⟨dsv,hds⟩:∃ d:List Dlt,d=[]:=⟨_,rfl⟩;have GSv:=GS7;have HHv:=HH7;have HVBv:=HVB7;have HVCv:=HVC7;have HSv:=HS7;have HRv:=HR7;have HDSv:Hid (Sl zOd w7 (.slice none 0 0) dsv):=oH (by rw [hds];exact .nil _ _ _ _);have HCHv:Hid (zAg S dsv):=oH (by rw [hds];exact .nil _);clear hds hq50;go_upto_region 12 with (fail);clear hd5
    case' pos =>
     have hd5:=decide_eq_true hq50;have d0:=HD7.at_ (i:=0) rfl;have d1:=HD7.at_ (i:=1) rfl;clear hq50
     go_wp2_with (at_builtin;refine xAn _ _ _ rfl rfl Tryz.underlying49 Tryz.kiDel ((zCo.nil zOd w7.heap.size w7).alloc _) (Sl.new (K:=zOd) (x:=(x1,T)) rfl ⟨_,rfl,HU7.out⟩) sMx sMx ?_)
     intro v' w9 hap
     obtain ⟨dsv,hds⟩:∃ d:List Dlt,d=[(x1,T)]:=⟨_,rfl⟩
     have hap0:zCo zOd w7.heap.size w9 v' dsv:=by rw [hds];exact hap.own
     obtain ⟨A9,c9,rfl, -⟩:=hap0.form;have hbl:=hap.bel ((Below.refl w7.heap.size w7).alloc lRx _);have GSv:=oH (GS7.all hbl);have HHv:=oH (HH7.below hbl);have HVBv:=oH (HVB7.below hbl);have HVCv:=oH (HVC7.below hbl);have HSv:=oH (HS7.below hbl);have HRv:=oH (HR7.below hbl);have HDSv:=oH hap0.sl;have HCHv:Hid (zAg S dsv):=oH (by rw [hds];exact .one HDX.out);clear hds hap hap0 hbl GS7 HD7 HH7 HVB7 HVC7 HS7 HR7 HU7 hd5 d0 d1
   all_goals
    have hgn:IntKind.i64.wrap ((n:Int)-1)=((n-1:Nat):Int):=by rw [IntWalk.i64_in _ oMx];omega
    have HNB1:=HNB0;have HCC:=oH (HCM.out _ GSv.out _ _ _ D l (tm+q3) dsv HVBv.out HVCv.out HIS.out HDSv.out HCHv.out oMx oMx oMx);have s0:=HSv.at_ (i:=0) rfl;have s1:=HSv.at_ (i:=1) rfl;have s2:=HSv.at_ (i:=2) rfl;have s3:=HSv.at_ (i:=3) rfl;have h0:=HHv.at_ (i:=0) rfl;have h1:=HHv.at_ (i:=1) rfl;have h2:=HHv.at_ (i:=2) rfl;obtain ⟨er,her⟩:=eXx (zJj (zZm D l l.length) dsv);have HER:=oH her;rw [her] at HCC;clear her;go_wp2_with fail;refine HCC.mono ?_
    intro e w8 hr
    by_cases he0:er=0
    ·subst he0;unfold zFj at hr;rw [if_pos rfl] at hr;obtain ⟨vb8,vc8,rfl,hb8,hc8,hbel⟩:=hr;obtain ⟨Ab8,cb8,rfl, -⟩:=hb8.form;obtain ⟨Ac8,cc8,rfl, -⟩:=hc8.form;have hh80:=HHv.below hbel;have h30:=zIc hh80 (.int .i64 0) (.slice Ab8 D.length cb8) (.slice Ac8 (l++[(tm+q3,dsv)]).length cc8);have H3:=oH (h30.1.alloc (.cells #[.int .i64 0,.slice Ab8 D.length cb8,.slice Ac8 (l++[(tm+q3,dsv)]).length cc8] 37));have HIN:=oH (HIS.snoc (c:=(tm+q3,dsv)) oMx (by show zOi l<=tm+q3;omega) (by show tm+q3<=1099511627776;omega) HCHv.out HER.out);have HVB8:=oH ((hb8.kp h30.2.1 dCx).below (bRx.alloc lRx (.cells #[.int .i64 0,.slice Ab8 D.length cb8,.slice Ac8 (l++[(tm+q3,dsv)]).length cc8] 37)));have HVC8:=oH ((hc8.kp h30.2.1 dCx).below (bRx.alloc lRx (.cells #[.int .i64 0,.slice Ab8 D.length cb8,.slice Ac8 (l++[(tm+q3,dsv)]).length cc8] 37)));have HG8:=oH (((GSv.all hbel).bel (h30.2.2 _ oMx)).all (bRx.alloc lRx (.cells #[.int .i64 0,.slice Ab8 D.length cb8,.slice Ac8 (l++[(tm+q3,dsv)]).length cc8] 37)))
     have HS8:=oH (((HSv.below hbel).under (h30.2.2 (w.heap.size+2) oMx) oMx).alloc (.cells #[.int .i64 0,.slice Ab8 D.length cb8,.slice Ac8 (l++[(tm+q3,dsv)]).length cc8] 37));have HR8:=oH (((HRv.below hbel).under (h30.2.2 (w.heap.size+2) oMx) oMx).alloc (.cells #[.int .i64 0,.slice Ab8 D.length cb8,.slice Ac8 (l++[(tm+q3,dsv)]).length cc8] 37));have HTL:Hid (zOi (l++[(tm+q3,dsv)])<=tm+q3):=oH (by unfold zOi;simp);have HLN:Hid ((l++[(tm+q3,dsv)]).length=l.length+1):=oH sMx;have x0:=hh80.at_ (i:=0) rfl;have x1:=hh80.at_ (i:=1) rfl;have x2:=hh80.at_ (i:=2) rfl;have f0:=hh80.fr 0;have f1:=hh80.fr 1;have f2:=hh80.fr 2;have hghl:gh<w8.heap.size:=(HHv.below hbel).lt;clear hbel hb8 hc8 hh80 h30 s0 s1 s2 s3 h0 h1 h2 HCC;generalize l++[(tm+q3,dsv)]=LN at *;generalize hLL:LN.length=nn at *;have HLL:=oH hLL;clear hLL;go_wp2_with fail;go_roundw
     ·exact ⟨n-1,tm+q3,_,_,LN,rfl,rfl,H3.out,HVB8.out,HVC8.out,HIN.out,HTL.out,oMx,by have:=HLN.out;have:=HLL.out;omega,HG8.out,HS8.out,HR8.out⟩
     simp [intOf];omega
    unfold zFj at hr;rw [if_neg he0] at hr;obtain ⟨vb8,vc8,rfl,hb8,hc8,hbel⟩:=hr;obtain ⟨Ab8,cb8,rfl, -⟩:=hb8.form;obtain ⟨Ac8,cc8,rfl, -⟩:=hc8.form
    have hq:(er==0)=false:=by rw [beq_eq_false_iff_ne];exact he0
    have hal:Below w8.heap.size w8 (w8.alloc (.cells #[.int .i64 0,.slice Ab8 0 cb8,.slice Ac8 0 cc8] 37)):=bA;have HH8:=oH ((HHv.below hbel).below hal);have HVB8:=oH ((HVBv.below hbel).below hal);have HVC8:=oH ((HVCv.below hbel).below hal);have HG8:=oH ((GSv.all hbel).all hal);have HS8:=oH ((HSv.below hbel).below hal);have HR8:=oH ((HRv.below hbel).below hal);clear hbel hb8 hc8 hal s0 s1 s2 s3 h0 h1 h2 HCC he0;go_wp2_with fail;go_roundw
    ·exact ⟨n-1,tm+q3,_,_,l,rfl,rfl,HH8.out,HVB8.out,HVC8.out,HIS.out,oMx,oMx,oMx,HG8.out,HS8.out,HR8.out⟩
    simp [intOf];omega
  obtain rfl:n=0:=by omega
  have HN5:=oH (zCm b 5 wr HGS.src oMx oMx);have HMH:Hid (zCk S most 0 D l):=oH ⟨HIS.out,oMx,fun c hc=>by have:=HIS.last.2.2 c hc;omega⟩;go_wp2_with fail;refine HN5.mono ?_;rintro e w2 ⟨q5,rfl,hq5,hs2,hg2⟩;have GS2:=oH (HGS.step hg2 hs2);have HH2:=oH (HHB.src hg2 oMx);have HVB2:=oH (HVB.src HGS.src hg2 dCx);have HVC2:=oH (HVC.src HGS.src hg2 dCx);have HS2:=oH (HSB.src hg2 HNE.1);have HR2:=oH (HRB.src hg2 HNE.2);clear hs2 hg2 HN5 HGS HHB HVB HVC HSB HRB hq5
  by_cases h4:q5=4
  ·have hd4:((q5:Int)==4)=true:=by rw [beq_iff_eq];omega
   clear h4;generalize hnb:D.length=nb at *;have HNB0:=oH hnb;clear hnb
   have hgl:IntKind.i64.wrap ((l.length:Int)+1)=((l.length+1:Nat):Int):=by rw [IntWalk.i64_in _ oMx];omega
   have HGB:=oH (show gh≠b by omega);have GSz:=GS2;have HHz:=HH2;have HVBz:=HVB2;have HVCz:=HVC2;have HSz:=HS2;have HRz:=HR2
   have KB:Hid (∀ W,Below w2.heap.size w2 W->W.cell? ⟨w.heap.size,0,none⟩=some (q0)/\W.cell? ⟨w.heap.size,1,none⟩=some (q1)/\W.cell? ⟨w.heap.size,2,none⟩=some (q2)/\W.cell? ⟨w.heap.size,3,none⟩=some (q3q)/\W.cell? ⟨gh,0,none⟩=some (.int .i64 0)/\W.cell? ⟨gh,1,none⟩=some (.slice Ab nb cb)/\W.cell? ⟨gh,2,none⟩=some (.slice Ac l.length cc)):=oH fun W hW=>⟨(HS2.below hW).at_ (i:=0) rfl,(HS2.below hW).at_ (i:=1) rfl,(HS2.below hW).at_ (i:=2) rfl,(HS2.below hW).at_ (i:=3) rfl,(HH2.below hW).at_ (i:=0) rfl,(HH2.below hW).at_ (i:=1) rfl,(HH2.below hW).at_ (i:=2) rfl⟩
   have HWz:=oH (Below.refl w2.heap.size w2).drew;go_wp2_with fail;refine wp_region_ung (S:=(fun w'=>w'.cell? ⟨w.heap.size,0,none⟩=some (q0)/\w'.cell? ⟨w.heap.size,1,none⟩=some (q1)/\w'.cell? ⟨w.heap.size,2,none⟩=some (q2)/\w'.cell? ⟨w.heap.size,3,none⟩=some (q3q)/\w'.cell? ⟨gh,0,none⟩=some (.int .i64 0)/\w'.cell? ⟨gh,1,none⟩=some (.slice Ab nb cb)/\w'.cell? ⟨gh,2,none⟩=some (.slice Ac l.length cc))) 15 (by kernel_rfl) (by exact KB.out _ HWz.out) (fun hHeld=>?_);refine wpAnyU_take (i:=0) rfl (by kernel_rfl) (by kernel_rfl) (by kernel_rfl) (by kernel_rfl) (fun _ _ _ h=>h) (Or.inl ⟨by rfl,by (intro w hSw;(try dsimp only at hSw);go_simp);all_goals with_reducible rfl⟩) hHeld ?_
   try simp only [Act.put,tkA,tkB,tkC]
   refine wpAnyU_take (i:=1) rfl (by kernel_rfl) (by kernel_rfl) (by kernel_rfl) (by kernel_rfl) (fun _ _ _ h=>h) (Or.inl ⟨by rfl,by (intro w hSw;(try dsimp only at hSw);go_simp);all_goals with_reducible rfl⟩) hHeld ?_
   try simp only [Act.put,tkA,tkB,tkC]
   refine wpAnyU_take (i:=2) rfl (by kernel_rfl) (by kernel_rfl) (by kernel_rfl) (by kernel_rfl) (fun _ _ _ h=>h) (Or.inl ⟨by rfl,by (intro w hSw;(try dsimp only at hSw);go_simp);all_goals with_reducible rfl⟩) hHeld ?_
   try simp only [Act.put,tkA,tkB,tkC]
   refine wpAnyU_take (i:=3) rfl (by kernel_rfl) (by kernel_rfl) (by kernel_rfl) (by kernel_rfl) (fun _ _ _ h=>h) (Or.inl ⟨by rfl,by (intro w hSw;(try dsimp only at hSw);go_simp);all_goals with_reducible rfl⟩) hHeld ?_
   try simp only [Act.put,tkA,tkB,tkC]
   refine wpAnyU_take (i:=4) rfl (by kernel_rfl) (by kernel_rfl) (by kernel_rfl) (by kernel_rfl) (fun _ _ _ h=>h) (Or.inl ⟨by rfl,by (intro w hSw;(try dsimp only at hSw);go_simp);all_goals with_reducible rfl⟩) hHeld ?_
   try simp only [Act.put,tkA,tkB,tkC]
   refine wpAnyU_take (i:=5) rfl (by kernel_rfl) (by kernel_rfl) (by kernel_rfl) (by kernel_rfl) (fun _ _ _ h=>h) (Or.inl ⟨by rfl,by (intro w hSw;(try dsimp only at hSw);go_simp);all_goals with_reducible rfl⟩) hHeld ?_
   try simp only [Act.put,tkA,tkB,tkC]
   refine wpAnyU_take (i:=6) rfl (by kernel_rfl) (by kernel_rfl) (by kernel_rfl) (by kernel_rfl) (fun _ _ _ h=>h) (Or.inl ⟨by rfl,by (intro w hSw;(try dsimp only at hSw);go_simp);all_goals with_reducible rfl⟩) hHeld ?_
   try simp only [Act.put,tkA,tkB,tkC]
   refine wpAnyU_take (i:=7) rfl (by kernel_rfl) (by kernel_rfl) (by kernel_rfl) (by kernel_rfl) (fun _ _ _ h=>h) (Or.inl ⟨by rfl,by (intro w hSw;(try dsimp only at hSw);go_simp);all_goals with_reducible rfl⟩) hHeld ?_
   try simp only [Act.put,tkA,tkB,tkC]
   refine wpAnyU_take (i:=8) rfl (by kernel_rfl) (by kernel_rfl) (by kernel_rfl) (by kernel_rfl) (fun _ _ _ h=>h) (Or.inl ⟨by rfl,by (intro w hSw;(try dsimp only at hSw);go_simp);all_goals with_reducible rfl⟩) hHeld ?_
   try simp only [Act.put,tkA,tkB,tkC]
   refine wpAnyU_one (i:=9) (by kernel_rfl) rfl (fun K hK=>?_)
   go_simp
   (go_at_call 22;(with_reducible refine (zCm b ((l.length:Int)+1) _ (GSz.out.all HWz.out).src oMx oMx).mono ?_);rintro e wa ⟨qq,rfl,hqq,hs,hg⟩;have hgz:=(zMt (b:=b) HWz.out).trans hg;have GSa:=oH (GSz.out.step hgz hs);have HHa:=oH (HHz.out.src hgz HGB.out);have HVBa:=oH (HVBz.out.src GSz.out.src hgz dCx);have HVCa:=oH (HVCz.out.src GSz.out.src hgz dCx);have HSa:=oH (HSz.out.src hgz HNE.out.1);have HRa:=oH (HRz.out.src hgz HNE.out.2);have hgv:IntKind.i64.wrap ((qq:Nat):Int)=(qq:Int):=(IntWalk.i64_in _ oMx);have hqq2:qq<=l.length:=oMx;have KBa:Hid (∀ W,Below wa.heap.size wa W->W.cell? ⟨w.heap.size,0,none⟩=some (q0)/\W.cell? ⟨w.heap.size,1,none⟩=some (q1)/\W.cell? ⟨w.heap.size,2,none⟩=some (q2)/\W.cell? ⟨w.heap.size,3,none⟩=some (q3q)/\W.cell? ⟨gh,0,none⟩=some (.int .i64 0)/\W.cell? ⟨gh,1,none⟩=some (.slice Ab nb cb)/\W.cell? ⟨gh,2,none⟩=some (.slice Ac l.length cc)):=oH fun W hW=>⟨(HSa.out.below hW).at_ (i:=0) rfl,(HSa.out.below hW).at_ (i:=1) rfl,(HSa.out.below hW).at_ (i:=2) rfl,(HSa.out.below hW).at_ (i:=3) rfl,(HHa.out.below hW).at_ (i:=0) rfl,(HHa.out.below hW).at_ (i:=1) rfl,(HHa.out.below hW).at_ (i:=2) rfl⟩;clear hgz hs hg hqq)
   go_wp2_with fail;refine hK.out _ _ ?_ (fun hHeld=>?_)
   ·first|with_reducible exact KBa.out _ bRx|with_reducible exact KBa.out _ HWb.out
   clear hK K
   try simp only [Act.put,tkA,tkB,tkC]
   refine wpAnyU_take (i:=10) rfl (by kernel_rfl) (by kernel_rfl) (by kernel_rfl) (by kernel_rfl) (fun _ _ _ h=>h) (Or.inl ⟨by rfl,by (intro w hSw;(try dsimp only at hSw);go_simp);all_goals with_reducible rfl⟩) hHeld ?_
   try simp only [Act.put,tkA,tkB,tkC]
   refine wpAnyU_one (i:=11) (by kernel_rfl) rfl (fun K hK=>?_)
   go_simp
   (go_at_call 35;(with_reducible refine (HCT.out wa GSa.out _ _ D l HVBa.out HVCa.out HIS.out (qq:Int)).mono ?_);intro e wb hr;unfold zFm at hr;rw [if_pos (show atB 0 l (qq:Int)=true from decide_eq_true ⟨oMx,oMx⟩)] at hr;obtain ⟨vb9,vc9,rfl,hb9,hc9,hbel⟩:=hr;have e1:atD 0 D l (qq:Int)=zZm D l qq:=(by have h:=zHk (fi:=0) (D:=D) hqq2;rw [Int.zero_add] at h;exact h);have e2:((qq:Int)-0).toNat=qq:=oMx;rw [e1] at hb9;rw [e2] at hc9;obtain ⟨Ab9,cb9,rfl, -⟩:=hb9.form;obtain ⟨Ac9,cc9,rfl, -⟩:=hc9.form;have HWb:Hid (Below wa.heap.size wa wb):=oH hbel;have HVB9:=oH hb9;have HVC9:=oH hc9;have GSb:=oH (GSa.out.all hbel);have HHb:=oH (HHa.out.below hbel);have HRb:=oH (HRa.out.below hbel);have kx0:=HHb.out.at_ (i:=0) rfl;have kx1:=HHb.out.at_ (i:=1) rfl;have kx2:=HHb.out.at_ (i:=2) rfl;have fx0:=HHb.out.fr 0;have fx1:=HHb.out.fr 1;have fx2:=HHb.out.fr 2;clear hb9 hc9 hbel e1 e2)
   go_wp2_with fail;refine hK.out _ _ ?_ (fun hHeld=>?_)
   ·first|with_reducible exact KBa.out _ bRx|with_reducible exact KBa.out _ HWb.out
   clear hK K
   try simp only [Act.put,tkA,tkB,tkC]
   refine wpAnyU_take (i:=12) rfl (by kernel_rfl) (by kernel_rfl) (by kernel_rfl) (by kernel_rfl) (fun _ _ _ h=>h) (Or.inl ⟨by rfl,by (intro w hSw;(try dsimp only at hSw);go_simp);all_goals with_reducible rfl⟩) hHeld ?_
   try simp only [Act.put,tkA,tkB,tkC]
   refine wpAnyU_take (i:=13) rfl (by kernel_rfl) (by kernel_rfl) (by kernel_rfl) (by kernel_rfl) (fun _ _ _ h=>h) (Or.inl ⟨by rfl,by (intro w hSw;(try dsimp only at hSw);go_simp);all_goals with_reducible rfl⟩) hHeld ?_
   try simp only [Act.put,tkA,tkB,tkC]
   refine wpAnyU_takeF (i:=14) rfl dCx (by kernel_rfl) (by kernel_rfl) (by kernel_rfl) (fun _ _ _ h=>h) (Or.inl ⟨by rfl,by (intro w hSw;(try dsimp only at hSw);go_simp);all_goals with_reducible rfl⟩) hHeld ?_
   try simp only [Act.put,tkA,tkB,tkC]
   refine wpAnyU_n (by kernel_rfl) (by kernel_rfl) rfl (fun K hK=>?_)
   go_simp
   refine hK.out _ _ ?_;clear hK K
   try simp only [Act.put,tkA,tkB,tkC]
   refine wpAnyU_done (by kernel_rfl) ?_ _;have h30:=zIc HHb.out (.int .i64 (qq:Int)) (.slice Ab9 (zZm D l qq).length cb9) (.slice Ac9 (l.drop qq).length cc9);obtain ⟨fiv,hfiv⟩:∃ f:Int,f=(qq:Int):=⟨_,rfl⟩;obtain ⟨Dv,hDv⟩:∃ d,d=zZm D l qq:=⟨_,rfl⟩;obtain ⟨lv,hlv⟩:∃ d,d=l.drop qq:=⟨_,rfl⟩
   have HMv:Hid (zCk S most fiv Dv lv):=oH (by
    rw [hfiv,hDv,hlv];have h:=HIS.cut hqq2 oMx;rw [Int.zero_add] at h
    exact ⟨h,by rw [List.length_drop];omega,fun c hc=>HMH.tim c (List.mem_of_mem_drop hc)⟩)
   have HVB9':=HVB9;have HVC9':=HVC9;have hlen2:(l.drop qq).length=l.length-qq:=List.length_drop;rw [hlen2] at h30 HVC9';rw [<-hDv] at h30 HVB9' ⊢;rw [<-hlv] at HVC9';obtain ⟨nbv,hnbv⟩:=eXx (Dv.length);obtain ⟨ncv,hncv⟩:=eXx (l.length-qq);rw [hnbv] at h30 HVB9' ⊢;rw [hncv] at h30 HVC9' ⊢;have HFV:=oH hfiv;clear hnbv hncv hlen2 hDv hlv hfiv;rw [<-HFV.out] at h30 ⊢;have HVBv:=oH (HVB9'.kp h30.2.1 dCx);have HVCv:=oH (HVC9'.kp h30.2.1 dCx);have GSv:=oH (GSb.bel (h30.2.2 _ oMx));have HRv:=oH (HRb.under (h30.2.2 (w.heap.size+2) oMx) oMx);clear h30;have r0:=HRb.at_ (i:=0) rfl;have r1:=HRb.at_ (i:=1) rfl;have r2:=HRb.at_ (i:=2) rfl;have f0:=HRb.fr 0;have f1:=HRb.fr 1;have f2:=HRb.fr 2
   have hne1:w.heap.size+1≠gh:=by omega
   have hne2:gh≠w.heap.size+1:=by omega
   have H3:=oH (zIc HRv.out (.int .i64 fiv) (.slice Ab9 nbv cb9) (.slice Ac9 ncv cc9));go_wp2_with fail;have e0:=H3.1.at_ (i:=0) rfl;have e1:=H3.1.at_ (i:=1) rfl;have e2:=H3.1.at_ (i:=2) rfl;have hfin:=GSv.bel (H3.2.2 w.heap.size oMx);exact bodyPost_ret (v := .agg #[.int .i64 fiv,.slice Ab9 nbv cb9,.slice Ac9 ncv cc9]) (by simp [results,Tryz.results13,go_sem,e0,e1,e2]) rfl ⟨_,_,_,Dv,lv,rfl,HVBv.kp H3.2.1 dCx,HVCv.kp H3.2.1 dCx,HMv.out,hfin.src,hfin.gr⟩
  have hd4:((q5:Int)==4)=false:=by rw [beq_eq_false_iff_ne];omega
  obtain ⟨fiv,hfiv⟩:∃ f:Int,f=0:=⟨_,rfl⟩;have HHv:Hid (Blk w2 gh 37 [.int .i64 0,.slice Ab D.length cb,.slice Ac l.length cc]):=HH2;have HVBv:=HVB2;have HVCv:=HVC2;have GSv:=GS2;have HRv:=HR2;have HMv:=HMH;clear h4 hfiv;have h0:=HHv.at_ (i:=0) rfl;have h1:=HHv.at_ (i:=1) rfl;have h2:=HHv.at_ (i:=2) rfl;have r0:=HRv.at_ (i:=0) rfl;have r1:=HRv.at_ (i:=1) rfl;have r2:=HRv.at_ (i:=2) rfl;have f0:=HRv.fr 0;have f1:=HRv.fr 1;have f2:=HRv.fr 2;have H3:=oH (zIc HRv.out (.int .i64 0) (.slice Ab D.length cb) (.slice Ac l.length cc));go_wp2_with fail;have e0:=H3.1.at_ (i:=0) rfl;have e1:=H3.1.at_ (i:=1) rfl;have e2:=H3.1.at_ (i:=2) rfl;have hfin:=GSv.bel (H3.2.2 w.heap.size oMx);exact bodyPost_ret (v := .agg #[.int .i64 0,.slice Ab D.length cb,.slice Ac l.length cc]) (by simp [results,Tryz.results13,go_sem,e0,e1,e2]) rfl ⟨_,_,_,D,l,rfl,HVBv.kp H3.2.1 dCx,HVCv.kp H3.2.1 dCx,HMv.out,hfin.src,hfin.gr⟩
end Go.Proofs.YtafflnognagadaaGreatDoor
