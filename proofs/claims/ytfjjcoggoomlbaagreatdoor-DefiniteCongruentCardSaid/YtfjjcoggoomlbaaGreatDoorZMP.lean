import Derived.Test.YtfjjcoggoomlbaaGreatDoorZB
import Derived.StillTail
set_option maxHeartbeats 16000000
set_option maxRecDepth 100000
set_option linter.unusedVariables false
set_option linter.unusedSimpArgs false
set_option linter.unusedSectionVars false
namespace Go.Proofs.YtfjjcoggoomlbaaGreatDoor
open Go.RowKit
def xDh (P:Program) (ops:Array Oper) (Q:Exit→Act→World→Prop) (t:Oper):Exit→Act→World→Prop
 | .normal,a,w=>wpList P ops Q [t] a w
 | e,a,w=>Q e a w
def zIa (md:Region.Mode) (ops:Array Oper):Bool:=(List.range ops.size).all fun i=>match ops[i]? with
 | some o=>o.guard.isNone&&o.after.all fun e => !Region.binds md e || decide (e.on<i)
 | none=>false
section
variable {P:Program} {Q Q':Exit→Act→World→Prop} {md:Region.Mode}
theorem zUj {o:Oper} {a:Act} {w:World} {K:Act→World→Prop} (hQ:∀ c a w,Q' (.panic c) a w→Q (.panic c) a w) (hL:LetsOut Q'→LetsOut Q) (h:o.wp P a w K Q'):o.wp P a w K Q:=by
 unfold Oper.wp at *
 generalize (execOp a.eval o).run P w=r at *
 cases r with
 | ok n w' =>
  cases n<;>simp only [Oper.upon] at h ⊢ <;>
   first
    | exact h
    | exact Calls.mono h (fun e w'' he=>by
      cases e
      ·exact he
      ·exact hQ _ _ _ he
      ·exact hL he)
 | halt x w' =>
  cases x<;>simp only [Oper.upon] at h ⊢
  exact hQ _ _ _ h
theorem zIb {ops:Array Oper} (h:zIa md ops=true) {i:Nat} {o:Oper} (ho:ops[i]? = some o):o.guard=none∧∀ e∈o.after,Region.binds md e=true→e.on<i:=by
 have hi:i<ops.size:=(Array.getElem?_eq_some_iff.1 ho).1
 have h1:=List.all_eq_true.1 h i (List.mem_range.2 hi)
 rw [ho] at h1
 simp only [Bool.and_eq_true,Option.isNone_iff_eq_none] at h1
 refine ⟨h1.1,fun e he hb=>?_⟩
 have h2:=(Array.all_eq_true'.1 h1.2) e he
 simp only [hb,Bool.not_true,Bool.false_or] at h2
 exact of_decide_eq_true h2
theorem zWg {l:Array Bool} {i:Nat} (d:Bool) (h:i<l.size):(l.push false).getD i d=l.getD i d:=by
 simp [Array.getElem?_push,Nat.ne_of_lt h]
theorem zWh {l:Array Bool} (d:Bool):(l.push false).getD l.size d=false:=by simp
theorem push_out {l:Array Bool} {i:Nat} (d:Bool) (h:l.size<i):(l.push false).getD i d=d:=by
 simp [Array.getElem?_push,show ¬i=l.size by omega,show ¬i<l.size by omega]
theorem zNs {l:Array Bool} {i:Nat} (d:Bool) (h:l.size≤i):l.getD i d=d:=by simp [Array.getElem?_eq_none h]
theorem zWi {l:Array Bool} {i:Nat} (h:i<l.size):(l.push false).setIfInBounds i true=(l.setIfInBounds i true).push false:=by
 apply Array.ext_getElem?
 intro j
 simp only [Array.getElem?_setIfInBounds,Array.getElem?_push,Array.size_push,Array.size_setIfInBounds]
 by_cases hij:i=j
 ·subst hij
  simp [h,Nat.ne_of_lt h]
  omega
 ·simp [hij]
variable {ops:Array Oper} {n:Nat}
theorem zVr (hn:ops.size=n+1) {i:Nat} (hi:i<n):ops.pop[i]? = ops[i]? :=by
 rw [Array.getElem?_pop,if_pos (by omega)]
theorem pop_out (hn:ops.size=n+1) {i:Nat} (hi:n≤i):ops.pop[i]? = none:=by
 rw [Array.getElem?_pop,if_neg (by omega)]
theorem zWv (hn:ops.size=n+1) {l:Array Bool} (hl:l.size=n) {i:Nat} (hi:i<n):i∈Region.ready md ops.pop l↔i∈Region.ready md ops (l.push false):=by
 rw [mem_ready,mem_ready,zVr hn hi,zWg true (by omega)]
 refine and_congr_right fun _=>exists_congr fun o=>and_congr_right fun _=>forall_congr' fun e=>forall_congr' fun _=>forall_congr' fun _=>?_
 rcases Nat.lt_trichotomy e.on n with h|h|h
 ·rw [zWg false (by omega)]
 ·rw [zNs false (by omega),show e.on=l.size by omega,zWh]
 ·rw [zNs false (by omega),push_out false (by omega)]
theorem zWw (hn:ops.size=n+1) {l:Array Bool} {i:Nat} (h:i∈Region.ready md ops.pop l):i<n:=by
 obtain ⟨-,o,ho, -⟩:=mem_ready.1 h
 rcases Nat.lt_or_ge i n with h1|h1
 ·exact h1
 ·rw [pop_out hn h1] at ho;cases ho
theorem zHt (hn:ops.size=n+1) (hb:zIa md ops=true) {l:Array Bool} (hl:l.size=n) (hr:Region.ready md ops.pop l=[]):∀ i,i<n→l.getD i false=true:=by
 intro i
 induction i using Nat.strongRecOn with
 | _ i ih =>
  intro hi
  cases hc:l.getD i false with
  | true=>rfl
  | false =>
   exfalso
   have ho:ops[i]? = some ops[i]:=Array.getElem?_eq_getElem (by omega)
   have hmem:i∈Region.ready md ops.pop l:=mem_ready.2 ⟨getD_in (by omega) hc,ops[i],by rw [zVr hn hi];exact ho,fun e he hbe=>ih e.on ((zIb hb ho).2 e he hbe) (by have:=(zIb hb ho).2 e he hbe;omega)⟩
   rw [hr] at hmem
   cases hmem
theorem zPa (hn:ops.size=n+1) (hb:zIa md ops=true) {t:Oper} (ht:ops[n]? = some t) {l:Array Bool} (hl:l.size=n) (hall:∀ i,i<n→l.getD i false=true):Region.ready md ops (l.push false)=[n]:=by
 have hmem:∀ i,i∈Region.ready md ops (l.push false)↔i=n:=fun i=>by
  rw [mem_ready]
  constructor
  ·rintro ⟨h1,o,ho, -⟩
   have hi:i<ops.size:=(Array.getElem?_eq_some_iff.1 ho).1
   rcases Nat.lt_or_ge i n with h2|h2
   ·rw [zWg true (by omega)] at h1
    have h3:=hall i h2
    rw [getD_both h1] at h3
    cases h3
   ·omega
  ·rintro rfl
   refine ⟨by rw [←hl];exact zWh true,t,ht,fun e he hbe=>?_⟩
   have:=(zIb hb ht).2 e he hbe
   rw [zWg false (by omega)]
   exact hall _ this
 have hnd:(Region.ready md ops (l.push false)).Nodup:=by
  unfold Region.ready
  exact List.Pairwise.filter _ List.nodup_range
 generalize Region.ready md ops (l.push false)=r at *
 match r,hmem,hnd with
 | [],hm,_=>exact absurd ((hm n).2 rfl) (by simp)
 | [a],hm,_=>rw [(hm a).1 (by simp)]
 | a::b::r,hm,hnd =>
  have h1:=(hm a).1 (by simp)
  have h2:=(hm b).1 (by simp)
  rw [h1,h2] at hnd
  simp at hnd
theorem zOz {l:Array Bool} (hn:ops.size=n+1) (hl:l.size=n) (hall:∀ i,i<n→l.getD i false=true):Region.ready md ops ((l.push false).setIfInBounds n true)=[]:=by
 rw [List.eq_nil_iff_forall_not_mem]
 intro i hi
 obtain ⟨h1,o,ho, -⟩:=mem_ready.1 hi
 have hi2:i<ops.size:=(Array.getElem?_eq_some_iff.1 ho).1
 by_cases e:n=i
 ·subst e
  simp [Array.getElem?_setIfInBounds,hl] at h1
 ·rw [getD_set_ne true e,zWg true (by omega)] at h1
  have h3:=hall i (by omega)
  rw [getD_both h1] at h3
  cases h3
theorem xGh {o:Oper} (h:o.guard=none) (y:Nat→Option Bool):Region.wanted o y=true:=by simp [Region.wanted,h]
theorem xDi (hn:ops.size=n+1) (hb:zIa md ops=true) {t:Oper} (ht:ops[n]? = some t) {l:Array Bool} (hl:l.size=n) (hall:∀ i,i<n→l.getD i false=true) {a:Act} {w:World} (h:wpList P ops Q [t] a w) (fuel:Nat):wpAny P md ops Q (fuel+1) (l.push false) a w:=by
 refine ⟨fun h0=>?_,fun i hi=>?_⟩
 ·rw [zPa hn hb ht hl hall] at h0;cases h0
 ·rw [zPa hn hb ht hl hall,List.mem_singleton] at hi
  subst hi
  have hw:=xGh (zIb hb ht).1 (yielded ops a.tmps)
  simp only [wpList,hw,if_true] at h
  unfold wpOp
  simp only [ht,hw,if_true]
  refine h.imp (Oper.wp_mono fun a' w' hq=>?_) id
  cases fuel with
  | zero=>exact ⟨zOz hn hl hall,hq⟩
  | succ k=>exact ⟨fun _=>hq,fun j hj=>by rw [zOz hn hl hall] at hj;cases hj⟩
theorem pop_any (hn:ops.size=n+1) (hb:zIa md ops=true) (hs:Region.sinkB md ops n=true) {t:Oper} (ht:ops[n]? = some t) :
  ∀ (fuel:Nat) (l:Array Bool) (a:Act) (w:World),l.size=n→HeadInv md ops n (l.push false)→wpAny P md ops.pop (xDh P ops Q t) fuel l a w→wpAny P md ops Q (fuel+1) (l.push false) a w:=by
 have hc:Region.chainB md ops n=true:=by
  unfold Region.chainB
  rw [List.all_eq_true]
  intro k hk
  have:=List.mem_range.1 hk
  simp [show k≤n by omega]
 intro fuel
 induction fuel with
 | zero=>exact fun l a w hl _ h=>xDi hn hb ht hl (zHt hn hb hl h.1) h.2 0
 | succ fuel ih =>
  intro l a w hl inv h
  by_cases hr:Region.ready md ops.pop l=[]
  ·exact xDi hn hb ht hl (zHt hn hb hl hr) (h.1 hr) (fuel+1)
  ·obtain ⟨i0,hi0⟩:=List.exists_mem_of_ne_nil _ hr
   have hi0n:=zWw hn hi0
   have hun:(l.push false).getD i0 true=false:=(mem_ready.1 ((zWv hn hl hi0n).1 hi0)).1
   have hno:n ∉ Region.ready md ops (l.push false):=tail_waits hs hc (by omega) inv (n-i0) i0 rfl hi0n hun n (Nat.le_refl _)
   refine ⟨fun h0=>?_,fun i hi=>?_⟩
   ·have:=(zWv hn hl hi0n).1 hi0
    rw [h0] at this
    cases this
   ·obtain ⟨-,o,ho, -⟩:=mem_ready.1 hi
    have hi2:i<ops.size:=(Array.getElem?_eq_some_iff.1 ho).1
    have hin:i<n:=by
     rcases Nat.lt_or_ge i n with h1|h1
     ·exact h1
     ·obtain rfl:i=n:=by omega
      exact absurd hi hno
    have h2:=h.2 i ((zWv hn hl hin).2 hi)
    unfold wpOp at h2 ⊢
    rw [zVr hn hin,ho] at h2
    have hg:=(zIb hb ho).1
    rw [ho]
    simp only [xGh hg,if_true] at h2 ⊢
    have hL:LetsOut (xDh P ops Q t)→LetsOut Q:=fun ⟨a,w,h⟩=>⟨a,w,h⟩
    refine h2.imp (fun h3=>?_) (fun h3=>⟨h3.1,hL h3.2⟩)
    refine Oper.wp_mono (fun a' w' h4=>?_) (zUj (fun c a w h=>h) hL h3)
    rw [zWi (by omega)]
    exact ih _ _ _ (by simp [hl]) (by rw [←zWi (by omega)];exact inv.set hi hin) h4
theorem xGu {id:Nat} {a:Act} {w:World} {S:World→Prop} {t:Oper} (n:Nat) (hm:P.follows .mixedOrders=true) (hn:ops.size=n+1) (hb:zIa .any ops=true) (hs:Region.sinkB .any ops n=true) (ht:ops[n]? = some t) (hS:S w.drew)
  (h:S w.drew→wpAnyH P .any ops.pop (xDh P ops Q t) S n (Array.replicate n false) a w.drew):(Code.region id ops true).wp P Q a w:=by
 refine wp_region_any hm ?_
 rw [hn]
 have e:Array.replicate (n+1) false=(Array.replicate n false).push false:=by
  apply Array.ext_getElem?
  intro j
  simp [Array.getElem?_push,Array.getElem?_replicate]
  split<;>split<;>(try split)<;>simp_all<;>omega
 rw [e]
 refine pop_any hn hb hs ht n _ a _ (by simp) ⟨by simp [hn],fun j oj hj hl=>?_,fun k hk hk2=>?_⟩ (wpAny_of_held _ _ _ _ (h hS))
 ·rw [←e,getD_replicate_false] at hl;cases hl
 ·obtain rfl:k=n:=by omega
  rw [←e]
  simp
end
end Go.Proofs.YtfjjcoggoomlbaaGreatDoor
