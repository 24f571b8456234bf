import Derived.Test.YtfjjcoggoomlbaaGreatDoorZB
set_option maxHeartbeats 16000000
set_option maxRecDepth 100000
namespace Go.Proofs.YtfjjcoggoomlbaaGreatDoor
open Go.RowKit
def VRow (w:World) (A:Option Addr) (cs:List Value):Prop:=cs≠[]→∃ b off,A=some ⟨b,off,none⟩∧b<w.heap.size∧∀ i,(h:i<cs.length)→w.cell? ⟨b,off+i,none⟩=some cs[i]
theorem VRow.below {w w':World} {A:Option Addr} {cs:List Value} (h:VRow w A cs) (hb:Below w.heap.size w w'):VRow w' A cs:=fun hn=>by
 obtain ⟨b,off,e,hlt,hc⟩:=h hn
 have:=hb.size
 exact ⟨b,off,e,by omega,fun i hi=>(hb.cell (p:=⟨b,off+i,none⟩) hlt).trans (hc i hi)⟩
theorem VRow.at_ {w:World} {b off:Nat} {cs:List Value} (h:VRow w (some ⟨b,off,none⟩) cs) {i:Nat} {v:Value} (hi:cs[i]? = some v):w.cell? ⟨b,off+i,none⟩=some v:=by
 obtain ⟨hl,e⟩:=List.getElem?_eq_some_iff.1 hi
 obtain ⟨b',off',e',_,hc⟩:=h (by intro h0;subst h0;simp at hl)
 injection e' with e'
 injection e' with e1 e2
 subst e1 e2
 rw [hc i hl,e]
def zOe {α:Type} (p:α→Bool) (l:List α):Int:=match l.findIdx? p with|some i=>(i:Int)|none => -1
theorem zOf {α:Type} {p:α→Bool} {l:List α} {k:Nat} (hk:k<l.length) (h:p l[k]=true) (hb:∀ j,(hj:j<l.length)→j<k→p l[j]=false):zOe p l=k:=by
 unfold zOe
 rw [show l.findIdx? p=some k from List.findIdx?_eq_some_iff_getElem.2 ⟨hk,h,fun j hj=>by simp [hb j (by omega) hj]⟩]
theorem zOh {α:Type} {p:α→Bool} {l:List α} (hb:∀ j,(hj:j<l.length)→p l[j]=false):zOe p l = -1:=by
 unfold zOe
 rw [show l.findIdx? p=none from List.findIdx?_eq_none_iff.2 fun x hx=>by
  obtain ⟨j,hj,e⟩:=List.getElem_of_mem hx
  rw [←e,hb j hj]]
theorem zOg {α:Type} (p:α→Bool) (l:List α):decide (0≤zOe p l)=l.any p:=by
 rw [Bool.eq_iff_iff,decide_eq_true_eq,List.any_eq_true]
 unfold zOe
 constructor
 ·intro h
  split at h
  ·rename_i i e
   obtain ⟨hi,he,_⟩:=List.findIdx?_eq_some_iff_getElem.1 e
   exact ⟨_,List.getElem_mem hi,he⟩
  ·omega
 ·rintro ⟨x,hx,he⟩
  split
  ·omega
  ·rename_i e
   rw [List.findIdx?_eq_none_iff.1 e x hx] at he
   cases he
theorem Blk.new' {w:World} {g:Nat} (hg:w.heap.size=g) (t:TypeId) (cs:List Value):Blk (w.alloc (.cells cs.toArray t)) g t cs:=hg▸Blk.new w t cs
end Go.Proofs.YtfjjcoggoomlbaaGreatDoor
