import Derived.Test.YtfjjcoggoomlbaaGreatDoorZNM
import Derived.Test.YtfjjcoggoomlbaaGreatDoorZNJ
set_option maxHeartbeats 16000000
set_option maxRecDepth 100000
set_option linter.unusedVariables false
set_option linter.unusedSimpArgs false
set_option linter.unusedSectionVars false
namespace Go.Proofs.YtfjjcoggoomlbaaGreatDoor
open Go.RowKit
def RetPermQ (w:World) (b n:Nat) (e:Ending) (w':World):Prop:=∃ (v:Value) (ps:List Nat),e = .returned v/\ps.Perm (List.range n)/\w'.ownsRow w.heap.size 3 1 v ps.length (vn ps)/\Src w' b/\w.grownBy w' (some b)
section
variable {w w2:World} {B g k cap b:Nat} {ps:List Nat} {j r:Nat} {u u':Value}
end
def penQ:List Rat:=[1,Rat.divInt 1 2,3,Rat.divInt 1 10,Rat.divInt 7 3]
def penS:List ByteArray:=[⟨#[49]⟩,⟨#[49,47,50]⟩,⟨#[51]⟩,⟨#[49,47,49,48]⟩,⟨#[55,47,51]⟩]
def Pen (q:Rat):Prop:=zAv 2 q/\0<q
theorem MxC.below {B n c:Nat} {w w':World} {A:oAx} {M:mRx} (h:MxC B w A n c M) (hb:Below w.heap.size w w'):MxC B w' A n c M:=by
 obtain ⟨rs,h1,h2,h3⟩:=h;exact ⟨rs,h1.below hb,h2,h3⟩
section
variable {w:World} {A:oAx} {n c k0:Nat} {M:mRx}
theorem decG (h:MxR w A n M) (hn1:1<=n) (hn:n<=4) (hs:SymM n M) (hk1:1<=k0) (hk0:k0<=8) (hd:∀ i k,i<n->k<n->zAv k0 (M i k)) (hp:∀ k,zDm n M k->k=n) (henv:Env w)
  (hfD:∀ k,k<n->(∀ t,t<=k->0<dD M t)->zBt (dD M k)) (hfL:∀ k i,k<i->i<n->(∀ t,t<=k->0<dD M t)->zBt (lL M i k)) :
  Calls Tryz.prog 12 #[.slice A n c] w fun e w'=>∃ (U gD cD:Nat) (rs:List zGk),e = .returned (.tuple #[.agg #[.slice (some ⟨U,0,none⟩) n n,.slice (some ⟨gD,0,none⟩) n cD],.int .i64 0])/\zDm n M n/\zBz w.heap.size n n (lK M n) U rs w'/\w'.ownsRow w.heap.size 39 1 (.slice (some ⟨gD,0,none⟩) n cD) n (dTx M n)/\Below w.heap.size w w':=by
 obtain ⟨rs,h1,h2,h3⟩:=h;refine (zAu A c n rs M w h1 h2 hn1 oMx hs (h2.light hn hn hk1 hk0 hd) henv hfD hfL).mono ?_;rintro e w' ⟨k,hk,hb,hh⟩;obtain rfl:=hp k hk
 rcases hh with ⟨h9, -⟩|⟨-,U,Dv,rs',rfl,hg,ho⟩
 ·omega
 obtain ⟨AD,cD,rfl, -⟩:=zVk ho;obtain ⟨gD,rfl⟩:=zVj ho oMx;exact ⟨U,gD,cD,rs',rfl,hk,hg,ho,hb⟩
end
def PerR (B:Nat) (w:World) (g n c:Nat) (ps:List Nat):Prop:=w.ownsRow B 3 1 (.slice (some ⟨g,0,none⟩) n c) n (vn ps)
section
variable {w w':World} {B g n c b:Nat} {ps:List Nat}
end
end Go.Proofs.YtfjjcoggoomlbaaGreatDoor
