import Derived.Test.YtfjjcoggoomlbaaGreatDoorZNQ
import Derived.Test.YtfjjcoggoomlbaaGreatDoorZNO
set_option maxHeartbeats 16000000
set_option maxRecDepth 100000
set_option linter.unusedVariables false
set_option linter.unusedSimpArgs false
set_option linter.unusedSectionVars false
namespace Go.Proofs.YtfjjcoggoomlbaaGreatDoor
open Go.RowKit
def RetDet (w:World) (n:Nat) (M:mRx) (e:Ending) (w':World):Prop:=e = .returned (.tuple #[.string (zYy (zWr n (dD M))),.int .i64 0])/\Below w.heap.size w w'
theorem posK_ex (n:Nat) (M:mRx):∃ k,zDm n M k:=by
 have h0:∀ j,j<=n->(∀ t,t<j->0<dD M t)\/∃ k,zDm n M k:=by
  intro j
  induction j with
  | zero=>intro _;exact .inl fun t ht=>absurd ht (Nat.not_lt_zero t)
  | succ j ih =>
   intro hj
   rcases ih oMx with h|h
   ·by_cases hd:0<dD M j
    ·refine .inl fun t ht=>?_
     rcases Nat.lt_or_ge t j with h1|h1
     ·exact h t h1
     obtain rfl:t=j:=by omega
     exact hd
    exact .inr ⟨j,oMx,h,fun _=>hd⟩
   exact .inr h
 rcases h0 n (Nat.le_refl n) with h|h
 ·exact ⟨n,Nat.le_refl n,h,fun hlt=>absurd hlt (Nat.lt_irrefl n)⟩
 exact h
theorem posD_of {n:Nat} {M:mRx} (hp:∀ k,zDm n M k->k=n):PosD n M:=by
 obtain ⟨k,hk⟩:=posK_ex n M;obtain rfl:=hp k hk;exact hk.2.1
theorem posK_cut {n j k:Nat} {M:mRx} (hp:PosD n M) (hj:j<=n) (h:zDm j M k):k=j:=by
 obtain ⟨h1, -,h3⟩:=h
 rcases Nat.lt_or_ge k j with h4|h4
 ·exact absurd (hp k oMx) (h3 h4)
 omega
section
variable {w:World} {A A':oAx} {n c c' k0:Nat} {M N:mRx}
end
end Go.Proofs.YtfjjcoggoomlbaaGreatDoor
