import Derived.Test.YtfjjcoggoomlbaaGreatDoorZNO
import Derived.Test.YtfjjcoggoomlbaaGreatDoorZNT
set_option maxHeartbeats 16000000
set_option maxRecDepth 100000
set_option linter.unusedVariables false
set_option linter.unusedSimpArgs false
set_option linter.unusedSectionVars false
namespace Go.Proofs.YtfjjcoggoomlbaaGreatDoor
open Go.RowKit
theorem zMd:∀ r,r<=4->zMb 39 r<10^8
 | 0,_=>by decide
 | 1,_=>by decide
 | 2,_=>by decide
 | 3,_=>by decide
 | 4,_=>by decide
theorem zBz.drawn {B n c b U:Nat} {M:mRx} {rs:List zGk} {W W':World} (h:zBz B n c M U rs W) (hg:W.grownBy W' (some b)) (hb:b<B):zBz B n c M U rs W':=by
 refine h.grown hg (fun e=>?_) fun j hj g e e2=>?_
 ·have:=(h.top.lt U rfl).1;injection e with e;omega
 obtain ⟨g2,e3,ho⟩:=h.ot.own j hj (by rw [<-h.mf.len];exact hj);rw [e] at e3;injection e3 with e3;injection e3 with e3;injection e2 with e2;have:=(ho.lt g2 rfl).1;omega
theorem form_fit {n:Nat} {M:mRx} {x:Nat->Rat} (hk:Kind n M) (hn:n<=4) (hx:zGq n x):zBt (form n M x):=by
 have h1:IsB (4*(4*454896)) (144*form n M x):=by
  have e:144*form n M x=xDg n fun i=>xDg n fun j=>12*x i*M i j*(12*x j):=by
   unfold form;rw [<-xDl]
   refine xDi fun i _=>?_
   rw [<-xDl]
   exact xDi fun j _=>by grind
  rw [e]
  have h2:IsB (n*(n*454896)) (xDg n fun i=>xDg n fun j=>12*x i*M i j*(12*x j)):=xDs fun i hi=>xDs fun j hj=>((xBr (hx i hi)).mul (hk.bnd i j hi hj) rfl).mul (xBr (hx j hj)) rfl
  exact h2.mono (Nat.mul_le_mul hn (Nat.mul_le_mul_right _ hn))
 have e2:form n M x=144*form n M x/144:=by grind
 rw [e2];exact (zXf (d:=8) h1 ((zPc 144).mono dCx) dCx dCx).fits dCx dCx
section
variable {w:World} {A Ab:oAx} {n c cb:Nat} {M:mRx} {bq:Nat->Rat}
theorem zWk (hp:PosD n M):∀ t,t<n->dD M t≠0:=fun t ht=>by have:=hp t ht;grind
theorem xBw {z:Nat->Rat} (hk:Kind n M) (hp:PosD n M) (hn:n<=4) (hb:zGq n bq) (h:∀ i,i<n->xDg n (fun j=>M i j*z j)=bq i):∀ i,i<n->zBt (z i):=fun i hi =>
 (sol_dig hn hk.bnd (by rw [zMj (zWk hp)];exact zWu (zWk hp)) hb hi h).fits dCx dCx
theorem dsoM {AD:oAx} {U cD B B':Nat} {rsL:List zGk} (hk:Kind n M) (hp:PosD n M) (hn1:1<=n) (hn:n<=4) (hg:zBz B n n (lK M n) U rsL w) (hD:w.ownsRow B' 39 1 (.slice AD n cD) n (dTx M n)) (hv:zHk w Ab n bq) (hb:zGq n bq) (henv:Env w) :
  Calls Tryz.prog 27 #[.agg #[.slice (some ⟨U,0,none⟩) n n,.slice AD n cD],.slice Ab n cb] w fun e w'=>∃ z,(∀ i,i<n->xDg n (fun j=>M i j*z j)=bq i)/\(∀ i,i<n->zBt (z i))/\zGb w n z e w':=by
 obtain ⟨ss,hs,hv⟩:=hv;have hd:=zWk hp
 have hxl:((List.range n).map fun t=>zYy (dD M t)).length=n:=by simp
 have hst:zGw w AD ((List.range n).map fun t=>zYy (dD M t)):=by
  obtain ⟨A',c',e1, -,h1, -⟩:=zVy (show w.ownsRow B' 39 1 (.slice AD n cD) ((List.range n).map fun t=>zYy (dD M t)).length (sv ((List.range n).map fun t=>zYy (dD M t))) by rw [hxl];exact hD);injection e1 with e1;rw [e1];exact h1
 refine (zAr AD Ab U cD cb n rsL ((List.range n).map fun t=>zYy (dD M t)) ss (lK M n) (dD M) bq w (hg.topM.readN hg.mf.len) hg.mf hg.cap (fun i k _ _ hik=>by unfold lK;rw [if_neg oMx]) (lK_dig hn hk.bnd hd) hst ⟨hxl,fun k h=>by simp,fun k h=>hk.fitD hn h fun s hs=>hp s oMx⟩
  (fun t ht=>dD_dig (fun s hs=>hd s oMx) ht hk.bnd (zMd _ oMx) (zMd _ oMx)) hd hs hv (fun i hi=>(hb i hi).dig.mono dCx) hn1 hn (fun z hz=>xBw hk hp hn hb (sol_m hk.sym hd hz)) henv).mono ?_
 rintro e w' ⟨z,hz,hr⟩;have h1:=sol_m hk.sym hd hz;exact ⟨z,h1,xBw hk hp hn hb h1,hr⟩
theorem rsoM {z:Nat->Rat} (h:MxR w A n M) (hk:Kind n M) (hp:PosD n M) (hn1:1<=n) (hn:n<=4) (hv:zHk w Ab n bq) (hb:zGq n bq) (hz:∀ i,i<n->xDg n (fun j=>M i j*z j)=bq i) (hf:∀ i,i<n->zBt (z i)) :
  Calls Tryz.prog 28 #[.slice A n c,.slice Ab n cb] w (zGb w n z):=by
 obtain ⟨rs,h1,h2,h3⟩:=h;obtain ⟨ss,hs,hv⟩:=hv;exact zEy A Ab rs ss c cb n M bq z w h1 h2 hs hv hn1 hn (fun i k hi hk'=>(hk.bnd i k hi hk').dig dCx dCx) (fun i hi=>(hb i hi).dig.mono dCx) (zWk hp) hz hf
end
end Go.Proofs.YtfjjcoggoomlbaaGreatDoor
