import Derived.Test.YtfjjcoggoomlbaaGreatDoorZNM
import Derived.Test.YtfjjcoggoomlbaaGreatDoorZNJ
set_option maxHeartbeats 16000000
set_option maxRecDepth 100000
set_option linter.unusedVariables false
set_option linter.unusedSimpArgs false
set_option linter.unusedSectionVars false
namespace Go.Proofs.YtfjjcoggoomlbaaGreatDoor
open Go.RowKit
def RetPermQ (w:World) (b n:Nat) (e:Ending) (w':World):Prop:=∃ (v:Value) (ps:List Nat),e = .returned v∧ps.Perm (List.range n)∧w'.ownsRow w.heap.size 3 1 v ps.length (vn ps)∧Src w' b∧w.grownBy w' (some b)
section
variable {w w2:World} {B g k cap b:Nat} {ps:List Nat} {j r:Nat} {u u':Value}
end
def penQ:List Rat:=[1,Rat.divInt 1 2,3,Rat.divInt 1 10,Rat.divInt 7 3]
def penS:List ByteArray:=[⟨#[49]⟩,⟨#[49,47,50]⟩,⟨#[51]⟩,⟨#[49,47,49,48]⟩,⟨#[55,47,51]⟩]
def Pen (q:Rat):Prop:=zAt 2 q∧0<q
theorem pos_form {n k:Nat} {P:Nat→Nat→Rat} (hint0:zBy n n P) (hf0:∀ x:Nat→Rat,(∃ i,i<n∧x i≠0)→0<form n P x) (hk:zDe n P k):k=n:=by
 obtain ⟨h1,h2,h3⟩:=hk
 rcases Nat.lt_or_ge k n with hlt|hge
 ·exfalso
  have hd:∀ t,t<k→dD P t≠0:=fun t ht=>by have:=h2 t ht;grind
  have hdet:det k P≠0:=by
   rw [zLr hd]
   exact zWe hd
  have hint:zBy k k P:=fun i j hi hj=>hint0 i j oMx oMx
  obtain ⟨X,hX0⟩:=zXq (n:=k) (fun i j=>(P i j).num) (by
   rw [show det k (fun i j=>(((P i j).num:Int):Rat))=det k P from (zLn k).ext _ _ hint.num]
   exact hdet)
  have hX:∀ i l,i<k→l<k→mulM k P X i l=idn i l:=fun i l hi hl=>by
   rw [←hX0 i l hi hl]
   exact xCm fun j hj=>by rw [←hint.num i j hi hj]
  have hx:∀ i,i<k→xCk k (fun j=>P i j*xCk k fun l=>X j l*(-(P l k))) = -(P i k):=fun i hi=>by
   have e:=zRz k k P X (fun l _ => -(P l k)) i 0
   have e2:mulM k P (mulM k X (fun l _ => -(P l k))) i 0=xCk k (fun j=>P i j*xCk k fun l=>X j l*(-(P l k))):=rfl
   rw [←e2,←e]
   show xCk k (fun l=>mulM k P X i l*(-(P l k)))=_
   rw [xCr hi fun l hl hne=>by rw [hX i l hi hl];unfold idn;rw [if_neg (Ne.symm hne)];grind]
   rw [hX i i hi hi]
   unfold idn
   rw [if_pos rfl]
   grind
  have hf:=zNc hd hlt hx
  exact h3 hlt (by
   rw [←hf]
   exact hf0 _ ⟨k,hlt,by unfold xGj;rw [if_neg (Nat.lt_irrefl k),if_pos rfl];decide⟩)
 ·omega
theorem form_add {n:Nat} (A B:Nat→Nat→Rat) (x:Nat→Rat):form n (fun i k=>A i k+B i k) x=form n A x+form n B x:=by
 unfold form
 rw [←xCl]
 refine xCm fun i _=>?_
 rw [←xCl]
 exact xCm fun j _=>by grind
theorem pos_sum {n k:Nat} {A B:Nat→Nat→Rat} (hA:zBy n n A) (hB:zBy n n B) (sA:SymM n A) (sB:SymM n B) (pA:PosD n A) (pB:PosD n B) (hk:zDe n (fun i k=>A i k+B i k) k):k=n :=
 pos_form (fun i k hi hk=>by
  obtain ⟨a,ha⟩:=hA i k hi hk
  obtain ⟨b,hb⟩:=hB i k hi hk
  exact ⟨a+b,by rw [ha,hb,Rat.intCast_add]⟩) (fun x hx=>by
  have h1:=zNa sA pA hx
  have h2:=zNa sB pB hx
  rw [form_add]
  grind) hk
theorem zCu.mxR {B n c:Nat} {w:World} {A:Option Addr} {rs:List zGe} {M:Nat→Nat→Rat} (h:zCu B w (.slice A n c) rs) (hm:zCs rs n n M):MxR w A n M:=by
 have hl:=hm.len
 subst hl
 exact ⟨rs,h.read,hm,fun r hr=>by
  obtain ⟨A',c',e,hc⟩:=zUr (h.i r hr)
  injection e with e1 e2 e3
  omega⟩
section
variable {w:World} {A:Option Addr} {n c k0:Nat} {M:Nat→Nat→Rat}
theorem posY (h:MxR w A n M) (hn1:1≤n) (hn:n≤4) (hs:SymM n M) (hk1:1≤k0) (hk0:k0≤8) (hd:∀ i k,i<n→k<n→zAt k0 (M i k)) (hp:∀ k,zDe n M k→k=n) (henv:Env w) :
  Calls Tryz.prog 21 #[.slice A n c] w fun e w'=>e = .returned (.tuple #[.bool true,.int .i64 0])∧Below w.heap.size w w':=by
 obtain ⟨rs,h1,h2,h3⟩:=h
 refine (zDf A c n rs M w h1 h2 hn1 oMx hs (h2.light hn hn hk1 hk0 hd) henv).mono ?_
 rintro e w' ⟨k,hk,rfl,hb⟩
 obtain rfl:=hp k hk
 exact ⟨by rw [decide_eq_true rfl],hb⟩
theorem decG (h:MxR w A n M) (hn1:1≤n) (hn:n≤4) (hs:SymM n M) (hk1:1≤k0) (hk0:k0≤8) (hd:∀ i k,i<n→k<n→zAt k0 (M i k)) (hp:∀ k,zDe n M k→k=n) (henv:Env w)
  (hfD:∀ k,k<n→(∀ t,t≤k→0<dD M t)→zBp (dD M k)) (hfL:∀ k i,k<i→i<n→(∀ t,t≤k→0<dD M t)→zBp (lL M i k)) :
  Calls Tryz.prog 12 #[.slice A n c] w fun e w'=>∃ (U gD cD:Nat) (rs:List zGe),e = .returned (.tuple #[.agg #[.slice (some ⟨U,0,none⟩) n n,.slice (some ⟨gD,0,none⟩) n cD],.int .i64 0])∧zDe n M n∧zBs w.heap.size n n (lK M n) U rs w'∧w'.ownsRow w.heap.size 39 1 (.slice (some ⟨gD,0,none⟩) n cD) n (dTx M n)∧Below w.heap.size w w':=by
 obtain ⟨rs,h1,h2,h3⟩:=h
 refine (zAs A c n rs M w h1 h2 hn1 oMx hs (h2.light hn hn hk1 hk0 hd) henv hfD hfL).mono ?_
 rintro e w' ⟨k,hk,hb,hh⟩
 obtain rfl:=hp k hk
 rcases hh with ⟨h9, -⟩|⟨-,U,Dv,rs',rfl,hg,ho⟩
 ·omega
 ·obtain ⟨AD,cD,rfl, -⟩:=zUr ho
  obtain ⟨gD,rfl⟩:=zUq ho oMx
  exact ⟨U,gD,cD,rs',rfl,hk,hg,ho,hb⟩
theorem dTx_at {B g t:Nat} {cD:Nat} (h:w.ownsRow B 39 1 (.slice (some ⟨g,0,none⟩) n cD) n (dTx M n)) (ht:t<n):w.cell? ⟨g,t,none⟩=some (.string (zYj (dD M t))):=by
 rw [h.cellAt t oMx]
 unfold dTx sv
 rw [List.map_map,List.getElem?_map,List.getElem?_range ht]
 rfl
end
def PerR (B:Nat) (w:World) (g n c:Nat) (ps:List Nat):Prop:=w.ownsRow B 3 1 (.slice (some ⟨g,0,none⟩) n c) n (vn ps)
section
variable {w w':World} {B g n c b:Nat} {ps:List Nat}
end
end Go.Proofs.YtfjjcoggoomlbaaGreatDoor
