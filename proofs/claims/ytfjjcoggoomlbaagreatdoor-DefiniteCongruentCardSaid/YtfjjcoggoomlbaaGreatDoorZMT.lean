import Derived.Test.YtfjjcoggoomlbaaGreatDoorZMN
import Derived.Test.YtfjjcoggoomlbaaGreatDoorZMO
set_option maxHeartbeats 16000000
set_option maxRecDepth 100000
set_option linter.unusedVariables false
set_option linter.unusedSimpArgs false
set_option linter.unusedSectionVars false
namespace Go.Proofs.YtfjjcoggoomlbaaGreatDoor
open Go.RowKit
def MxIn (w:World) (A:Option Addr) (m n:Nat) (M:Nat→Nat→Rat):Prop:=∃ rs,zCw w A rs∧zCv rs m n M
def MxOk (w:World) (m n:Nat) (M:Nat→Nat→Rat) (e:Ending) (w':World):Prop:=∃ A c,e = .returned (.tuple #[.slice A m c,.int .i64 0])∧MxIn w' A m n M∧Below w.heap.size w w'
section
variable {A A':Option Addr} {c c' m n p:Nat} {M N:Nat→Nat→Rat} {w:World}
end
def zHi (w:World) (A:Option Addr) (n:Nat) (x:Nat→Rat):Prop:=∃ ss,zGu w A ss∧VecF ss n x
theorem zHi.below {w w':World} {A:Option Addr} {n:Nat} {x:Nat→Rat} (h:zHi w A n x) (hb:Below w.heap.size w w'):zHi w' A n x:=by
 obtain ⟨ss,h1,h2⟩:=h
 exact ⟨ss,h1.below hb,h2⟩
def VcOk (w:World) (n:Nat) (x:Nat→Rat) (e:Ending) (w':World):Prop:=∃ A c,e = .returned (.tuple #[.slice A n c,.int .i64 0])∧zHi w' A n x∧Below w.heap.size w w'
theorem xCr:∀ {n B:Nat} {f:Nat→Rat},(∀ i,i<n→∃ z:Int,f i=z∧z.natAbs≤B)→∃ z:Int,xCf n f=z∧z.natAbs≤n*B
 | 0,B,f,_=>⟨0,rfl,by simp⟩
 | n+1,B,f,h=>by
  obtain ⟨z,h1,h2⟩:=xCr (n:=n) (B:=B) (f:=f) fun i hi=>h i (by omega)
  obtain ⟨y,h3,h4⟩:=h n (by omega)
  refine ⟨z+y,?_,?_⟩
  ·unfold xCf
   rw [h1,h3,Rat.intCast_add]
  ·rw [Nat.add_mul]
   omega
theorem thin_dig {q:Rat} {B d:Nat} (h:∃ z:Int,q=z∧z.natAbs≤B) (hB:B<10^d) (hd:1≤d):zAu d q:=by
 obtain ⟨z,rfl,hz⟩:=h
 exact zAu.ofInt (show z.natAbs<10^d by omega) hd
theorem xBc {w W W':World} {b:Nat} (h:Below w.heap.size w W) (hb:w.heap.size≤b) (g:W.grownBy W' (some b)):Below w.heap.size w W' :=
 h.trans { os:=g.os,tape:=g.tape,output:=g.output,size:=g.size,block:=fun i hi=>g.block i (Nat.lt_of_lt_of_le hi h.size) (fun e=>by have:=Option.some.inj e;omega) }
def MxOwn (B:Nat) (w:World) (A:Option Addr) (m n c:Nat) (M:Nat→Nat→Rat):Prop:=∃ rs,zHe B w (.slice A m c) rs∧zCv rs m n M
section
variable {B m n c b:Nat} {w w':World} {A:Option Addr} {M:Nat→Nat→Rat}
end
def zHb (m n:Nat) (M:Nat→Nat→Rat):Prop:=∀ i k,i<m→k<n→∃ z:Int,M i k=z∧z.natAbs≤3
def DigM (d m n:Nat) (M:Nat→Nat→Rat):Prop:=∀ i k,i<m→k<n→zAu d (M i k)
theorem zHb.dig {m n:Nat} {M:Nat→Nat→Rat} (h:zHb m n M):DigM 1 m n M:=fun i k hi hk=>thin_dig (h i k hi hk) (by decide) (by decide)
def RetDraw (b m n:Nat) (P:(Nat→Nat→Rat)→Prop) (w:World) (e:Ending) (w':World):Prop:=∃ A c M,e = .returned (.slice A m c)∧MxOwn w.heap.size w' A m n c M∧P M∧Src w' b∧w.grownBy w' (some b)
theorem mxThin (b m n:Nat) (w:World) (hs:Src w b) (hm:m≤1000) (hn:n≤1000) (hn1:1≤n∨m=0):Calls Tryz.prog 32 #[.pointer (some ⟨b,0,none⟩),.int .i64 (m:Int),.int .i64 (n:Int)] w (RetDraw b m n (zHb m n) w):=by
 refine (Thin_any b m n w hs hm hn hn1).mono ?_
 rintro e w' ⟨v,rs,rfl,hl,ht,hmo,hs',hg⟩
 obtain ⟨A,c,rfl, -⟩:=zUs hmo.o
 have hrl:rs.length=m:=hl
 rw [hrl] at hmo ⊢
 exact ⟨A,c,zRp rs,rfl,⟨rs,hmo.topM,zRl hl (fun r hr=>(ht r hr).1) (fun r hr s hs=>xDr ((ht r hr).2 s hs))⟩,thin_q hl (fun r hr=>(ht r hr).1) (fun r hr=>(ht r hr).2),hs',hg⟩
def VcOwn (B:Nat) (w:World) (A:Option Addr) (n c:Nat) (x:Nat→Rat):Prop:=∃ ss,ss.length=n∧w.ownsRow B 39 1 (.slice A n c) n (sv ss)∧VecF ss n x
theorem zHi.addr {w:World} {A:Option Addr} {n:Nat} {x:Nat→Rat} (h:zHi w A n x) (hn:1≤n):∃ b o,A=some ⟨b,o,none⟩:=by
 obtain ⟨ss,h1,h2⟩:=h
 obtain ⟨b,o,e, -, -⟩:=h1 (by intro e;have:=h2.len;rw [e] at this;simp at this;omega)
 exact ⟨b,o,e⟩
theorem zHi.at_ {w:World} {b o:Nat} {n:Nat} {x:Nat→Rat} (h:zHi w (some ⟨b,o,none⟩) n x) {k:Nat} (hk:k<n):w.cell? ⟨b,o+k,none⟩=some (.string (zYd (x k))):=by
 obtain ⟨ss,h1,h2⟩:=h
 have hl:=h2.len
 obtain ⟨b',o',e, -,hc⟩:=h1 (by intro e;rw [e] at hl;simp at hl;omega)
 simp only [Option.some.injEq,Addr.mk.injEq] at e
 obtain ⟨rfl,rfl, -⟩:=e
 rw [hc k (by omega),h2.cel k (by omega)]
def SmallV (n:Nat) (x:Nat→Rat):Prop:=∀ k,k<n→zGo (x k)
def RkF (m n:Nat) (M:Nat→Nat→Rat) (q:Nat):Prop:=∃ e G:Nat→Nat→Rat,∀ i k,i<m→k<n→M i k=xCf q fun t=>e i t*G t k
def Rk (m n:Nat) (M:Nat→Nat→Rat) (r:Nat):Prop:=RkF m n M r∧∀ q,RkF m n M q→r≤q
section
variable {m n q r r':Nat} {M N:Nat→Nat→Rat}
theorem RkF.congr (h:RkF m n M q) (e:∀ i k,i<m→k<n→M i k=N i k):RkF m n N q:=by
 obtain ⟨f,G,h⟩:=h
 exact ⟨f,G,fun i k hi hk=>by rw [←e i k hi hk];exact h i k hi hk⟩
theorem Rk.same (h:Rk m n M r) (h':Rk m n M r'):r=r':=Nat.le_antisymm (h.2 _ h'.1) (h'.2 _ h.1)
theorem Rk.congr (h:Rk m n M r) (e:∀ i k,i<m→k<n→M i k=N i k):Rk m n N r:=⟨h.1.congr e,fun q hq=>h.2 q (hq.congr fun i k hi hk=>(e i k hi hk).symm)⟩
end
section
variable {m n r:Nat} {N F:Nat→Nat→Rat} {ps:Nat→Nat} {v:Rat} {odd:Bool}
theorem Gau.fac (h:Gau m N n F ps r v odd):RkF m n N r:=by
 have hb:=h.back
 refine ⟨fun i=>if hi:i<m then Classical.choose (hb i hi) else fun _=>0,F,fun i k hi hk=>?_⟩
 simp only [hi,dif_pos]
 rw [Classical.choose_spec (hb i hi) k]
 exact xCq h.rm fun t h1 h2=>by rw [h.zero t k h1 h2 hk];grind
theorem Gau.fac_le {k:Nat} (h:Gau m N n F ps r v odd) (hN:RkF m n N k):r≤k:=by
 refine Classical.byContradiction fun hk=>?_
 have hk:k<r:=by omega
 have hrm:=h.rm
 obtain ⟨g,G,hG⟩:=hN
 have hc:=h.comb
 have h2:∃ e:Nat→Nat→Rat,∀ i,i<r→∀ j,j<n→F i j=xCf k fun t=>e i t*G t j:=by
  refine ⟨fun i t=>if hi:i<m then xCf m (fun a=>Classical.choose (hc i hi) a*g a t) else 0,fun i hi j hj=>?_⟩
  have hi':i<m:=by omega
  simp only [hi',dif_pos]
  rw [Classical.choose_spec (hc i hi') j,xCu]
  exact xCh fun a ha=>by rw [hG a j ha hj]
 obtain ⟨e,he⟩:=h2
 have h3:=zLz r (fun i t=>if t<k then e i t else 0) (fun t j=>if t<k then G t (ps j) else 0)
 have h4:det r (mulM r (fun i t=>if t<k then e i t else 0) (fun t j=>if t<k then G t (ps j) else 0))=1:=by
  rw [←zLx r]
  apply (zLs r).ext
  intro i j hi hj
  rw [←h.unit j i hj (by omega),he i hi _ (h.piv j hj)]
  unfold mulM
  rw [xCq (k:=k) (by omega) (fun t h1 h2=>by show (if t<k then e i t else 0)*_=0;rw [if_neg (by omega)];grind)]
  exact xCh fun t ht=>by show (if t<k then e i t else 0)*(if t<k then G t (ps j) else 0)=_;rw [if_pos ht,if_pos ht]
 have h6:det r (fun i t=>if t<k then e i t else 0)=0:=zMc r _ k hk (fun i _=>by simp)
 rw [h4,h6] at h3
 revert h3
 grind
theorem Gau.rk (h:Gau m N n F ps r v odd):Rk m n N r:=⟨h.fac,fun _ hq=>h.fac_le hq⟩
end
section
variable {m n k0:Nat} {rs:List zGi} {M:Nat→Nat→Rat}
theorem zCv.lightN (B:Nat) (hB:B*(1+(B*B+1)*k0)≤600) (h:zCv rs m n M) (hm:m≤B) (hn:n≤B) (hk1:1≤k0) (hd:∀ i k,i<m→k<n→zAu k0 (M i k)):¬600<zOb rs n:=by
 have hlen:=h.len
 have hL:∀ l∈zRm rs,l.length≤B∧∀ q∈l,zAu k0 q:=fun l hl=>by
  obtain ⟨r,hr,rfl⟩:=List.mem_map.1 hl
  refine ⟨by rw [List.length_map,h.row r hr];exact hn,fun q hq=>?_⟩
  obtain ⟨s,hs,rfl⟩:=List.mem_map.1 hq
  obtain ⟨i,hi,rfl⟩:=List.getElem_of_mem hr
  obtain ⟨k,hk,rfl⟩:=List.getElem_of_mem hs
  have hl:=h.rowAt hi
  rw [h.cel i k hi hk,xEs (h.fit i k (by omega) (by omega))]
  exact hd i k (by omega) (by omega)
 have hlL:(zRm rs).length=m:=by unfold zRm;rw [List.length_map,hlen]
 have hD:Dig (1+B*(B*k0)) (zRi rs):=by
  have h1:=zLi (a:=1) (d:=1) (m:=zRm rs) (by unfold Dig;decide) hL
  refine h1.mono ?_
  rw [hlL]
  have:m*(B*k0)≤B*(B*k0):=Nat.mul_le_mul_right _ hm
  omega
 have hQ:∀ i k,zAu k0 (zRp rs i k):=fun i k=>by
  by_cases hi:i<m
  ·by_cases hk:k<n
   ·rw [h.q hi hk];exact hd i k hi hk
   ·have h0:zRp rs i k=0:=by
     unfold zRp
     rw [List.getD_eq_getElem?_getD]
     have h9:((zRm rs).getD i []).length≤n:=by
      rw [List.getD_eq_getElem?_getD]
      rcases h2:(zRm rs)[i]? with _|l
      ·simp
      ·obtain ⟨r,hr,rfl⟩:=List.mem_map.1 (List.mem_of_getElem? h2)
       have:=h.row r hr
       simp
       omega
     rw [List.getElem?_eq_none (by omega)]
     rfl
    rw [h0]
    exact zMi.mono hk1
  ·have h0:zRp rs i k=0:=by
    unfold zRp
    rw [List.getD_eq_getElem?_getD (l:=zRm rs),List.getElem?_eq_none (l:=zRm rs) (by omega)]
    rfl
   rw [h0]
   exact zMi.mono hk1
 have hBB:B*(B*k0)=B*B*k0:=(Nat.mul_assoc _ _ _).symm
 have hB1:(B*B+1)*k0=B*B*k0+k0:=by rw [Nat.add_mul,Nat.one_mul]
 have hdig:digT (zRi rs) (zRn rs) rs.length n≤1+(B*B+1)*k0:=by
  refine zSn ?_ fun i k hi hk=>?_
  ·have:=zMg (k:=B*(B*k0)) (by rw [Nat.add_comm];exact hD)
   omega
  ·have h1:Dig (k0+B*(B*k0)+1) (zRn rs i k):=by
    have:=zIy hD (hQ i k)
    rw [show k0+B*(B*k0)+1=k0+(1+B*(B*k0)) by omega]
    exact this
   have:=zMg h1
   show nd (zRn rs i k)≤_
   omega
 unfold zOb
 have h2:max rs.length n≤B:=by omega
 have h3:=Nat.mul_le_mul h2 hdig
 omega
theorem matD_ne (rs:List zGi):(zRi rs:Rat)≠0:=by
 have:0<zRi rs:=zLm _ (by decide)
 intro e
 have h2:zRi rs=0:=by exact_mod_cast e
 omega
theorem zCv.fin (h:zCv rs m n M) (hm1:1≤m) (hm:m≤12) (hn:n≤12):zBo rs n:=h.fine hm hn (fun e=>by omega)
theorem zCv.cellP (h:zCv rs m n M) (hf:zBo rs n) {i k:Nat} (hi:i<m) (hk:k<n):((zRn rs i k:Int):Rat)=zRi rs*M i k:=by
 rw [zRs hf (by rw [h.len];exact hi) hk,h.q hi hk]
end
theorem lcmI_one:zPb 1 1=1:=by decide
theorem zLc:∀ (l:List Rat),(∀ q∈l,q.den=1)→zKy 1 l=1
 | [],_=>rfl
 | q::r,h=>by
  unfold zKy
  rw [h q (by simp)]
  exact (congrArg (fun d=>zKy d r) lcmI_one).trans (zLc r fun p hp=>h p (by simp [hp]))
theorem zLk:∀ (l:List (List Rat)),(∀ m∈l,∀ q∈m,q.den=1)→zLg 1 l=1
 | [],_=>rfl
 | m::r,h=>by
  unfold zLg
  rw [zLc m (h m (by simp))]
  exact zLk r fun p hp=>h p (by simp [hp])
theorem zCv.int_D {m n:Nat} {rs:List zGi} {M:Nat→Nat→Rat} (h:zCv rs m n M) (hz:∀ i k,i<m→k<n→∃ z:Int,M i k=z):zRi rs=1:=by
 refine zLk _ fun l hl q hq=>?_
 obtain ⟨r,hr,rfl⟩:=List.mem_map.1 hl
 obtain ⟨s,hs,rfl⟩:=List.mem_map.1 hq
 obtain ⟨i,hi,rfl⟩:=List.getElem_of_mem hr
 obtain ⟨k,hk,rfl⟩:=List.getElem_of_mem hs
 have hlr:=h.rowAt hi
 have hlen:=h.len
 obtain ⟨z,e⟩:=hz i k (by omega) (by omega)
 rw [h.cel i k hi hk,xEs (h.fit i k (by omega) (by omega)),e]
 exact Rat.den_intCast _
def IntM (m n:Nat) (M:Nat→Nat→Rat):Prop:=∀ i k,i<m→k<n→∃ z:Int,M i k=z
theorem zHb.int {m n:Nat} {M:Nat→Nat→Rat} (h:zHb m n M):IntM m n M:=fun i k hi hk=>by
 obtain ⟨z,e, -⟩:=h i k hi hk
 exact ⟨z,e⟩
def besM (n:Nat) (A B:Nat→Nat→Rat):Nat→Nat→Rat:=fun i k=>if k<n then A i k else B i (k-n)
theorem besM_l {n:Nat} {A B:Nat→Nat→Rat} {i k:Nat} (h:k<n):besM n A B i k=A i k:=if_pos h
theorem besM_r {n:Nat} {A B:Nat→Nat→Rat} {i k:Nat}:besM n A B i (n+k)=B i k:=by
 unfold besM
 rw [if_neg (by omega),Nat.add_sub_cancel_left]
section
variable {n r:Nat} {A B F:Nat→Nat→Rat} {ps:Nat→Nat} {v:Rat} {odd:Bool}
theorem Gau.beside (h:Gau n (besM n A B) n F ps r v odd) (hr:r=n):∀ i k,i<n→mulM n A (fun j k=>F j (n+k)) i k=B i k:=fun i k hi=>by
 have:=h.solves hr (n+k) i hi
 rw [besM_r] at this
 rw [←this]
 exact xCh fun j hj=>by rw [besM_l hj]
end
def idnZ (i k:Nat):Int:=if i=k then 1 else 0
theorem idnZ_q (i k:Nat):((idnZ i k:Int):Rat)=idn i k:=by
 unfold idnZ idn
 split<;>rfl
theorem rinv_int {n:Nat} (A:Nat→Nat→Int) (hd:det n (fun i k=>(A i k:Rat))≠0):∃ X:Nat→Nat→Rat,∀ i k,i<n→k<n→mulM n (fun i k=>(A i k:Rat)) X i k=idn i k:=by
 obtain ⟨F,hg, -⟩:=zMu n (fun i k=>if k<n then A i k else idnZ i (k-n)) n
 have e:(fun i k=>(((if k<n then A i k else idnZ i (k-n)):Int):Rat))=besM n (fun i k=>(A i k:Rat)) idn:=by
  funext i k
  unfold besM
  split
  ·rfl
  ·exact idnZ_q _ _
 rw [e] at hg
 have hr:=hg.det_ne.2 (by
  rw [show det n (besM n (fun i k=>(A i k:Rat)) idn)=det n (fun i k=>(A i k:Rat)) from (zLs n).ext _ _ fun i k _ hk=>besM_l hk]
  exact hd)
 exact ⟨_,fun i k hi _=>hg.beside hr i k hi⟩
noncomputable def invN (rs:List zGi) (i k:Nat):Int:=if k<rs.length then zRn rs i k else idnZ i (k-rs.length)
noncomputable def invQ (rs:List zGi) (s:zBa) (i k:Nat):Rat:=Rat.divInt (s.P i (rs.length+k)*zRi rs) s.v
def InvPost (heavy:Bool) (s:zBa) (m:Nat) (q:Nat→Nat→Rat) (w:World) (e:Ending) (w':World):Prop :=
 match heavy with
 | true=>e = .returned (.tuple #[.slice none 0 0,.int .i64 3])∧Below w.heap.size w w'
 | false=>(s.ps.length<m∧e = .returned (.tuple #[.slice none 0 0,.int .i64 6])∧Below w.heap.size w w')∨(s.ps.length=m∧RetMx w m m q e w')
def IsB (b:Nat) (q:Rat):Prop:=∃ z:Int,q=z∧z.natAbs≤b
theorem IsB.mono {a b:Nat} {q:Rat} (h:IsB a q) (hab:a≤b):IsB b q:=by
 obtain ⟨z,e,hz⟩:=h
 exact ⟨z,e,by omega⟩
theorem IsB.mul {a b c:Nat} {x y:Rat} (h:IsB a x) (k:IsB b y) (hc:a*b=c):IsB c (x*y):=by
 obtain ⟨z,e,hz⟩:=h
 obtain ⟨u,f,hu⟩:=k
 refine ⟨z*u,by rw [e,f,Rat.intCast_mul],?_⟩
 rw [Int.natAbs_mul,←hc]
 exact Nat.mul_le_mul hz hu
theorem IsB.dig {b d:Nat} {q:Rat} (h:IsB b q) (hb:b<10^d) (hd:1≤d):zAu d q:=by
 obtain ⟨z,rfl,hz⟩:=h
 exact zAu.ofInt (show z.natAbs<10^d by omega) hd
theorem sgD_B (i:Nat):IsB 1 (sgD i):=by
 unfold sgD
 split
 ·exact ⟨1,rfl,by decide⟩
 ·exact ⟨-1,rfl,by decide⟩
def zLp (b:Nat):Nat→Nat
 | 0=>1
 | n+1=>(n+1)*(b*zLp b n)
theorem zLr {b:Nat}:∀ {n:Nat} {M:Nat→Nat→Rat},(∀ r c,r<n→c<n→IsB b (M r c))→IsB (zLp b n) (det n M)
 | 0,_,_=>⟨1,rfl,Nat.le_refl 1⟩
 | n+1,M,h=>xCr fun i hi=>((sgD_B i).mul (h i 0 hi (by omega)) (Nat.one_mul _)).mul (zLr (n:=n) (M:=mnr M i) fun r c hr hc=>h _ _ (by unfold skp;split<;>omega) (by omega)) rfl
theorem Gau.bnd {m n n2 r b:Nat} {N F:Nat→Nat→Rat} {ps:Nat→Nat} {v:Rat} {odd:Bool} (h:Gau m N n F ps r v odd) (hn2:n≤n2) (hN:∀ i k,i<m→k<n2→IsB b (N i k)) :
  IsB (zLp b r) v∧∀ i k,i<r→k<n2→IsB (zLp b r) (v*F i k):=by
 have hrm:=h.rm
 obtain ⟨π,hπ,h2⟩:=h.mins
 constructor
 ·have h3:=h2 r (fun j=>j) (fun j=>ps j) (Nat.le_refl _) (fun j _=>rfl) (fun j h1 h2=>by omega)
  have e:det r (fun a j=>F a (ps j))=1:=by
   rw [←zLx r]
   apply (zLs r).ext
   intro a j ha hj
   exact h.unit j a hj (by omega)
  rw [e,Rat.mul_one] at h3
  rw [←h3]
  exact zLr fun a b ha hb=>hN _ _ (hπ _ (by omega)) (Nat.lt_of_lt_of_le (h.piv b hb) hn2)
 ·intro i k hir hk
  have h3:=h2 r (fun j=>j) (fun j=>if j=i then k else ps j) (Nat.le_refl _) (fun j _=>rfl) (fun j h1 h2=>by omega)
  have e:det r (fun a j=>F a (if j=i then k else ps j))=F i k:=by
   rw [←zLu hir (fun a=>F a k)]
   apply (zLs r).ext
   intro a j ha hj
   unfold cpd
   split
   ·rfl
   ·exact h.unit j a hj (by omega)
  rw [e] at h3
  rw [←h3]
  exact zLr fun a b ha hb=>hN _ _ (hπ _ (by omega)) (by split;exact hk;exact Nat.lt_of_lt_of_le (h.piv b hb) hn2)
theorem detB_mil:∀ r,r≤4→zLp 1000000 r<10^26
 | 0,_|1,_|2,_|3,_|4,_=>by decide
theorem IsB.int {b:Nat} {z:Int} (h:IsB b (z:Rat)):z.natAbs≤b:=by
 obtain ⟨y,e,hy⟩:=h
 have:z=y:=by exact_mod_cast e
 rw [this]
 exact hy
theorem idn_B (i k:Nat):IsB 3 (idn i k):=by
 unfold idn
 split
 ·exact ⟨1,rfl,by decide⟩
 ·exact ⟨0,rfl,by decide⟩
theorem zHb.B {m n:Nat} {M:Nat→Nat→Rat} (h:zHb m n M):∀ i k,i<m→k<n→IsB 3 (M i k):=h
theorem matF_col {ss:List ByteArray} {n:Nat} {b:Nat→Rat} (h:VecF ss n b):zCv (zJg ss) n 1 (fun i _=>b i):=by
 refine ⟨by rw [zJh];exact h.len,fun r hr=>?_,fun i k hi hk=>?_,fun i _ hi _=>h.fit i hi⟩
 ·obtain ⟨s, -,rfl⟩:=List.mem_map.1 hr
  rfl
 ·have hi':i<ss.length:=by rw [zJh] at hi;exact hi
  have e:(zJg ss)[i]=⟨none,0,[ss[i]]⟩:=by simp [zJg]
  have hk1:k=0:=by
   have:(zJg ss)[i].ss.length=1:=by rw [e];rfl
   omega
  subst hk1
  simp only [e,List.getElem_cons_zero]
  exact h.cel i hi'
theorem IntM.num {m n:Nat} {M:Nat→Nat→Rat} (h:IntM m n M):∀ i k,i<m→k<n→(((M i k).num:Int):Rat)=M i k:=fun i k hi hk=>by
 obtain ⟨z,e⟩:=h i k hi hk
 rw [e,Rat.num_intCast]
theorem rk_det {n r:Nat} {M:Nat→Nat→Rat} (hz:IntM n n M) (hk:Rk n n M r):r=n↔det n M≠0:=by
 obtain ⟨F,hg, -⟩:=zMu n (fun i k=>(M i k).num) n
 have h1:=hk.same (hg.rk.congr hz.num)
 rw [h1,hg.det_ne,show det n (fun i k=>(((M i k).num:Int):Rat))=det n M from (zLs n).ext _ _ hz.num]
end Go.Proofs.YtfjjcoggoomlbaaGreatDoor
