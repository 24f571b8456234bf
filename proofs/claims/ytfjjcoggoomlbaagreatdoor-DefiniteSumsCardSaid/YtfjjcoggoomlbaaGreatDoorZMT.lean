import Derived.Test.YtfjjcoggoomlbaaGreatDoorZMN
import Derived.Test.YtfjjcoggoomlbaaGreatDoorZMO
set_option maxHeartbeats 16000000
set_option maxRecDepth 100000
set_option linter.unusedVariables false
set_option linter.unusedSimpArgs false
set_option linter.unusedSectionVars false
namespace Go.Proofs.YtfjjcoggoomlbaaGreatDoor
open Go.RowKit
def MxIn (w:World) (A:Option Addr) (m n:Nat) (M:Nat→Nat→Rat):Prop:=∃ rs,zCt w A rs∧zCs rs m n M
def MxOk (w:World) (m n:Nat) (M:Nat→Nat→Rat) (e:Ending) (w':World):Prop:=∃ A c,e = .returned (.tuple #[.slice A m c,.int .i64 0])∧MxIn w' A m n M∧Below w.heap.size w w'
section
variable {A A':Option Addr} {c c' m n p:Nat} {M N:Nat→Nat→Rat} {w:World}
end
def VcIn (w:World) (A:Option Addr) (n:Nat) (x:Nat→Rat):Prop:=∃ ss,zGo w A ss∧VecF ss n x
def VcOk (w:World) (n:Nat) (x:Nat→Rat) (e:Ending) (w':World):Prop:=∃ A c,e = .returned (.tuple #[.slice A n c,.int .i64 0])∧VcIn w' A n x∧Below w.heap.size w w'
theorem xCw:∀ {n B:Nat} {f:Nat→Rat},(∀ i,i<n→∃ z:Int,f i=z∧z.natAbs≤B)→∃ z:Int,xCk n f=z∧z.natAbs≤n*B
 | 0,B,f,_=>⟨0,rfl,by simp⟩
 | n+1,B,f,h=>by
  obtain ⟨z,h1,h2⟩:=xCw (n:=n) (B:=B) (f:=f) fun i hi=>h i oMx
  obtain ⟨y,h3,h4⟩:=h n oMx
  refine ⟨z+y,?_,?_⟩
  ·unfold xCk
   rw [h1,h3,Rat.intCast_add]
  ·rw [Nat.add_mul]
   omega
theorem thin_dig {q:Rat} {B d:Nat} (h:∃ z:Int,q=z∧z.natAbs≤B) (hB:B<10^d) (hd:1≤d):zAt d q:=by
 obtain ⟨z,rfl,hz⟩:=h
 exact zAt.ofInt (show z.natAbs<10^d by omega) hd
theorem srcBelow {w W W':World} {b:Nat} (h:Below w.heap.size w W) (hb:w.heap.size≤b) (g:W.grownBy W' (some b)):Below w.heap.size w W' :=
 h.trans { os:=g.os,tape:=g.tape,output:=g.output,size:=g.size,block:=fun i hi=>g.block i (Nat.lt_of_lt_of_le hi h.size) (fun e=>by have:=Option.some.inj e;omega) }
def MxOwn (B:Nat) (w:World) (A:Option Addr) (m n c:Nat) (M:Nat→Nat→Rat):Prop:=∃ rs,zGx B w (.slice A m c) rs∧zCs rs m n M
section
variable {B m n c b:Nat} {w w':World} {A:Option Addr} {M:Nat→Nat→Rat}
end
def zGv (m n:Nat) (M:Nat→Nat→Rat):Prop:=∀ i k,i<m→k<n→∃ z:Int,M i k=z∧z.natAbs≤3
def DigM (d m n:Nat) (M:Nat→Nat→Rat):Prop:=∀ i k,i<m→k<n→zAt d (M i k)
theorem zGv.dig {m n:Nat} {M:Nat→Nat→Rat} (h:zGv m n M):DigM 1 m n M:=fun i k hi hk=>thin_dig (h i k hi hk) dCx dCx
def RetDraw (b m n:Nat) (P:(Nat→Nat→Rat)→Prop) (w:World) (e:Ending) (w':World):Prop:=∃ A c M,e = .returned (.slice A m c)∧MxOwn w.heap.size w' A m n c M∧P M∧Src w' b∧w.grownBy w' (some b)
theorem mxThin (b m n:Nat) (w:World) (hs:Src w b) (hm:m≤1000) (hn:n≤1000) (hn1:1≤n∨m=0):Calls Tryz.prog 32 #[.pointer (some ⟨b,0,none⟩),.int .i64 (m:Int),.int .i64 (n:Int)] w (RetDraw b m n (zGv m n) w):=by
 refine (Thin_any b m n w hs hm hn hn1).mono ?_
 rintro e w' ⟨v,rs,rfl,hl,ht,hmo,hs',hg⟩
 obtain ⟨A,c,rfl, -⟩:=zUr hmo.o
 have hrl:rs.length=m:=hl
 rw [hrl] at hmo ⊢
 exact ⟨A,c,zRn rs,rfl,⟨rs,hmo.topM,zRj hl (fun r hr=>(ht r hr).1) (fun r hr s hs=>xDr ((ht r hr).2 s hs))⟩,thin_q hl (fun r hr=>(ht r hr).1) (fun r hr=>(ht r hr).2),hs',hg⟩
def VcOwn (B:Nat) (w:World) (A:Option Addr) (n c:Nat) (x:Nat→Rat):Prop:=∃ ss,ss.length=n∧w.ownsRow B 39 1 (.slice A n c) n (sv ss)∧VecF ss n x
def SmallV (n:Nat) (x:Nat→Rat):Prop:=∀ k,k<n→zGi (x k)
def RkF (m n:Nat) (M:Nat→Nat→Rat) (q:Nat):Prop:=∃ e G:Nat→Nat→Rat,∀ i k,i<m→k<n→M i k=xCk q fun t=>e i t*G t k
def Rk (m n:Nat) (M:Nat→Nat→Rat) (r:Nat):Prop:=RkF m n M r∧∀ q,RkF m n M q→r≤q
section
variable {m n q r r':Nat} {M N:Nat→Nat→Rat}
theorem RkF.congr (h:RkF m n M q) (e:∀ i k,i<m→k<n→M i k=N i k):RkF m n N q:=by
 obtain ⟨f,G,h⟩:=h
 exact ⟨f,G,fun i k hi hk=>by rw [←e i k hi hk];exact h i k hi hk⟩
theorem Rk.same (h:Rk m n M r) (h':Rk m n M r'):r=r':=Nat.le_antisymm (h.2 _ h'.1) (h'.2 _ h.1)
theorem Rk.congr (h:Rk m n M r) (e:∀ i k,i<m→k<n→M i k=N i k):Rk m n N r:=⟨h.1.congr e,fun q hq=>h.2 q (hq.congr fun i k hi hk=>(e i k hi hk).symm)⟩
end
section
variable {m n r:Nat} {N F:Nat→Nat→Rat} {ps:Nat→Nat} {v:Rat} {odd:Bool}
theorem Gau.fac (h:Gau m N n F ps r v odd):RkF m n N r:=by
 have hb:=h.back
 refine ⟨fun i=>if hi:i<m then Classical.choose (hb i hi) else fun _=>0,F,fun i k hi hk=>?_⟩
 simp only [hi,dif_pos]
 rw [Classical.choose_spec (hb i hi) k]
 exact xCv h.rm fun t h1 h2=>by rw [h.zero t k h1 h2 hk];grind
theorem Gau.fac_le {k:Nat} (h:Gau m N n F ps r v odd) (hN:RkF m n N k):r≤k:=by
 refine Classical.byContradiction fun hk=>?_
 have hk:k<r:=by omega
 have hrm:=h.rm
 obtain ⟨g,G,hG⟩:=hN
 have hc:=h.comb
 have h2:∃ e:Nat→Nat→Rat,∀ i,i<r→∀ j,j<n→F i j=xCk k fun t=>e i t*G t j:=by
  refine ⟨fun i t=>if hi:i<m then xCk m (fun a=>Classical.choose (hc i hi) a*g a t) else 0,fun i hi j hj=>?_⟩
  have hi':i<m:=by omega
  simp only [hi',dif_pos]
  rw [Classical.choose_spec (hc i hi') j,xCz]
  exact xCm fun a ha=>by rw [hG a j ha hj]
 obtain ⟨e,he⟩:=h2
 have h3:=zLu r (fun i t=>if t<k then e i t else 0) (fun t j=>if t<k then G t (ps j) else 0)
 have h4:det r (mulM r (fun i t=>if t<k then e i t else 0) (fun t j=>if t<k then G t (ps j) else 0))=1:=by
  rw [←zLs r]
  apply (zLn r).ext
  intro i j hi hj
  rw [←h.unit j i hj oMx,he i hi _ (h.piv j hj)]
  unfold mulM
  rw [xCv (k:=k) oMx (fun t h1 h2=>by show (if t<k then e i t else 0)*_=0;rw [if_neg oMx];grind)]
  exact xCm fun t ht=>by show (if t<k then e i t else 0)*(if t<k then G t (ps j) else 0)=_;rw [if_pos ht,if_pos ht]
 have h6:det r (fun i t=>if t<k then e i t else 0)=0:=zLx r _ k hk (fun i _=>by simp)
 rw [h4,h6] at h3
 revert h3
 grind
theorem Gau.rk (h:Gau m N n F ps r v odd):Rk m n N r:=⟨h.fac,fun _ hq=>h.fac_le hq⟩
end
section
variable {m n k0:Nat} {rs:List zGe} {M:Nat→Nat→Rat}
theorem zCs.lightN (B:Nat) (hB:B*(1+(B*B+1)*k0)≤600) (h:zCs rs m n M) (hm:m≤B) (hn:n≤B) (hk1:1≤k0) (hd:∀ i k,i<m→k<n→zAt k0 (M i k)):¬600<zNz rs n:=by
 have hlen:=h.len
 have hL:∀ l∈zRk rs,l.length≤B∧∀ q∈l,zAt k0 q:=fun l hl=>by
  obtain ⟨r,hr,rfl⟩:=List.mem_map.1 hl
  refine ⟨by rw [List.length_map,h.row r hr];exact hn,fun q hq=>?_⟩
  obtain ⟨s,hs,rfl⟩:=List.mem_map.1 hq
  obtain ⟨i,hi,rfl⟩:=List.getElem_of_mem hr
  obtain ⟨k,hk,rfl⟩:=List.getElem_of_mem hs
  have hl:=h.rowAt hi
  rw [h.cel i k hi hk,xEs (h.fit i k oMx oMx)]
  exact hd i k oMx oMx
 have hlL:(zRk rs).length=m:=by unfold zRk;rw [List.length_map,hlen]
 have hD:Dig (1+B*(B*k0)) (zRg rs):=by
  have h1:=zLd (a:=1) (d:=1) (m:=zRk rs) (by unfold Dig;decide) hL
  refine h1.mono ?_
  rw [hlL]
  have:m*(B*k0)≤B*(B*k0):=Nat.mul_le_mul_right _ hm
  omega
 have hQ:∀ i k,zAt k0 (zRn rs i k):=fun i k=>by
  by_cases hi:i<m
  ·by_cases hk:k<n
   ·rw [h.q hi hk];exact hd i k hi hk
   ·have h0:zRn rs i k=0:=by
     unfold zRn
     rw [List.getD_eq_getElem?_getD]
     have h9:((zRk rs).getD i []).length≤n:=by
      rw [List.getD_eq_getElem?_getD]
      rcases h2:(zRk rs)[i]? with _|l
      ·simp
      ·obtain ⟨r,hr,rfl⟩:=List.mem_map.1 (List.mem_of_getElem? h2)
       have:=h.row r hr
       simp
       omega
     rw [List.getElem?_eq_none oMx]
     rfl
    rw [h0]
    exact zMd.mono hk1
  ·have h0:zRn rs i k=0:=by
    unfold zRn
    rw [List.getD_eq_getElem?_getD (l:=zRk rs),List.getElem?_eq_none (l:=zRk rs) oMx]
    rfl
   rw [h0]
   exact zMd.mono hk1
 have hBB:B*(B*k0)=B*B*k0:=(Nat.mul_assoc _ _ _).symm
 have hB1:(B*B+1)*k0=B*B*k0+k0:=by rw [Nat.add_mul,Nat.one_mul]
 have hdig:digT (zRg rs) (zRl rs) rs.length n≤1+(B*B+1)*k0:=by
  refine zSl ?_ fun i k hi hk=>?_
  ·have:=zMb (k:=B*(B*k0)) (by rw [Nat.add_comm];exact hD)
   omega
  ·have h1:Dig (k0+B*(B*k0)+1) (zRl rs i k):=by
    have:=zIs hD (hQ i k)
    rw [show k0+B*(B*k0)+1=k0+(1+B*(B*k0)) by omega]
    exact this
   have:=zMb h1
   show nd (zRl rs i k)≤_
   omega
 unfold zNz
 have h2:max rs.length n≤B:=by omega
 have h3:=Nat.mul_le_mul h2 hdig
 omega
theorem matD_ne (rs:List zGe):(zRg rs:Rat)≠0:=by
 have:0<zRg rs:=zLh _ dCx
 intro e
 have h2:zRg rs=0:=by exact_mod_cast e
 omega
theorem zCs.fin (h:zCs rs m n M) (hm1:1≤m) (hm:m≤12) (hn:n≤12):zBn rs n:=h.fine hm hn (fun e=>by omega)
theorem zCs.cellP (h:zCs rs m n M) (hf:zBn rs n) {i k:Nat} (hi:i<m) (hk:k<n):((zRl rs i k:Int):Rat)=zRg rs*M i k:=by
 rw [zRq hf (by rw [h.len];exact hi) hk,h.q hi hk]
end
theorem lcmI_one:zOz 1 1=1:=by decide
theorem zKx:∀ (l:List Rat),(∀ q∈l,q.den=1)→zKt 1 l=1
 | [],_=>rfl
 | q::r,h=>by
  unfold zKt
  rw [h q sMx]
  exact (congrArg (fun d=>zKt d r) lcmI_one).trans (zKx r fun p hp=>h p (by simp [hp]))
theorem zLf:∀ (l:List (List Rat)),(∀ m∈l,∀ q∈m,q.den=1)→zLb 1 l=1
 | [],_=>rfl
 | m::r,h=>by
  unfold zLb
  rw [zKx m (h m sMx)]
  exact zLf r fun p hp=>h p (by simp [hp])
theorem zCs.int_D {m n:Nat} {rs:List zGe} {M:Nat→Nat→Rat} (h:zCs rs m n M) (hz:∀ i k,i<m→k<n→∃ z:Int,M i k=z):zRg rs=1:=by
 refine zLf _ fun l hl q hq=>?_
 obtain ⟨r,hr,rfl⟩:=List.mem_map.1 hl
 obtain ⟨s,hs,rfl⟩:=List.mem_map.1 hq
 obtain ⟨i,hi,rfl⟩:=List.getElem_of_mem hr
 obtain ⟨k,hk,rfl⟩:=List.getElem_of_mem hs
 have hlr:=h.rowAt hi
 have hlen:=h.len
 obtain ⟨z,e⟩:=hz i k oMx oMx
 rw [h.cel i k hi hk,xEs (h.fit i k oMx oMx),e]
 exact Rat.den_intCast _
def zBy (m n:Nat) (M:Nat→Nat→Rat):Prop:=∀ i k,i<m→k<n→∃ z:Int,M i k=z
theorem zGv.int {m n:Nat} {M:Nat→Nat→Rat} (h:zGv m n M):zBy m n M:=fun i k hi hk=>by
 obtain ⟨z,e, -⟩:=h i k hi hk
 exact ⟨z,e⟩
def besM (n:Nat) (A B:Nat→Nat→Rat):Nat→Nat→Rat:=fun i k=>if k<n then A i k else B i (k-n)
theorem besM_l {n:Nat} {A B:Nat→Nat→Rat} {i k:Nat} (h:k<n):besM n A B i k=A i k:=if_pos h
theorem besM_r {n:Nat} {A B:Nat→Nat→Rat} {i k:Nat}:besM n A B i (n+k)=B i k:=by
 unfold besM
 rw [if_neg oMx,Nat.add_sub_cancel_left]
section
variable {n r:Nat} {A B F:Nat→Nat→Rat} {ps:Nat→Nat} {v:Rat} {odd:Bool}
theorem Gau.beside (h:Gau n (besM n A B) n F ps r v odd) (hr:r=n):∀ i k,i<n→mulM n A (fun j k=>F j (n+k)) i k=B i k:=fun i k hi=>by
 have:=h.solves hr (n+k) i hi
 rw [besM_r] at this
 rw [←this]
 exact xCm fun j hj=>by rw [besM_l hj]
end
def idnZ (i k:Nat):Int:=if i=k then 1 else 0
theorem idnZ_q (i k:Nat):((idnZ i k:Int):Rat)=idn i k:=by
 unfold idnZ idn
 split<;>rfl
theorem zXq {n:Nat} (A:Nat→Nat→Int) (hd:det n (fun i k=>(A i k:Rat))≠0):∃ X:Nat→Nat→Rat,∀ i k,i<n→k<n→mulM n (fun i k=>(A i k:Rat)) X i k=idn i k:=by
 obtain ⟨F,hg, -⟩:=zMq n (fun i k=>if k<n then A i k else idnZ i (k-n)) n
 have e:(fun i k=>(((if k<n then A i k else idnZ i (k-n)):Int):Rat))=besM n (fun i k=>(A i k:Rat)) idn:=by
  funext i k
  unfold besM
  split
  ·rfl
  ·exact idnZ_q _ _
 rw [e] at hg
 have hr:=hg.det_ne.2 (by
  rw [show det n (besM n (fun i k=>(A i k:Rat)) idn)=det n (fun i k=>(A i k:Rat)) from (zLn n).ext _ _ fun i k _ hk=>besM_l hk]
  exact hd)
 exact ⟨_,fun i k hi _=>hg.beside hr i k hi⟩
noncomputable def invN (rs:List zGe) (i k:Nat):Int:=if k<rs.length then zRl rs i k else idnZ i (k-rs.length)
noncomputable def invQ (rs:List zGe) (s:zAz) (i k:Nat):Rat:=Rat.divInt (s.P i (rs.length+k)*zRg rs) s.v
def InvPost (heavy:Bool) (s:zAz) (m:Nat) (q:Nat→Nat→Rat) (w:World) (e:Ending) (w':World):Prop :=
 match heavy with
 | true=>e = .returned (.tuple #[.slice none 0 0,.int .i64 3])∧Below w.heap.size w w'
 | false=>(s.ps.length<m∧e = .returned (.tuple #[.slice none 0 0,.int .i64 6])∧Below w.heap.size w w')∨(s.ps.length=m∧RetMx w m m q e w')
def IsB (b:Nat) (q:Rat):Prop:=∃ z:Int,q=z∧z.natAbs≤b
theorem IsB.mono {a b:Nat} {q:Rat} (h:IsB a q) (hab:a≤b):IsB b q:=by
 obtain ⟨z,e,hz⟩:=h
 exact ⟨z,e,oMx⟩
theorem IsB.mul {a b c:Nat} {x y:Rat} (h:IsB a x) (k:IsB b y) (hc:a*b=c):IsB c (x*y):=by
 obtain ⟨z,e,hz⟩:=h
 obtain ⟨u,f,hu⟩:=k
 refine ⟨z*u,by rw [e,f,Rat.intCast_mul],?_⟩
 rw [Int.natAbs_mul,←hc]
 exact Nat.mul_le_mul hz hu
theorem IsB.dig {b d:Nat} {q:Rat} (h:IsB b q) (hb:b<10^d) (hd:1≤d):zAt d q:=by
 obtain ⟨z,rfl,hz⟩:=h
 exact zAt.ofInt (show z.natAbs<10^d by omega) hd
theorem sgD_B (i:Nat):IsB 1 (sgD i):=by
 unfold sgD
 split
 ·exact ⟨1,rfl,dCx⟩
 ·exact ⟨-1,rfl,dCx⟩
def zLk (b:Nat):Nat→Nat
 | 0=>1
 | n+1=>(n+1)*(b*zLk b n)
theorem zLm {b:Nat}:∀ {n:Nat} {M:Nat→Nat→Rat},(∀ r c,r<n→c<n→IsB b (M r c))→IsB (zLk b n) (det n M)
 | 0,_,_=>⟨1,rfl,Nat.le_refl 1⟩
 | n+1,M,h=>xCw fun i hi=>((sgD_B i).mul (h i 0 hi oMx) (Nat.one_mul _)).mul (zLm (n:=n) (M:=mnr M i) fun r c hr hc=>h _ _ (by unfold skp;split<;>omega) oMx) rfl
theorem Gau.bnd {m n n2 r b:Nat} {N F:Nat→Nat→Rat} {ps:Nat→Nat} {v:Rat} {odd:Bool} (h:Gau m N n F ps r v odd) (hn2:n≤n2) (hN:∀ i k,i<m→k<n2→IsB b (N i k)) :
  IsB (zLk b r) v∧∀ i k,i<r→k<n2→IsB (zLk b r) (v*F i k):=by
 have hrm:=h.rm
 obtain ⟨π,hπ,h2⟩:=h.mins
 constructor
 ·have h3:=h2 r (fun j=>j) (fun j=>ps j) lRx (fun j _=>rfl) (fun j h1 h2=>by omega)
  have e:det r (fun a j=>F a (ps j))=1:=by
   rw [←zLs r]
   apply (zLn r).ext
   intro a j ha hj
   exact h.unit j a hj oMx
  rw [e,Rat.mul_one] at h3
  rw [←h3]
  exact zLm fun a b ha hb=>hN _ _ (hπ _ oMx) (Nat.lt_of_lt_of_le (h.piv b hb) hn2)
 ·intro i k hir hk
  have h3:=h2 r (fun j=>j) (fun j=>if j=i then k else ps j) lRx (fun j _=>rfl) (fun j h1 h2=>by omega)
  have e:det r (fun a j=>F a (if j=i then k else ps j))=F i k:=by
   rw [←zLp hir (fun a=>F a k)]
   apply (zLn r).ext
   intro a j ha hj
   unfold cpd
   split
   ·rfl
   ·exact h.unit j a hj oMx
  rw [e] at h3
  rw [←h3]
  exact zLm fun a b ha hb=>hN _ _ (hπ _ oMx) (by split;exact hk;exact Nat.lt_of_lt_of_le (h.piv b hb) hn2)
theorem detB_mil:∀ r,r≤4→zLk 1000000 r<10^26
 | 0,_|1,_|2,_|3,_|4,_=>by decide
theorem IsB.int {b:Nat} {z:Int} (h:IsB b (z:Rat)):z.natAbs≤b:=by
 obtain ⟨y,e,hy⟩:=h
 have:z=y:=by exact_mod_cast e
 rw [this]
 exact hy
theorem idn_B (i k:Nat):IsB 3 (idn i k):=by
 unfold idn
 split
 ·exact ⟨1,rfl,dCx⟩
 ·exact ⟨0,rfl,dCx⟩
theorem zGv.B {m n:Nat} {M:Nat→Nat→Rat} (h:zGv m n M):∀ i k,i<m→k<n→IsB 3 (M i k):=h
theorem matF_col {ss:List ByteArray} {n:Nat} {b:Nat→Rat} (h:VecF ss n b):zCs (zJb ss) n 1 (fun i _=>b i):=by
 refine ⟨by rw [zJc];exact h.len,fun r hr=>?_,fun i k hi hk=>?_,fun i _ hi _=>h.fit i hi⟩
 ·obtain ⟨s, -,rfl⟩:=List.mem_map.1 hr
  rfl
 ·have hi':i<ss.length:=by rw [zJc] at hi;exact hi
  have e:(zJb ss)[i]=⟨none,0,[ss[i]]⟩:=by simp [zJb]
  have hk1:k=0:=by
   have:(zJb ss)[i].ss.length=1:=by rw [e];rfl
   omega
  subst hk1
  simp only [e,List.getElem_cons_zero]
  exact h.cel i hi'
theorem zBy.num {m n:Nat} {M:Nat→Nat→Rat} (h:zBy m n M):∀ i k,i<m→k<n→(((M i k).num:Int):Rat)=M i k:=fun i k hi hk=>by
 obtain ⟨z,e⟩:=h i k hi hk
 rw [e,Rat.num_intCast]
theorem rk_det {n r:Nat} {M:Nat→Nat→Rat} (hz:zBy n n M) (hk:Rk n n M r):r=n↔det n M≠0:=by
 obtain ⟨F,hg, -⟩:=zMq n (fun i k=>(M i k).num) n
 have h1:=hk.same (hg.rk.congr hz.num)
 rw [h1,hg.det_ne,show det n (fun i k=>(((M i k).num:Int):Rat))=det n M from (zLn n).ext _ _ hz.num]
end Go.Proofs.YtfjjcoggoomlbaaGreatDoor
