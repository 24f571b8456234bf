import Derived.Test.YtfjjcoggoomlbaaGreatDoorZMT
set_option maxHeartbeats 16000000
set_option maxRecDepth 100000
set_option linter.unusedVariables false
set_option linter.unusedSimpArgs false
set_option linter.unusedSectionVars false
namespace Go.Proofs.YtfjjcoggoomlbaaGreatDoor
def zZk (A:Nat→Nat→Rat):Nat→Nat→Nat→Rat
 | 0=>A
 | k+1=>fun i j=>zZk A k i j-zZk A k i k*zZk A k k j/zZk A k k k
def dD (A:Nat→Nat→Rat) (k:Nat):Rat:=zZk A k k k
def lL (A:Nat→Nat→Rat) (i k:Nat):Rat:=zZk A k i k/dD A k
section
variable {A B:Nat→Nat→Rat} {n k:Nat}
theorem zZl:∀ {k:Nat},(∀ t,t<k→dD A t≠0)→∀ i j,j<k→zZk A k i j=0
 | k+1,h,i,j,hj=>by
  show zZk A k i j-zZk A k i k*zZk A k k j/zZk A k k k=0
  rcases Nat.lt_or_ge j k with h1|h1
  ·rw [zZl (fun t ht=>h t (by omega)) i j h1,zZl (fun t ht=>h t (by omega)) k j h1]
   grind
  ·obtain rfl:j=k:=by omega
   have:=h j (by omega)
   unfold dD at this
   grind
theorem zZo:∀ {k:Nat},(∀ t,t<k→dD A t≠0)→∀ i j,i<k→zZk A k i j=0
 | k+1,h,i,j,hi=>by
  show zZk A k i j-zZk A k i k*zZk A k k j/zZk A k k k=0
  rcases Nat.lt_or_ge i k with h1|h1
  ·rw [zZo (fun t ht=>h t (by omega)) i j h1,zZo (fun t ht=>h t (by omega)) i k h1]
   grind
  ·obtain rfl:i=k:=by omega
   have:=h i (by omega)
   unfold dD at this
   grind
theorem zZq (hs:∀ i j,i<n→j<n→A i j=A j i):∀ (k:Nat),k≤n→∀ i j,i<n→j<n→zZk A k i j=zZk A k j i
 | 0,_,i,j,hi,hj=>hs i j hi hj
 | k+1,hk,i,j,hi,hj=>by
  show zZk A k i j-zZk A k i k*zZk A k k j/zZk A k k k=zZk A k j i-zZk A k j k*zZk A k k i/zZk A k k k
  rw [zZq hs k (by omega) i j hi hj,zZq hs k (by omega) i k hi (by omega),zZq hs k (by omega) k j (by omega) hj]
  grind
theorem zZr (A:Nat→Nat→Rat):∀ (k i j:Nat),A i j=zZk A k i j+xCf k fun t=>zZk A t i t*zZk A t t j/dD A t
 | 0,i,j=>by show A i j=A i j+0;grind
 | k+1,i,j=>by
  rw [zZr A k i j]
  show _=(zZk A k i j-zZk A k i k*zZk A k k j/zZk A k k k)+(xCf k (fun t=>zZk A t i t*zZk A t t j/dD A t)+zZk A k i k*zZk A k k j/dD A k)
  unfold dD
  grind
theorem zZm (h:∀ i j,i<n→j<n→A i j=B i j):∀ (k:Nat),k≤n→∀ i j,i<n→j<n→zZk A k i j=zZk B k i j
 | 0,_,i,j,hi,hj=>h i j hi hj
 | k+1,hk,i,j,hi,hj=>by
  show zZk A k i j-zZk A k i k*zZk A k k j/zZk A k k k=zZk B k i j-zZk B k i k*zZk B k k j/zZk B k k k
  rw [zZm h k (by omega) i j hi hj,zZm h k (by omega) i k hi (by omega),zZm h k (by omega) k j (by omega) hj,zZm h k (by omega) k k (by omega) (by omega)]
theorem zZp {d:Rat} (hd:d≠0):∀ (k i j:Nat),zZk (fun i j=>d*A i j) k i j=d*zZk A k i j
 | 0,_,_=>rfl
 | k+1,i,j=>by
  show zZk (fun i j=>d*A i j) k i j-zZk (fun i j=>d*A i j) k i k*zZk (fun i j=>d*A i j) k k j/zZk (fun i j=>d*A i j) k k k=d*(zZk A k i j-zZk A k i k*zZk A k k j/zZk A k k k)
  rw [zZp hd k i j,zZp hd k i k,zZp hd k k j,zZp hd k k k]
  by_cases h0:zZk A k k k=0
  ·rw [h0];grind
  ·grind
def bord (A:Nat→Nat→Rat) (k i j:Nat):Nat→Nat→Rat:=fun r c=>A (if r<k then r else i) (if c<k then c else j)
theorem zWe:∀ (n:Nat) (f:Nat→Rat),(∀ i,i<n→f i=1)→zWa n f=1
 | 0,_,_=>rfl
 | n+1,f,h=>by
  show zWa n f*f n=1
  rw [zWe n f fun i hi=>h i (by omega),h n (by omega)]
  grind
theorem zWb:∀ {n:Nat} {f g:Nat→Rat},(∀ i,i<n→f i=g i)→zWa n f=zWa n g
 | 0,_,_,_=>rfl
 | n+1,f,g,h=>by
  show zWa n f*f n=zWa n g*g n
  rw [zWb fun i hi=>h i (by omega),h n (by omega)]
theorem zLt (hd:∀ t,t<k→dD A t≠0) (i j:Nat):det (k+1) (bord A k i j)=zWa k (dD A)*zZk A k i j:=by
 let Lm:Nat→Nat→Rat:=fun r t=>if t<k then zZk A t (if r<k then r else i) t/dD A t else if r=k then 1 else 0
 let Um:Nat→Nat→Rat:=fun t c=>if t<k then zZk A t t (if c<k then c else j) else if c=k then zZk A k i j else 0
 have e:det (k+1) (bord A k i j)=det (k+1) (mulM (k+1) Lm Um):=(zLs (k+1)).ext _ _ fun r c hr hc=>by
  show A (if r<k then r else i) (if c<k then c else j)=xCf k (fun t=>Lm r t*Um t c)+Lm r k*Um k c
  have h1:xCf k (fun t=>Lm r t*Um t c)=xCf k fun t=>zZk A t (if r<k then r else i) t*zZk A t t (if c<k then c else j)/dD A t:=xCh fun t ht=>by
   show (if t<k then _ else _)*(if t<k then _ else _)=_
   rw [if_pos ht,if_pos ht]
   grind
  rw [h1,zZr A k,Rat.add_comm]
  congr 1
  show _=(if k<k then _ else if r=k then (1:Rat) else 0)*(if k<k then _ else if c=k then zZk A k i j else 0)
  rw [if_neg (Nat.lt_irrefl k),if_neg (Nat.lt_irrefl k)]
  by_cases hr1:r<k
  ·rw [if_pos hr1,if_neg (show ¬r=k by omega),zZo hd _ _ hr1];grind
  ·by_cases hc1:c<k
   ·rw [if_pos hc1,if_neg (show ¬c=k by omega),zZl hd _ _ hc1];grind
   ·rw [if_neg hr1,if_neg hc1,if_pos (show r=k by omega),if_pos (show c=k by omega)];grind
 rw [e,zLz,←zMa (k+1) Lm]
 have hL:det (k+1) (trn Lm)=1:=by
  rw [zMb (k+1) (trn Lm) fun t r ht hr=>?_]
  ·refine zWe _ _ fun r hr=>?_
   show (if r<k then zZk A r (if r<k then r else i) r/dD A r else if r=k then 1 else 0)=1
   by_cases hrk:r<k
   ·rw [if_pos hrk,if_pos hrk]
    have:=hd r hrk
    unfold dD at this ⊢
    grind
   ·rw [if_neg hrk,if_pos (by omega)]
  ·show (if t<k then zZk A t (if r<k then r else i) t/dD A t else if r=k then 1 else 0)=0
   by_cases htk:t<k
   ·rw [if_pos htk,if_pos (show r<k by omega),zZo (fun s hs=>hd s (by omega)) r t hr]
    grind
   ·rw [if_neg htk,if_neg (by omega)]
 have hU:det (k+1) Um=zWa k (dD A)*zZk A k i j:=by
  rw [zMb (k+1) Um fun t c ht hc=>?_]
  ·show zWa k (fun t=>Um t t)*Um k k=_
   congr 1
   ·refine zWb fun t ht=>?_
    show (if t<k then zZk A t t (if t<k then t else j) else _)=_
    rw [if_pos ht,if_pos ht]
    rfl
   ·show (if k<k then _ else if k=k then zZk A k i j else 0)=_
    rw [if_neg (by omega),if_pos rfl]
  ·show (if t<k then zZk A t t (if c<k then c else j) else if c=k then zZk A k i j else 0)=0
   by_cases htk:t<k
   ·rw [if_pos htk,if_pos (show c<k by omega),zZl (fun s hs=>hd s (by omega)) t c hc]
   ·rw [if_neg htk,if_neg (by omega)]
 rw [hL,hU]
 grind
theorem zIl (A:Nat→Nat→Rat) (k:Nat):det (k+1) (bord A k k k)=det (k+1) A:=(zLs (k+1)).ext _ _ fun r c hr hc=>by
 unfold bord
 congr 1<;>split<;>omega
theorem zLw (hd:∀ t,t<n→dD A t≠0):det n A=zWa n (dD A):=by
 cases n with
 | zero=>rfl
 | succ k =>
  rw [←zIl,zLt (fun t ht=>hd t (by omega))]
  rfl
def form (n:Nat) (A:Nat→Nat→Rat) (x:Nat→Rat):Rat:=xCf n fun i=>xCf n fun j=>x i*A i j*x j
def col (A:Nat→Nat→Rat) (n t:Nat) (x:Nat→Rat):Rat:=xCf n fun i=>x i*zZk A t i t
theorem xCl:∀ {n:Nat} {f:Nat→Rat},(∀ i,i<n→0≤f i)→0≤xCf n f
 | 0,_,_=>by show (0:Rat)≤0;grind
 | n+1,f,h=>by
  have h1:=xCl (n:=n) (f:=f) fun i hi=>h i (by omega)
  have h2:=h n (by omega)
  show 0≤xCf n f+f n
  grind
theorem xCn:∀ {n k:Nat} {f:Nat→Rat},(∀ i,i<n→0≤f i)→k<n→0<f k→0<xCf n f
 | n+1,k,f,h,hk,hp=>by
  show 0<xCf n f+f n
  have h2:=h n (by omega)
  rcases Nat.lt_or_ge k n with h1|h1
  ·have h3:=xCn (n:=n) (k:=k) (f:=f) (fun i hi=>h i (by omega)) h1 hp
   grind
  ·obtain rfl:k=n:=by omega
   have h3:=xCl (n:=k) (f:=f) fun i hi=>h i (by omega)
   grind
theorem sq_nonneg (x:Rat):0≤x*x:=by
 rcases Rat.le_total (a:=0) (b:=x) with h|h
 ·exact Rat.mul_nonneg h h
 ·have:0≤(-x)*(-x):=Rat.mul_nonneg (by grind) (by grind)
  grind
def PosD (n:Nat) (A:Nat→Nat→Rat):Prop:=∀ k,k<n→0<dD A k
theorem zZn {x:Nat→Rat}:∀ {k:Nat} {m:Nat},(∀ t,t<k→dD A t≠0)→(∀ i,i<k→xCf m (fun j=>A i j*x j)=0)→∀ i,xCf m (fun j=>zZk A k i j*x j)=xCf m (fun j=>A i j*x j)
 | 0,_,_,_,_=>rfl
 | k+1,m,hd,h,i=>by
  have ih:=zZn (k:=k) (m:=m) (fun t ht=>hd t (by omega)) (fun i hi=>h i (by omega))
  have h1:(fun j=>zZk A (k+1) i j*x j)=fun j=>zZk A k i j*x j+(-(zZk A k i k/zZk A k k k))*(zZk A k k j*x j):=by
   funext j
   show (zZk A k i j-zZk A k i k*zZk A k k j/zZk A k k k)*x j=_
   grind
  rw [h1,xCg,xCk,ih i,ih k,h k (by omega)]
  grind
theorem form_wit (hd:∀ t,t<k→dD A t≠0) (hk:k<n) {x:Nat→Rat} (hx:∀ i,i<k→xCf n (fun j=>A i j*x j)=0) (h1:x k=1) (h2:∀ i,k<i→i<n→x i=0):form n A x=dD A k:=by
 have h3:form n A x=xCf n fun i=>x i*xCf n (fun j=>A i j*x j):=xCh fun i hi=>by
  rw [←xCk]
  exact xCh fun j _=>by grind
 rw [h3,xCm hk fun i hi hne=>?_]
 ·rw [h1,←zZn hd hx k,xCm hk fun j hj hne=>?_]
  ·rw [h1];unfold dD;grind
  ·rcases Nat.lt_or_ge j k with h4|h4
   ·rw [zZl hd k j h4];grind
   ·rw [h2 j (by omega) hj];grind
 ·rcases Nat.lt_or_ge i k with h4|h4
  ·rw [hx i h4];grind
  ·rw [h2 i (by omega) hi];grind
end
def zPi (N:Nat→Nat→Int):Nat→(Nat→Nat→Int) × Int
 | 0=>(N,1)
 | k+1=>(fun i j=>if k<i∧k<j then ((zPi N k).1 i j*(zPi N k).1 k k-(zPi N k).1 i k*(zPi N k).1 k j)/(zPi N k).2 else (zPi N k).1 i j,(zPi N k).1 k k)
def zIw (N:Nat→Nat→Int):Nat→Nat→Rat:=fun i j=>(N i j:Rat)
section
variable {N:Nat→Nat→Int} {n k:Nat}
theorem zWd:∀ {n:Nat} {f:Nat→Rat},(∀ t,t<n→f t≠0)→zWa n f≠0
 | 0,_,_=>by show (1:Rat)≠0;decide
 | n+1,f,h=>by
  have h1:=zWd (n:=n) (f:=f) fun t ht=>h t (by omega)
  have h2:=h n (by omega)
  intro e
  rcases Rat.mul_eq_zero.1 e with h3|h3
  ·exact h1 h3
  ·exact h2 h3
theorem bord_int (N:Nat→Nat→Int) (hd:∀ t,t<k→dD (zIw N) t≠0) (i j:Nat):∃ z:Int,zWa k (dD (zIw N))*zZk (zIw N) k i j=z:=by
 rw [←zLt hd i j]
 exact zLy fun r c _ _=>⟨_,rfl⟩
theorem zPq:∀ {k:Nat},(∀ t,t<k→dD (zIw N) t≠0)→(((zPi N k).2:Int):Rat)=zWa k (dD (zIw N))∧∀ i j,k≤i→k≤j→(((zPi N k).1 i j:Int):Rat)=zWa k (dD (zIw N))*zZk (zIw N) k i j
 | 0,_=>⟨rfl,fun i j _ _=>by show (N i j:Rat)=1*zIw N i j;unfold zIw;grind⟩
 | k+1,hd=>by
  obtain ⟨h1,h2⟩:=zPq (k:=k) fun t ht=>hd t (by omega)
  have hV:=zWd (n:=k) (f:=dD (zIw N)) fun t ht=>hd t (by omega)
  have hk:=hd k (by omega)
  have e:zWa (k+1) (dD (zIw N))=zWa k (dD (zIw N))*dD (zIw N) k:=rfl
  refine ⟨?_,fun i j hi hj=>?_⟩
  ·show (((zPi N k).1 k k:Int):Rat)=_
   rw [h2 k k (Nat.le_refl _) (Nat.le_refl _),e]
   rfl
  ·obtain ⟨z,hz⟩:=bord_int (k:=k+1) N hd i j
   show (((if k<i∧k<j then _ else _):Int):Rat)=_
   rw [if_pos ⟨by omega,by omega⟩,hz]
   have h3:(zPi N k).1 i j*(zPi N k).1 k k-(zPi N k).1 i k*(zPi N k).1 k j=(zPi N k).2*z:=by
    have h4:(((zPi N k).1 i j*(zPi N k).1 k k-(zPi N k).1 i k*(zPi N k).1 k j:Int):Rat)=(((zPi N k).2*z:Int):Rat):=by
     rw [Rat.intCast_sub,Rat.intCast_mul,Rat.intCast_mul,Rat.intCast_mul,h1,h2 i j (by omega) (by omega),h2 k k (by omega) (by omega),h2 i k (by omega) (by omega),h2 k j (by omega) (by omega),←hz,e]
     show _=zWa k (dD (zIw N))*(zWa k (dD (zIw N))*dD (zIw N) k*(zZk (zIw N) k i j-zZk (zIw N) k i k*zZk (zIw N) k k j/zZk (zIw N) k k k))
     unfold dD at hk ⊢
     grind
    exact_mod_cast h4
   have h5:(zPi N k).2≠0:=by
    intro e0
    rw [e0] at h1
    exact hV h1.symm
   rw [h3,Int.mul_ediv_cancel_left _ h5]
theorem zWf:∀ {n:Nat} {f:Nat→Rat},(∀ t,t<n→0<f t)→0<zWa n f
 | 0,_,_=>by show (0:Rat)<1;decide
 | n+1,f,h=>Rat.mul_pos (zWf fun t ht=>h t (by omega)) (h n (by omega))
theorem zPs (hd:∀ t,t<k→0<dD (zIw N) t):0<(zPi N k).1 k k↔0<dD (zIw N) k:=by
 obtain ⟨-,h2⟩:=zPq (N:=N) (k:=k) fun t ht=>by have:=hd t ht;grind
 have hV:=zWf (n:=k) (f:=dD (zIw N)) hd
 have h3:=h2 k k (Nat.le_refl _) (Nat.le_refl _)
 have h4:(0<(zPi N k).1 k k)↔(0:Rat)<(((zPi N k).1 k k:Int):Rat):=by
  constructor
  ·intro h;exact_mod_cast h
  ·intro h;exact_mod_cast h
 rw [h4,h3]
 constructor
 ·intro h
  unfold dD
  rcases Rat.le_total (a:=zZk (zIw N) k k k) (b:=0) with h5|h5
  ·exfalso
   have:0≤zWa k (dD (zIw N))*(-(zZk (zIw N) k k k)):=Rat.mul_nonneg (Rat.le_of_lt hV) (by grind)
   grind
  ·rcases Rat.le_iff_lt_or_eq.1 h5 with h6|h6
   ·exact h6
   ·rw [←h6] at h;grind
 ·intro h
  exact Rat.mul_pos hV h
end
theorem LL_lead {x y z u v:Int} {L:Nat} (hx:LL x≤L) (hy:LL y≤L) (hz:LL z≤L) (hu:LL u≤L):LL ((x*y-z*u)/v)≤2*L+1:=by
 refine Nat.le_trans (zCi _ _) (zCl (k:=2*L) ?_ ?_)
 ·exact Nat.le_trans (zCj _ _) (by omega)
 ·exact Nat.le_trans (zCj _ _) (by omega)
theorem zPk {N:Nat→Nat→Int} {n L:Nat} (hN:∀ i j,i<n→j<n→LL (N i j)≤L) (hL:LL 1≤L):∀ k,k≤n→(∀ i j,i<n→j<n→LL ((zPi N k).1 i j)≤grw L k)∧LL (zPi N k).2≤grw L k
 | 0,_=>⟨hN,hL⟩
 | k+1,hk=>by
  obtain ⟨h1,h2⟩:=zPk hN hL k (by omega)
  refine ⟨fun i j hi hj=>?_,?_⟩
  ·show LL (if k<i∧k<j then _ else _)≤2*grw L k+1
   split
   ·exact LL_lead (h1 i j hi hj) (h1 k k (by omega) (by omega)) (h1 i k hi (by omega)) (h1 k j (by omega) hj)
   ·have:=h1 i j hi hj
    omega
  ·show LL ((zPi N k).1 k k)≤2*grw L k+1
   have:=h1 k k (by omega) (by omega)
   omega
section
variable {A:Nat→Nat→Rat} {N:Nat→Nat→Int} {D:Int} {n k:Nat}
theorem zIx (hD:0<D) (hN:∀ i j,i<n→j<n→((N i j:Int):Rat)=D*A i j) {t:Nat} (ht:t≤n) {i j:Nat} (hi:i<n) (hj:j<n):zZk (zIw N) t i j=D*zZk A t i j:=by
 rw [zZm (n:=n) (A:=zIw N) (B:=fun i j=>(D:Rat)*A i j) (fun i j hi hj=>hN i j hi hj) t ht i j hi hj,zZp (by intro e;have:(D:Int)=0:=by exact_mod_cast e
                                                                                                            omega)]
theorem zPj (hp:∀ t,t<k→0<(zPi N t).1 t t):∀ t,t<k→0<dD (zIw N) t:=by
 intro t
 induction t using Nat.strongRecOn with
 | ind t ih=>exact fun ht=>(zPs fun s hs=>ih s hs (by omega)).1 (hp t ht)
theorem ratD (hD:0<D):(0:Rat)<(D:Rat):=by exact_mod_cast hD
theorem zVw {a b:Rat} (ha:0<a):0<a*b↔0<b:=by
 constructor
 ·intro h
  rcases Rat.le_total (a:=b) (b:=0) with h1|h1
  ·exfalso
   have:0≤a*(-b):=Rat.mul_nonneg (Rat.le_of_lt ha) (by grind)
   grind
  ·rcases Rat.le_iff_lt_or_eq.1 h1 with h2|h2
   ·exact h2
   ·rw [←h2] at h;grind
 ·exact fun h=>Rat.mul_pos ha h
theorem zPp (hD:0<D) (hN:∀ i j,i<n→j<n→((N i j:Int):Rat)=D*A i j) (hk:k≤n) (hp:∀ t,t<k→0<(zPi N t).1 t t):∀ t,t<k→0<dD A t:=fun t ht=>by
 have h1:=zPj hp t ht
 unfold dD at h1
 rw [zIx hD hN (by omega) (by omega) (by omega)] at h1
 exact (zVw (ratD hD)).1 h1
theorem zPm (hD:0<D) (hN:∀ i j,i<n→j<n→((N i j:Int):Rat)=D*A i j) (hk:k<n) (hp:∀ t,t<k→0<(zPi N t).1 t t) (h:¬0<(zPi N k).1 k k):¬0<dD A k:=fun h1=>h ((zPs (zPj hp)).2 (by
 unfold dD at h1 ⊢
 rw [zIx hD hN (by omega) hk hk]
 exact Rat.mul_pos (ratD hD) h1))
theorem zNl {P D s:Rat} (hP:P≠0) (hD:D≠0):P*(D*s)/(P*D)=s:=by grind
theorem zNm {P D a b:Rat} (hP:P≠0) (hD:D≠0) (hb:b≠0):P*(D*a)/(P*(D*b))=a/b:=by grind
theorem lead_D (hD:0<D) (hN:∀ i j,i<n→j<n→((N i j:Int):Rat)=D*A i j) (hk:k<n) (hp:∀ t,t<k→0<(zPi N t).1 t t):Rat.divInt ((zPi N k).1 k k) ((zPi N k).2*D)=dD A k:=by
 have hd:=zPj hp
 obtain ⟨h1,h2⟩:=zPq (N:=N) (k:=k) fun t ht=>by have:=hd t ht;grind
 have hV:=zWf (n:=k) (f:=dD (zIw N)) hd
 have h3:=ratD hD
 rw [Rat.divInt_eq_div,Rat.intCast_mul,h1,h2 k k (Nat.le_refl _) (Nat.le_refl _),zIx hD hN (by omega) hk hk]
 exact zNl (by intro e;rw [e] at hV;exact absurd hV (by decide)) (by intro e;rw [e] at h3;exact absurd h3 (by decide))
theorem lead_L (hD:0<D) (hN:∀ i j,i<n→j<n→((N i j:Int):Rat)=D*A i j) (hk:k<n) (hp:∀ t,t≤k→0<(zPi N t).1 t t) {i:Nat} (hi:i<n) (hki:k≤i):Rat.divInt ((zPi N k).1 i k) ((zPi N k).1 k k)=lL A i k:=by
 have hd:=zPj (k:=k) fun t ht=>hp t (by omega)
 obtain ⟨h1,h2⟩:=zPq (N:=N) (k:=k) fun t ht=>by have:=hd t ht;grind
 have hV:=zWf (n:=k) (f:=dD (zIw N)) hd
 have h3:=ratD hD
 have h4:=zPp (k:=k+1) hD hN (by omega) (fun t ht=>hp t (by omega)) k (by omega)
 rw [Rat.divInt_eq_div,h2 i k hki (Nat.le_refl _),h2 k k (Nat.le_refl _) (Nat.le_refl _),zIx hD hN (by omega) hk hk,zIx hD hN (by omega) hi hk]
 exact zNm (by intro e;rw [e] at hV;exact absurd hV (by decide)) (by intro e;rw [e] at h3;exact absurd h3 (by decide)) (by intro e;unfold dD at h4;rw [e] at h4;exact absurd h4 (by decide))
def lK (A:Nat→Nat→Rat) (k:Nat):Nat→Nat→Rat:=fun i j=>if j<k∧j<i then lL A i j else idn i j
theorem lK_zero (A:Nat→Nat→Rat):lK A 0=idn:=by
 funext i j
 unfold lK
 rw [if_neg (by omega)]
theorem lL_self (hd:dD A k≠0):lL A k k=1:=by
 unfold lL dD at *
 grind
theorem lL_up (hd:∀ t,t<k→dD A t≠0) {i:Nat} (hi:i<k):lL A i k=0:=by
 unfold lL
 rw [zZo hd i k hi]
 grind
theorem ldl (hs:∀ i j,i<n→j<n→A i j=A j i) (hd:∀ t,t<n→dD A t≠0) {i j:Nat} (hi:i<n) (hj:j≤i):xCf (j+1) (fun t=>lK A n i t*dD A t*lK A n j t)=A i j:=by
 have e:∀ t,t<n→∀ i,i<n→lK A n i t=lL A i t:=fun t ht i hi=>by
  unfold lK
  by_cases h:t<i
  ·rw [if_pos ⟨ht,h⟩]
  ·rw [if_neg (by omega)]
   by_cases h2:i=t
   ·subst h2
    rw [lL_self (hd i hi)]
    unfold idn
    rw [if_pos rfl]
   ·rw [lL_up (fun s hs=>hd s (by omega)) (show i<t by omega)]
    unfold idn
    rw [if_neg h2]
 rw [zZr A (j+1) i j,zZl (fun t ht=>hd t (by omega)) i j (by omega),Rat.zero_add]
 refine xCh fun t ht=>?_
 rw [e t (by omega) i hi,e t (by omega) j (by omega),zZq hs t (by omega) t j (by omega) (by omega)]
 have h0:=hd t (by omega)
 unfold lL
 grind
theorem zKc {b:Nat} (hd:∀ t,t<k→dD A t≠0) (hk:k<n) (hA:∀ i j,i<n→j<n→IsB b (A i j)) {i:Nat} (hi:i<n):IsB (zLp b (k+1)) (zWa k (dD A)*zZk A k i k):=by
 rw [←zLt hd i k]
 exact zLr fun r c hr hc=>by
  unfold bord
  exact hA _ _ (by split<;>omega) (by split<;>omega)
theorem prod_B {b:Nat} (hd:∀ t,t<k→dD A t≠0) (hk:k≤n) (hA:∀ i j,i<n→j<n→IsB b (A i j)):IsB (zLp b k) (zWa k (dD A)):=by
 rw [←zLw hd]
 exact zLr fun r c hr hc=>hA r c (by omega) (by omega)
theorem zWm {x y:Rat} {a d:Nat} (hx:IsB a x) (hy:IsB a y) (h0:y≠0) (ha:a<10^d):zAu d (x/y):=by
 obtain ⟨p,rfl,hp⟩:=hx
 obtain ⟨q,rfl,hq⟩:=hy
 rw [←Rat.divInt_eq_div]
 have h1:q≠0:=by rintro rfl;exact h0 rfl
 exact zAu.of_divInt h1 (by unfold Dig;omega) (by unfold Dig;omega)
theorem dD_dig {b d:Nat} (hd:∀ t,t<k→dD A t≠0) (hk:k<n) (hA:∀ i j,i<n→j<n→IsB b (A i j)) (hb:zLp b (k+1)<10^d) (hb2:zLp b k<10^d):zAu d (dD A k):=by
 have h1:=zKc hd hk hA hk
 have h2:=prod_B hd (by omega) hA
 have h3:=zWd hd
 have e:dD A k=zWa k (dD A)*zZk A k k k/zWa k (dD A):=by
  unfold dD at *
  grind
 rw [e]
 exact zWm (a:=max (zLp b (k+1)) (zLp b k)) (h1.mono (by omega)) (h2.mono (by omega)) h3 (by omega)
theorem lL_dig {b d:Nat} (hd:∀ t,t≤k→dD A t≠0) (hk:k<n) (hA:∀ i j,i<n→j<n→IsB b (A i j)) (hb:zLp b (k+1)<10^d) {i:Nat} (hi:i<n):zAu d (lL A i k):=by
 have h1:=zKc (fun t ht=>hd t (by omega)) hk hA hi
 have h2:=zKc (fun t ht=>hd t (by omega)) hk hA hk
 have h3:=zWd (n:=k) (f:=dD A) fun t ht=>hd t (by omega)
 have h4:=hd k (Nat.le_refl _)
 have e:lL A i k=zWa k (dD A)*zZk A k i k/(zWa k (dD A)*zZk A k k k):=by
  unfold lL
  unfold dD at *
  grind
 rw [e]
 refine zWm h1 h2 ?_ hb
 intro e2
 rcases Rat.mul_eq_zero.1 e2 with h5|h5
 ·exact h3 h5
 ·exact h4 h5
end
theorem xCi {f:Nat→Rat} {m:Nat}:∀ {n:Nat},m≤n→(∀ j,m≤j→j<n→f j=0)→xCf n f=xCf m f
 | 0,h,_=>by rw [show m=0 by omega]
 | n+1,h,h0=>by
  by_cases e:m=n+1
  ·rw [e]
  ·show xCf n f+f n=_
   rw [h0 n (by omega) (by omega),xCi (n:=n) (by omega) fun j h1 h2=>h0 j h1 (by omega)]
   grind
def xGk (k:Nat) (x:Nat→Rat) (i:Nat):Rat:=if i<k then x i else if i=k then 1 else 0
theorem xGm {A:Nat→Nat→Rat} {x:Nat→Rat} {k n:Nat} (hk:k<n) (hx:∀ i,i<k→xCf k (fun j=>A i j*x j) = -(A i k)):∀ i,i<k→xCf n (fun j=>A i j*xGk k x j)=0:=fun i hi=>by
 rw [xCi (m:=k+1) (by omega) fun j h1 h2=>by unfold xGk;rw [if_neg (by omega),if_neg (by omega)];grind]
 show xCf k (fun j=>A i j*xGk k x j)+A i k*xGk k x k=0
 have e:xCf k (fun j=>A i j*xGk k x j)=xCf k (fun j=>A i j*x j):=xCh fun j hj=>by unfold xGk;rw [if_pos hj]
 rw [e,hx i hi]
 unfold xGk
 rw [if_neg (Nat.lt_irrefl k),if_pos rfl]
 grind
theorem zNf {A:Nat→Nat→Rat} {x:Nat→Rat} {k n:Nat} (hd:∀ t,t<k→dD A t≠0) (hk:k<n) (hx:∀ i,i<k→xCf k (fun j=>A i j*x j) = -(A i k)):form n A (xGk k x)=dD A k :=
 form_wit hd hk (xGm hk hx) (by unfold xGk;rw [if_neg (by omega),if_pos rfl]) fun i h1 h2=>by unfold xGk;rw [if_neg (by omega),if_neg (by omega)]
end Go.Proofs.YtfjjcoggoomlbaaGreatDoor
