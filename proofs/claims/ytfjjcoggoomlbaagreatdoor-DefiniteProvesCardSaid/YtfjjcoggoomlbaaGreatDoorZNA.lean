import Derived.Test.YtfjjcoggoomlbaaGreatDoorZMO
set_option maxHeartbeats 16000000
set_option maxRecDepth 100000
set_option linter.unusedVariables false
set_option linter.unusedSimpArgs false
set_option linter.unusedSectionVars false
namespace Go.Proofs.YtfjjcoggoomlbaaGreatDoor
def xAk (A:mRx):Nat->Nat->Nat->Rat
 | 0=>A
 | k+1=>fun i j=>xAk A k i j-xAk A k i k*xAk A k k j/xAk A k k k
def dD (A:mRx) (k:Nat):Rat:=xAk A k k k
def lL (A:mRx) (i k:Nat):Rat:=xAk A k i k/dD A k
section
variable {A B:mRx} {n k:Nat}
theorem xAl:∀ {k:Nat},(∀ t,t<k->dD A t≠0)->∀ i j,j<k->xAk A k i j=0
 | k+1,h,i,j,hj=>by
  show xAk A k i j-xAk A k i k*xAk A k k j/xAk A k k k=0
  rcases Nat.lt_or_ge j k with h1|h1
  ·rw [xAl (fun t ht=>h t oMx) i j h1,xAl (fun t ht=>h t oMx) k j h1]
   grind
  obtain rfl:j=k:=by omega
  have:=h j oMx;unfold dD at this
  grind
theorem xAo:∀ {k:Nat},(∀ t,t<k->dD A t≠0)->∀ i j,i<k->xAk A k i j=0
 | k+1,h,i,j,hi=>by
  show xAk A k i j-xAk A k i k*xAk A k k j/xAk A k k k=0
  rcases Nat.lt_or_ge i k with h1|h1
  ·rw [xAo (fun t ht=>h t oMx) i j h1,xAo (fun t ht=>h t oMx) i k h1]
   grind
  obtain rfl:i=k:=by omega
  have:=h i oMx;unfold dD at this
  grind
theorem xAq (hs:∀ i j,i<n->j<n->A i j=A j i):∀ (k:Nat),k<=n->∀ i j,i<n->j<n->xAk A k i j=xAk A k j i
 | 0,_,i,j,hi,hj=>hs i j hi hj
 | k+1,hk,i,j,hi,hj=>by
  show xAk A k i j-xAk A k i k*xAk A k k j/xAk A k k k=xAk A k j i-xAk A k j k*xAk A k k i/xAk A k k k
  rw [xAq hs k oMx i j hi hj,xAq hs k oMx i k hi oMx,xAq hs k oMx k j oMx hj]
  grind
theorem xAr (A:mRx):∀ (k i j:Nat),A i j=xAk A k i j+xDg k fun t=>xAk A t i t*xAk A t t j/dD A t
 | 0,i,j=>by show A i j=A i j+0;grind
 | k+1,i,j=>by
  rw [xAr A k i j]
  show _=(xAk A k i j-xAk A k i k*xAk A k k j/xAk A k k k)+(xDg k (fun t=>xAk A t i t*xAk A t t j/dD A t)+xAk A k i k*xAk A k k j/dD A k)
  unfold dD
  grind
theorem xAm (h:∀ i j,i<n->j<n->A i j=B i j):∀ (k:Nat),k<=n->∀ i j,i<n->j<n->xAk A k i j=xAk B k i j
 | 0,_,i,j,hi,hj=>h i j hi hj
 | k+1,hk,i,j,hi,hj=>by
  show xAk A k i j-xAk A k i k*xAk A k k j/xAk A k k k=xAk B k i j-xAk B k i k*xAk B k k j/xAk B k k k
  rw [xAm h k oMx i j hi hj,xAm h k oMx i k hi oMx,xAm h k oMx k j oMx hj,xAm h k oMx k k oMx oMx]
theorem xAp {d:Rat} (hd:d≠0):∀ (k i j:Nat),xAk (fun i j=>d*A i j) k i j=d*xAk A k i j
 | 0,_,_=>rfl
 | k+1,i,j=>by
  show xAk (fun i j=>d*A i j) k i j-xAk (fun i j=>d*A i j) k i k*xAk (fun i j=>d*A i j) k k j/xAk (fun i j=>d*A i j) k k k=d*(xAk A k i j-xAk A k i k*xAk A k k j/xAk A k k k)
  rw [xAp hd k i j,xAp hd k i k,xAp hd k k j,xAp hd k k k]
  by_cases h0:xAk A k k k=0
  ·rw [h0];grind
  grind
def bord (A:mRx) (k i j:Nat):Nat->Nat->Rat:=fun r c=>A (if r<k then r else i) (if c<k then c else j)
theorem zWv:∀ (n:Nat) (f:Nat->Rat),(∀ i,i<n->f i=1)->zWr n f=1
 | 0,_,_=>rfl
 | n+1,f,h=>by
  show zWr n f*f n=1
  rw [zWv n f fun i hi=>h i oMx,h n oMx]
  grind
theorem zWs:∀ {n:Nat} {f g:Nat->Rat},(∀ i,i<n->f i=g i)->zWr n f=zWr n g
 | 0,_,_,_=>rfl
 | n+1,f,g,h=>by
  show zWr n f*f n=zWr n g*g n
  rw [zWs fun i hi=>h i oMx,h n oMx]
theorem zMg (hd:∀ t,t<k->dD A t≠0) (i j:Nat):det (k+1) (bord A k i j)=zWr k (dD A)*xAk A k i j:=by
 let Lm:Nat->Nat->Rat:=fun r t=>if t<k then xAk A t (if r<k then r else i) t/dD A t else if r=k then 1 else 0
 let Um:Nat->Nat->Rat:=fun t c=>if t<k then xAk A t t (if c<k then c else j) else if c=k then xAk A k i j else 0
 have e:det (k+1) (bord A k i j)=det (k+1) (mulM (k+1) Lm Um):=(zMf (k+1)).ext _ _ fun r c hr hc=>by
  show A (if r<k then r else i) (if c<k then c else j)=xDg k (fun t=>Lm r t*Um t c)+Lm r k*Um k c
  have h1:xDg k (fun t=>Lm r t*Um t c)=xDg k fun t=>xAk A t (if r<k then r else i) t*xAk A t t (if c<k then c else j)/dD A t:=xDi fun t ht=>by
   show (if t<k then _ else _)*(if t<k then _ else _)=_
   rw [if_pos ht,if_pos ht]
   grind
  rw [h1,xAr A k,Rat.add_comm]
  congr 1
  show _=(if k<k then _ else if r=k then (1:Rat) else 0)*(if k<k then _ else if c=k then xAk A k i j else 0)
  rw [if_neg (Nat.lt_irrefl k),if_neg (Nat.lt_irrefl k)]
  by_cases hr1:r<k
  ·rw [if_pos hr1,if_neg (show ¬r=k by omega),xAo hd _ _ hr1];grind
  by_cases hc1:c<k
  ·rw [if_pos hc1,if_neg (show ¬c=k by omega),xAl hd _ _ hc1];grind
  rw [if_neg hr1,if_neg hc1,if_pos (show r=k by omega),if_pos (show c=k by omega)];grind
 rw [e,zMm,<-zMn (k+1) Lm]
 have hL:det (k+1) (trn Lm)=1:=by
  rw [zMo (k+1) (trn Lm) fun t r ht hr=>?_]
  ·refine zWv _ _ fun r hr=>?_
   show (if r<k then xAk A r (if r<k then r else i) r/dD A r else if r=k then 1 else 0)=1
   by_cases hrk:r<k
   ·rw [if_pos hrk,if_pos hrk];have:=hd r hrk;unfold dD at this ⊢
    grind
   rw [if_neg hrk,if_pos oMx]
  show (if t<k then xAk A t (if r<k then r else i) t/dD A t else if r=k then 1 else 0)=0
  by_cases htk:t<k
  ·rw [if_pos htk,if_pos (show r<k by omega),xAo (fun s hs=>hd s oMx) r t hr]
   grind
  rw [if_neg htk,if_neg oMx]
 have hU:det (k+1) Um=zWr k (dD A)*xAk A k i j:=by
  rw [zMo (k+1) Um fun t c ht hc=>?_]
  ·show zWr k (fun t=>Um t t)*Um k k=_
   congr 1
   ·refine zWs fun t ht=>?_
    show (if t<k then xAk A t t (if t<k then t else j) else _)=_
    rw [if_pos ht,if_pos ht]
    rfl
   show (if k<k then _ else if k=k then xAk A k i j else 0)=_
   rw [if_neg oMx,if_pos rfl]
  show (if t<k then xAk A t t (if c<k then c else j) else if c=k then xAk A k i j else 0)=0
  by_cases htk:t<k
  ·rw [if_pos htk,if_pos (show c<k by omega),xAl (fun s hs=>hd s oMx) t c hc]
  rw [if_neg htk,if_neg oMx]
 rw [hL,hU]
 grind
theorem zIv (A:mRx) (k:Nat):det (k+1) (bord A k k k)=det (k+1) A:=(zMf (k+1)).ext _ _ fun r c hr hc=>by
 unfold bord
 congr 1<;>split<;>omega
theorem zMj (hd:∀ t,t<n->dD A t≠0):det n A=zWr n (dD A):=by
 cases n with
 | zero=>rfl
 | succ k =>
  rw [<-zIv,zMg (fun t ht=>hd t oMx)]
  rfl
def form (n:Nat) (A:mRx) (x:Nat->Rat):Rat:=xDg n fun i=>xDg n fun j=>x i*A i j*x j
def col (A:mRx) (n t:Nat) (x:Nat->Rat):Rat:=xDg n fun i=>x i*xAk A t i t
theorem form_sq (hs:∀ i j,i<n->j<n->A i j=A j i) (hd:∀ t,t<n->dD A t≠0) (x:Nat->Rat):form n A x=xDg n fun t=>col A n t x*col A n t x/dD A t:=by
 have h1:form n A x=xDg n fun i=>xDg n fun j=>xDg n fun t=>x i*xAk A t i t*(x j*xAk A t j t)/dD A t:=xDi fun i hi=>xDi fun j hj=>by
  rw [xAr A n i j,xAo hd i j hi]
  have h2:xDg n (fun t=>xAk A t i t*xAk A t t j/dD A t)=xDg n (fun t=>xAk A t i t*xAk A t j t/dD A t):=xDi fun t ht=>by rw [xAq hs t oMx t j ht hj]
  rw [h2]
  have h3:x i*(0+xDg n (fun t=>xAk A t i t*xAk A t j t/dD A t))*x j=(x i*x j)*xDg n (fun t=>xAk A t i t*xAk A t j t/dD A t):=by grind
  rw [h3,<-xDl]
  exact xDi fun t _=>by grind
 have h4:∀ i,xDg n (fun j=>xDg n fun t=>x i*xAk A t i t*(x j*xAk A t j t)/dD A t)=xDg n fun t=>(x i*xAk A t i t/dD A t)*col A n t x:=fun i=>by
  rw [xDp]
  refine xDi fun t _=>?_
  unfold col;rw [<-xDl]
  exact xDi fun j _=>by grind
 rw [h1,xDi (fun i _=>h4 i),xDp]
 refine xDi fun t _=>?_
 have h5:(fun i=>x i*xAk A t i t/dD A t*col A n t x)=fun i=>(col A n t x/dD A t)*(x i*xAk A t i t):=by funext i;grind
 rw [h5,xDl];unfold col
 grind
theorem xDm:∀ {n:Nat} {f:Nat->Rat},(∀ i,i<n->0<=f i)->0<=xDg n f
 | 0,_,_=>by show (0:Rat)<=0;grind
 | n+1,f,h=>by
  have h1:=xDm (n:=n) (f:=f) fun i hi=>h i oMx
  have h2:=h n oMx
  show 0<=xDg n f+f n
  grind
theorem xDo:∀ {n k:Nat} {f:Nat->Rat},(∀ i,i<n->0<=f i)->k<n->0<f k->0<xDg n f
 | n+1,k,f,h,hk,hp=>by
  show 0<xDg n f+f n
  have h2:=h n oMx
  rcases Nat.lt_or_ge k n with h1|h1
  ·have h3:=xDo (n:=n) (k:=k) (f:=f) (fun i hi=>h i oMx) h1 hp
   grind
  obtain rfl:k=n:=by omega
  have h3:=xDm (n:=k) (f:=f) fun i hi=>h i oMx
  grind
theorem sq_nonneg (x:Rat):0<=x*x:=by
 rcases Rat.le_total (a:=0) (b:=x) with h|h
 ·exact Rat.mul_nonneg h h
 have:0<=(-x)*(-x):=Rat.mul_nonneg (by grind) (by grind)
 grind
theorem sq_pos {x:Rat} (h:x≠0):0<x*x:=by
 have h1:=sq_nonneg x
 have h2:x*x≠0:=by
  intro e
  rcases Rat.mul_eq_zero.1 e with h3|h3<;>exact h h3
 grind
def PosD (n:Nat) (A:mRx):Prop:=∀ k,k<n->0<dD A k
theorem PosD.ne (h:PosD n A):∀ t,t<n->dD A t≠0:=fun t ht=>by have:=h t ht;grind
theorem zPs:∀ (n:Nat) (x:Nat->Rat),(∃ i,i<n/\x i≠0)->∃ m,m<n/\x m≠0/\∀ i,m<i->i<n->x i=0
 | n+1,x,⟨i,hi,hx⟩=>by
  by_cases h:x n=0
  ·obtain ⟨m,h1,h2,h3⟩:=zPs n x ⟨i,by rcases Nat.lt_or_ge i n with h4|h4;exact h4;exact absurd (by rw [show i=n by omega];exact h) hx,hx⟩;refine ⟨m,oMx,h2,fun j hj hjn=>?_⟩
   rcases Nat.lt_or_ge j n with h4|h4
   ·exact h3 j hj h4
   rw [show j=n by omega];exact h
  exact ⟨n,oMx,h,fun j h1 h2=>by omega⟩
theorem div_pos' {a b:Rat} (ha:0<a) (hb:0<b):0<a/b:=by
 rw [Rat.div_def];exact Rat.mul_pos ha (Rat.inv_pos.2 hb)
theorem zNb {a b:Rat} (ha:0<=a) (hb:0<b):0<=a/b:=by
 rw [Rat.div_def];exact Rat.mul_nonneg ha (Rat.le_of_lt (Rat.inv_pos.2 hb))
theorem form_pos (hs:∀ i j,i<n->j<n->A i j=A j i) (h:PosD n A) {x:Nat->Rat} (hx:∃ i,i<n/\x i≠0):0<form n A x:=by
 rw [form_sq hs h.ne];obtain ⟨m,h1,h2,h3⟩:=zPs n x hx;refine xDo (k:=m) (fun t ht=>zNb (sq_nonneg _) (h t ht)) h1 (div_pos' (sq_pos ?_) (h m h1))
 have e:col A n m x=x m*dD A m:=by
  unfold col;rw [xDn h1 fun i hi hne=>?_]
  ·rfl
  rcases Nat.lt_or_ge i m with h4|h4
  ·rw [xAo (fun t ht=>h.ne t oMx) i m h4];grind
  rw [h3 i oMx hi];grind
 rw [e]
 intro e2
 rcases Rat.mul_eq_zero.1 e2 with h5|h5
 ·exact h2 h5
 exact h.ne m h1 h5
theorem xAn {x:Nat->Rat}:∀ {k:Nat} {m:Nat},(∀ t,t<k->dD A t≠0)->(∀ i,i<k->xDg m (fun j=>A i j*x j)=0)->∀ i,xDg m (fun j=>xAk A k i j*x j)=xDg m (fun j=>A i j*x j)
 | 0,_,_,_,_=>rfl
 | k+1,m,hd,h,i=>by
  have ih:=xAn (k:=k) (m:=m) (fun t ht=>hd t oMx) (fun i hi=>h i oMx)
  have h1:(fun j=>xAk A (k+1) i j*x j)=fun j=>xAk A k i j*x j+(-(xAk A k i k/xAk A k k k))*(xAk A k k j*x j):=by
   funext j
   show (xAk A k i j-xAk A k i k*xAk A k k j/xAk A k k k)*x j=_
   grind
  rw [h1,xDh,xDl,ih i,ih k,h k oMx]
  grind
theorem form_wit (hd:∀ t,t<k->dD A t≠0) (hk:k<n) {x:Nat->Rat} (hx:∀ i,i<k->xDg n (fun j=>A i j*x j)=0) (h1:x k=1) (h2:∀ i,k<i->i<n->x i=0):form n A x=dD A k:=by
 have h3:form n A x=xDg n fun i=>x i*xDg n (fun j=>A i j*x j):=xDi fun i hi=>by
  rw [<-xDl]
  exact xDi fun j _=>by grind
 rw [h3,xDn hk fun i hi hne=>?_]
 ·rw [h1,<-xAn hd hx k,xDn hk fun j hj hne=>?_]
  ·rw [h1];unfold dD;grind
  rcases Nat.lt_or_ge j k with h4|h4
  ·rw [xAl hd k j h4];grind
  rw [h2 j oMx hj];grind
 rcases Nat.lt_or_ge i k with h4|h4
 ·rw [hx i h4];grind
 rw [h2 i oMx hi];grind
end
def zQb (N:Nat->Nat->Int):Nat->(Nat->Nat->Int) × Int
 | 0=>(N,1)
 | k+1=>(fun i j=>if k<i/\k<j then ((zQb N k).1 i j*(zQb N k).1 k k-(zQb N k).1 i k*(zQb N k).1 k j)/(zQb N k).2 else (zQb N k).1 i j,(zQb N k).1 k k)
def zJh (N:Nat->Nat->Int):Nat->Nat->Rat:=fun i j=>(N i j:Rat)
section
variable {N:Nat->Nat->Int} {n k:Nat}
theorem zWu:∀ {n:Nat} {f:Nat->Rat},(∀ t,t<n->f t≠0)->zWr n f≠0
 | 0,_,_=>by show (1:Rat)≠0;decide
 | n+1,f,h=>by
  have h1:=zWu (n:=n) (f:=f) fun t ht=>h t oMx
  have h2:=h n oMx
  intro e
  rcases Rat.mul_eq_zero.1 e with h3|h3
  ·exact h1 h3
  exact h2 h3
theorem bord_int (N:Nat->Nat->Int) (hd:∀ t,t<k->dD (zJh N) t≠0) (i j:Nat):∃ z:Int,zWr k (dD (zJh N))*xAk (zJh N) k i j=z:=by
 rw [<-zMg hd i j]
 exact zMl fun r c _ _=>⟨_,rfl⟩
theorem zQi:∀ {k:Nat},(∀ t,t<k->dD (zJh N) t≠0)->(((zQb N k).2:Int):Rat)=zWr k (dD (zJh N))/\∀ i j,k<=i->k<=j->(((zQb N k).1 i j:Int):Rat)=zWr k (dD (zJh N))*xAk (zJh N) k i j
 | 0,_=>⟨rfl,fun i j _ _=>by show (N i j:Rat)=1*zJh N i j;unfold zJh;grind⟩
 | k+1,hd=>by
  obtain ⟨h1,h2⟩:=zQi (k:=k) fun t ht=>hd t oMx
  have hV:=zWu (n:=k) (f:=dD (zJh N)) fun t ht=>hd t oMx
  have hk:=hd k oMx;have e:zWr (k+1) (dD (zJh N))=zWr k (dD (zJh N))*dD (zJh N) k:=rfl;refine ⟨?_,fun i j hi hj=>?_⟩
  ·show (((zQb N k).1 k k:Int):Rat)=_
   rw [h2 k k lRx lRx,e]
   rfl
  obtain ⟨z,hz⟩:=bord_int (k:=k+1) N hd i j
  show (((if k<i/\k<j then _ else _):Int):Rat)=_
  rw [if_pos ⟨oMx,oMx⟩,hz]
  have h3:(zQb N k).1 i j*(zQb N k).1 k k-(zQb N k).1 i k*(zQb N k).1 k j=(zQb N k).2*z:=by
   have h4:(((zQb N k).1 i j*(zQb N k).1 k k-(zQb N k).1 i k*(zQb N k).1 k j:Int):Rat)=(((zQb N k).2*z:Int):Rat):=by
    rw [Rat.intCast_sub,Rat.intCast_mul,Rat.intCast_mul,Rat.intCast_mul,h1,h2 i j oMx oMx,h2 k k oMx oMx,h2 i k oMx oMx,h2 k j oMx oMx,<-hz,e]
    show _=zWr k (dD (zJh N))*(zWr k (dD (zJh N))*dD (zJh N) k*(xAk (zJh N) k i j-xAk (zJh N) k i k*xAk (zJh N) k k j/xAk (zJh N) k k k))
    unfold dD at hk ⊢
    grind
   exact_mod_cast h4
  have h5:(zQb N k).2≠0:=by
   intro e0
   rw [e0] at h1;exact hV h1.symm
  rw [h3,Int.mul_ediv_cancel_left _ h5]
theorem zWw:∀ {n:Nat} {f:Nat->Rat},(∀ t,t<n->0<f t)->0<zWr n f
 | 0,_,_=>by show (0:Rat)<1;decide
 | n+1,f,h=>Rat.mul_pos (zWw fun t ht=>h t oMx) (h n oMx)
theorem zQk (hd:∀ t,t<k->0<dD (zJh N) t):0<(zQb N k).1 k k↔0<dD (zJh N) k:=by
 obtain ⟨-,h2⟩:=zQi (N:=N) (k:=k) fun t ht=>by have:=hd t ht;grind
 have hV:=zWw (n:=k) (f:=dD (zJh N)) hd;have h3:=h2 k k lRx lRx
 have h4:(0<(zQb N k).1 k k)↔(0:Rat)<(((zQb N k).1 k k:Int):Rat):=by
  constructor
  ·intro h;exact_mod_cast h
  intro h;exact_mod_cast h
 rw [h4,h3]
 constructor
 ·intro h
  unfold dD
  rcases Rat.le_total (a:=xAk (zJh N) k k k) (b:=0) with h5|h5
  ·exfalso
   have:0<=zWr k (dD (zJh N))*(-(xAk (zJh N) k k k)):=Rat.mul_nonneg (Rat.le_of_lt hV) (by grind)
   grind
  rcases Rat.le_iff_lt_or_eq.1 h5 with h6|h6
  ·exact h6
  rw [<-h6] at h;grind
 intro h
 exact Rat.mul_pos hV h
end
theorem LL_lead {x y z u v:Int} {L:Nat} (hx:LL x<=L) (hy:LL y<=L) (hz:LL z<=L) (hu:LL u<=L):LL ((x*y-z*u)/v)<=2*L+1:=by
 refine Nat.le_trans (zCn _ _) (zCq (k:=2*L) ?_ ?_)
 ·exact Nat.le_trans (zCo _ _) oMx
 exact Nat.le_trans (zCo _ _) oMx
theorem zQd {N:Nat->Nat->Int} {n L:Nat} (hN:∀ i j,i<n->j<n->LL (N i j)<=L) (hL:LL 1<=L):∀ k,k<=n->(∀ i j,i<n->j<n->LL ((zQb N k).1 i j)<=grw L k)/\LL (zQb N k).2<=grw L k
 | 0,_=>⟨hN,hL⟩
 | k+1,hk=>by
  obtain ⟨h1,h2⟩:=zQd hN hL k oMx;refine ⟨fun i j hi hj=>?_,?_⟩
  ·show LL (if k<i/\k<j then _ else _)<=2*grw L k+1
   split
   ·exact LL_lead (h1 i j hi hj) (h1 k k oMx oMx) (h1 i k hi oMx) (h1 k j oMx hj)
   have:=h1 i j hi hj;omega
  show LL ((zQb N k).1 k k)<=2*grw L k+1
  have:=h1 k k oMx oMx;omega
section
variable {A:mRx} {N:Nat->Nat->Int} {D:Int} {n k:Nat}
theorem zJi (hD:0<D) (hN:∀ i j,i<n->j<n->((N i j:Int):Rat)=D*A i j) {t:Nat} (ht:t<=n) {i j:Nat} (hi:i<n) (hj:j<n):xAk (zJh N) t i j=D*xAk A t i j:=by
 rw [xAm (n:=n) (A:=zJh N) (B:=fun i j=>(D:Rat)*A i j) (fun i j hi hj=>hN i j hi hj) t ht i j hi hj,xAp (by intro e;have:(D:Int)=0:=by exact_mod_cast e
                                                                                                            omega)]
theorem zQc (hp:∀ t,t<k->0<(zQb N t).1 t t):∀ t,t<k->0<dD (zJh N) t:=by
 intro t
 induction t using Nat.strongRecOn with
 | ind t ih=>exact fun ht=>(zQk fun s hs=>ih s hs oMx).1 (hp t ht)
theorem ratD (hD:0<D):(0:Rat)<(D:Rat):=by exact_mod_cast hD
theorem zWo {a b:Rat} (ha:0<a):0<a*b↔0<b:=by
 constructor
 ·intro h
  rcases Rat.le_total (a:=b) (b:=0) with h1|h1
  ·exfalso
   have:0<=a*(-b):=Rat.mul_nonneg (Rat.le_of_lt ha) (by grind)
   grind
  rcases Rat.le_iff_lt_or_eq.1 h1 with h2|h2
  ·exact h2
  rw [<-h2] at h;grind
 exact fun h=>Rat.mul_pos ha h
theorem zQh (hD:0<D) (hN:∀ i j,i<n->j<n->((N i j:Int):Rat)=D*A i j) (hk:k<=n) (hp:∀ t,t<k->0<(zQb N t).1 t t):∀ t,t<k->0<dD A t:=fun t ht=>by
 have h1:=zQc hp t ht;unfold dD at h1;rw [zJi hD hN oMx oMx oMx] at h1;exact (zWo (ratD hD)).1 h1
theorem zQe (hD:0<D) (hN:∀ i j,i<n->j<n->((N i j:Int):Rat)=D*A i j) (hk:k<n) (hp:∀ t,t<k->0<(zQb N t).1 t t) (h:¬0<(zQb N k).1 k k):¬0<dD A k:=fun h1=>h ((zQk (zQc hp)).2 (by
 unfold dD at h1 ⊢;rw [zJi hD hN oMx hk hk]
 exact Rat.mul_pos (ratD hD) h1))
theorem zNz {P D s:Rat} (hP:P≠0) (hD:D≠0):P*(D*s)/(P*D)=s:=by grind
theorem zOa {P D a b:Rat} (hP:P≠0) (hD:D≠0) (hb:b≠0):P*(D*a)/(P*(D*b))=a/b:=by grind
theorem lead_D (hD:0<D) (hN:∀ i j,i<n->j<n->((N i j:Int):Rat)=D*A i j) (hk:k<n) (hp:∀ t,t<k->0<(zQb N t).1 t t):Rat.divInt ((zQb N k).1 k k) ((zQb N k).2*D)=dD A k:=by
 have hd:=zQc hp
 obtain ⟨h1,h2⟩:=zQi (N:=N) (k:=k) fun t ht=>by have:=hd t ht;grind
 have hV:=zWw (n:=k) (f:=dD (zJh N)) hd;have h3:=ratD hD;rw [Rat.divInt_eq_div,Rat.intCast_mul,h1,h2 k k lRx lRx,zJi hD hN oMx hk hk];exact zNz (by intro e;rw [e] at hV;exact absurd hV dCx) (by intro e;rw [e] at h3;exact absurd h3 dCx)
theorem lead_L (hD:0<D) (hN:∀ i j,i<n->j<n->((N i j:Int):Rat)=D*A i j) (hk:k<n) (hp:∀ t,t<=k->0<(zQb N t).1 t t) {i:Nat} (hi:i<n) (hki:k<=i):Rat.divInt ((zQb N k).1 i k) ((zQb N k).1 k k)=lL A i k:=by
 have hd:=zQc (k:=k) fun t ht=>hp t oMx
 obtain ⟨h1,h2⟩:=zQi (N:=N) (k:=k) fun t ht=>by have:=hd t ht;grind
 have hV:=zWw (n:=k) (f:=dD (zJh N)) hd;have h3:=ratD hD;have h4:=zQh (k:=k+1) hD hN oMx (fun t ht=>hp t oMx) k oMx;rw [Rat.divInt_eq_div,h2 i k hki lRx,h2 k k lRx lRx,zJi hD hN oMx hk hk,zJi hD hN oMx hi hk];exact zOa (by intro e;rw [e] at hV;exact absurd hV dCx) (by intro e;rw [e] at h3;exact absurd h3 dCx) (by intro e;unfold dD at h4;rw [e] at h4;exact absurd h4 dCx)
def lK (A:mRx) (k:Nat):Nat->Nat->Rat:=fun i j=>if j<k/\j<i then lL A i j else idn i j
theorem lK_zero (A:mRx):lK A 0=idn:=by
 funext i j
 unfold lK;rw [if_neg oMx]
theorem lL_self (hd:dD A k≠0):lL A k k=1:=by
 unfold lL dD at *
 grind
theorem lL_up (hd:∀ t,t<k->dD A t≠0) {i:Nat} (hi:i<k):lL A i k=0:=by
 unfold lL;rw [xAo hd i k hi]
 grind
theorem ldl (hs:∀ i j,i<n->j<n->A i j=A j i) (hd:∀ t,t<n->dD A t≠0) {i j:Nat} (hi:i<n) (hj:j<=i):xDg (j+1) (fun t=>lK A n i t*dD A t*lK A n j t)=A i j:=by
 have e:∀ t,t<n->∀ i,i<n->lK A n i t=lL A i t:=fun t ht i hi=>by
  unfold lK
  by_cases h:t<i
  ·rw [if_pos ⟨ht,h⟩]
  rw [if_neg oMx]
  by_cases h2:i=t
  ·subst h2;rw [lL_self (hd i hi)];unfold idn;rw [if_pos rfl]
  rw [lL_up (fun s hs=>hd s oMx) (show i<t by omega)];unfold idn;rw [if_neg h2]
 rw [xAr A (j+1) i j,xAl (fun t ht=>hd t oMx) i j oMx,Rat.zero_add]
 refine xDi fun t ht=>?_
 rw [e t oMx i hi,e t oMx j oMx,xAq hs t oMx t j oMx oMx];have h0:=hd t oMx;unfold lL
 grind
theorem zKo {b:Nat} (hd:∀ t,t<k->dD A t≠0) (hk:k<n) (hA:∀ i j,i<n->j<n->IsB b (A i j)) {i:Nat} (hi:i<n):IsB (zMb b (k+1)) (zWr k (dD A)*xAk A k i k):=by
 rw [<-zMg hd i k]
 exact zMe fun r c hr hc=>by
  unfold bord;exact hA _ _ (by split<;>omega) (by split<;>omega)
theorem prod_B {b:Nat} (hd:∀ t,t<k->dD A t≠0) (hk:k<=n) (hA:∀ i j,i<n->j<n->IsB b (A i j)):IsB (zMb b k) (zWr k (dD A)):=by
 rw [<-zMj hd]
 exact zMe fun r c hr hc=>hA r c oMx oMx
theorem zXf {x y:Rat} {a d:Nat} (hx:IsB a x) (hy:IsB a y) (h0:y≠0) (ha:a<10^d):zAv d (x/y):=by
 obtain ⟨p,rfl,hp⟩:=hx;obtain ⟨q,rfl,hq⟩:=hy;rw [<-Rat.divInt_eq_div]
 have h1:q≠0:=by rintro rfl;exact h0 rfl
 exact zAv.of_divInt h1 (by unfold Dig;omega) (by unfold Dig;omega)
theorem dD_dig {b d:Nat} (hd:∀ t,t<k->dD A t≠0) (hk:k<n) (hA:∀ i j,i<n->j<n->IsB b (A i j)) (hb:zMb b (k+1)<10^d) (hb2:zMb b k<10^d):zAv d (dD A k):=by
 have h1:=zKo hd hk hA hk;have h2:=prod_B hd oMx hA;have h3:=zWu hd
 have e:dD A k=zWr k (dD A)*xAk A k k k/zWr k (dD A):=by
  unfold dD at *
  grind
 rw [e];exact zXf (a:=max (zMb b (k+1)) (zMb b k)) (h1.mono oMx) (h2.mono oMx) h3 oMx
theorem lL_dig {b d:Nat} (hd:∀ t,t<=k->dD A t≠0) (hk:k<n) (hA:∀ i j,i<n->j<n->IsB b (A i j)) (hb:zMb b (k+1)<10^d) {i:Nat} (hi:i<n):zAv d (lL A i k):=by
 have h1:=zKo (fun t ht=>hd t oMx) hk hA hi;have h2:=zKo (fun t ht=>hd t oMx) hk hA hk
 have h3:=zWu (n:=k) (f:=dD A) fun t ht=>hd t oMx
 have h4:=hd k lRx
 have e:lL A i k=zWr k (dD A)*xAk A k i k/(zWr k (dD A)*xAk A k k k):=by
  unfold lL;unfold dD at *
  grind
 rw [e];refine zXf h1 h2 ?_ hb
 intro e2
 rcases Rat.mul_eq_zero.1 e2 with h5|h5
 ·exact h3 h5
 exact h4 h5
end
theorem xDj {f:Nat->Rat} {m:Nat}:∀ {n:Nat},m<=n->(∀ j,m<=j->j<n->f j=0)->xDg n f=xDg m f
 | 0,h,_=>by rw [show m=0 by omega]
 | n+1,h,h0=>by
  by_cases e:m=n+1
  ·rw [e]
  show xDg n f+f n=_
  rw [h0 n oMx oMx,xDj (n:=n) oMx fun j h1 h2=>h0 j h1 oMx]
  grind
def xHh (k:Nat) (x:Nat->Rat) (i:Nat):Rat:=if i<k then x i else if i=k then 1 else 0
theorem xHj {A:mRx} {x:Nat->Rat} {k n:Nat} (hk:k<n) (hx:∀ i,i<k->xDg k (fun j=>A i j*x j) = -(A i k)):∀ i,i<k->xDg n (fun j=>A i j*xHh k x j)=0:=fun i hi=>by
 rw [xDj (m:=k+1) oMx fun j h1 h2=>by unfold xHh;rw [if_neg oMx,if_neg oMx];grind]
 show xDg k (fun j=>A i j*xHh k x j)+A i k*xHh k x k=0
 have e:xDg k (fun j=>A i j*xHh k x j)=xDg k (fun j=>A i j*x j):=xDi fun j hj=>by unfold xHh;rw [if_pos hj]
 rw [e,hx i hi];unfold xHh;rw [if_neg (Nat.lt_irrefl k),if_pos rfl]
 grind
theorem zNt {A:mRx} {x:Nat->Rat} {k n:Nat} (hd:∀ t,t<k->dD A t≠0) (hk:k<n) (hx:∀ i,i<k->xDg k (fun j=>A i j*x j) = -(A i k)):form n A (xHh k x)=dD A k :=
 form_wit hd hk (xHj hk hx) (by unfold xHh;rw [if_neg oMx,if_pos rfl]) fun i h1 h2=>by unfold xHh;rw [if_neg oMx,if_neg oMx]
end Go.Proofs.YtfjjcoggoomlbaaGreatDoor
