import Derived.Test.YtbjaplppalcmgaaGreatDoorZA
set_option maxHeartbeats 16000000
set_option maxRecDepth 100000
set_option linter.unusedVariables false
set_option linter.unusedSimpArgs false
set_option linter.unusedSectionVars false
namespace Go.Proofs.YtbjaplppalcmgaaGreatDoor
def xBt:Nat->(Nat->Rat)->Rat
 | 0,_=>0
 | n+1,f=>xBt n f+f n
theorem xBv:∀ {n:Nat} {f g:Nat->Rat},(∀ i,i<n->f i=g i)->xBt n f=xBt n g
 | 0,_,_,_=>rfl
 | n+1,f,g,h=>by
  show xBt n f+f n=xBt n g+g n
  rw [xBv (fun i hi=>h i oMx),h n oMx]
theorem xCc {n:Nat} {f:Nat->Rat} (h:∀ i,i<n->f i=0):xBt n f=0:=by
 induction n with
 | zero=>rfl
 | succ n ih =>
  show xBt n f+f n=0
  rw [ih (fun i hi=>h i oMx),h n oMx];grind
theorem xBu (n:Nat) (f g:Nat->Rat):xBt n (fun i=>f i+g i)=xBt n f+xBt n g:=by
 induction n with
 | zero=>show (0:Rat)=0+0;grind
 | succ n ih =>
  show xBt n _+(f n+g n)=(xBt n f+f n)+(xBt n g+g n)
  rw [ih];grind
theorem xBx (n:Nat) (a:Rat) (f:Nat->Rat):xBt n (fun i=>a*f i)=a*xBt n f:=by
 induction n with
 | zero=>simp [xBt]
 | succ n ih =>
  show xBt n _+a*f n=a*(xBt n f+f n)
  rw [ih];grind
theorem xBy {n k:Nat} {f:Nat->Rat} (hk:k<n) (h:∀ i,i<n->i≠k->f i=0):xBt n f=f k:=by
 induction n with
 | zero=>omega
 | succ n ih =>
  show xBt n f+f n=f k
  by_cases e:k=n
  ·subst e
   rw [xCc (fun i hi=>h i oMx oMx)];grind
  rw [ih oMx (fun i hi=>h i oMx),h n oMx oMx];grind
theorem xCb {n j k:Nat} {f:Nat->Rat} (hjk:j<k) (hk:k<n) (h:∀ i,i<n->i≠j->i≠k->f i=0):xBt n f=f j+f k:=by
 induction n with
 | zero=>omega
 | succ n ih =>
  show xBt n f+f n=f j+f k
  by_cases e:k=n
  ·subst e;rw [xBy hjk (fun i hi hne=>h i oMx hne oMx)]
  rw [ih oMx (fun i hi=>h i oMx),h n oMx oMx oMx];grind
theorem xBz (n m:Nat) (f:mRx):xBt n (fun i=>xBt m (fun j=>f i j))=xBt m (fun j=>xBt n (fun i=>f i j)):=by
 induction n with
 | zero=>exact (xCc (fun _ _=>rfl)).symm
 | succ n ih =>
  show xBt n _+xBt m (fun j=>f n j)=xBt m (fun j=>xBt n (fun i=>f i j)+f n j)
  rw [ih,xBu]
def upd (M:mRx) (i:Nat) (f:Nat->Rat):Nat->Nat->Rat:=fun r c=>if r=i then f c else M r c
def swp (M:mRx) (i j:Nat):Nat->Nat->Rat:=fun r=>M (if r=i then j else if r=j then i else r)
theorem xDr (M:mRx) (i:Nat) (f:Nat->Rat):upd M i f i=f:=by funext c;simp [upd]
theorem xDt (M:mRx) {i r:Nat} (f:Nat->Rat) (h:r≠i):upd M i f r=M r:=by funext c;simp [upd,h]
theorem xDu (M:mRx) (i:Nat):upd M i (M i)=M:=by funext r c;unfold upd;split<;>simp_all
theorem xDs (M:mRx) {i j:Nat} (h:i≠j) (f g:Nat->Rat):upd (upd M i f) j g=upd (upd M j g) i f:=by
 funext r c;simp only [upd];by_cases h1:r=i<;>by_cases h2:r=j<;>simp_all
theorem xCl (M:mRx) {i j:Nat} (h:i≠j):swp M i j=upd (upd M i (M j)) j (M i):=by
 funext r c;simp only [swp,upd];by_cases h1:r=i<;>by_cases h2:r=j<;>simp_all
def sgD (i:Nat):Rat:=if i%2=0 then 1 else -1
theorem sgD_succ (i:Nat):sgD (i+1) = - sgD i:=by unfold sgD;rcases Nat.mod_two_eq_zero_or_one i with h|h<;>simp [Nat.add_mod,h]
def skp (i r:Nat):Nat:=if r<i then r else r+1
theorem skp_ne (i r:Nat):skp i r≠i:=by unfold skp;split<;>omega
def mnr (M:mRx) (i:Nat):Nat->Nat->Rat:=fun r c=>M (skp i r) (c+1)
def det:Nat->(Nat->Nat->Rat)->Rat
 | 0,_=>1
 | n+1,M=>xBt (n+1) fun i=>sgD i*M i 0*det n (mnr M i)
structure Alt (n:Nat) (F:(Nat->Nat->Rat)->Rat):Prop where
 ext:∀ M N,(∀ r c,r<n->c<n->M r c=N r c)->F M=F N
 lin:∀ M i (a b:Rat) (u v:Nat->Rat),i<n->F (upd M i (fun c=>a*u c+b*v c))=a*F (upd M i u)+b*F (upd M i v)
 adj:∀ M i,i+1<n->(∀ c,M i c=M (i+1) c)->F M=0
theorem zRr (M:mRx) (i:Nat) (f:Nat->Rat):mnr (upd M i f) i=mnr M i:=by
 funext r c;unfold mnr;rw [xDt _ _ (skp_ne i r)]
def xDq (i r:Nat):Nat:=if r<i then r else r-1
theorem zRq (M:mRx) {i k:Nat} (h:k≠i) (f:Nat->Rat):mnr (upd M k f) i=upd (mnr M i) (xDq i k) (fun c=>f (c+1)):=by
 funext r c
 unfold mnr upd
 have:skp i r=k↔r=xDq i k:=by unfold skp xDq;split<;>split<;>omega
 simp only [this]
theorem zLt:∀ n,Alt n (det n)
 | 0=>⟨fun _ _ _=>rfl,fun _ _ _ _ _ _ h=>by omega,fun _ _ h=>by omega⟩
 | n+1=>by
  have ih:=zLt n;refine ⟨fun M N h=>?_,fun M k a b u v hk=>?_,fun M k hk he=>?_⟩
  ·refine xBv fun i hi=>?_
   rw [h i 0 hi oMx,ih.ext (mnr M i) (mnr N i) (fun r c hr hc=>h _ _ (by unfold skp;split<;>omega) oMx)]
  ·show xBt (n+1) _=a*xBt (n+1) _+b*xBt (n+1) _
   rw [<-xBx,<-xBx,<-xBu]
   refine xBv fun i hi=>?_
   by_cases e:i=k
   ·subst e;rw [zRr,zRr,zRr,xDr,xDr,xDr]
    grind
   rw [zRq _ (Ne.symm e),zRq _ (Ne.symm e),zRq _ (Ne.symm e),xDt _ _ e,xDt _ _ e,xDt _ _ e];rw [ih.lin (mnr M i) (xDq i k) a b (fun c=>u (c+1)) (fun c=>v (c+1)) (by unfold xDq;split<;>omega)]
   grind
  show xBt (n+1) _=0
  rw [xCb (j:=k) (k:=k+1) oMx hk]
  ·have:mnr M (k+1)=mnr M k:=by
    funext r c
    unfold mnr skp
    by_cases e:r=k
    ·subst e
     simp [he]
    have:r<k+1↔r<k:=by omega
    simp [this]
   rw [this,<-he,sgD_succ]
   grind
  intro i hi h1 h2
  rw [ih.adj (mnr M i) (xDq i k) (by unfold xDq;split<;>omega) (fun c=>?_)]
  ·grind
  unfold mnr
  have e1:skp i (xDq i k)=k:=by unfold skp xDq;split<;>(try split)<;>omega
  have e2:skp i (xDq i k+1)=k+1:=by unfold skp xDq;split<;>(try split)<;>omega
  rw [e1,e2,he]
namespace Alt
variable {n:Nat} {F:(Nat->Nat->Rat)->Rat}
theorem add_ (h:Alt n F) (M:mRx) {i:Nat} (hi:i<n) (u v:Nat->Rat):F (upd M i (fun c=>u c+v c))=F (upd M i u)+F (upd M i v):=by
 have:=h.lin M i 1 1 u v hi;simp only [Rat.one_mul] at this;exact this
theorem scale (h:Alt n F) (M:mRx) {i:Nat} (hi:i<n) (a:Rat) (u:Nat->Rat):F (upd M i (fun c=>a*u c))=a*F (upd M i u):=by
 have:=h.lin M i a 0 u u hi
 have e:(fun c=>a*u c+0*u c)=fun c=>a*u c:=by funext c;grind
 rw [e] at this
 rw [this];grind
theorem zero_row (h:Alt n F) (M:mRx) {i:Nat} (hi:i<n) (hz:∀ c,c<n->M i c=0):F M=0:=by
 have:=h.scale M hi 0 (M i);rw [xDu] at this;rw [h.ext M (upd M i (fun c=>0*M i c)),this]
 ·grind
 intro r c hr hc
 unfold upd
 split
 ·rename_i e;subst e;rw [hz c hc];grind
 rfl
theorem swap_adj (h:Alt n F) (M:mRx) {i:Nat} (hi:i+1<n):F (swp M i (i+1)) = - F M:=by
 have key:∀ u v,F (upd (upd M i u) (i+1) v)+F (upd (upd M i v) (i+1) u)=0:=by
  intro u v
  have h0:∀ x,F (upd (upd M i x) (i+1) x)=0:=fun x=>h.adj _ i hi (fun c=>by rw [xDt _ _ oMx,xDr,xDr])
  have h1:=h0 (fun c=>u c+v c);rw [h.add_ _ hi,xDs _ oMx,h.add_ _ oMx,xDs M (show i≠i+1 by omega),h.add_ _ oMx] at h1;rw [<-xDs M (show i≠i+1 by omega),<-xDs M (show i≠i+1 by omega),<-xDs M (show i≠i+1 by omega),<-xDs M (show i≠i+1 by omega),h0 u,h0 v] at h1
  grind
 have h2:=key (M i) (M (i+1));rw [xDu,xDu,<-xCl M oMx] at h2
 grind
theorem eq_rows (h:Alt n F):∀ (d:Nat) (M:mRx) (i:Nat),i+1+d<n->(∀ c,M i c=M (i+1+d) c)->F M=0
 | 0,M,i,hi,he=>h.adj M i hi he
 | d+1,M,i,hi,he=>by
  have h1:=h.swap_adj M (i:=i+1+d) hi
  have h2:=eq_rows h d (swp M (i+1+d) (i+1+d+1)) i oMx (fun c=>by
   unfold swp;rw [if_neg oMx,if_neg oMx,if_pos rfl]
   exact he c)
  rw [h2] at h1
  grind
theorem eq_rows' (h:Alt n F) (M:mRx) {i j:Nat} (hi:i<n) (hj:j<n) (hij:i≠j) (he:∀ c,M i c=M j c):F M=0:=by
 rcases Nat.lt_or_ge i j with h1|h1
 ·exact h.eq_rows (j-i-1) M i oMx (fun c=>by rw [show i+1+(j-i-1)=j by omega];exact he c)
 exact h.eq_rows (i-j-1) M j oMx (fun c=>by rw [show j+1+(i-j-1)=i by omega];exact (he c).symm)
theorem addmul (h:Alt n F) (M:mRx) {i j:Nat} (hi:i<n) (hj:j<n) (hij:i≠j) (a:Rat):F (upd M i (fun c=>M i c+a*M j c))=F M:=by
 rw [h.add_ M hi,h.scale M hi,xDu,h.eq_rows' (upd M i (M j)) hi hj hij (fun c=>by rw [xDr,xDt _ _ (Ne.symm hij)])]
 grind
theorem swap (h:Alt n F) (M:mRx) {i j:Nat} (hi:i<n) (hj:j<n) (hij:i≠j):F (swp M i j) = - F M:=by
 have key:∀ u v,F (upd (upd M i u) j v)+F (upd (upd M i v) j u)=0:=by
  intro u v
  have h0:∀ x,F (upd (upd M i x) j x)=0:=fun x=>h.eq_rows' _ hi hj hij (fun c=>by rw [xDt _ _ hij,xDr,xDr])
  have h1:=h0 (fun c=>u c+v c);rw [h.add_ _ hj,xDs M hij,h.add_ _ hi,xDs M hij,h.add_ _ hi] at h1;rw [<-xDs M hij,<-xDs M hij,<-xDs M hij,<-xDs M hij,h0 u,h0 v] at h1
  grind
 have h2:=key (M i) (M j);rw [xDu,xDu,<-xCl M hij] at h2
 grind
end Alt
def idn:Nat->Nat->Rat:=fun r c=>if r=c then 1 else 0
def mulM (n:Nat) (A B:mRx):Nat->Nat->Rat:=fun r c=>xBt n fun k=>A r k*B k c
def trn (M:mRx):Nat->Nat->Rat:=fun r c=>M c r
theorem zLx:∀ n,det n idn=1
 | 0=>rfl
 | n+1=>by
  show xBt (n+1) _=1
  rw [xBy (k:=0) oMx]
  ·have:mnr idn 0=idn:=by
    funext r c
    simp [mnr,skp,idn]
   rw [this,zLx n]
   simp [sgD,idn]
   try grind
  intro i hi h0
  simp [idn,h0]
  try grind
namespace Alt
variable {n:Nat} {F:(Nat->Nat->Rat)->Rat}
theorem clear_ (h:Alt n F) (M:mRx) {j:Nat} (hj:j<n) (a:Nat->Rat) (S:Nat->Bool) (hS:S j=false):F (fun r c=>if S r=true then M r c+a r*M j c else M r c)=F M:=by
 have step:∀ m,m<=n->F (fun r c=>if r<m/\S r=true then M r c+a r*M j c else M r c)=F M:=by
  intro m
  induction m with
  | zero=>intro _;congr 1;try (funext r c;simp)
  | succ m ih =>
   intro hm
   by_cases hs:S m=true
   ·rw [<-ih oMx]
    have hmj:m≠j:=by intro e;subst e;rw [hS] at hs;cases hs
    rw [<-h.addmul (fun r c=>if r<m/\S r=true then M r c+a r*M j c else M r c) (i:=m) (j:=j) oMx hj hmj (a m)]
    congr 1
    funext r c
    unfold upd
    have hj2:¬(j<m/\S j=true):=by rw [hS];simp
    by_cases hr:r=m
    ·subst hr
     simp [hs,hS]
    have:r<m+1↔r<m:=by omega
    simp [hr,this]
   rw [<-ih oMx]
   congr 1
   funext r c
   by_cases hr:r=m
   ·subst hr;simp [hs]
   have:r<m+1↔r<m:=by omega
   simp [this]
 rw [<-step n lRx]
 apply h.ext
 intro r c hr hc
 simp [hr]
theorem low (h:Alt n F):∀ (d:Nat) (M:mRx) (j k:Nat),k+d=n->j<k->(∀ r c,j<=r->r<n->c<k->M r c=0)->F M=0
 | 0,M,j,k,hk,hjk,hz=>h.zero_row M (i:=j) oMx (fun c hc=>hz j c lRx oMx oMx)
 | d+1,M,j,k,hk,hjk,hz=>by
  by_cases h0:∀ r,j<=r->r<n->M r k=0
  ·exact low h d M j (k+1) oMx oMx (fun r c h1 h2 h3=>by
    rcases Nat.lt_or_ge c k with h4|h4
    ·exact hz r c h1 h2 h4
    obtain rfl:c=k:=by omega
    exact h0 r h1 h2)
  obtain ⟨p,hp1,hp2,hp3⟩:∃ p,j<=p/\p<n/\M p k≠0:=by
   refine Classical.byContradiction fun hn=>h0 fun r h1 h2=>Classical.byContradiction fun h3=>hn ⟨r,h1,h2,h3⟩
  have main:∀ M1:Nat->Nat->Rat,M1 j k≠0->(∀ r c,j<=r->r<n->c<k->M1 r c=0)->F M1=0:=by
   intro M1 hn hz1
   rw [<-h.clear_ M1 (j:=j) oMx (fun r => - (M1 r k/M1 j k)) (fun r=>decide (j<r)) sMx]
   refine low h d _ (j+1) (k+1) oMx oMx fun r c h1 h2 h3=>?_
   simp only [decide_eq_true_eq];rw [if_pos oMx]
   rcases Nat.lt_or_ge c k with h4|h4
   ·rw [hz1 r c oMx h2 h4,hz1 j c lRx oMx h4];grind
   obtain rfl:c=k:=by omega
   grind
  by_cases hpj:p=j
  ·subst hpj;exact main M hp3 hz
  have h1:=h.swap M (i:=p) (j:=j) hp2 oMx hpj
  have h2:=main (swp M p j) (by simp only [swp];simp [Ne.symm hpj,hp3]) (fun r c h3 h4 h5=>by
   simp only [swp]
   split
   ·exact hz j c lRx oMx h5
   split
   ·exact hz p c hp1 hp2 h5
   exact hz r c h3 h4 h5)
  rw [h2] at h1
  grind
theorem uniq' (h:Alt n F):∀ (d:Nat) (M:mRx) (k:Nat),k+d=n->(∀ r c,r<n->c<k->M r c=idn r c)->F M=F idn*det n M
 | 0,M,k,hk,hi=>by
  rw [h.ext M idn (fun r c hr hc=>hi r c hr oMx),(zLt n).ext M idn (fun r c hr hc=>hi r c hr oMx),zLx]
  grind
 | d+1,M,k,hk,hi=>by
  by_cases h0:∀ r,k<=r->r<n->M r k=0
  ·have hz:∀ r c,k<=r->r<n->c<k+1->M r c=0:=fun r c h1 h2 h3=>by
    rcases Nat.lt_or_ge c k with h4|h4
    ·rw [hi r c h2 h4];unfold idn;rw [if_neg oMx]
    obtain rfl:c=k:=by omega
    exact h0 r h1 h2
   rw [h.low d M k (k+1) oMx oMx hz,(zLt n).low d M k (k+1) oMx oMx hz]
   grind
  obtain ⟨p,hp1,hp2,hp3⟩:∃ p,k<=p/\p<n/\M p k≠0:=by
   refine Classical.byContradiction fun hn=>h0 fun r h1 h2=>Classical.byContradiction fun h3=>hn ⟨r,h1,h2,h3⟩
  have main:∀ M1:Nat->Nat->Rat,M1 k k≠0->(∀ r c,r<n->c<k->M1 r c=idn r c)->F M1=F idn*det n M1:=by
   intro M1 hn hi1
   have key:∀ G:(Nat->Nat->Rat)->Rat,Alt n G->G M1=M1 k k*G (fun r c=>if decide (r≠k)=true then upd M1 k (fun c=>(1/M1 k k)*M1 k c) r c+(- M1 r k)*upd M1 k (fun c=>(1/M1 k k)*M1 k c) k c else upd M1 k (fun c=>(1/M1 k k)*M1 k c) r c):=by
    intro G hG
    rw [hG.clear_ (upd M1 k (fun c=>(1/M1 k k)*M1 k c)) (j:=k) oMx (fun r => - M1 r k) (fun r=>decide (r≠k)) sMx,hG.scale M1 oMx,xDu]
    grind
   rw [key F h,key _ (zLt n)];rw [uniq' h d _ (k+1) oMx ?_]
   ·grind
   intro r c hr hc
   simp only [decide_eq_true_eq]
   by_cases hrk:r=k
   ·subst hrk;rw [if_neg sMx,xDr]
    rcases Nat.lt_or_ge c r with h4|h4
    ·rw [hi1 r c hr h4];unfold idn;rw [if_neg oMx];grind
    obtain rfl:c=r:=by omega
    unfold idn;rw [if_pos rfl];grind
   rw [if_pos hrk,xDr,xDt _ _ hrk]
   rcases Nat.lt_or_ge c k with h4|h4
   ·rw [hi1 r c hr h4,hi1 k c oMx h4]
    have:idn k c=0:=by unfold idn;rw [if_neg oMx]
    rw [this];grind
   obtain rfl:c=k:=by omega
   have:idn r c=0:=by unfold idn;rw [if_neg hrk]
   rw [this];grind
  by_cases hpk:p=k
  ·subst hpk;exact main M hp3 hi
  have h1:=h.swap M (i:=p) (j:=k) hp2 oMx hpk;have h2:=(zLt n).swap M (i:=p) (j:=k) hp2 oMx hpk
  have h3:=main (swp M p k) (by simp only [swp];simp [Ne.symm hpk,hp3]) (fun r c h3 h4=>by
   simp only [swp]
   split
   ·rename_i e;subst e;rw [hi k c oMx h4];unfold idn;rw [if_neg oMx,if_neg oMx]
   split
   ·rename_i e;subst e;rw [hi p c hp2 h4];unfold idn;rw [if_neg oMx,if_neg oMx]
   exact hi r c h3 h4)
  grind
theorem uniq (h:Alt n F) (M:mRx):F M=F idn*det n M:=h.uniq' n M 0 oMx (fun r c _ hc=>by omega)
end Alt
theorem mulM_idn (n:Nat) (B:mRx) {r:Nat} (c:Nat) (hr:r<n):mulM n idn B r c=B r c:=by
 unfold mulM;rw [xBy hr]
 ·simp [idn];try grind
 intro i _ hne
 unfold idn;rw [if_neg (Ne.symm hne)]
 grind
theorem zRt (n:Nat) (A B:mRx) (i:Nat) (f:Nat->Rat):mulM n (upd A i f) B=upd (mulM n A B) i (fun c=>xBt n fun k=>f k*B k c):=by
 funext r c
 unfold mulM upd
 split<;>rfl
theorem zLz (n:Nat) (A B:mRx):det n (mulM n A B)=det n A*det n B:=by
 have hA:Alt n (fun A=>det n (mulM n A B)):=by
  refine ⟨fun M N h=>?_,fun M i a b u v hi=>?_,fun M i hi he=>?_⟩
  ·apply (zLt n).ext
   intro r c hr hc
   unfold mulM
   exact xBv fun k hk=>by rw [h r k hr hk]
  ·rw [zRt,zRt,zRt,<-(zLt n).lin _ _ _ _ _ _ hi]
   congr 2
   funext c
   rw [<-xBx,<-xBx,<-xBu]
   exact xBv fun k _=>by grind
  apply (zLt n).adj _ i hi
  intro c
  unfold mulM
  exact xBv fun k _=>by rw [he k]
 rw [hA.uniq A]
 have:det n (mulM n idn B)=det n B:=(zLt n).ext _ _ fun r c hr _=>mulM_idn n B c hr
 rw [this]
 grind
theorem zMb:∀ (n:Nat) (M:mRx) (c:Nat),c<n->(∀ r,r<n->M r c=0)->det n M=0
 | 0,_,_,h,_=>by omega
 | n+1,M,0,_,hz=>xCc fun i hi=>by rw [hz i hi];grind
 | n+1,M,c+1,hc,hz=>xCc fun i hi=>by
  rw [zMb n (mnr M i) c oMx (fun r hr=>hz _ (by unfold skp;split<;>omega))];grind
def cpd (M:mRx) (j:Nat) (f:Nat->Rat):Nat->Nat->Rat:=fun r c=>if c=j then f r else M r c
theorem zLv:∀ (n:Nat) (M:mRx) (j:Nat) (a b:Rat) (u v:Nat->Rat),j<n->det n (cpd M j (fun r=>a*u r+b*v r))=a*det n (cpd M j u)+b*det n (cpd M j v)
 | 0,_,_,_,_,_,_,h=>by omega
 | n+1,M,0,a,b,u,v,_=>by
  show xBt (n+1) _=a*xBt (n+1) _+b*xBt (n+1) _
  rw [<-xBx,<-xBx,<-xBu]
  refine xBv fun i _=>?_
  have:∀ f,mnr (cpd M 0 f) i=mnr M i:=fun f=>by funext r c;simp [mnr,cpd]
  rw [this,this,this];simp only [cpd,if_true]
  grind
 | n+1,M,j+1,a,b,u,v,hj=>by
  show xBt (n+1) _=a*xBt (n+1) _+b*xBt (n+1) _
  rw [<-xBx,<-xBx,<-xBu]
  refine xBv fun i _=>?_
  have:∀ f,mnr (cpd M (j+1) f) i=cpd (mnr M i) j (fun r=>f (skp i r)):=fun f=>by funext r c;simp [mnr,cpd]
  rw [this,this,this,zLv n (mnr M i) j a b (fun r=>u (skp i r)) (fun r=>v (skp i r)) oMx]
  have h0:∀ f:Nat->Rat,cpd M (j+1) f i 0=M i 0:=fun f=>by simp [cpd]
  rw [h0,h0,h0]
  grind
theorem det_trn (n:Nat) (M:mRx):det n (trn M)=det n M:=by
 have hA:Alt n (fun M=>det n (trn M)):=by
  refine ⟨fun M N h=>?_,fun M i a b u v hi=>?_,fun M i hi he=>?_⟩
  ·exact (zLt n).ext _ _ fun r c hr hc=>h c r hc hr
  ·have:∀ f,trn (upd M i f)=cpd (trn M) i f:=fun f=>by funext r c;simp [trn,upd,cpd]
   rw [this,this,this];exact zLv n _ i a b u v hi
  let B:Nat->Nat->Rat:=upd idn (i+1) (fun c=>idn (i+1) c+(-1)*idn i c)
  have hB:det n B=1:=by
   show det n (upd idn (i+1) (fun c=>idn (i+1) c+(-1)*idn i c))=1
   rw [(zLt n).addmul idn hi oMx oMx,zLx]
  have hm:=zLz n (trn M) B;rw [hB] at hm;rw [zMb n (mulM n (trn M) B) i oMx] at hm
  ·show det n (trn M)=0
   grind
  intro r hr
  unfold mulM;rw [xCb (j:=i) (k:=i+1) oMx hi]
  ·have e1:B i i=1:=by simp [B,upd,idn]
   have e2:B (i+1) i = -1:=by simp [B,upd,idn];try grind
   rw [e1,e2];have:=he r;simp only [trn]
   grind
  intro k hk h1 h2
  have e3:B k i=0:=by simp [B,upd,idn,h2];omega
  rw [e3];grind
 have e:=hA.uniq M
 have:det n (trn idn)=1:=by
  rw [show trn idn=idn from by funext r c;unfold trn idn;by_cases h:r=c<;>simp [h,eq_comm],zLx]
 rw [this] at e
 rw [e];grind
def Span (m:Nat) (F:mRx) (x:Nat->Rat):Prop:=∃ e:Nat->Rat,∀ c,x c=xBt m fun k=>e k*F k c
theorem Span.row {m:Nat} {F:mRx} {i:Nat} (hi:i<m):Span m F (F i):=⟨fun k=>if k=i then 1 else 0,fun c=>by
 rw [xBy hi]
 ·simp;try grind
 intro k _ hne;simp [hne];try grind⟩
theorem Span.lin {m:Nat} {F:mRx} {x y:Nat->Rat} (hx:Span m F x) (hy:Span m F y) (a b:Rat):Span m F (fun c=>a*x c+b*y c):=by
 obtain ⟨e,he⟩:=hx;obtain ⟨f,hf⟩:=hy;refine ⟨fun k=>a*e k+b*f k,fun c=>?_⟩
 show a*x c+b*y c=xBt m fun k=>(a*e k+b*f k)*F k c
 rw [he,hf,<-xBx,<-xBx,<-xBu]
 exact xBv fun k _=>by grind
theorem Span.zero (m:Nat) (F:mRx):Span m F (fun _=>0):=⟨fun _=>0,fun c=>(xCc fun k _=>by grind).symm⟩
theorem Span.sum {m:Nat} {F:mRx} {n:Nat} {e:Nat->Rat} {G:mRx} (h:∀ k,k<n->Span m F (G k)):Span m F (fun c=>xBt n fun k=>e k*G k c):=by
 induction n with
 | zero=>exact Span.zero m F
 | succ n ih =>
  have h1:=(ih fun k hk=>h k oMx).lin (h n oMx) 1 (e n)
  have:(fun c=>xBt (n+1) fun k=>e k*G k c)=fun c=>1*(xBt n fun k=>e k*G k c)+e n*G n c:=by
   funext c
   show xBt n _+e n*G n c=_
   grind
  rw [this];exact h1
theorem Span.trans {m n:Nat} {F G:mRx} {x:Nat->Rat} (hx:Span n G x) (h:∀ k,k<n->Span m F (G k)):Span m F x:=by
 obtain ⟨e,he⟩:=hx;have:=Span.sum (e:=e) h
 rwa [show (fun c=>xBt n fun k=>e k*G k c)=x from by funext c;exact (he c).symm] at this
theorem Span.of_eq {m:Nat} {F:mRx} {x y:Nat->Rat} (h:Span m F x) (e:∀ c,y c=x c):Span m F y:=by
 obtain ⟨f,hf⟩:=h;exact ⟨f,fun c=>by rw [e,hf]⟩
def sw (p r i:Nat):Nat:=if i=p then r else if i=r then p else i
theorem swp_sw (M:mRx) (p r:Nat):swp M p r=fun i=>M (sw p r i):=rfl
theorem xCi {p r i m:Nat} (hp:p<m) (hr:r<m) (hi:i<m):sw p r i<m:=by unfold sw;split<;>(try split)<;>omega
theorem sw_sw (p r i:Nat):sw p r (sw p r i)=i:=by unfold sw;split<;>split<;>(try split)<;>(try split)<;>omega
theorem sw_low {p r i:Nat} (hp:r<=p) (hi:i<r):sw p r i=i:=by unfold sw;rw [if_neg oMx,if_neg oMx]
theorem sw_r (p r:Nat):sw p r r=p:=by unfold sw;split<;>simp_all
theorem xCh {p r i:Nat} (hp:r<=p) (hi:r<=i):r<=sw p r i:=by unfold sw;split<;>(try split)<;>omega
structure Gau (m:Nat) (N:mRx) (c:Nat) (F:mRx) (ps:Nat->Nat) (r:Nat) (v:Rat) (odd:Bool):Prop where
 rm:r<=m
 v0:v≠0
 piv:∀ i,i<r->ps i<c
 asc:∀ i j,i<j->j<r->ps i<ps j
 unit:∀ i j,i<r->j<m->F j (ps i)=idn j i
 lead:∀ i k,i<r->k<ps i->F i k=0
 zero:∀ j k,r<=j->j<m->k<c->F j k=0
 comb:∀ i,i<m->Span m N (F i)
 back:∀ i,i<m->Span m F (N i)
 mins:∃ π:Nat->Nat,(∀ i,i<m->π i<m)/\∀ (n:Nat) (ρ J:Nat->Nat),r<=n->(∀ j,j<r->ρ j=j)->(∀ j,r<=j->j<n->r<=ρ j/\ρ j<m)->det n (fun i j=>N (π (ρ i)) (J j))=v*det n (fun i j=>F (ρ i) (J j))
 detm:∀ J:Nat->Nat,det m (fun i j=>N i (J j))=(if odd then -1 else 1)*v*det m (fun i j=>F i (J j))
theorem Gau.start (m:Nat) (N:mRx) (ps:Nat->Nat):Gau m N 0 N ps 0 1 false where
 rm:=oLx
 v0:=by decide
 piv:=fun i h=>by omega
 asc:=fun i j _ h=>by omega
 unit:=fun i j h=>by omega
 lead:=fun i k h=>by omega
 zero:=fun j k _ _ h=>by omega
 comb:=fun i hi=>Span.row hi
 back:=fun i hi=>Span.row hi
 mins:=⟨fun i=>i,fun i h=>h,fun n ρ J _ _ _=>by grind⟩
 detm:=fun J=>by simp;try grind
theorem Gau.none {m c r:Nat} {N F:mRx} {ps:Nat->Nat} {v:Rat} {odd:Bool} (h:Gau m N c F ps r v odd) (hz:∀ j,r<=j->j<m->F j c=0):Gau m N (c+1) F ps r v odd where
 rm:=h.rm
 v0:=h.v0
 piv:=fun i hi=>by have:=h.piv i hi;omega
 asc:=h.asc
 unit:=h.unit
 lead:=h.lead
 zero:=fun j k h1 h2 h3=>by
  rcases Nat.lt_or_ge k c with h4|h4
  ·exact h.zero j k h1 h2 h4
  obtain rfl:k=c:=by omega
  exact hz j h1 h2
 comb:=h.comb
 back:=h.back
 mins:=h.mins
 detm:=h.detm
def xAr (F:mRx) (p r c:Nat):Nat->Nat->Rat:=fun i k=>if i=r then F p k/F p c else F (sw p r i) k-F (sw p r i) c*(F p k/F p c)
theorem xAs {n:Nat} (F:mRx) {p r c:Nat} (ρ J:Nat->Nat) (hr:r<n) (hρ:ρ r=r) (hne:∀ i,i<n->i≠r->ρ i≠r) (hf:F p c≠0) :
  det n (fun i j=>F (sw p r (ρ i)) (J j))=F p c*det n (fun i j=>xAr F p r c (ρ i) (J j)):=by
 have hA:=zLt n;have h1:=hA.scale (fun i j=>F (sw p r (ρ i)) (J j)) (i:=r) hr (1/F p c) (fun j=>F p (J j));have h2:=hA.clear_ (upd (fun i j=>F (sw p r (ρ i)) (J j)) r (fun j=>1/F p c*F p (J j))) (j:=r) hr (fun i => - F (sw p r (ρ i)) c) (fun i=>decide (i≠r)) sMx
 have e1:det n (upd (fun i j=>F (sw p r (ρ i)) (J j)) r (fun j=>F p (J j)))=det n (fun i j=>F (sw p r (ρ i)) (J j)):=by
  congr 1
  funext i j
  unfold upd
  split
  ·rename_i e;subst e;rw [hρ,sw_r]
  rfl
 rw [e1] at h1
 have e2:det n (fun i j=>xAr F p r c (ρ i) (J j))=det n (fun r_1 c_1=>if decide (r_1≠r)=true then upd (fun i j=>F (sw p r (ρ i)) (J j)) r (fun j=>1/F p c*F p (J j)) r_1 c_1+(- F (sw p r (ρ r_1)) c)*upd (fun i j=>F (sw p r (ρ i)) (J j)) r (fun j=>1/F p c*F p (J j)) r c_1 else upd (fun i j=>F (sw p r (ρ i)) (J j)) r (fun j=>1/F p c*F p (J j)) r_1 c_1):=by
  apply hA.ext
  intro i j hi hj
  by_cases e:i=r
  ·subst e;simp only [xAr,hρ,upd]
   simp
   try grind
  simp only [xAr,hne i hi e,upd,e]
  simp [e]
  try grind
 rw [e2,h2,h1]
 grind
theorem Gau.step {m c r p:Nat} {N F:mRx} {ps:Nat->Nat} {v:Rat} {odd:Bool} (h:Gau m N c F ps r v odd) (hp1:r<=p) (hp2:p<m) (hf:F p c≠0) :
  Gau m N (c+1) (xAr F p r c) (fun i=>if i=r then c else ps i) (r+1) (v*F p c) (if p=r then odd else !odd) where
 rm:=by omega
 v0:=by have:=h.v0;grind
 piv:=fun i hi=>by
  show (if i=r then c else ps i)<c+1
  split
  ·omega
  have:=h.piv i oMx;omega
 asc:=fun i j hij hj=>by
  show (if i=r then c else ps i)<(if j=r then c else ps j)
  rw [if_neg oMx]
  split
  ·exact h.piv i oMx
  exact h.asc i j hij oMx
 unit:=fun i j hi hj=>by
  show xAr F p r c j (if i=r then c else ps i)=idn j i
  by_cases e:i=r
  ·subst e;rw [if_pos rfl];unfold xAr idn
   split
   ·grind
   grind
  rw [if_neg e]
  have h0:F p (ps i)=0:=by rw [h.unit i p oMx hp2];unfold idn;rw [if_neg oMx]
  unfold xAr;rw [h0]
  split
  ·rename_i e2;subst e2;unfold idn;rw [if_neg (Ne.symm e)];grind
  rename_i e2
  rw [h.unit i (sw p r j) oMx (xCi hp2 oMx hj)]
  have:idn (sw p r j) i=idn j i:=by
   unfold idn sw
   by_cases e3:j=p
   ·rw [if_pos e3,if_neg oMx,if_neg oMx]
   rw [if_neg e3,if_neg e2]
  rw [this];grind
 lead:=fun i k hi hk=>by
  have hk:k<(if i=r then c else ps i):=hk
  by_cases e:i=r
  ·subst e;rw [if_pos rfl] at hk;unfold xAr
   rw [if_pos rfl,h.zero p k hp1 hp2 hk];grind
  rw [if_neg e] at hk
  have hi':i<r:=by omega
  have:=h.piv i hi';unfold xAr
  rw [if_neg e,sw_low hp1 hi',h.lead i k hi' hk,h.zero p k hp1 hp2 oMx];grind
 zero:=fun j k h1 h2 h3=>by
  unfold xAr;rw [if_neg oMx]
  rcases Nat.lt_or_ge k c with h4|h4
  ·rw [h.zero p k hp1 hp2 h4,h.zero (sw p r j) k (xCh hp1 oMx) (xCi hp2 oMx h2) h4];grind
  obtain rfl:k=c:=by omega
  grind
 comb:=fun i hi=>by
  have hr:r<m:=by omega
  by_cases e:i=r
  ·exact ((h.comb p hp2).lin (h.comb p hp2) (1/F p c) 0).of_eq fun k=>by unfold xAr;rw [if_pos e];grind
  exact ((h.comb (sw p r i) (xCi hp2 hr hi)).lin (h.comb p hp2) 1 (- (F (sw p r i) c/F p c))).of_eq fun k=>by unfold xAr;rw [if_neg e];grind
 back:=fun i hi=>by
  have hr:r<m:=by omega
  refine (h.back i hi).trans fun k hk=>?_
  have hF:∀ j,j<m->Span m (xAr F p r c) (F (sw p r j)):=fun j hj=>by
   by_cases e:j=r
   ·subst e
    exact ((Span.row (F:=xAr F p j c) hj).lin (Span.row hj) (F p c) 0).of_eq fun k=>by
     rw [sw_r]
     unfold xAr;rw [if_pos rfl];grind
   exact ((Span.row (F:=xAr F p r c) hj).lin (Span.row hr) 1 (F (sw p r j) c)).of_eq fun k=>by
    unfold xAr;rw [if_neg e,if_pos rfl];grind
  have:=hF (sw p r k) (xCi hp2 hr hk)
  rwa [sw_sw] at this
 mins:=by
  obtain ⟨π,h1,h2⟩:=h.mins
  have hr:r<m:=by omega
  refine ⟨fun i=>π (sw p r i),fun i hi=>h1 _ (xCi hp2 hr hi),fun n ρ J hn hρ hρ2=>?_⟩
  have h3:=h2 n (fun i=>sw p r (ρ i)) J oMx (fun j hj=>by rw [hρ j oMx,sw_low hp1 hj]) (fun j hj hj2=>by
   by_cases e:j=r
   ·subst e;rw [hρ j oMx,sw_r];exact ⟨hp1,hp2⟩
   have:=hρ2 j oMx hj2
   exact ⟨xCh hp1 oMx,xCi hp2 hr this.2⟩)
  rw [h3,xAs F ρ J oMx (hρ r oMx) (fun i hi hne=>?_) hf]
  ·grind
  by_cases e:i<r
  ·rw [hρ i oMx];omega
  have:=hρ2 i oMx hi;omega
 detm:=fun J=>by
  have hr:r<m:=by omega
  rw [h.detm J];have h1:=xAs F (p:=p) (c:=c) (fun i=>i) J hr rfl (fun i _ hne=>hne) hf
  by_cases e:p=r
  ·rw [if_pos e]
   have e2:∀ i,sw p r i=i:=fun i=>by unfold sw;split<;>(try split)<;>omega
   simp only [e2] at h1
   rw [h1];grind
  rw [if_neg e];have h3:=(zLt m).swap (fun i j=>F i (J j)) hp2 hr e;rw [swp_sw] at h3;rw [h3] at h1
  have h4:det m (fun i j=>F i (J j)) = - (F p c*det m (fun i j=>xAr F p r c i (J j))):=by grind
  rw [h4]
  cases odd<;>simp<;>try grind
theorem xBw:∀ {n:Nat} {f:Nat->Rat},(∀ i,i<n->∃ z:Int,f i=z)->∃ z:Int,xBt n f=z
 | 0,_,_=>⟨0,rfl⟩
 | n+1,f,h=>by
  obtain ⟨a,ha⟩:=xBw (n:=n) (f:=f) fun i hi=>h i oMx
  obtain ⟨b,hb⟩:=h n oMx;exact ⟨a+b,by show xBt n f+f n=_;rw [ha,hb,Rat.intCast_add]⟩
theorem zLy:∀ {n:Nat} {M:mRx},(∀ r c,r<n->c<n->∃ z:Int,M r c=z)->∃ z:Int,det n M=z
 | 0,_,_=>⟨1,rfl⟩
 | n+1,M,h=>xBw fun i hi=>by
  obtain ⟨a,ha⟩:=h i 0 hi oMx
  obtain ⟨b,hb⟩:=zLy (n:=n) (M:=mnr M i) fun r c hr hc=>h _ _ (by unfold skp;split<;>omega) oMx
  rw [ha,hb];unfold sgD
  split
  ·exact ⟨a*b,by rw [Rat.intCast_mul];grind⟩
  exact ⟨- (a*b),by rw [Rat.intCast_neg,Rat.intCast_mul];grind⟩
theorem Alt.expand {n m:Nat} {F:(Nat->Nat->Rat)->Rat} (h:Alt n F) (M:mRx) {i:Nat} (hi:i<n) (x:Nat->Rat) (B:mRx):F (upd M i (fun c=>xBt m fun k=>x k*B k c))=xBt m fun k=>x k*F (upd M i (B k)):=by
 induction m with
 | zero =>
  show _=(0:Rat)
  exact h.zero_row _ hi (fun c _=>by rw [xDr];rfl)
 | succ m ih =>
  have:=h.lin M i 1 (x m) (fun c=>xBt m fun k=>x k*B k c) (B m) hi
  have e:(fun c=>1*xBt m (fun k=>x k*B k c)+x m*B m c)=fun c=>xBt (m+1) fun k=>x k*B k c:=by
   funext c
   show _=xBt m _+x m*B m c
   grind
  rw [e,ih] at this;rw [this]
  show _=xBt m _+x m*_
  grind
theorem zLu {n i:Nat} (hi:i<n) (u:Nat->Rat):det n (cpd idn i u)=u i:=by
 rw [<-det_trn]
 have e:trn (cpd idn i u)=upd idn i u:=by
  funext r c
  unfold trn cpd upd idn
  by_cases h:r=i<;>simp [h,eq_comm]
 rw [e];have h1:=(zLt n).expand (m:=n) idn hi u idn
 have h2:det n (upd idn i u)=det n (upd idn i (fun c=>xBt n fun k=>u k*idn k c)):=by
  apply (zLt n).ext
  intro r c hr hc
  unfold upd
  split
  ·show u c=xBt n fun k=>u k*idn k c
   rw [xBy hc]
   ·unfold idn;simp;try grind
   intro k _ hne;unfold idn;rw [if_neg hne];grind
  rfl
 rw [h2,h1,xBy hi]
 ·have:upd idn i (idn i)=idn:=xDu idn i
  rw [this,zLx];grind
 intro k hk hne
 rw [(zLt n).eq_rows' (upd idn i (idn k)) hi hk (Ne.symm hne) (fun c=>by rw [xDr,xDt _ _ hne])]
 grind
theorem Gau.int {m c r:Nat} {N F:mRx} {ps:Nat->Nat} {v:Rat} {odd:Bool} (h:Gau m N c F ps r v odd) (hN:∀ i k,∃ z:Int,N i k=z) {i:Nat} (hi:i<m) (k:Nat):∃ z:Int,v*F i k=z:=by
 obtain ⟨π,_,h2⟩:=h.mins
 by_cases hir:i<r
 ·have h3:=h2 r (fun j=>j) (fun j=>if j=i then k else ps j) lRx (fun j _=>rfl) (fun j h1 h2=>by omega)
  have e:det r (fun a j=>F a (if j=i then k else ps j))=F i k:=by
   rw [<-zLu hir (fun a=>F a k)]
   apply (zLt r).ext
   intro a j ha hj
   unfold cpd
   split
   ·rfl
   exact h.unit j a hj (by have:=h.rm;omega)
  rw [e] at h3;rw [<-h3]
  exact zLy fun a b _ _=>hN _ _
 have h3:=h2 (r+1) (fun j=>if j<r then j else i) (fun j=>if j<r then ps j else k) oMx (fun j hj=>by simp [hj]) (fun j h1 h2=>by
  rw [if_neg oMx]
  exact ⟨oMx,hi⟩)
 have e:det (r+1) (fun a j=>F (if a<r then a else i) (if j<r then ps j else k))=F i k:=by
  have e0:=zLu (n:=r+1) (i:=r) oMx (fun a=>F (if a<r then a else i) k)
  have e1:F (if r<r then r else i) k=F i k:=by rw [if_neg oMx]
  rw [<-e1,<-e0]
  apply (zLt (r+1)).ext
  intro a j ha hj
  unfold cpd
  by_cases e:j=r
  ·subst e;simp
  have hj':j<r:=by omega
  rw [if_neg e,if_pos hj',h.unit j _ hj' (by have:=h.rm;split<;>omega)];unfold idn
  split<;>split<;>(try split)<;>first|rfl|omega
 rw [e] at h3;rw [<-h3]
 exact zLy fun a b _ _=>hN _ _
def zTl (P:Nat->Nat->Int) (c:Nat):Nat->Nat->Nat
 | 0,p=>p
 | d+1,p=>if P p c=0 then zTl P c d (p+1) else p
theorem zTn (P:Nat->Nat->Int) (c:Nat):∀ (d p:Nat),p<=zTl P c d p/\zTl P c d p<=p+d/\(∀ q,p<=q->q<zTl P c d p->P q c=0)/\(zTl P c d p<p+d->P (zTl P c d p) c≠0)
 | 0,p=>⟨lRx,lRx,fun q h1 h2=>by simp only [zTl] at h2;omega,fun h=>by simp only [zTl] at h;omega⟩
 | d+1,p=>by
  unfold zTl
  split
  ·rename_i h0
   obtain ⟨h1,h2,h3,h4⟩:=zTn P c d (p+1);refine ⟨oMx,oMx,fun q hq1 hq2=>?_,fun h=>h4 oMx⟩
   rcases Nat.lt_or_ge p q with h5|h5
   ·exact h3 q h5 hq2
   obtain rfl:q=p:=by omega
   exact h0
  rename_i h0
  exact ⟨lRx,oMx,fun q h1 h2=>by omega,fun _=>h0⟩
theorem zTm {P:Nat->Nat->Int} {c d p q:Nat} (h1:p<=q) (h2:q<=p+d) (h3:∀ i,p<=i->i<q->P i c=0) (h4:q<p+d->P q c≠0):zTl P c d p=q:=by
 obtain ⟨k1,k2,k3,k4⟩:=zTn P c d p
 rcases Nat.lt_trichotomy (zTl P c d p) q with h|h|h
 ·exact absurd (h3 _ k1 h) (k4 oMx)
 ·exact h
 exact absurd (k3 q h1 h) (h4 oMx)
structure zAr where
 P:Nat->Nat->Int
 ps:List Nat
 v:Int
 odd:Bool
def xAt (P:Nat->Nat->Int) (p r c:Nat) (v:Int):Nat->Nat->Int:=fun i k=>if i=r then P p k else (P (sw p r i) k*P p c-P (sw p r i) c*P p k)/v
def zAr.step (m c:Nat) (s:zAr):zAr :=
 if zTl s.P c (m-s.ps.length) s.ps.length<m then ⟨xAt s.P (zTl s.P c (m-s.ps.length) s.ps.length) s.ps.length c s.v,s.ps++[c],s.P (zTl s.P c (m-s.ps.length) s.ps.length) c,if zTl s.P c (m-s.ps.length) s.ps.length=s.ps.length then s.odd else !s.odd⟩ else s
def eli (m:Nat) (N:Nat->Nat->Int):Nat->zAr
 | 0=>⟨N,[],1,false⟩
 | c+1=>(eli m N c).step m c
def pn (ps:List Nat) (i:Nat):Nat:=ps.getD i 0
theorem pn_snoc (ps:List Nat) (c i:Nat) (h:i<ps.length+1):pn (ps++[c]) i=if i=ps.length then c else pn ps i:=by
 unfold pn
 split
 ·rename_i e;subst e;simp
 have:i<ps.length:=by omega
 simp [List.getD_eq_getElem?_getD,List.getElem?_append_left this]
theorem Gau.pivs {m c r:Nat} {N F:mRx} {ps qs:Nat->Nat} {v:Rat} {odd:Bool} (h:Gau m N c F ps r v odd) (e:∀ i,i<r->qs i=ps i):Gau m N c F qs r v odd where
 rm:=h.rm
 v0:=h.v0
 piv:=fun i hi=>by rw [e i hi];exact h.piv i hi
 asc:=fun i j hij hj=>by rw [e i oMx,e j hj];exact h.asc i j hij hj
 unit:=fun i j hi hj=>by rw [e i hi];exact h.unit i j hi hj
 lead:=fun i k hi hk=>h.lead i k hi (by rw [<-e i hi];exact hk)
 zero:=h.zero
 comb:=h.comb
 back:=h.back
 mins:=h.mins
 detm:=h.detm
def EliG (m:Nat) (N:Nat->Nat->Int) (c:Nat) (s:zAr):Prop:=∃ F:Nat->Nat->Rat,Gau m (fun i k=>(N i k:Rat)) c F (pn s.ps) s.ps.length s.v s.odd/\∀ i k,i<m->(s.P i k:Rat)=s.v*F i k
theorem EliG.step {m c:Nat} {N:Nat->Nat->Int} {s:zAr} (h:EliG m N c s):EliG m N (c+1) (s.step m c):=by
 obtain ⟨F,hg,hP⟩:=h;have hrm:=hg.rm;obtain ⟨k1,k2,k3,k4⟩:=zTn s.P c (m-s.ps.length) s.ps.length;unfold zAr.step;generalize zTl s.P c (m-s.ps.length) s.ps.length=p at *
 have hF0:∀ i k,i<m->(s.P i k=0↔F i k=0):=fun i k hi=>by
  have h1:=hP i k hi;have h2:=hg.v0
  constructor
  ·intro h;rw [h] at h1;simp at h1;grind
  intro h;rw [h,Rat.mul_zero] at h1;exact Rat.intCast_eq_zero_iff.1 h1
 split
 ·rename_i hp
  have hpc:F p c≠0:=fun e=>k4 oMx ((hF0 p c hp).2 e)
  have hr:s.ps.length<m:=by omega
  have hg2:=hg.step (p:=p) k1 hp hpc;have hv:((s.P p c:Int):Rat)=(s.v:Rat)*F p c:=hP p c hp;refine ⟨xAr F p s.ps.length c,?_,?_⟩
  ·have e:(s.ps++[c]).length=s.ps.length+1:=by simp
   simp only;rw [e,hv]
   exact hg2.pivs fun i hi=>pn_snoc s.ps c i oMx
  intro i k hi
  simp only
  by_cases e:i=s.ps.length
  ·unfold xAt xAr;rw [if_pos e,if_pos e,hP p k hp,hv]
   grind
  obtain ⟨z,hz⟩:=hg2.int (fun i k=>⟨N i k,rfl⟩) hi k
  have hv0:s.v≠0:=fun e=>hg.v0 (by rw [e];rfl)
  have hsw:=xCi (p:=p) (r:=s.ps.length) hp hr hi
  have h3:s.P (sw p s.ps.length i) k*s.P p c-s.P (sw p s.ps.length i) c*s.P p k=z*s.v:=by
   rw [<-Rat.intCast_inj,Rat.intCast_sub,Rat.intCast_mul,Rat.intCast_mul,Rat.intCast_mul,<-hz,hP _ k hsw,hP _ c hsw,hP p k hp,hv];unfold xAr;rw [if_neg e]
   grind
  unfold xAt;rw [if_neg e,h3,Int.mul_ediv_cancel _ hv0,hv,<-hz]
 rename_i hp
 exact ⟨F,hg.none fun j h1 h2=>(hF0 j c h2).1 (k3 j h1 oMx),hP⟩
theorem zMt (m:Nat) (N:Nat->Nat->Int):∀ c,EliG m N c (eli m N c)
 | 0=>⟨fun i k=>(N i k:Rat),Gau.start m _ _,fun i k _=>by show (N i k:Rat)=((1:Int):Rat)*_;simp;try grind⟩
 | c+1=>(zMt m N c).step
theorem xCa {k:Nat} {f:Nat->Rat}:∀ {n:Nat},k<=n->(∀ i,k<=i->i<n->f i=0)->xBt n f=xBt k f
 | 0,h,_=>by have:k=0:=by omega
             subst this;rfl
 | n+1,h,hz=>by
  by_cases e:k=n+1
  ·subst e;rfl
  show xBt n f+f n=_
  rw [xCa (n:=n) oMx (fun i h1 h2=>hz i h1 oMx),hz n oMx oMx]
  grind
section
variable {m n c r:Nat} {N F:mRx} {ps:Nat->Nat} {v:Rat} {odd:Bool}
theorem Gau.ge (h:Gau m N c F ps r v odd):∀ i,i<r->i<=ps i
 | 0,_=>oLx
 | i+1,hi=>by have:=h.ge i oMx;have:=h.asc i (i+1) oMx hi;omega
theorem Gau.rc (h:Gau m N c F ps r v odd):r<=c:=by
 rcases Nat.eq_zero_or_pos r with h0|h0
 ·omega
 have:=h.ge (r-1) oMx;have:=h.piv (r-1) oMx;omega
theorem Gau.same (h:Gau m N c F ps r v odd) {k:Nat} (hk:k<r) (e:ps k=k):∀ i,i<=k->ps i=i:=by
 intro i hi
 rcases Nat.lt_or_ge i k with h1|h1
 ·have key:∀ d i,i+d=k->ps i<=i:=by
   intro d
   induction d with
   | zero=>intro i e2;have:i=k:=by omega
           subst this;omega
   | succ d ih=>intro i e2;have h3:=ih (i+1) oMx;have:=h.asc i (i+1) oMx oMx;omega
  have:=key (k-i) i oMx;have:=h.ge i oMx;omega
 have:i=k:=by omega
 subst this;exact e
theorem Gau.full (h:Gau m N c F ps r v odd) (hr:r=c):∀ i,i<r->ps i=i:=by
 intro i hi
 have h1:=h.piv (r-1) oMx;have h2:=h.ge (r-1) oMx;exact h.same (k:=r-1) oMx oMx i oMx
theorem Gau.det_ (h:Gau n N n F ps r v odd):det n N=if r=n then (if odd then -1 else 1)*v else 0:=by
 have h1:=h.detm (fun j=>j)
 split
 ·rename_i e
  have:det n (fun i j=>F i j)=1:=by
   rw [<-zLx n]
   apply (zLt n).ext
   intro i j hi hj
   have:=h.unit j i oMx hi;rw [h.full e j oMx] at this;exact this
  rw [this] at h1;have e2:(fun i j=>N i j)=N:=rfl;rw [e2] at h1
  rw [h1];grind
 rename_i e
 have hr:=h.rm;have:det n (fun i j=>F i j)=0:=(zLt n).zero_row _ (i:=r) oMx (fun k hk=>h.zero r k lRx oMx hk);rw [this] at h1;have e2:(fun i j=>N i j)=N:=rfl;rw [e2] at h1
 rw [h1];grind
theorem xCd {n k:Nat} (e:Nat->Rat) (G:mRx) (y:Nat->Rat):xBt n (fun j=>xBt k (fun t=>e t*G t j)*y j)=xBt k fun t=>e t*xBt n fun j=>G t j*y j:=by
 have h1:∀ j,xBt k (fun t=>e t*G t j)*y j=xBt k fun t=>e t*(G t j*y j):=fun j=>by
  rw [show xBt k (fun t=>e t*G t j)*y j=y j*xBt k (fun t=>e t*G t j) by grind,<-xBx]
  exact xBv fun t _=>by grind
 rw [xBv (fun j _=>h1 j),xBz]
 exact xBv fun t _=>by rw [xBx]
theorem Span.kills {k:Nat} {G:mRx} {x:Nat->Rat} (h:Span k G x) {n:Nat} {y:Nat->Rat} (hy:∀ t,t<k->xBt n (fun j=>G t j*y j)=0):xBt n (fun j=>x j*y j)=0:=by
 obtain ⟨e,he⟩:=h;rw [xBv (fun j _=>by rw [he j]),xCd]
 exact xCc fun t ht=>by rw [hy t ht];grind
def zPg (F:mRx) (a:Nat):Nat->Rat:=fun j=>if j=a then 1 else if j<a then-F j a else 0
theorem Gau.ker (h:Gau m N n F ps r v odd) {a:Nat} (ha:a<n) (h1:∀ i,i<a->i<r/\ps i=i) (h2:¬(a<r/\ps a=a)):∀ i,i<m->xBt n (fun j=>N i j*zPg F a j)=0:=by
 intro i hi
 refine (h.back i hi).kills fun t ht=>?_
 have har:a<=r:=by
  rcases Nat.eq_zero_or_pos a with h0|h0
  ·omega
  have:=(h1 (a-1) oMx).1;omega
 have hu:∀ k,k<a->F t k=idn t k:=fun k hk=>by
  have:=h.unit k t (h1 k hk).1 ht
  rwa [(h1 k hk).2] at this
 have hz:a<=t->F t a=0:=fun hat=>by
  rcases Nat.lt_or_ge t r with h3|h3
  ·refine h.lead t a h3 ?_;have h4:=h.ge a oMx
   have h5:ps a≠a:=fun e=>h2 ⟨oMx,e⟩
   rcases Nat.lt_or_ge a t with h6|h6
   ·have:=h.asc a t h6 h3;omega
   have:t=a:=by omega
   subst this;omega
  exact h.zero t a h3 ht ha
 rcases Nat.lt_or_ge t a with h3|h3
 ·rw [xCb (j:=t) (k:=a) h3 ha]
  ·unfold zPg;rw [if_neg oMx,if_pos h3,if_pos rfl,hu t h3]
   unfold idn;rw [if_pos rfl];grind
  intro k hk hne1 hne2
  unfold zPg;rw [if_neg hne2]
  split
  ·rename_i h4;rw [hu k h4];unfold idn;rw [if_neg (Ne.symm hne1)];grind
  grind
 refine xCc fun k hk=>?_
 unfold zPg
 split
 ·rename_i e;subst e;rw [hz h3];grind
 split
 ·rename_i h4;rw [hu k h4];unfold idn;rw [if_neg oMx];grind
 grind
theorem Gau.solves (h:Gau n N n F ps r v odd) (hr:r=n) (b:Nat):∀ i,i<n->xBt n (fun j=>N i j*F j b)=N i b:=by
 intro i hi
 obtain ⟨e,he⟩:=h.back i hi
 have hF:∀ t j,t<n->j<n->F t j=idn t j:=fun t j ht hj=>by
  have:=h.unit j t oMx ht
  rwa [h.full hr j oMx] at this
 have h1:∀ j,j<n->N i j=e j:=fun j hj=>by
  rw [he,xBy hj]
  ·rw [hF j j hj hj];unfold idn;rw [if_pos rfl];grind
  intro t ht hne;rw [hF t j ht hj];unfold idn;rw [if_neg hne];grind
 rw [he b]
 exact xBv fun j hj=>by rw [h1 j hj]
theorem Gau.only (h:Gau n N n F ps r v odd) (hr:r=n) (b:Nat) (x:Nat->Rat) (hx:∀ i,i<n->xBt n (fun j=>N i j*x j)=N i b):∀ i,i<n->x i=F i b:=by
 intro i hi
 obtain ⟨e,he⟩:=h.comb i hi
 have hF:∀ t j,t<n->j<n->F t j=idn t j:=fun t j ht hj=>by
  have:=h.unit j t oMx ht
  rwa [h.full hr j oMx] at this
 have h1:xBt n (fun j=>F i j*x j)=x i:=by
  rw [xBy hi]
  ·rw [hF i i hi hi];unfold idn;rw [if_pos rfl];grind
  intro j hj hne;rw [hF i j hi hj];unfold idn;rw [if_neg (Ne.symm hne)];grind
 rw [<-h1,xBv (fun j _=>by rw [he j]),xCd,he b]
 exact xBv fun t ht=>by rw [hx t ht]
end
def prodR:Nat->(Nat->Rat)->Rat
 | 0,_=>1
 | n+1,f=>prodR n f*f n
theorem zMa (n:Nat) (M:mRx) (d:Rat):det n (fun r c=>d*M r c)=d^n*det n M:=by
 have key:∀ k,k<=n->det n (fun r c=>if r<k then d*M r c else M r c)=d^k*det n M:=by
  intro k
  induction k with
  | zero=>intro _;rw [Rat.pow_zero];simp;try grind
  | succ k ih =>
   intro hk
   have h1:=(zLt n).scale (fun r c=>if r<k then d*M r c else M r c) (i:=k) oMx d (M k)
   have e1:upd (fun r c=>if r<k then d*M r c else M r c) k (fun c=>d*M k c)=fun r c=>if r<k+1 then d*M r c else M r c:=by
    funext r c
    unfold upd
    by_cases e:r=k
    ·subst e;simp
    have:r<k+1↔r<k:=by omega
    simp [e,this]
   have e2:upd (fun r c=>if r<k then d*M r c else M r c) k (M k)=fun r c=>if r<k then d*M r c else M r c:=by
    funext r c
    unfold upd
    by_cases e:r=k
    ·subst e;simp
    simp [e]
   rw [e1,e2,ih oMx] at h1
   rw [h1,Rat.pow_succ];grind
 rw [<-key n lRx]
 apply (zLt n).ext
 intro r c hr hc
 rw [if_pos hr]
def zPk (a b:Int):Int:=a/((a.gcd b:Nat):Int)*b
theorem lcmI_pos {a b:Int} (ha:0<a) (hb:0<b):0<zPk a b:=by
 unfold zPk
 have hg:0<((a.gcd b:Nat):Int):=by have:=Int.gcd_pos_of_ne_zero_left b (show a≠0 by omega);omega
 have h1:0<a/((a.gcd b:Nat):Int):=by
  obtain ⟨k,hk⟩:=Int.gcd_dvd_left a b;generalize ((a.gcd b:Nat):Int)=g at *;rw [hk,Int.mul_ediv_cancel_left _ oMx];rw [hk] at ha;exact Int.pos_of_mul_pos_right ha oMx
 exact Int.mul_pos h1 hb
theorem zMr (a b:Int):a ∣ zPk a b:=by
 unfold zPk;obtain ⟨k,hk⟩:=Int.gcd_dvd_left a b;obtain ⟨j,hj⟩:=Int.gcd_dvd_right a b
 by_cases h0:((a.gcd b:Nat):Int)=0
 ·rw [h0] at hk;simp at hk;subst hk;simp
 refine ⟨j,?_⟩
 have e1:a/((a.gcd b:Nat):Int)=k:=by
  have:=Int.mul_ediv_cancel_left k h0
  rwa [<-hk] at this
 rw [e1]
 calc k*b=k*(((a.gcd b:Nat):Int)*j):=by rw [<-hj]
  _=(((a.gcd b:Nat):Int)*k)*j:=by grind
  _=a*j:=by rw [<-hk]
theorem zMs (a b:Int):b ∣ zPk a b:=⟨a/((a.gcd b:Nat):Int),by unfold zPk;exact Int.mul_comm _ _⟩
def zLb (d:Int):List Rat->Int
 | []=>d
 | q::r=>zLb (zPk d (q.den:Int)) r
def zLi (d:Int):List (List Rat)->Int
 | []=>d
 | l::r=>zLi (zLb d l) r
theorem zLa (q:Rat):(0:Int)<(q.den:Int):=by have:=q.den_pos;omega
theorem zLg:∀ (l:List Rat) {d:Int},0<d->0<zLb d l
 | [],_,h=>h
 | q::r,_,h=>zLg r (lcmI_pos h (zLa q))
theorem zLe:∀ (l:List Rat) (d:Int),d ∣ zLb d l
 | [],d=>Int.dvd_refl d
 | q::r,d=>Int.dvd_trans (zMr d (q.den:Int)) (zLe r _)
theorem zLf:∀ (l:List Rat) (d:Int) (q:Rat),q∈l->(q.den:Int) ∣ zLb d l
 | p::r,d,q,h=>by
  rcases List.mem_cons.1 h with rfl|h
  ·exact Int.dvd_trans (zMs d (q.den:Int)) (zLe r _)
  exact zLf r _ q h
theorem zLn:∀ (l:List (List Rat)) {d:Int},0<d->0<zLi d l
 | [],_,h=>h
 | q::r,_,h=>zLn r (zLg q h)
theorem zLl:∀ (l:List (List Rat)) (d:Int),d ∣ zLi d l
 | [],d=>Int.dvd_refl d
 | q::r,d=>Int.dvd_trans (zLe q d) (zLl r _)
theorem zLm:∀ (l:List (List Rat)) (d:Int) (m:List Rat) (q:Rat),m∈l->q∈m->(q.den:Int) ∣ zLi d l
 | p::r,d,m,q,h,h2=>by
  rcases List.mem_cons.1 h with rfl|h
  ·exact Int.dvd_trans (zLf m d q h2) (zLl r _)
  exact zLm r _ m q h h2
theorem zLh:∀ (l:List Rat) (d:Int) (q:Rat),zLb d (l++[q])=zPk (zLb d l) (q.den:Int)
 | [],_,_=>rfl
 | _::r,_,q=>zLh r _ q
theorem zLo:∀ (l:List (List Rat)) (d:Int) (m:List Rat),zLi d (l++[m])=zLb (zLi d l) m
 | [],_,_=>rfl
 | _::r,_,m=>zLo r _ m
def celN (d:Int) (q:Rat):Int:=q.num*(d/(q.den:Int))
theorem celN_eq {d:Int} {q:Rat} (h:(q.den:Int) ∣ d):((celN d q:Int):Rat)=d*q:=by
 obtain ⟨k,rfl⟩:=h;unfold celN;have hq:=zLa q;rw [Int.mul_ediv_cancel_left _ oMx,Rat.intCast_mul,Rat.intCast_mul]
 have h1:q=(q.num:Rat)/((q.den:Int):Rat):=by
  rw [Rat.intCast_natCast];have:=Rat.num_divInt_den q;rw [Rat.divInt_eq_div] at this;exact this.symm
 have h2:((q.den:Int):Rat)≠0:=by rw [Ne,Rat.intCast_eq_zero_iff];omega
 generalize ((q.den:Int):Rat)=dd at *;generalize (q.num:Rat)=nn at *;rw [h1]
 grind
end Go.Proofs.YtbjaplppalcmgaaGreatDoor
