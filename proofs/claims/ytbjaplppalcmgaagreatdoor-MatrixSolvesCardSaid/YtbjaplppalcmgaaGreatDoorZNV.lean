import Derived.Test.YtbjaplppalcmgaaGreatDoorZMV
set_option maxHeartbeats 16000000
set_option maxRecDepth 100000
set_option linter.unusedVariables false
set_option linter.unusedSimpArgs false
set_option linter.unusedSectionVars false
namespace Go.Proofs.YtbjaplppalcmgaaGreatDoor
open Go.RowKit
section
variable {X:mRx} {r c i k m n:Nat}
def dvG (X:mRx) (r c k:Nat):Nat->Nat->Rat:=fun a b=>if a=r/\b<k then X r b/X r c else X a b
theorem dvG_zero (X:mRx) (r c:Nat):dvG X r c 0=X:=by
 funext a b
 unfold dvG;rw [if_neg oMx]
theorem dvG_old (X:mRx) (r c k:Nat):dvG X r c k r k=X r k:=by
 unfold dvG;rw [if_neg oMx]
theorem dvG_step (X:mRx) (r c k:Nat):(fun a b=>if a=r/\b=k then X r k/X r c else dvG X r c k a b)=dvG X r c (k+1):=by
 funext a b
 unfold dvG
 by_cases h:a=r/\b=k
 ·obtain ⟨rfl,rfl⟩:=h;rw [if_pos ⟨rfl,rfl⟩,if_pos oMx]
 rw [if_neg h]
 by_cases h2:a=r/\b<k
 ·rw [if_pos h2,if_pos oMx]
 rw [if_neg h2,if_neg oMx]
def sbG (X:mRx) (r c i k:Nat):Nat->Nat->Rat:=fun a b=>if a=r then X r b/X r c else if a<i\/a=i/\b<k then X a b-X a c*(X r b/X r c) else X a b
theorem zYv (X:mRx) (r c m:Nat):∀ a b,b<m->sbG X r c 0 0 a b=dvG X r c m a b:=fun a b hb=>by
 unfold sbG dvG
 by_cases h:a=r
 ·rw [if_pos h,if_pos ⟨h,hb⟩]
 rw [if_neg h,if_neg oMx,if_neg oMx]
theorem sbG_old (X:mRx) (c k:Nat) (h:i≠r):sbG X r c i k i k=X i k:=by
 unfold sbG;rw [if_neg h,if_neg oMx]
theorem sbG_at (X:mRx) (c:Nat) {k b:Nat} (h:i≠r) (hb:k<=b):sbG X r c i k i b=X i b:=by
 unfold sbG;rw [if_neg h,if_neg oMx]
theorem sbG_piv (X:mRx) (r c i k b:Nat):sbG X r c i k r b=X r b/X r c:=if_pos rfl
theorem sbG_step (X:mRx) (c k:Nat) (h:i≠r):(fun a b=>if a=i/\b=k then X i k-X i c*(X r k/X r c) else sbG X r c i k a b)=sbG X r c i (k+1):=by
 funext a b
 unfold sbG
 by_cases h1:a=i/\b=k
 ·obtain ⟨rfl,rfl⟩:=h1;rw [if_pos ⟨rfl,rfl⟩,if_neg h,if_pos oMx]
 rw [if_neg h1]
 by_cases h3:a=r
 ·rw [if_pos h3,if_pos h3]
 rw [if_neg h3,if_neg h3]
 by_cases h2:a<i\/a=i/\b<k
 ·rw [if_pos h2,if_pos oMx]
 rw [if_neg h2,if_neg oMx]
theorem sbG_row (X:mRx) (r c i m:Nat):∀ a b,b<m->sbG X r c (i+1) 0 a b=sbG X r c i m a b:=fun a b hb=>by
 unfold sbG
 by_cases h3:a=r
 ·rw [if_pos h3,if_pos h3]
 rw [if_neg h3,if_neg h3]
 by_cases h:a<i+1\/a=i+1/\b<0
 ·rw [if_pos h,if_pos oMx]
 rw [if_neg h,if_neg oMx]
theorem zYu (h:i=r\/X i c=0):sbG X r c (i+1) 0=sbG X r c i 0:=by
 funext a b
 unfold sbG
 by_cases h3:a=r
 ·rw [if_pos h3,if_pos h3]
 rw [if_neg h3,if_neg h3]
 by_cases h2:a<i\/a=i/\b<0
 ·rw [if_pos h2,if_pos oMx]
 rw [if_neg h2]
 by_cases h4:a=i
 ·subst h4;rw [if_pos oMx]
  rcases h with h|h
  ·exact absurd h h3
  rw [h];grind
 rw [if_neg oMx]
theorem sbG_end (F:mRx) (p r c n:Nat):∀ a b,a<n->xAr F p r c a b=sbG (swp F p r) r c n 0 a b:=fun a b ha=>by
 have e:swp F p r r=F p:=by show F (sw p r r)=F p;rw [sw_r]
 unfold sbG xAr;rw [e]
 by_cases h3:a=r
 ·rw [if_pos h3,if_pos h3]
 rw [if_neg h3,if_neg h3,if_pos (.inl ha)]
 rfl
end
def gdG:Nat->Nat
 | 0=>30
 | r+1=>4*gdG r+1
theorem zNy:∀ r,r<=5->gdG r<=31061
 | 0,_=>by decide
 | 1,_=>by decide
 | 2,_=>by decide
 | 3,_=>by decide
 | 4,_=>by decide
 | 5,_=>by decide
 | n+6,h=>absurd h oMx
def pdG:Nat->Nat
 | 0=>1
 | r+1=>pdG r+gdG r
theorem pdG_le:∀ r,r<=5->pdG r<=40000
 | 0,_=>by decide
 | 1,_=>by decide
 | 2,_=>by decide
 | 3,_=>by decide
 | 4,_=>by decide
 | 5,_=>by decide
 | n+6,h=>absurd h oMx
theorem zAl.szG {d:Nat} {q:Rat} (h:zAl d q):Sz d q:=by
 have e:(10:Nat)^d<=1000000000^d:=Nat.pow_le_pow_left dCx d;obtain ⟨h1,h2⟩:=h;unfold Dig at h1 h2;exact ⟨zQb oMx,zQb oMx⟩
section
variable {X:mRx} {r c d m n:Nat}
theorem sbG_dig (h:∀ a b,a<n->b<m->zAl d (X a b)) (hr:r<n) (hc:c<m) (hp:X r c≠0) {a b:Nat} (ha:a<n) (hb:b<m):zAl (2*d) (X r b/X r c)/\zAl (3*d) (X a c*(X r b/X r c)):=by
 have h1:=(h r b hr hb).div (h r c hr hc) hp rfl rfl;exact ⟨h1.mono oMx,((h a c ha hc).mul h1 rfl rfl).mono oMx⟩
theorem swp_digG {p:Nat} (h:∀ a b,a<n->b<m->zAl d (X a b)) (hp:p<n) (hr:r<n):∀ a b,a<n->b<m->zAl d (swp X p r a b):=fun a b ha hb=>h _ b (xCi hp hr ha) hb
theorem step_dig {p:Nat} (h:∀ a b,a<n->b<m->zAl d (X a b)) (hp:p<n) (hr:r<n) (hc:c<m) (h0:X p c≠0):∀ a b,a<n->b<m->zAl (4*d+1) (xAr X p r c a b):=fun a b ha hb=>by
 have h1:=(h p b hp hb).div (h p c hp hc) h0 rfl rfl;unfold xAr
 split
 ·exact h1.mono oMx
 exact ((h _ b (xCi hp hr ha) hb).sub ((h _ c (xCi hp hr ha) hc).mul h1 rfl rfl) rfl rfl).mono oMx
end
theorem zZi (odd:Bool) {d:Nat} {q:Rat} (h:zAl d q):zAl d ((if odd then -1 else 1)*q):=by
 cases odd
 ·rw [show (if false then -1 else 1:Rat)*q=q by simp;try grind];exact h
 rw [show (if true then -1 else 1:Rat)*q = -q by simp;try grind];obtain ⟨h1,h2⟩:=h;refine ⟨?_,?_⟩
 ·unfold Dig at *;rw [Rat.neg_num,Int.natAbs_neg];exact h1
 rw [Rat.neg_den];exact h2
theorem Gau.rest {m c:Nat} {N F:mRx} {ps:Nat->Nat} {v:Rat} {odd:Bool} (h:Gau m N c F ps m v odd):∀ {c':Nat},c<=c'->Gau m N c' F ps m v odd:=by
 intro c' hc
 obtain ⟨k,rfl⟩:∃ k,c'=c+k:=⟨c'-c,oMx⟩
 induction k with
 | zero=>exact h
 | succ k ih=>exact (ih oMx).none fun j h1 h2=>by omega
theorem xFn (ps:Nat->Nat) (r c:Nat):(List.range (r+1)).map (fun i=>if i=r then c else ps i)=(List.range r).map ps++[c]:=by
 rw [List.range_succ,List.map_append,List.map_singleton,if_pos rfl]
 congr 1
 refine List.map_congr_left fun i hi=>?_
 rw [List.mem_range] at hi;rw [if_neg oMx]
def upD (q d:Nat):Nat:=q*(d/Nat.gcd q d)
theorem upD_pos {q d:Nat} (hq:0<q) (hd:0<d):0<upD q d:=Nat.mul_pos hq (Nat.div_pos (Nat.le_of_dvd hd (Nat.gcd_dvd_right q d)) (Nat.gcd_pos_of_pos_left d hq))
theorem upD_le {q d:Nat} (hq:0<q) (hd:0<d):q<=upD q d:=Nat.le_mul_of_pos_right q (Nat.div_pos (Nat.le_of_dvd hd (Nat.gcd_dvd_right q d)) (Nat.gcd_pos_of_pos_left d hq))
theorem upD_int (q d:Nat) (hq:0<q):((upD q d:Nat):Int)=zPk (q:Int) (d:Int):=by
 unfold upD zPk;have hg:Int.gcd (q:Int) (d:Int)=Nat.gcd q d:=rfl;rw [hg];obtain ⟨a,ha⟩:=Nat.gcd_dvd_left q d;obtain ⟨b,hb⟩:=Nat.gcd_dvd_right q d;have hp:=Nat.gcd_pos_of_pos_left d hq;generalize Nat.gcd q d=g at *
 have e1:d/g=b:=by rw [hb];exact Nat.mul_div_cancel_left b hp
 have e2:(q:Int)/(g:Int)=(a:Int):=by rw [ha,Int.natCast_mul];exact Int.mul_ediv_cancel_left _ oMx
 rw [e1,e2];subst ha hb;rw [Int.natCast_mul,Int.natCast_mul,Int.natCast_mul]
 grind
def qC (M:mRx) (i q:Nat):Nat->Nat
 | 0=>q
 | k+1=>upD (qC M i q k) (M i k).den
def qR (M:mRx) (n:Nat):Nat->Nat
 | 0=>1
 | i+1=>qC M i (qR M n i) n
section
variable {M:mRx} {i k m n q N:Nat}
theorem zVm (hq:0<q):∀ k,0<qC M i q k
 | 0=>hq
 | k+1=>upD_pos (zVm hq k) (M i k).den_pos
theorem zVo:∀ i,0<qR M n i
 | 0=>Nat.one_pos
 | i+1=>zVm (zVo i) n
theorem qC_le (hq:0<q) {k':Nat} (h:k<=k'):qC M i q k<=qC M i q k':=by
 induction k' with
 | zero=>obtain rfl:k=0:=by omega
         exact lRx
 | succ k' ih =>
  rcases Nat.lt_or_ge k (k'+1) with h1|h1
  ·exact Nat.le_trans (ih oMx) (upD_le (zVm hq k') (M i k').den_pos)
  obtain rfl:k=k'+1:=by omega
  exact lRx
theorem qR_le {i':Nat} (h:i<=i'):qR M n i<=qR M n i':=by
 induction i' with
 | zero=>obtain rfl:i=0:=by omega
         exact lRx
 | succ i' ih =>
  rcases Nat.lt_or_ge i (i'+1) with h1|h1
  ·exact Nat.le_trans (ih oMx) (qC_le (k:=0) (zVo i') oLx)
  obtain rfl:i=i'+1:=by omega
  exact lRx
theorem qC_all (hi:i<m) (hk:k<=n):qC M i (qR M n i) k<=qR M n m:=Nat.le_trans (qC_le (zVo i) hk) (qR_le (M:=M) (n:=n) (show i+1<=m by omega))
theorem zSf {a b:Nat} (h:a<=b):Lib.nDigits a<=Lib.nDigits b:=by
 have hb:=zSg (Lib.nDigits b) a (Nat.lt_of_le_of_lt h (Nat.lt_of_lt_of_le (zQu (b+1) b (Nat.lt_trans (Nat.lt_succ_self b) (lt_pow_self (b+1)))) (Nat.pow_le_pow_right dCx (Nat.le_succ _))))
 rcases Nat.lt_or_ge (Lib.nDigits b) (Lib.nDigits a) with h1|h1
 ·exfalso
  have h2:b<10^Lib.nDigits b:=zQu (b+1) b (Nat.lt_trans (Nat.lt_succ_self b) (lt_pow_self (b+1)));obtain ⟨d,hd⟩:=eXx (Lib.nDigits b)
  rcases Nat.eq_zero_or_pos d with h0|h0
  ·rw [hd,h0] at h2
   have:b=0:=by simpa using h2
   subst this
   obtain rfl:a=0:=by omega
   omega
  obtain ⟨d',rfl⟩:∃ d',d=d'+1:=⟨d-1,oMx⟩;have:=zSg d' a (by rw [<-hd];omega);omega
 exact h1
def hvR (N m n:Nat) (M:mRx):Prop:=600<N*Lib.nDigits (qR M n m)\/(∃ i k,i<m/\k<n/\600<N*Lib.nDigits ((M i k).num*((qR M n m/(M i k).den:Nat):Int)).natAbs)\/600<N
theorem hvR_den (hi:i<m) (hk:k<=n) (h:600<N*Lib.nDigits (qC M i (qR M n i) k)):hvR N m n M := .inl (Nat.lt_of_lt_of_le h (Nat.mul_le_mul_left N (zSf (qC_all hi hk))))
theorem zVl (hq:0<q):∀ k,((qC M i q k:Nat):Int)=zLb (q:Int) ((List.range k).map (M i))
 | 0=>rfl
 | k+1=>by
  rw [List.range_succ,List.map_append,List.map_singleton,zLh,<-zVl hq k];exact upD_int _ _ (zVm hq k)
theorem zVn:∀ m,((qR M n m:Nat):Int)=zLi 1 ((List.range m).map fun i=>(List.range n).map (M i))
 | 0=>rfl
 | m+1=>by
  rw [List.range_succ,List.map_append,List.map_singleton,zLo,<-zVn m];exact zVl (zVo m) n
theorem zQs {f:Nat->Nat} {a b:Nat}:∀ {n},b<zRy f a n↔b<a\/∃ k,k<n/\b<f k
 | 0=>⟨.inl,fun h=>h.elim id fun ⟨k,hk,_⟩=>absurd hk (Nat.not_lt_zero k)⟩
 | n+1=>by
  show b<max (zRy f a n) (f n)↔_
  rw [show (b<max (zRy f a n) (f n)↔b<zRy f a n\/b<f n) by omega,zQs]
  constructor
  ·rintro ((h|⟨k,hk,h⟩)|h)
   ·exact .inl h
   ·exact .inr ⟨k,oMx,h⟩
   exact .inr ⟨n,oMx,h⟩
  rintro (h|⟨k,hk,h⟩)
  ·exact .inl (.inl h)
  rcases Nat.lt_or_ge k n with h1|h1
  ·exact .inl (.inr ⟨k,h1,h⟩)
  obtain rfl:k=n:=by omega
  exact .inr h
theorem zQt {f:Nat->Nat->Nat} {a b:Nat}:∀ {m},b<zSb f n a m↔b<a\/∃ i k,i<m/\k<n/\b<f i k
 | 0=>⟨.inl,fun h=>h.elim id fun ⟨k,_,hk,_⟩=>absurd hk (Nat.not_lt_zero k)⟩
 | m+1=>by
  show b<zRy (f m) (zSb f n a m) n↔_
  rw [zQs,zQt]
  constructor
  ·rintro ((h|⟨i,k,hi,hk,h⟩)|⟨k,hk,h⟩)
   ·exact .inl h
   ·exact .inr ⟨i,k,oMx,hk,h⟩
   exact .inr ⟨m,k,oMx,hk,h⟩
  rintro (h|⟨i,k,hi,hk,h⟩)
  ·exact .inl (.inl h)
  rcases Nat.lt_or_ge i m with h1|h1
  ·exact .inl (.inr ⟨i,k,h1,hk,h⟩)
  obtain rfl:i=m:=by omega
  exact .inr ⟨k,hk,h⟩
end
theorem zRu {N b x:Nat} (hN:0<N):b<N*x↔b/N<x:=by
 rw [Nat.div_lt_iff_lt_mul hN,Nat.mul_comm]
theorem nDig_pos (n:Nat):1<=Lib.nDigits n:=by
 unfold Lib.nDigits
 split<;>omega
theorem zOj {rs:List zGh} {m n:Nat} {M:mRx} (h:zCi rs m n M) (hm:1<=m):hvR (max m n) m n M↔600<zOh rs n:=by
 have hN:0<max m n:=by omega
 have e0:zRf rs=(List.range m).map fun i=>(List.range n).map (M i):=by
  refine List.ext_getElem (by simp [zRf,h.len]) fun i h1 h2=>?_
  have hi:i<m:=by simpa using h2
  refine List.ext_getElem (by simp [zRf,h.rowAt (show i<rs.length by rw [h.len];exact hi)]) fun k h3 h4=>?_
  have hk:k<n:=by simpa using h4
  have e:=h.q hi hk
  have e2:(zRf rs)[i][k]=zRi rs i k:=by
   unfold zRi;rw [List.getD_eq_getElem?_getD,List.getD_eq_getElem?_getD,List.getElem?_eq_getElem h1,Option.getD_some,List.getElem?_eq_getElem h3,Option.getD_some]
  rw [e2,e]
  simp
 have eD:zQz rs=((qR M n m:Nat):Int):=by unfold zQz;rw [e0,zVn]
 have eP:∀ i k,i<m->k<n->(zRg rs i k)=(M i k).num*((qR M n m/(M i k).den:Nat):Int):=fun i k hi hk=>by
  unfold zRg celN;rw [h.q hi hk,eD]
  rfl
 unfold zOh zMe;rw [h.len,zRu hN,zQt];unfold hvR;rw [zRu hN,eD];have hq:nd ((qR M n m:Nat):Int)=Lib.nDigits (qR M n m):=rfl;rw [hq]
 constructor
 ·rintro (h1|⟨i,k,hi,hk,h1⟩|h1)
  ·exact .inl h1
  ·refine .inr ⟨i,k,hi,hk,?_⟩;rw [zRu hN] at h1
   show _<nd (zRg rs i k)
   rw [eP i k hi hk];exact h1
  refine .inl ?_;have:=nDig_pos (qR M n m);have h2:600/max m n=0:=Nat.div_eq_of_lt h1;omega
 rintro (h1|⟨i,k,hi,hk,h1⟩)
 ·exact .inl h1
 refine .inr (.inl ⟨i,k,hi,hk,?_⟩);rw [zRu hN];have h2:600/max m n<nd (zRg rs i k):=h1;rw [eP i k hi hk] at h2;exact h2
def zGv (n:Nat) (M:mRx) (b:Nat->Rat) (w:World) (e:Ending) (w':World):Prop :=
 ((hvR n n n M\/hvR n n 1 fun i _=>b i)/\e = .returned (.tuple #[.slice none 0 0,.int .i64 3])/\Below w.heap.size w w') \/
 (¬(hvR n n n M\/hvR n n 1 fun i _=>b i)/\∃ r:Nat,Rk n n M r/\((r<n/\e = .returned (.tuple #[.slice none 0 0,.int .i64 6])/\Below w.heap.size w w')\/(r=n/\∃ x:Nat->Rat,(∀ i,i<n->zHy n M x i=b i)/\zGc w ((List.range n).map x) e w')))
def SpInv (n:Nat) (M:mRx) (w:World) (e:Ending) (w':World):Prop :=
 (hvR n n n M/\e = .returned (.tuple #[.slice none 0 0,.int .i64 3])/\Below w.heap.size w w') \/
 (¬hvR n n n M/\∃ r:Nat,Rk n n M r/\((r<n/\e = .returned (.tuple #[.slice none 0 0,.int .i64 6])/\Below w.heap.size w w')\/(r=n/\∃ X:Nat->Nat->Rat,(∀ i k,i<n->k<n->mulM n M X i k=idn i k)/\zFs w n n X e w')))
def zGr (n:Nat) (M:mRx) (w:World) (e:Ending) (w':World):Prop :=
 (hvR n n n M/\e = .returned (.tuple #[.string ⟨#[]⟩,.int .i64 3])/\Below w.heap.size w w') \/
 (¬hvR n n n M/\e = .returned (.tuple #[.string (zUa (det n M)),.int .i64 (zUb (det n M))])/\Below w.heap.size w w')
def zGu (m n:Nat) (M:mRx) (w:World) (e:Ending) (w':World):Prop :=
 (hvR (max m n) m n M/\e = .returned (.tuple #[.int .i64 0,.int .i64 3])/\Below w.heap.size w w') \/
 (¬hvR (max m n) m n M/\∃ r:Nat,Rk m n M r/\e = .returned (.tuple #[.int .i64 (r:Int),.int .i64 0])/\Below w.heap.size w w')
def zBq (m n:Nat) (M:mRx) (a:Nat) (x:Nat->Rat):Prop :=
 a<n/\x a=1/\(∀ j,a<j->x j=0)/\(∀ i,i<m->zHy n M x i=0)/\∀ y:Nat->Rat,(∀ j,a<=j->y j=0)->(∀ i,i<m->zHy n M y i=0)->∀ j,y j=0
def zGt (m n:Nat) (M:mRx) (w:World) (e:Ending) (w':World):Prop :=
 (hvR (max m n) m n M/\e = .returned (.tuple #[.slice none 0 0,.int .i64 3])/\Below w.heap.size w w') \/
 (¬hvR (max m n) m n M/\((Rk m n M n/\e = .returned (.tuple #[.slice none 0 0,.int .i64 12])/\Below w.heap.size w w')\/(∃ a x,zBq m n M a x/\zGc w ((List.range n).map x) e w')))
section
variable {m n:Nat} {M:mRx} {a a':Nat} {x x':Nat->Rat} {b:Nat->Rat}
theorem zBq.only (h:zBq m n M a x) (h':zBq m n M a' x'):a=a'/\x=x':=by
 obtain ⟨h1,h2,h3,h4,h5⟩:=h;obtain ⟨k1,k2,k3,k4,k5⟩:=h'
 have e:a=a':=by
  rcases Nat.lt_trichotomy a a' with e|e|e
  ·exfalso
   have:=k5 x (fun j hj=>h3 j oMx) h4 a;rw [h2] at this;exact absurd this dCx
  ·exact e
  exfalso
  have:=h5 x' (fun j hj=>k3 j oMx) k4 a';rw [k2] at this;exact absurd this dCx
 subst e;refine ⟨rfl,funext fun j=>?_⟩
 have:=h5 (fun j=>x j-x' j) (fun j hj=>by
  rcases Nat.eq_or_lt_of_le hj with e|e
  ·subst e;rw [h2,k2];grind
  ·rw [h3 j e,k3 j e];grind) (fun i hi=>by
  have e1:=h4 i hi;have e2:=k4 i hi
  have e3:zHy n M (fun j=>x j-x' j) i=zHy n M x i+(-1)*zHy n M x' i:=by
   unfold zHy;rw [<-xBx,<-xBu]
   exact xBv fun j _=>by grind
  rw [e3,e1,e2]
  grind) j
 grind
theorem zNx (m:Nat) (N:mRx):∀ c,∃ F ps r v odd,Gau m N c F ps r v odd
 | 0=>⟨N,fun _=>0,0,1,false,Gau.start m N _⟩
 | c+1=>by
  obtain ⟨F,ps,r,v,odd,h⟩:=zNx m N c
  by_cases hp:∃ p,r<=p/\p<m/\F p c≠0
  ·obtain ⟨p,h1,h2,h3⟩:=hp;exact ⟨_,_,_,_,_,h.step h1 h2 h3⟩
  exact ⟨F,ps,r,v,odd,h.none fun j h1 h2=>Classical.byContradiction fun h3=>hp ⟨j,h1,h2,h3⟩⟩
theorem xAd (hk:Rk n n M n) (hx:∀ i,i<n->zHy n M x i=b i) (hx':∀ i,i<n->zHy n M x' i=b i):∀ i,i<n->x i=x' i:=by
 obtain ⟨F,ps,r,v,odd,h⟩:=zNx n (fun i j=>if j<n then M i j else b i) n;have hr:r=n:=(h.rk.congr fun i k hi hk=>if_pos hk).same hk
 have hs:∀ y:Nat->Rat,(∀ i,i<n->zHy n M y i=b i)->∀ i,i<n->y i=F i n:=fun y hy=>h.only hr n y fun i hi=>by
  rw [if_neg (Nat.lt_irrefl n),<-hy i hi]
  exact xBv fun j hj=>by rw [if_pos hj]
 intro i hi
 rw [hs x hx i hi,hs x' hx' i hi]
theorem zOs {X Y:mRx} (hk:Rk n n M n) (hX:∀ i k,i<n->k<n->mulM n M X i k=idn i k) (hY:∀ i k,i<n->k<n->mulM n M Y i k=idn i k):∀ i k,i<n->k<n->X i k=Y i k:=fun i k hi hk2 =>
 xAd (x:=fun j=>X j k) (x':=fun j=>Y j k) (b:=fun i=>idn i k) hk (fun i hi=>hX i k hi hk2) (fun i hi=>hY i k hi hk2) i hi
theorem Gau.kerOf {F:mRx} {ps:Nat->Nat} {r:Nat} {v:Rat} {odd:Bool} (h:Gau m M n F ps r v odd) (ha:a<n) (h1:∀ i,i<a->i<r/\ps i=i) (h2:¬(a<r/\ps a=a)):zBq m n M a (zPg F a):=by
 refine ⟨ha,if_pos rfl,fun j hj=>?_,fun i hi=>h.ker ha h1 h2 i hi,fun y hy hM j=>?_⟩
 ·unfold zPg;rw [if_neg oMx,if_neg oMx]
 rcases Nat.lt_or_ge j a with hj|hj
 ·obtain ⟨hjr,hpj⟩:=h1 j hj;have hrm:=h.rm
  have hs:=(h.comb j oMx).kills (n:=n) (y:=y) fun t ht=>hM t ht
  rw [xBy (k:=j) (show j<n by omega) fun k hk hne=>by
   rcases Nat.lt_or_ge k a with h3|h3
   ·obtain ⟨hkr,hpk⟩:=h1 k h3;have:=h.unit k j hkr oMx;rw [hpk] at this;rw [this];unfold idn;rw [if_neg (Ne.symm hne)]
    grind
   rw [hy k h3];grind] at hs
  have:=h.unit j j hjr oMx;rw [hpj] at this;rw [this] at hs;unfold idn at hs;rw [if_pos rfl] at hs
  grind
 exact hy j hj
end
section
variable {A Ab:oAx} {c cb m n:Nat} {M:mRx} {b:Nat->Rat} {w:World}
theorem PSol_sp (h:zCm w A n n M) (hv:VcIn w Ab n b) (hn1:1<=n) (hn:n<=12) (henv:Env w):Calls Tryz.prog 13 #[.slice A n c,.slice Ab n cb] w (zGv n M b w):=by
 obtain ⟨rs,h1,h2⟩:=h;obtain ⟨ss,h3,h4⟩:=hv;have hl:=h2.len;have hsl:=h4.len;have hf:=h2.fin hn1 oMx oMx;have hc:=matF_col h4;have hfc:zBb (zJo ss) 1:=hc.fin hn1 oMx dCx;have hv1:=zOj h2 hn1;have hv2:=zOj hc hn1;rw [Nat.max_self] at hv1;rw [Nat.max_eq_left hn1] at hv2
 have hcp:∀ i k,i<n->k<n->((zRg rs i k:Int):Rat)=zQz rs*M i k:=fun i k hi hk=>h2.cellP hf hi hk
 have hcb:∀ i,i<n->((zRg (zJo ss) i 0:Int):Rat)=zQz (zJo ss)*b i:=fun i hi=>hc.cellP hfc hi dCx
 have:=zGq A Ab c cb rs ss w h1 (by rw [hl];exact hf) oMx h3 oMx h4.valid henv;rw [hl,hsl] at this;refine this.mono ?_;clear this
 by_cases hH:hvR n n n M\/hvR n n 1 fun i _=>b i
 ·have e1:(decide (600<zOh rs n) || decide (600<zOh (zJo ss) 1))=true:=by
   rw [Bool.or_eq_true,decide_eq_true_eq,decide_eq_true_eq,<-hv1,<-hv2];exact hH
  rw [e1];rintro e w' ⟨rfl,hb⟩;exact .inl ⟨hH,rfl,hb⟩
 have e1:(decide (600<zOh rs n) || decide (600<zOh (zJo ss) 1))=false:=by
  rw [Bool.or_eq_false_iff,decide_eq_false_iff_not,decide_eq_false_iff_not,<-hv1,<-hv2];exact ⟨fun h=>hH (.inl h),fun h=>hH (.inr h)⟩
 rw [e1]
 have hNl:∀ i k,i<n->k<n->((xAb rs ss i k:Int):Rat)=zQz rs*M i k:=fun i k hi hk=>by
  unfold xAb;rw [hl,if_neg oMx];exact hcp i k hi hk
 have hNr:∀ i,i<n->((xAb rs ss i n:Int):Rat)=zQz (zJo ss)*b i:=fun i hi=>by
  unfold xAb;rw [hl,if_pos rfl];exact hcb i hi
 obtain ⟨F,hg,hP⟩:=zMt n (xAb rs ss) n;have hrk:Rk n n M (eli n (xAb rs ss) n).ps.length:=Rk.unscale (zRb rs) (hg.rk.congr hNl)
 have hQ:∀ i,xAc rs ss (eli n (xAb rs ss) n) i=Rat.divInt ((eli n (xAb rs ss) n).P i n*zQz rs) ((eli n (xAb rs ss) n).v*zQz (zJo ss)):=fun i=>by
  unfold xAc;rw [hl]
 generalize eli n (xAb rs ss) n=s at *;have hvR:=hg.v0;have hDR:(zQz (zJo ss):Rat)≠0:=zRb _;have hDA:(zQz rs:Rat)≠0:=zRb _;have hrm:=hg.rm;rintro e w' (⟨hlt,rfl,hb⟩|⟨he,hr⟩)
 ·exact .inr ⟨hH,_,hrk,.inl ⟨hlt,rfl,hb⟩⟩
 have hx:∀ k,k<n->xAc rs ss s k=F k n*zQz rs/zQz (zJo ss):=fun k hk=>by
  rw [hQ,Rat.divInt_eq_div,Rat.intCast_mul,Rat.intCast_mul,hP k n oMx]
  grind
 refine .inr ⟨hH,_,hrk,.inr ⟨he,xAc rs ss s,fun i hi=>?_,hr⟩⟩;have h5:=hg.solves he n i hi;rw [hNr i hi] at h5
 have h6:zHy n M (xAc rs ss s) i=xBt n (fun j=>(1/(zQz (zJo ss):Rat))*(((xAb rs ss i j:Int):Rat)*F j n)):=xBv fun j hj=>by
  rw [hNl i j hi hj,hx j hj]
  grind
 rw [h6,xBx,h5]
 grind
theorem PInv_sp (h:zCm w A n n M) (hn1:1<=n) (hn:n<=12) (henv:Env w):Calls Tryz.prog 16 #[.slice A n c] w (SpInv n M w):=by
 obtain ⟨rs,h1,h2⟩:=h;have hl:=h2.len;have hf:=h2.fin hn1 oMx oMx;have hv1:=zOj h2 hn1;rw [Nat.max_self] at hv1
 have hcp:∀ i k,i<n->k<n->((zRg rs i k:Int):Rat)=zQz rs*M i k:=fun i k hi hk=>h2.cellP hf hi hk
 have:=zBl A c rs w h1 (by rw [hl];exact hf) oMx henv;rw [hl] at this;refine this.mono ?_;clear this
 by_cases hH:hvR n n n M
 ·rw [decide_eq_true (hv1.1 hH)];rintro e w' ⟨rfl,hb⟩;exact .inl ⟨hH,rfl,hb⟩
 rw [decide_eq_false fun h=>hH (hv1.2 h)]
 have hNl:∀ i k,i<n->k<n->((zOr rs i k:Int):Rat)=zQz rs*M i k:=fun i k hi hk=>by
  unfold zOr;rw [hl,if_pos hk];exact hcp i k hi hk
 have hNr:∀ i k,((zOr rs i (n+k):Int):Rat)=idn i k:=fun i k=>by
  unfold zOr;rw [hl,if_neg oMx,Nat.add_sub_cancel_left];exact idnZ_q _ _
 obtain ⟨F,hg,hP⟩:=zMt n (zOr rs) n;have hrk:Rk n n M (eli n (zOr rs) n).ps.length:=Rk.unscale (zRb rs) (hg.rk.congr hNl)
 have hQ:∀ i k,invQ rs (eli n (zOr rs) n) i k=Rat.divInt ((eli n (zOr rs) n).P i (n+k)*zQz rs) (eli n (zOr rs) n).v:=fun i k=>by
  unfold invQ;rw [hl]
 generalize eli n (zOr rs) n=s at *;have hvR:=hg.v0;have hDA:(zQz rs:Rat)≠0:=zRb _;rintro e w' (⟨hlt,rfl,hb⟩|⟨he,hr⟩)
 ·exact .inr ⟨hH,_,hrk,.inl ⟨hlt,rfl,hb⟩⟩
 have hx:∀ i k,i<n->invQ rs s i k=F i (n+k)*zQz rs:=fun i k hi=>by
  rw [hQ,Rat.divInt_eq_div,Rat.intCast_mul,hP i (n+k) oMx]
  grind
 refine .inr ⟨hH,_,hrk,.inr ⟨he,invQ rs s,fun i k hi hk=>?_,hr⟩⟩;have h5:=hg.solves he (n+k) i hi;rw [hNr i k] at h5;rw [<-h5]
 exact xBv fun j hj=>by
  rw [hNl i j hi hj,hx j k hj]
  grind
theorem PDet_sp (h:zCm w A n n M) (hn1:1<=n) (hn:n<=12) (henv:Env w):Calls Tryz.prog 18 #[.slice A n c] w (zGr n M w):=by
 obtain ⟨rs,h1,h2⟩:=h;have hl:=h2.len;have hf:=h2.fin hn1 oMx oMx;have hv1:=zOj h2 hn1;rw [Nat.max_self] at hv1;have:=zAk A c rs w h1 (by rw [hl];exact hf) oMx henv;rw [hl] at this;refine this.mono ?_;rintro e w' ⟨rfl,hb⟩
 by_cases hH:hvR n n n M
 ·refine .inl ⟨hH,?_,hb⟩;unfold detS zLq;rw [hl,if_pos (hv1.1 hH),if_pos (hv1.1 hH)]
 refine .inr ⟨hH,?_,hb⟩
 obtain ⟨e1,e2⟩:=h2.detS fun h=>hH (hv1.2 h)
 rw [e1,e2]
theorem PRank_sp (h:zCm w A m n M) (hm1:1<=m) (hm:m<=12) (hn1:1<=n) (hn:n<=12) (henv:Env w):Calls Tryz.prog 20 #[.slice A m c] w (zGu m n M w):=by
 obtain ⟨rs,h1,h2⟩:=h;have hf:=h2.fin hm1 oMx oMx;have hl:=h2.len;have hv1:=zOj h2 hm1;have hrk:=h2.rk hf;rw [hl] at hrk;have:=Rank_any A c n rs w h1 hf oMx hn1 henv;rw [hl] at this;refine this.mono ?_
 by_cases hH:hvR (max m n) m n M
 ·rw [decide_eq_true (hv1.1 hH)];rintro e w' ⟨rfl,hb⟩;exact .inl ⟨hH,rfl,hb⟩
 rw [decide_eq_false fun h=>hH (hv1.2 h)];rintro e w' ⟨rfl,hb⟩;exact .inr ⟨hH,_,hrk,rfl,hb⟩
theorem zBq.unscale {d:Rat} (hd:d≠0) {N:mRx} (hN:∀ i k,i<m->k<n->N i k=d*M i k) {a:Nat} {x:Nat->Rat} (h:zBq m n N a x):zBq m n M a x:=by
 have he:∀ (y:Nat->Rat) i,i<m->zHy n N y i=d*zHy n M y i:=fun y i hi=>by
  unfold zHy;rw [<-xBx]
  exact xBv fun k hk=>by rw [hN i k hi hk];grind
 obtain ⟨h1,h2,h3,h4,h5⟩:=h;refine ⟨h1,h2,h3,fun i hi=>?_,fun y hy hM j=>h5 y hy (fun i hi=>by rw [he y i hi,hM i hi];grind) j⟩;have:=h4 i hi;rw [he x i hi] at this
 grind
theorem PKer_sp (h:zCm w A m n M) (hm1:1<=m) (hm:m<=12) (hn1:1<=n) (hn:n<=12) (henv:Env w):Calls Tryz.prog 22 #[.slice A m c] w (zGt m n M w):=by
 obtain ⟨rs,h1,h2⟩:=h;have hf:=h2.fin hm1 oMx oMx;have hl:=h2.len;have hv1:=zOj h2 hm1;have hrk:=h2.rk hf;rw [hl] at hrk;have:=zBw A c n rs w h1 hf oMx hn1 henv;rw [hl] at this;refine this.mono ?_
 by_cases hH:hvR (max m n) m n M
 ·rw [decide_eq_true (hv1.1 hH)];rintro e w' ⟨rfl,hb⟩;exact .inl ⟨hH,rfl,hb⟩
 rw [decide_eq_false fun h=>hH (hv1.2 h)];obtain ⟨F,hg,hP⟩:=zMt m (zRg rs) n;generalize eli m (zRg rs) n=s at *;rintro e w' (⟨he,rfl,hb⟩|⟨hlt,a,hff,hr⟩)
 ·exact .inr ⟨hH,.inl ⟨by rw [he] at hrk;exact hrk,rfl,hb⟩⟩
 obtain ⟨f1,f2,f3⟩:=hff
 have ha:a<n:=by omega
 have hrm:=hg.rm
 have hkv:zPf s a=zPg F a:=funext fun j=>by
  unfold zPf zPg
  split
  ·rfl
  split
  ·rename_i hja
   have e:=hP j a oMx;rw [Rat.divInt_eq_div];have hv:=hg.v0
   show ((-(s.P j a):Int):Rat)/(s.v:Rat)=_
   rw [Rat.intCast_neg,e]
   grind
  rfl
 rw [hkv] at hr;exact .inr ⟨hH,.inr ⟨a,_,(hg.kerOf ha (fun i hi=>⟨oMx,f2 i hi⟩) f3).unscale (zRb rs) (fun i k hi hk=>h2.cellP hf hi hk),hr⟩⟩
end
def zGk (ss:List ByteArray):Prop:=ss.length<=14/\∀ s∈ss,s.size<=30
def ShortM (rs:List zGh):Prop:=rs.length<=14/\∀ r∈rs,zGk r.ss
theorem zGl (A:oAx) (rs:List zGh) (c:Nat) (w:World) (h:zCj w A rs) (hl:rs.length<=9223372036854775807) (hl2:∀ r∈rs,r.ss.length<=9223372036854775807) (hz:∀ r∈rs,∀ s∈r.ss,s.size<=9223372036854775807) :
  Calls Tryz.prog 4 #[.slice A rs.length c] w fun e w'=>∃ b,e = .returned (.bool b)/\(b=true->ShortM rs)/\Below w.heap.size w w':=by
 have HM:=oH h;have HL2:=oH hl2;have HZ:=oH hz;clear h hl2 hz
 go_enter Tryz.func4,Tryz.ntmps4
 by_cases h14:14<rs.length
 ·have k1:(14:Int)<(rs.length:Int):=by omega
  go_wp2_with fail;go_ret
  exact ⟨false,rfl,fun e=>(by cases e),bRx⟩
 have k1:¬(14:Int)<(rs.length:Int):=by omega
 go_wp2_with fail;clear k1
 go_loopw [12] (fun iv wr=>∃ i:Nat,iv = .int .i64 (i:Int)/\i<=rs.length/\(∀ a,(ha:a<rs.length)->a<i->zGk rs[a].ss)/\w=wr) (fun iv _=>rs.length-(intOf iv).toNat)
 ·exact ⟨0,rfl,oLx,fun a _ h=>absurd h (Nat.not_lt_zero a),rfl⟩
 obtain ⟨i,rfl,hi,hs,rfl⟩:=hrel;have HS:=oH hs;clear hs
 by_cases hlt:i<rs.length
 ·obtain ⟨b,off,rfl,hb,hc⟩:=HM.some (by intro e;subst e;simp at hlt);have hc0:=hc i hlt;have HI:=oH (HM.i _ (List.getElem_mem hlt));have hll:=HL2.out _ (List.getElem_mem hlt);have HZZ:=oH (HZ.out _ (List.getElem_mem hlt))
  have HNX:=oH (fun (h:zGk rs[i].ss)=>(show ∀ a,(ha:a<rs.length)->a<i+1->zGk rs[a].ss from fun a ha h1=>by
   rcases Nat.lt_or_ge a i with h2|h2
   ·exact HS.out a ha h2
   obtain rfl:a=i:=by omega
   exact h))
  generalize rs[i].ad=ad at *;generalize rs[i].cp=cp at *;generalize rs[i].ss=ss at *;clear hc
  by_cases h15:14<ss.length
  ·have k1:(14:Int)<(ss.length:Int):=by omega
   go_wp2_with fail;go_ret
   exact ⟨false,rfl,fun e=>(by cases e),bRx⟩
  have k1:¬(14:Int)<(ss.length:Int):=by omega
  go_wp2_with fail;clear k1 hc0
  go_loopw [21] (fun jv wr=>∃ j:Nat,jv = .int .i64 (j:Int)/\j<=ss.length/\(∀ a,(ha:a<ss.length)->a<j->ss[a].size<=30)/\w=wr) (fun jv _=>ss.length-(intOf jv).toNat)
  ·exact ⟨0,rfl,oLx,fun a _ h=>absurd h (Nat.not_lt_zero a),rfl⟩
  obtain ⟨j,rfl,hj,ht,rfl⟩:=hrel;have HT:=oH ht;clear ht
  by_cases hlj:j<ss.length
  ·obtain ⟨b2,o2,rfl,hb2,hc2⟩:=HI.out (by intro e;subst e;simp at hlj);have hc1:=hc2 j hlj;have hzz:=HZZ.out _ (List.getElem_mem hlj)
   have HNT:=oH (fun (h:ss[j].size<=30)=>(show ∀ a,(ha:a<ss.length)->a<j+1->ss[a].size<=30 from fun a ha h1=>by
    rcases Nat.lt_or_ge a j with h2|h2
    ·exact HT.out a ha h2
    obtain rfl:a=j:=by omega
    exact h))
   generalize ss[j]=s at *;clear hc2
   by_cases h30:30<s.size
   ·have k1:(30:Int)<(s.size:Int):=by omega
    go_wp2_with fail;go_ret
    exact ⟨false,rfl,fun e=>(by cases e),bRx⟩
   have k1:¬(30:Int)<(s.size:Int):=by omega
   have HN9:=oH (HNT.out oMx);go_wp2_with fail;go_roundw
   ·exact ⟨j+1,by go_num,oMx,HN9.out,by first|rfl|trivial⟩
   simp [intOf];omega
  have HN9:=oH (HNX.out ⟨oMx,fun s hs=>by
   obtain ⟨a,ha,rfl⟩:=List.getElem_of_mem hs
   exact HT.out a ha oMx⟩)
  have k1:¬(j:Int)<(ss.length:Int):=by omega
  go_wp2_with fail;go_roundw
  ·exact ⟨i+1,by go_num,oMx,HN9.out,by first|rfl|trivial⟩
  simp [intOf];omega
 have k1:¬(i:Int)<(rs.length:Int):=by omega
 have HF:=oH (show ShortM rs from ⟨oMx,fun r hr=>by
  obtain ⟨a,ha,rfl⟩:=List.getElem_of_mem hr
  exact HS.out a ha oMx⟩)
 go_wp2_with fail;go_ret
 first
  | exact ⟨true,rfl,fun _=>HF.out,bRx⟩
  | exact .inr ⟨rfl,HF.out,bRx⟩
theorem zCe (A:oAx) (ss:List ByteArray) (c:Nat) (w:World) (h:zGx w A ss) (hl:ss.length<=9223372036854775807) (hz:∀ s∈ss,s.size<=9223372036854775807) :
  Calls Tryz.prog 5 #[.slice A ss.length c] w fun e w'=>∃ b,e = .returned (.bool b)/\(b=true->zGk ss)/\Below w.heap.size w w':=by
 have hb:Below w.heap.size w (w.alloc (.cells #[.slice A ss.length c] 25)):=bA
 have HC:=oH (zGl (some ⟨w.heap.size,0,none⟩) [⟨A,c,ss⟩] 1 (w.alloc (.cells #[.slice A ss.length c] 25)) ⟨fun _=>⟨w.heap.size,0,rfl,by simp,fun i hi=>by
  obtain rfl:i=0:=by simp [zXe] at hi;omega
  simp [zXe]⟩,fun r hr=>by rw [List.mem_singleton] at hr;subst hr;exact h.below hb⟩ (by show 1<=9223372036854775807;omega) (fun r hr=>by rw [List.mem_singleton] at hr;subst hr;exact hl) (fun r hr=>by rw [List.mem_singleton] at hr;subst hr;exact hz))
 have HB:=oH hb;clear h hz hb
 go_enter Tryz.func5,Tryz.ntmps5
 go_wp2_with fail;refine HC.mono ?_;rintro e w1 ⟨b,rfl,hs,hb1⟩;have HS:=oH hs;have HB1:=bTx2 HB hb1;clear hs hb1;go_wp2_with fail;go_ret
 have HS2:=oH (show b=true->zGk ss from fun e=>(HS.out e).2 _ (List.mem_singleton.2 rfl));exact ⟨b,rfl,HS2.out,HB1.out⟩
end Go.Proofs.YtbjaplppalcmgaaGreatDoor
