import Derived.Test.YtfjjcoggoomlbaaGreatDoorZL
set_option maxHeartbeats 16000000
set_option maxRecDepth 100000
namespace Go.Proofs.YtfjjcoggoomlbaaGreatDoor
theorem rat_mk {n:Int} {d:Nat} (hd:d≠0):(mkRat n d).num=n/((n.natAbs.gcd d:Nat):Int)∧(mkRat n d).den=d/n.natAbs.gcd d:=by
 rw [Rat.mkRat_def,dif_neg hd,Rat.normalize_eq]
 exact ⟨rfl,rfl⟩
theorem zWr {n d:Int} (hd:0<d):(Rat.divInt n d).num=n/((n.natAbs.gcd d.natAbs:Nat):Int)∧((Rat.divInt n d).den:Int)=d/((n.natAbs.gcd d.natAbs:Nat):Int):=by
 obtain ⟨D,rfl⟩:∃ D:Nat,d=(D:Int):=⟨d.toNat,by omega⟩
 rw [Rat.divInt_ofNat,Int.natAbs_natCast]
 have h:=rat_mk (n:=n) (d:=D) (by omega)
 exact ⟨h.1,by rw [h.2];exact Int.natCast_ediv _ _⟩
theorem zWq (n d:Int):Rat.divInt (-n) (-d)=Rat.divInt n d:=Rat.neg_divInt_neg n d
theorem zWs {n d:Int} (hd:d≠0):(Rat.divInt n d).num=(if d<0 then -(n.tdiv ((n.natAbs.gcd d.natAbs:Nat):Int)) else n.tdiv ((n.natAbs.gcd d.natAbs:Nat):Int))∧((Rat.divInt n d).den:Int)=(if d<0 then -(d.tdiv ((n.natAbs.gcd d.natAbs:Nat):Int)) else d.tdiv ((n.natAbs.gcd d.natAbs:Nat):Int)):=by
 have h1:((n.natAbs.gcd d.natAbs:Nat):Int) ∣ n:=Int.ofNat_dvd_left.2 (Nat.gcd_dvd_left _ _)
 have h2:((n.natAbs.gcd d.natAbs:Nat):Int) ∣ d:=Int.ofNat_dvd_left.2 (Nat.gcd_dvd_right _ _)
 rw [Int.tdiv_eq_ediv_of_dvd h1,Int.tdiv_eq_ediv_of_dvd h2]
 by_cases h:d<0
 ·rw [if_pos h,if_pos h,←zWq]
  have:=zWr (n := -n) (d := -d) (by omega)
  rw [Int.natAbs_neg,Int.natAbs_neg,Int.neg_ediv_of_dvd h1,Int.neg_ediv_of_dvd h2] at this
  exact this
 ·rw [if_neg h,if_neg h]
  exact zWr (by omega)
theorem zWn (a b:Rat):Rat.divInt (a.num*b.den+b.num*a.den) ((a.den:Int)*b.den)=a+b:=by
 rw [Rat.add_def',←Rat.divInt_ofNat,Int.natCast_mul]
theorem zWp (a b:Rat):Rat.divInt (a.num*b.num) ((a.den:Int)*b.den)=a*b:=by
 rw [Rat.mul_def',←Rat.divInt_ofNat,Int.natCast_mul]
def sgR (q:Rat):Int:=sg q.num
theorem sg_of {x y:Int} (h:(x<0↔y<0)) (k:(0<x↔0<y)):sg x=sg y:=by
 unfold sg
 by_cases h1:x<0
 ·rw [if_pos h1,if_pos (h.1 h1)]
 ·rw [if_neg h1,if_neg (fun e=>h1 (h.2 e))]
  by_cases h2:0<x
  ·rw [if_pos h2,if_pos (k.1 h2)]
  ·rw [if_neg h2,if_neg (fun e=>h2 (k.2 e))]
theorem zTi (q:Rat):q.num<0↔q<0:=by
 have:=Rat.num_nonneg (q:=q)
 rw [←Int.not_le,this]
 exact Rat.not_le
theorem zTk (q:Rat):0<q.num↔0<q:=by
 have h:=Rat.lt_iff 0 q
 simp at h
 exact h.symm
theorem sgR_sub (a b:Rat):sgR (a-b)=sg (a.num*b.den-b.num*a.den):=by
 unfold sgR
 apply sg_of
 ·rw [zTi,Rat.sub_lt_iff]
  rw [show (0:Rat)+b=b by grind,Rat.lt_iff]
  omega
 ·have h:0<a-b↔b<a:=⟨fun h=>by grind,fun h=>by grind⟩
  rw [zTk,h,Rat.lt_iff]
  omega
theorem sgR_pos {q:Rat}:0<sgR q↔0<q:=by
 rw [←zTk];unfold sgR sg
 by_cases h1:q.num<0
 ·rw [if_pos h1];omega
 ·rw [if_neg h1]
  by_cases h2:0<q.num
  ·rw [if_pos h2];omega
  ·rw [if_neg h2];omega
theorem zWt {q:Rat} (h:q.den=1):q=(q.num:Rat):=Rat.ext (by simp) (by simp [h])
def zJt:List UInt8→List UInt8 × List UInt8 × Bool
 | []=>([],[],false)
 | c::l=>if c=47 then ([],l,true) else (c::(zJt l).1,(zJt l).2.1,(zJt l).2.2)
theorem zOi (l:List UInt8):(Lib.index l [47] = -1∧zJt l=(l,[],false))∨∃ i:Nat,Lib.index l [47]=(i:Int)∧zJt l=(l.take i,l.drop (i+1),true):=by
 induction l with
 | nil=>exact .inl ⟨rfl,rfl⟩
 | cons c l ih =>
  by_cases hc:c=47
  ·subst hc
   exact .inr ⟨0,by simp [Lib.index],by simp [zJt]⟩
  ·have h1:([47]:List UInt8).isPrefixOf (c::l)=false:=by
    have:(47==c)=false:=by simpa using Ne.symm hc
    simp [List.isPrefixOf,this]
   rcases ih with ⟨h2,h3⟩|⟨i,h2,h3⟩
   ·refine .inl ⟨?_,?_⟩
    ·unfold Lib.index;rw [h1,h2];rfl
    ·unfold zJt;rw [if_neg hc,h3]
   ·refine .inr ⟨i+1,?_,?_⟩
    ·unfold Lib.index
     rw [h1,h2]
     have:((i:Int) == -1)=false:=by rw [beq_eq_false_iff_ne];omega
     simp [this]
    ·unfold zJt;rw [if_neg hc,h3];rfl
theorem zJz (l:List UInt8):Lib.cut l [47]=zJt l:=by
 rcases zOi l with ⟨h1,h2⟩|⟨i,h1,h2⟩
 ·unfold Lib.cut;rw [h1,h2];rfl
 ·unfold Lib.cut
  rw [h1,h2,if_pos (by omega)]
  simp
theorem zJw {l:List UInt8} (h:47 ∉ l):zJt l=(l,[],false):=by
 induction l with
 | nil=>rfl
 | cons c l ih =>
  have h1:c≠47:=fun e=>h (by simp [e])
  have h2:47 ∉ l:=fun e=>h (by simp [e])
  unfold zJt
  rw [if_neg h1,ih h2]
theorem zJx {a b:List UInt8} (h:47 ∉ a):zJt (a++47::b)=(a,b,true):=by
 induction a with
 | nil=>simp [zJt]
 | cons c a ih =>
  have h1:c≠47:=fun e=>h (by simp [e])
  have h2:47 ∉ a:=fun e=>h (by simp [e])
  rw [List.cons_append]
  unfold zJt
  rw [if_neg h1,ih h2]
theorem zJu (l:List UInt8):((zJt l).2.2=true∧l=(zJt l).1++47::(zJt l).2.1)∨((zJt l).2.2=false∧l=(zJt l).1∧(zJt l).2.1=[]):=by
 induction l with
 | nil=>exact .inr ⟨rfl,rfl,rfl⟩
 | cons c l ih =>
  by_cases hc:c=47
  ·subst hc;exact .inl ⟨by simp [zJt],by simp [zJt]⟩
  ·unfold zJt
   rw [if_neg hc]
   rcases ih with ⟨h1,h2⟩|⟨h1,h2,h3⟩
   ·refine .inl ⟨h1,?_⟩
    show c::l=(c::(zJt l).1)++47::(zJt l).2.1
    rw [List.cons_append,←h2]
   ·refine .inr ⟨h1,?_,h3⟩
    show c::l=c::(zJt l).1
    rw [←h2]
theorem zJv (l:List UInt8):(zJt l).1.length≤l.length∧(zJt l).2.1.length≤l.length:=by
 rcases zJu l with ⟨_,h⟩|⟨_,h,h2⟩
 ·have:=congrArg List.length h
  simp at this
  omega
 ·have:=congrArg List.length h
  rw [h2]
  exact ⟨by omega,by simp⟩
theorem xAn {l:List UInt8} (h:zAw l):47 ∉ l:=fun hm=>by
 have:=h 47 hm
 unfold zCb at this
 have e:(47:UInt8).toNat=47:=rfl
 omega
theorem xAo (x:Int):47 ∉ Lib.itoa x:=by
 unfold Lib.itoa
 split
 ·intro h
  rcases List.mem_cons.1 h with h|h
  ·cases h
  ·exact xAn (zKd _) h
 ·exact xAn (zKd _)
def zYo (q:Rat):List UInt8:=if q.den=1 then Lib.itoa q.num else Lib.itoa q.num++47::Lib.itoa (q.den:Int)
def zBq (q:Rat):Prop:=Fits q.num∧Fits (q.den:Int)
theorem zYt {q:Rat} (h:q.den=1):zYo q=Lib.itoa q.num:=if_pos h
theorem zYs {q:Rat} (h:q.den≠1):zYo q=Lib.itoa q.num++47::Lib.itoa (q.den:Int):=if_neg h
theorem zKa {q:Rat} (h:q.den=1):zJt (zYo q)=(Lib.itoa q.num,[],false):=by rw [zYt h,zJw (xAo _)]
theorem zJy {q:Rat} (h:q.den≠1):zJt (zYo q)=(Lib.itoa q.num,Lib.itoa (q.den:Int),true):=by rw [zYs h,zJx (xAo _)]
theorem zWo {p q:Rat} (h:p.num=q.num) (k:p.den=q.den):p=q:=Rat.ext h k
theorem zYp {p q:Rat} (h:zYo p=zYo q):p=q:=by
 by_cases hp:p.den=1
 ·by_cases hq:q.den=1
  ·rw [zYt hp,zYt hq] at h
   exact zWo (zOn h) (by omega)
  ·have h1:=zKa hp
   rw [h,zJy hq] at h1
   simp at h1
 ·by_cases hq:q.den=1
  ·have h1:=zKa hq
   rw [←h,zJy hp] at h1
   simp at h1
  ·have h1:=zJy hp
   rw [h,zJy hq] at h1
   simp only [Prod.mk.injEq] at h1
   exact zWo (zOn h1.1.symm) (by have:=zOn h1.2.1;omega)
open Classical in
noncomputable def xFn (l:List UInt8):Bool:=decide (∃ q:Rat,l=zYo q∧zBq q)
open Classical in
theorem xFx {q:Rat} (h:zBq q):xFn (zYo q)=true:=by unfold xFn;exact decide_eq_true ⟨q,rfl,h⟩
open Classical in
theorem xFq {l:List UInt8} (h:xFn l=true):∃ q:Rat,l=zYo q∧zBq q:=by unfold xFn at h;exact of_decide_eq_true h
open Classical in
theorem xFt {l:List UInt8} (h:¬∃ q:Rat,l=zYo q∧zBq q):xFn l=false:=by unfold xFn;exact decide_eq_false h
theorem xFu {l:List UInt8} (h:(zJt l).2.2=false):xFn l=xFm l:=by
 rcases zJu l with ⟨h1,_⟩|⟨_,h2,_⟩
 ·rw [h] at h1;cases h1
 ·cases hv:xFm l
  ·apply xFt
   rintro ⟨q,rfl,hf⟩
   by_cases hd:q.den=1
   ·rw [zYt hd,xGa hf.1] at hv;cases hv
   ·rw [zJy hd] at h;cases h
  ·obtain ⟨x,hx,hf⟩:=xFz hv
   have:l=zYo (x:Rat):=by rw [zYt (Rat.den_intCast x),Rat.num_intCast];exact hx
   rw [this]
   exact xFx ⟨by rw [Rat.num_intCast];exact hf,by rw [Rat.den_intCast];unfold Fits;rw [show ((1:Nat):Int).natAbs=1 from rfl,Lib.decDigits_one (by decide)];simp⟩
theorem xFv {l:List UInt8} (h:(zJt l).2.2=true):xFn l=true↔∃ n d:Int,(zJt l).1=Lib.itoa n∧(zJt l).2.1=Lib.itoa d∧Fits n∧Fits d∧n≠0∧1<d∧Nat.gcd n.natAbs d.natAbs=1:=by
 constructor
 ·intro hv
  obtain ⟨q,rfl,hf⟩:=xFq hv
  by_cases hd:q.den=1
  ·rw [zKa hd] at h;cases h
  ·rw [zJy hd]
   have hp:=q.den_pos
   refine ⟨q.num,q.den,rfl,rfl,hf.1,hf.2,?_,by omega,by rw [Int.natAbs_natCast];exact q.reduced⟩
   intro h0
   have:=q.reduced
   rw [h0] at this
   simp [Nat.Coprime] at this
   exact hd this
 ·rintro ⟨n,d,h1,h2,hf,hg,hn,hd,hc⟩
  obtain ⟨D,rfl⟩:∃ D:Nat,d=(D:Int):=⟨d.toNat,by omega⟩
  rw [Int.natAbs_natCast] at hc
  have hl:l=zYo ⟨n,D,by omega,hc⟩:=by
   rw [zYs (by show D≠1;omega)]
   rcases zJu l with ⟨_,h3⟩|⟨h3,_⟩
   ·rw [h1,h2] at h3;exact h3
   ·rw [h] at h3;cases h3
  rw [hl]
  exact xFx ⟨hf,hg⟩
def zAu (d:Nat) (q:Rat):Prop:=Dig d q.num∧Dig d (q.den:Int)
theorem zAu.mono {a b:Nat} {q:Rat} (h:zAu a q) (hab:a≤b):zAu b q:=⟨h.1.mono hab,h.2.mono hab⟩
theorem zAu.fits {d:Nat} {q:Rat} (h:zAu d q) (hd1:1≤d) (hd:d≤400):zBq q:=⟨h.1.fits hd1 hd,h.2.fits hd1 hd⟩
theorem xDm (n:Int) (g:Nat):(n.tdiv (g:Int)).natAbs≤n.natAbs:=by
 rw [Int.natAbs_tdiv]
 exact Nat.div_le_self _ _
theorem zMm {n d:Int} (hd:d≠0):(Rat.divInt n d).num.natAbs≤n.natAbs∧(Rat.divInt n d).den≤d.natAbs:=by
 have h:=zWs (n:=n) hd
 have h1:=xDm n (n.natAbs.gcd d.natAbs)
 have h2:=xDm d (n.natAbs.gcd d.natAbs)
 generalize n.tdiv ((n.natAbs.gcd d.natAbs:Nat):Int)=a at *
 generalize d.tdiv ((n.natAbs.gcd d.natAbs:Nat):Int)=b at *
 obtain ⟨e1,e2⟩:=h
 by_cases hs:d<0
 ·rw [if_pos hs] at e1 e2
  rw [e1]
  omega
 ·rw [if_neg hs] at e1 e2
  rw [e1]
  omega
theorem zAu.of_divInt {k:Nat} {n d:Int} (hd:d≠0) (h:Dig k n) (h':Dig k d):zAu k (Rat.divInt n d):=by
 have:=zMm (n:=n) hd
 unfold zAu Dig at *
 exact ⟨by omega,by rw [Int.natAbs_natCast];omega⟩
theorem zLo (q:Rat):(q.den:Int)≠0:=by have:=q.den_pos;omega
theorem zAu.mul {a b c:Nat} {x y z:Rat} (h:zAu a x) (k:zAu b y) (hz:x*y=z) (hc:a+b=c):zAu c z:=by
 subst hz
 rw [←zWp]
 exact zAu.of_divInt (Int.mul_ne_zero (zLo x) (zLo y)) (h.1.mul k.1 rfl hc) (h.2.mul k.2 rfl hc)
theorem num_ne {q:Rat} (h:q≠0):q.num≠0:=fun e=>h (Rat.num_eq_zero.1 e)
theorem zAu.ofInt {d:Nat} {n:Int} (h:Dig d n) (hd:1≤d):zAu d (n:Rat):=by
 refine ⟨by simpa using h,?_⟩
 show Dig d _
 unfold Dig
 have:(10:Nat)^1≤10^d:=Nat.pow_le_pow_right (by decide) hd
 simp
 omega
def Sz (n:Nat) (q:Rat):Prop:=(limbs q.num.natAbs).length≤n∧(limbs q.den).length≤n
theorem Sz.mono {a b:Nat} {q:Rat} (h:Sz a q) (hab:a≤b):Sz b q:=⟨Nat.le_trans h.1 hab,Nat.le_trans h.2 hab⟩
theorem zBq.sz {q:Rat} (h:zBq q):Sz 45 q:=⟨h.1.len,by have:=h.2.len;rwa [Int.natAbs_natCast] at this⟩
theorem Sz.divInt {k:Nat} {n d:Int} (hd:d≠0) (h:(limbs n.natAbs).length≤k) (h':(limbs d.natAbs).length≤k):Sz k (Rat.divInt n d):=by
 have:=zMm (n:=n) hd
 exact ⟨Nat.le_trans (zQl this.1) h,Nat.le_trans (zQl this.2) h'⟩
theorem zPu {x y:Int} {a b:Nat} (h:(limbs x.natAbs).length≤a) (k:(limbs y.natAbs).length≤b):(limbs (x*y).natAbs).length≤a+b:=by
 rw [Int.natAbs_mul]
 exact Nat.le_trans (zQm _ _) (Nat.add_le_add h k)
theorem zPt {x y:Int} {a:Nat} (h:(limbs x.natAbs).length≤a) (k:(limbs y.natAbs).length≤a):(limbs (x+y).natAbs).length≤a+1:=by
 have h1:=zQl (Int.natAbs_add_le x y)
 have h2:=zQi x.natAbs y.natAbs
 omega
theorem zPv {n a:Nat} (h:(limbs n).length≤a):(limbs ((n:Int)).natAbs).length≤a:=by rwa [Int.natAbs_natCast]
theorem Sz.add {a b:Nat} {x y:Rat} (h:Sz a x) (k:Sz b y):Sz (a+b+1) (x+y):=by
 rw [←zWn]
 refine Sz.divInt (Int.mul_ne_zero (zLo x) (zLo y)) (zPt (zPu h.1 (zPv k.2)) ?_) (Nat.le_succ_of_le (zPu (zPv h.2) (zPv k.2)))
 rw [Nat.add_comm]
 exact zPu k.1 (zPv h.2)
theorem Sz.mul {a b:Nat} {x y:Rat} (h:Sz a x) (k:Sz b y):Sz (a+b) (x*y):=by
 rw [←zWp]
 exact Sz.divInt (Int.mul_ne_zero (zLo x) (zLo y)) (zPu h.1 k.1) (zPu (zPv h.2) (zPv k.2))
theorem zQs {n:Nat} (h:n<1000000000):(limbs n).length≤1:=zQj (by simpa using h)
theorem Sz.ofNat {n:Nat} (h:n<1000000000):Sz 1 ((n:Int):Rat):=⟨by rw [Rat.num_intCast,Int.natAbs_natCast];exact zQs h,by rw [Rat.den_intCast];exact zQs (by decide)⟩
theorem Sz.zero:Sz 1 0:=Sz.ofNat (n:=0) (by decide)
theorem sg_cases (x:Int):(x<0∧sg x = -1)∨(x=0∧sg x=0)∨(0<x∧sg x=1):=by
 unfold sg
 by_cases h1:x<0
 ·exact .inl ⟨h1,if_pos h1⟩
 ·rw [if_neg h1]
  by_cases h2:0<x
  ·exact .inr (.inr ⟨h2,if_pos h2⟩)
  ·exact .inr (.inl ⟨by omega,if_neg h2⟩)
theorem zTl (q:Rat):q.num=0↔q=0:=Rat.num_eq_zero
theorem zZv (q:Rat):(q<0∧sgR q = -1)∨(q=0∧sgR q=0)∨(0<q∧sgR q=1):=by
 unfold sgR
 rcases sg_cases q.num with ⟨h,k⟩|⟨h,k⟩|⟨h,k⟩
 ·exact .inl ⟨(zTi q).1 h,k⟩
 ·exact .inr (.inl ⟨(zTl q).1 h,k⟩)
 ·exact .inr (.inr ⟨(zTk q).1 h,k⟩)
theorem zZw {q:Rat}:sgR q≤0↔q≤0:=by
 rcases zZv q with ⟨h,k⟩|⟨h,k⟩|⟨h,k⟩<;>rw [k]<;>constructor<;>intro hh<;>first|omega|grind
end Go.Proofs.YtfjjcoggoomlbaaGreatDoor
