import Derived.Test.YtfjjcoggoomlbaaGreatDoorZF
set_option maxHeartbeats 16000000
set_option maxRecDepth 100000
namespace Go.Proofs.YtfjjcoggoomlbaaGreatDoor
theorem rat_mk {n:Int} {d:Nat} (hd:d≠0):(mkRat n d).num=n/((n.natAbs.gcd d:Nat):Int)∧(mkRat n d).den=d/n.natAbs.gcd d:=by
 rw [Rat.mkRat_def,dif_neg hd,Rat.normalize_eq]
 exact ⟨rfl,rfl⟩
theorem zWv {n d:Int} (hd:0<d):(Rat.divInt n d).num=n/((n.natAbs.gcd d.natAbs:Nat):Int)∧((Rat.divInt n d).den:Int)=d/((n.natAbs.gcd d.natAbs:Nat):Int):=by
 obtain ⟨D,rfl⟩:∃ D:Nat,d=(D:Int):=⟨d.toNat,oMx⟩
 rw [Rat.divInt_ofNat,Int.natAbs_natCast]
 have h:=rat_mk (n:=n) (d:=D) oMx
 exact ⟨h.1,by rw [h.2];exact Int.natCast_ediv _ _⟩
theorem zWu (n d:Int):Rat.divInt (-n) (-d)=Rat.divInt n d:=Rat.neg_divInt_neg n d
theorem zWw {n d:Int} (hd:d≠0):(Rat.divInt n d).num=(if d<0 then -(n.tdiv ((n.natAbs.gcd d.natAbs:Nat):Int)) else n.tdiv ((n.natAbs.gcd d.natAbs:Nat):Int))∧((Rat.divInt n d).den:Int)=(if d<0 then -(d.tdiv ((n.natAbs.gcd d.natAbs:Nat):Int)) else d.tdiv ((n.natAbs.gcd d.natAbs:Nat):Int)):=by
 have h1:((n.natAbs.gcd d.natAbs:Nat):Int) ∣ n:=Int.ofNat_dvd_left.2 (Nat.gcd_dvd_left _ _)
 have h2:((n.natAbs.gcd d.natAbs:Nat):Int) ∣ d:=Int.ofNat_dvd_left.2 (Nat.gcd_dvd_right _ _)
 rw [Int.tdiv_eq_ediv_of_dvd h1,Int.tdiv_eq_ediv_of_dvd h2]
 by_cases h:d<0
 ·rw [if_pos h,if_pos h,←zWu]
  have:=zWv (n := -n) (d := -d) oMx
  rw [Int.natAbs_neg,Int.natAbs_neg,Int.neg_ediv_of_dvd h1,Int.neg_ediv_of_dvd h2] at this
  exact this
 ·rw [if_neg h,if_neg h]
  exact zWv oMx
theorem zWq (a b:Rat):Rat.divInt (a.num*b.den+b.num*a.den) ((a.den:Int)*b.den)=a+b:=by
 rw [Rat.add_def',←Rat.divInt_ofNat,Int.natCast_mul]
theorem zWx (a b:Rat):Rat.divInt (a.num*b.den-b.num*a.den) ((a.den:Int)*b.den)=a-b:=by
 rw [Rat.sub_def',←Rat.divInt_ofNat,Int.natCast_mul]
theorem zWt (a b:Rat):Rat.divInt (a.num*b.num) ((a.den:Int)*b.den)=a*b:=by
 rw [Rat.mul_def',←Rat.divInt_ofNat,Int.natCast_mul]
theorem zWr (a b:Rat):Rat.divInt (a.num*b.den) ((a.den:Int)*b.num)=a/b:=by
 rw [Rat.div_def,Rat.inv_def,←Rat.divInt_mul_divInt,Rat.num_divInt_den]
def sgR (q:Rat):Int:=sg q.num
theorem sg_of {x y:Int} (h:(x<0↔y<0)) (k:(0<x↔0<y)):sg x=sg y:=by
 unfold sg
 by_cases h1:x<0
 ·rw [if_pos h1,if_pos (h.1 h1)]
 ·rw [if_neg h1,if_neg (fun e=>h1 (h.2 e))]
  by_cases h2:0<x
  ·rw [if_pos h2,if_pos (k.1 h2)]
  ·rw [if_neg h2,if_neg (fun e=>h2 (k.2 e))]
theorem zTi (q:Rat):q.num<0↔q<0:=by
 have:=Rat.num_nonneg (q:=q)
 rw [←Int.not_le,this]
 exact Rat.not_le
theorem zTk (q:Rat):0<q.num↔0<q:=by
 have h:=Rat.lt_iff 0 q
 simp at h
 exact h.symm
theorem sgR_sub (a b:Rat):sgR (a-b)=sg (a.num*b.den-b.num*a.den):=by
 unfold sgR
 apply sg_of
 ·rw [zTi,Rat.sub_lt_iff]
  rw [show (0:Rat)+b=b by grind,Rat.lt_iff]
  omega
 ·have h:0<a-b↔b<a:=⟨fun h=>by grind,fun h=>by grind⟩
  rw [zTk,h,Rat.lt_iff]
  omega
theorem sgR_pos {q:Rat}:0<sgR q↔0<q:=by
 rw [←zTk];unfold sgR sg
 by_cases h1:q.num<0
 ·rw [if_pos h1];omega
 ·rw [if_neg h1]
  by_cases h2:0<q.num
  ·rw [if_pos h2];omega
  ·rw [if_neg h2];omega
theorem zWy {q:Rat} (h:q.den=1):q=(q.num:Rat):=Rat.ext sMx (by simp [h])
def zJo:List UInt8→List UInt8 × List UInt8 × Bool
 | []=>([],[],false)
 | c::l=>if c=47 then ([],l,true) else (c::(zJo l).1,(zJo l).2.1,(zJo l).2.2)
theorem zOg (l:List UInt8):(Lib.index l [47] = -1∧zJo l=(l,[],false))∨∃ i:Nat,Lib.index l [47]=(i:Int)∧zJo l=(l.take i,l.drop (i+1),true):=by
 induction l with
 | nil=>exact .inl ⟨rfl,rfl⟩
 | cons c l ih =>
  by_cases hc:c=47
  ·subst hc
   exact .inr ⟨0,by simp [Lib.index],by simp [zJo]⟩
  ·have h1:([47]:List UInt8).isPrefixOf (c::l)=false:=by
    have:(47==c)=false:=by simpa using Ne.symm hc
    simp [List.isPrefixOf,this]
   rcases ih with ⟨h2,h3⟩|⟨i,h2,h3⟩
   ·refine .inl ⟨?_,?_⟩
    ·unfold Lib.index;rw [h1,h2];rfl
    ·unfold zJo;rw [if_neg hc,h3]
   ·refine .inr ⟨i+1,?_,?_⟩
    ·unfold Lib.index
     rw [h1,h2]
     have:((i:Int) == -1)=false:=by rw [beq_eq_false_iff_ne];omega
     simp [this]
    ·unfold zJo;rw [if_neg hc,h3];rfl
theorem zJv (l:List UInt8):Lib.cut l [47]=zJo l:=by
 rcases zOg l with ⟨h1,h2⟩|⟨i,h1,h2⟩
 ·unfold Lib.cut;rw [h1,h2];rfl
 ·unfold Lib.cut
  rw [h1,h2,if_pos oMx]
  simp
theorem zJr {l:List UInt8} (h:47 ∉ l):zJo l=(l,[],false):=by
 induction l with
 | nil=>rfl
 | cons c l ih =>
  have h1:c≠47:=fun e=>h (by simp [e])
  have h2:47 ∉ l:=fun e=>h (by simp [e])
  unfold zJo
  rw [if_neg h1,ih h2]
theorem zJs {a b:List UInt8} (h:47 ∉ a):zJo (a++47::b)=(a,b,true):=by
 induction a with
 | nil=>simp [zJo]
 | cons c a ih =>
  have h1:c≠47:=fun e=>h (by simp [e])
  have h2:47 ∉ a:=fun e=>h (by simp [e])
  rw [List.cons_append]
  unfold zJo
  rw [if_neg h1,ih h2]
theorem zJp (l:List UInt8):((zJo l).2.2=true∧l=(zJo l).1++47::(zJo l).2.1)∨((zJo l).2.2=false∧l=(zJo l).1∧(zJo l).2.1=[]):=by
 induction l with
 | nil=>exact .inr ⟨rfl,rfl,rfl⟩
 | cons c l ih =>
  by_cases hc:c=47
  ·subst hc;exact .inl ⟨by simp [zJo],by simp [zJo]⟩
  ·unfold zJo
   rw [if_neg hc]
   rcases ih with ⟨h1,h2⟩|⟨h1,h2,h3⟩
   ·refine .inl ⟨h1,?_⟩
    show c::l=(c::(zJo l).1)++47::(zJo l).2.1
    rw [List.cons_append,←h2]
   ·refine .inr ⟨h1,?_,h3⟩
    show c::l=c::(zJo l).1
    rw [←h2]
theorem zJq (l:List UInt8):(zJo l).1.length≤l.length∧(zJo l).2.1.length≤l.length:=by
 rcases zJp l with ⟨_,h⟩|⟨_,h,h2⟩
 ·have:=congrArg List.length h
  simp at this
  omega
 ·have:=congrArg List.length h
  rw [h2]
  exact ⟨oMx,by simp⟩
theorem xAv {l:List UInt8} (h:zAv l):47 ∉ l:=fun hm=>by
 have:=h 47 hm
 unfold zCa at this
 have e:(47:UInt8).toNat=47:=rfl
 omega
theorem xAw (x:Int):47 ∉ Lib.itoa x:=by
 unfold Lib.itoa
 split
 ·intro h
  rcases List.mem_cons.1 h with h|h
  ·cases h
  ·exact xAv (zJy _) h
 ·exact xAv (zJy _)
def zYt (q:Rat):List UInt8:=if q.den=1 then Lib.itoa q.num else Lib.itoa q.num++47::Lib.itoa (q.den:Int)
def zBp (q:Rat):Prop:=Fits q.num∧Fits (q.den:Int)
theorem zYy {q:Rat} (h:q.den=1):zYt q=Lib.itoa q.num:=if_pos h
theorem zYx {q:Rat} (h:q.den≠1):zYt q=Lib.itoa q.num++47::Lib.itoa (q.den:Int):=if_neg h
theorem zJw {q:Rat} (h:q.den=1):zJo (zYt q)=(Lib.itoa q.num,[],false):=by rw [zYy h,zJr (xAw _)]
theorem zJu {q:Rat} (h:q.den≠1):zJo (zYt q)=(Lib.itoa q.num,Lib.itoa (q.den:Int),true):=by rw [zYx h,zJs (xAw _)]
theorem zWs {p q:Rat} (h:p.num=q.num) (k:p.den=q.den):p=q:=Rat.ext h k
theorem zYu {p q:Rat} (h:zYt p=zYt q):p=q:=by
 by_cases hp:p.den=1
 ·by_cases hq:q.den=1
  ·rw [zYy hp,zYy hq] at h
   exact zWs (zOl h) oMx
  ·have h1:=zJw hp
   rw [h,zJu hq] at h1
   simp at h1
 ·by_cases hq:q.den=1
  ·have h1:=zJw hq
   rw [←h,zJu hp] at h1
   simp at h1
  ·have h1:=zJu hp
   rw [h,zJu hq] at h1
   simp only [Prod.mk.injEq] at h1
   exact zWs (zOl h1.1.symm) (by have:=zOl h1.2.1;omega)
open Classical in
noncomputable def xFn (l:List UInt8):Bool:=decide (∃ q:Rat,l=zYt q∧zBp q)
open Classical in
theorem xFx {q:Rat} (h:zBp q):xFn (zYt q)=true:=by unfold xFn;exact decide_eq_true ⟨q,rfl,h⟩
open Classical in
theorem xFq {l:List UInt8} (h:xFn l=true):∃ q:Rat,l=zYt q∧zBp q:=by unfold xFn at h;exact of_decide_eq_true h
open Classical in
theorem xFt {l:List UInt8} (h:¬∃ q:Rat,l=zYt q∧zBp q):xFn l=false:=by unfold xFn;exact decide_eq_false h
theorem xFu {l:List UInt8} (h:(zJo l).2.2=false):xFn l=xFm l:=by
 rcases zJp l with ⟨h1,_⟩|⟨_,h2,_⟩
 ·rw [h] at h1;cases h1
 ·cases hv:xFm l
  ·apply xFt
   rintro ⟨q,rfl,hf⟩
   by_cases hd:q.den=1
   ·rw [zYy hd,xGa hf.1] at hv;cases hv
   ·rw [zJu hd] at h;cases h
  ·obtain ⟨x,hx,hf⟩:=xFz hv
   have:l=zYt (x:Rat):=by rw [zYy (Rat.den_intCast x),Rat.num_intCast];exact hx
   rw [this]
   exact xFx ⟨by rw [Rat.num_intCast];exact hf,by rw [Rat.den_intCast];unfold Fits;rw [show ((1:Nat):Int).natAbs=1 from rfl,Lib.decDigits_one dCx];simp⟩
theorem xFv {l:List UInt8} (h:(zJo l).2.2=true):xFn l=true↔∃ n d:Int,(zJo l).1=Lib.itoa n∧(zJo l).2.1=Lib.itoa d∧Fits n∧Fits d∧n≠0∧1<d∧Nat.gcd n.natAbs d.natAbs=1:=by
 constructor
 ·intro hv
  obtain ⟨q,rfl,hf⟩:=xFq hv
  by_cases hd:q.den=1
  ·rw [zJw hd] at h;cases h
  ·rw [zJu hd]
   have hp:=q.den_pos
   refine ⟨q.num,q.den,rfl,rfl,hf.1,hf.2,?_,oMx,by rw [Int.natAbs_natCast];exact q.reduced⟩
   intro h0
   have:=q.reduced
   rw [h0] at this
   simp [Nat.Coprime] at this
   exact hd this
 ·rintro ⟨n,d,h1,h2,hf,hg,hn,hd,hc⟩
  obtain ⟨D,rfl⟩:∃ D:Nat,d=(D:Int):=⟨d.toNat,oMx⟩
  rw [Int.natAbs_natCast] at hc
  have hl:l=zYt ⟨n,D,oMx,hc⟩:=by
   rw [zYx (by show D≠1;omega)]
   rcases zJp l with ⟨_,h3⟩|⟨h3,_⟩
   ·rw [h1,h2] at h3;exact h3
   ·rw [h] at h3;cases h3
  rw [hl]
  exact xFx ⟨hf,hg⟩
def zAt (d:Nat) (q:Rat):Prop:=Dig d q.num∧Dig d (q.den:Int)
theorem zAt.mono {a b:Nat} {q:Rat} (h:zAt a q) (hab:a≤b):zAt b q:=⟨h.1.mono hab,h.2.mono hab⟩
theorem zAt.fits {d:Nat} {q:Rat} (h:zAt d q) (hd1:1≤d) (hd:d≤400):zBp q:=⟨h.1.fits hd1 hd,h.2.fits hd1 hd⟩
theorem xDn (n:Int) (g:Nat):(n.tdiv (g:Int)).natAbs≤n.natAbs:=by
 rw [Int.natAbs_tdiv]
 exact Nat.div_le_self _ _
theorem zMh {n d:Int} (hd:d≠0):(Rat.divInt n d).num.natAbs≤n.natAbs∧(Rat.divInt n d).den≤d.natAbs:=by
 have h:=zWw (n:=n) hd
 have h1:=xDn n (n.natAbs.gcd d.natAbs)
 have h2:=xDn d (n.natAbs.gcd d.natAbs)
 generalize n.tdiv ((n.natAbs.gcd d.natAbs:Nat):Int)=a at *
 generalize d.tdiv ((n.natAbs.gcd d.natAbs:Nat):Int)=b at *
 obtain ⟨e1,e2⟩:=h
 by_cases hs:d<0
 ·rw [if_pos hs] at e1 e2
  rw [e1]
  omega
 ·rw [if_neg hs] at e1 e2
  rw [e1]
  omega
theorem zAt.of_divInt {k:Nat} {n d:Int} (hd:d≠0) (h:Dig k n) (h':Dig k d):zAt k (Rat.divInt n d):=by
 have:=zMh (n:=n) hd
 unfold zAt Dig at *
 exact ⟨oMx,by rw [Int.natAbs_natCast];omega⟩
theorem zLj (q:Rat):(q.den:Int)≠0:=by have:=q.den_pos;omega
theorem zAt.sub {a b c:Nat} {x y z:Rat} (h:zAt a x) (k:zAt b y) (hz:x-y=z) (hc:a+b+1=c):zAt c z:=by
 subst hz
 rw [←zWx]
 refine zAt.of_divInt (Int.mul_ne_zero (zLj x) (zLj y)) (Dig.sub (a:=a+b) (h.1.mul k.2 rfl rfl) (k.1.mul h.2 rfl (Nat.add_comm _ _)) rfl hc) (Dig.mono (a:=a+b) (h.2.mul k.2 rfl rfl) oMx)
theorem zAt.mul {a b c:Nat} {x y z:Rat} (h:zAt a x) (k:zAt b y) (hz:x*y=z) (hc:a+b=c):zAt c z:=by
 subst hz
 rw [←zWt]
 exact zAt.of_divInt (Int.mul_ne_zero (zLj x) (zLj y)) (h.1.mul k.1 rfl hc) (h.2.mul k.2 rfl hc)
theorem zTh {q:Rat} (h:q≠0):q.num≠0:=fun e=>h (Rat.num_eq_zero.1 e)
theorem zAt.div {a b c:Nat} {x y z:Rat} (h:zAt a x) (k:zAt b y) (hy:y≠0) (hz:x/y=z) (hc:a+b=c):zAt c z:=by
 subst hz
 rw [←zWr]
 exact zAt.of_divInt (Int.mul_ne_zero (zLj x) (zTh hy)) (h.1.mul k.2 rfl hc) (h.2.mul k.1 rfl hc)
theorem zAt.ofInt {d:Nat} {n:Int} (h:Dig d n) (hd:1≤d):zAt d (n:Rat):=by
 refine ⟨by simpa using h,?_⟩
 show Dig d _
 unfold Dig
 have:(10:Nat)^1≤10^d:=Nat.pow_le_pow_right dCx hd
 simp
 omega
def Sz (n:Nat) (q:Rat):Prop:=(limbs q.num.natAbs).length≤n∧(limbs q.den).length≤n
theorem Sz.mono {a b:Nat} {q:Rat} (h:Sz a q) (hab:a≤b):Sz b q:=⟨Nat.le_trans h.1 hab,Nat.le_trans h.2 hab⟩
theorem zBp.sz {q:Rat} (h:zBp q):Sz 45 q:=⟨h.1.len,by have:=h.2.len;rwa [Int.natAbs_natCast] at this⟩
theorem Sz.divInt {k:Nat} {n d:Int} (hd:d≠0) (h:(limbs n.natAbs).length≤k) (h':(limbs d.natAbs).length≤k):Sz k (Rat.divInt n d):=by
 have:=zMh (n:=n) hd
 exact ⟨Nat.le_trans (zQj this.1) h,Nat.le_trans (zQj this.2) h'⟩
theorem zPr {x y:Int} {a b:Nat} (h:(limbs x.natAbs).length≤a) (k:(limbs y.natAbs).length≤b):(limbs (x*y).natAbs).length≤a+b:=by
 rw [Int.natAbs_mul]
 exact Nat.le_trans (zQk _ _) (Nat.add_le_add h k)
theorem zPq {x y:Int} {a:Nat} (h:(limbs x.natAbs).length≤a) (k:(limbs y.natAbs).length≤a):(limbs (x+y).natAbs).length≤a+1:=by
 have h1:=zQj (Int.natAbs_add_le x y)
 have h2:=zQg x.natAbs y.natAbs
 omega
theorem zPs {n a:Nat} (h:(limbs n).length≤a):(limbs ((n:Int)).natAbs).length≤a:=by rwa [Int.natAbs_natCast]
theorem Sz.add {a b:Nat} {x y:Rat} (h:Sz a x) (k:Sz b y):Sz (a+b+1) (x+y):=by
 rw [←zWq]
 refine Sz.divInt (Int.mul_ne_zero (zLj x) (zLj y)) (zPq (zPr h.1 (zPs k.2)) ?_) (Nat.le_succ_of_le (zPr (zPs h.2) (zPs k.2)))
 rw [Nat.add_comm]
 exact zPr k.1 (zPs h.2)
theorem Sz.mul {a b:Nat} {x y:Rat} (h:Sz a x) (k:Sz b y):Sz (a+b) (x*y):=by
 rw [←zWt]
 exact Sz.divInt (Int.mul_ne_zero (zLj x) (zLj y)) (zPr h.1 k.1) (zPr (zPs h.2) (zPs k.2))
theorem zQq {n:Nat} (h:n<1000000000):(limbs n).length≤1:=zQh (by simpa using h)
theorem Sz.ofNat {n:Nat} (h:n<1000000000):Sz 1 ((n:Int):Rat):=⟨by rw [Rat.num_intCast,Int.natAbs_natCast];exact zQq h,by rw [Rat.den_intCast];exact zQq dCx⟩
theorem Sz.zero:Sz 1 0:=Sz.ofNat (n:=0) dCx
end Go.Proofs.YtfjjcoggoomlbaaGreatDoor
