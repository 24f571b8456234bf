import Derived.Test.YtbjaplppalcmgaaGreatDoorZWR
import Derived.Lib.ItoaNum
import Derived.Lib.ParseIntB
set_option maxHeartbeats 16000000
set_option maxRecDepth 100000
namespace Go.Proofs.YtbjaplppalcmgaaGreatDoor
def nth (xs:List Nat) (i:Nat):Nat:=xs.getD i 0
theorem zSt {xs:List Nat} {i:Nat} (h:i<xs.length):nth xs i=xs[i]:=by simp [nth,h]
theorem zSr {xs:List Nat} {i:Nat} (h:xs.length<=i):nth xs i=0:=by simp [nth,h]
theorem nth_take {xs:List Nat} {i n:Nat} (h:i<n):nth (xs.take n) i=nth xs i:=by simp [nth,h,List.getD_eq_getElem?_getD]
theorem zSq (x:Nat) (xs:List Nat):nth (x::xs) 0=x:=by simp [nth]
theorem zSp (x:Nat) (xs:List Nat) (i:Nat):nth (x::xs) (i+1)=nth xs i:=by simp [nth]
def xGk (n:Nat):List Nat:=List.replicate n 0
theorem xGl (n:Nat):(xGk n).length=n:=by simp [xGk]
def xDa:List Nat->List Nat
 | []=>[]
 | x::xs=>match xDa xs with
  | []=>if x=0 then [] else [x]
  | y::ys=>x::y::ys
theorem xDd (xs:List Nat):xDa (xs++[0])=xDa xs:=by
 induction xs with
 | nil=>rfl
 | cons x xs ih=>simp only [List.cons_append,xDa,ih]
theorem xDc (xs:List Nat) (x:Nat) (h:x≠0):xDa (xs++[x])=xs++[x]:=by
 induction xs with
 | nil=>simp [xDa,h]
 | cons y ys ih =>
  simp only [List.cons_append,xDa,ih]
  cases hys:ys++[x] with
  | nil=>simp at hys
  | cons a b=>rfl
theorem xDe (xs:List Nat):xDa xs=xs.take (xDa xs).length:=by
 induction xs with
 | nil=>rfl
 | cons x xs ih =>
  simp only [xDa]
  cases h:xDa xs with
  | nil=>by_cases hx:x=0<;>simp [hx]
  | cons y ys=>rw [h] at ih;simp only [List.length_cons,List.take_succ_cons] at ih ⊢;rw [<-ih]
theorem xDb (xs:List Nat):(xDa xs).length<=xs.length:=by
 have:=congrArg List.length (xDe xs)
 rw [List.length_take] at this;omega
theorem xDg (xs:List Nat) (k:Nat) (hk:k<xs.length) (h:nth xs k=0):xDa (xs.take (k+1))=xDa (xs.take k):=by
 rw [List.take_succ_eq_append_getElem hk,<-zSt hk,h,xDd]
theorem xDf (xs:List Nat) (k:Nat) (hk:k<xs.length) (h:nth xs k≠0):xDa (xs.take (k+1))=xs.take (k+1):=by
 rw [List.take_succ_eq_append_getElem hk];exact xDc _ _ (by rw [<-zSt hk];exact h)
def val:List Nat->Nat
 | []=>0
 | x::xs=>x+1000000000*val xs
def limbs (n:Nat):List Nat:=if h:n=0 then [] else n%1000000000::limbs (n/1000000000)
termination_by n
decreasing_by omega
theorem zQo:limbs 0=[]:=by unfold limbs;simp
theorem zQj {n:Nat} (h:n≠0):limbs n=n%1000000000::limbs (n/1000000000):=by
 conv=>lhs;unfold limbs
 simp [h]
theorem xEi:val []=0:=rfl
theorem xEb (x:Nat) (xs:List Nat):val (x::xs)=x+1000000000*val xs:=rfl
theorem xEf (n:Nat):val (limbs n)=n:=by
 induction n using Nat.strongRecOn with
 | _ n ih =>
  by_cases h:n=0
  ·subst h;rw [zQo];rfl
  rw [zQj h,xEb,ih _ oMx];omega
def Low (xs:List Nat):Prop:=∀ x∈xs,x<1000000000
theorem Low.nil:Low []:=by intro x h;simp at h
theorem Low.cons {x:Nat} {xs:List Nat} (h:x<1000000000) (hs:Low xs):Low (x::xs):=by
 intro y hy
 rcases List.mem_cons.1 hy with rfl|hy
 ·exact h
 exact hs y hy
theorem Low.head {x:Nat} {xs:List Nat} (h:Low (x::xs)):x<1000000000:=h x sMx
theorem Low.tail {x:Nat} {xs:List Nat} (h:Low (x::xs)):Low xs:=fun y hy=>h y (by simp [hy])
theorem Low.append {xs ys:List Nat} (h:Low xs) (k:Low ys):Low (xs++ys):=by
 intro x hx
 rcases List.mem_append.1 hx with hx|hx
 ·exact h x hx
 exact k x hx
theorem Low.snoc {xs:List Nat} {x:Nat} (h:Low xs) (k:x<1000000000):Low (xs++[x]):=h.append (Low.cons k Low.nil)
theorem Low.take {xs:List Nat} (h:Low xs) (k:Nat):Low (xs.take k):=fun x hx=>h x (List.mem_of_mem_take hx)
theorem Low.drop {xs:List Nat} (h:Low xs) (k:Nat):Low (xs.drop k):=fun x hx=>h x (List.mem_of_mem_drop hx)
theorem Low.nth {xs:List Nat} (h:Low xs) (i:Nat):nth xs i<1000000000:=by
 by_cases hi:i<xs.length
 ·rw [zSt hi];exact h _ (List.getElem_mem hi)
 rw [zSr oMx];omega
theorem Low.limbs (n:Nat):Low (limbs n):=by
 induction n using Nat.strongRecOn with
 | _ n ih =>
  by_cases h:n=0
  ·subst h;rw [zQo];exact Low.nil
  rw [zQj h];exact Low.cons oMx (ih _ oMx)
theorem zQr (n:Nat):Low (xGk n):=by
 intro x hx;unfold xGk at hx;rw [List.eq_of_mem_replicate hx];omega
theorem xEa (xs ys:List Nat):val (xs++ys)=val xs+1000000000^xs.length*val ys:=by
 induction xs with
 | nil=>simp [val]
 | cons x xs ih =>
  simp only [List.cons_append,xEb,ih,List.length_cons,Nat.pow_succ];rw [Nat.mul_add,Nat.mul_comm (1000000000^xs.length) 1000000000,Nat.mul_assoc,Nat.add_assoc]
theorem xEk (xs:List Nat) (x:Nat):val (xs++[x])=val xs+1000000000^xs.length*x:=by
 rw [xEa];simp [val]
theorem xEs (n:Nat):val (xGk n)=0:=by
 unfold xGk
 induction n with
 | zero=>rfl
 | succ n ih=>rw [List.replicate_succ,xEb,ih]
theorem xEg {xs:List Nat} (h:Low xs):val xs<1000000000^xs.length:=by
 induction xs with
 | nil=>simp [val]
 | cons x xs ih =>
  have h1:=h.head;have h2:=ih h.tail;rw [xEb,List.length_cons,Nat.pow_succ];generalize 1000000000^xs.length=P at *;omega
theorem xEn (xs:List Nat) (k:Nat):val (xs.take (k+1))=val (xs.take k)+1000000000^k*nth xs k:=by
 by_cases h:k<xs.length
 ·rw [List.take_succ_eq_append_getElem h,xEk,List.length_take,Nat.min_eq_left oMx,zSt h]
 rw [zSr oMx,List.take_of_length_le oMx,List.take_of_length_le oMx];simp
theorem xEr (xs:List Nat):val (xDa xs)=val xs:=by
 induction xs with
 | nil=>rfl
 | cons x xs ih =>
  simp only [xDa]
  cases h:xDa xs with
  | nil =>
   rw [h] at ih;rw [xEb,<-ih]
   by_cases hx:x=0<;>simp [hx,val]
  | cons y ys=>rw [xEb x xs,<-ih,h,<-xEb]
theorem zQm {xs:List Nat} (h:Low xs):limbs (val xs)=xDa xs:=by
 induction xs with
 | nil=>exact zQo
 | cons x xs ih =>
  have h1:=h.head;have h2:=ih h.tail;rw [xEb]
  by_cases h0:x+1000000000*val xs=0
  ·have hx:x=0:=by omega
   have hv:val xs=0:=by omega
   rw [h0,zQo];rw [hv,zQo] at h2
   simp [xDa,<-h2,hx]
  rw [zQj h0]
  have e1:(x+1000000000*val xs)%1000000000=x:=by omega
  have e2:(x+1000000000*val xs)/1000000000=val xs:=by omega
  rw [e1,e2,h2];simp only [xDa]
  cases ht:xDa xs with
  | nil =>
   have:val xs=0:=by rw [<-xEr,ht];rfl
   have hx:x≠0:=by omega
   simp [hx]
  | cons y ys=>rfl
theorem zQh (n:Nat):n<1000000000^(limbs n).length:=by
 have:=xEg (Low.limbs n);rwa [xEf] at this
theorem zPy {n:Nat} (h:n≠0):1000000000^((limbs n).length-1)<=n:=by
 induction n using Nat.strongRecOn with
 | _ n ih =>
  rw [zQj h,List.length_cons,Nat.add_sub_cancel]
  by_cases h0:n/1000000000=0
  ·rw [h0,zQo];simp;omega
  have h1:=ih _ oMx h0
  have h2:(limbs (n/1000000000)).length≠0:=by rw [zQj h0];simp
  obtain ⟨m,hm⟩:∃ m,(limbs (n/1000000000)).length=m+1:=⟨(limbs (n/1000000000)).length-1,oMx⟩;rw [hm] at h1 ⊢;rw [Nat.add_sub_cancel] at h1;rw [Nat.pow_succ];generalize 1000000000^m=P at *;omega
theorem zVg {a b:Nat} (h:a<=b):1000000000^a<=1000000000^b:=Nat.pow_le_pow_right oMx h
theorem pow_pos' (a:Nat):0<1000000000^a:=Nat.pow_pos oMx
theorem zQb {n k:Nat} (h:n<1000000000^k):(limbs n).length<=k:=by
 by_cases h0:n=0
 ·subst h0;rw [zQo];simp
 have h1:=zPy h0
 apply Decidable.byContradiction
 intro hk
 have:=zVg (a:=k) (b:=(limbs n).length-1) oMx;omega
theorem zQd {a b:Nat} (h:a<=b):(limbs a).length<=(limbs b).length:=zQb (Nat.lt_of_le_of_lt h (zQh b))
theorem zQc {a b:Nat} (h:(limbs a).length<(limbs b).length):a<b:=by
 apply Decidable.byContradiction
 intro hk
 have:=zQd (a:=b) (b:=a) oMx;omega
theorem zPx {n:Nat}:limbs n=[]↔n=0:=by
 refine ⟨fun h=>?_,fun h=>by rw [h,zQo]⟩
 rw [<-xEf n,h];rfl
theorem zQg {n:Nat}:0<(limbs n).length↔n≠0:=by
 rw [<-List.ne_nil_iff_length_pos];exact not_congr zPx
theorem xEl (xs:List Nat) (k:Nat):val xs=val (xs.take k)+1000000000^(min k xs.length)*val (xs.drop k):=by
 conv=>lhs;rw [<-List.take_append_drop k xs]
 rw [xEa,List.length_take]
theorem xEd (xs:List Nat) (k:Nat):val (xs.drop k)=nth xs k+1000000000*val (xs.drop (k+1)):=by
 by_cases h:k<xs.length
 ·rw [List.drop_eq_getElem_cons h,xEb,zSt h]
 rw [List.drop_eq_nil_of_le oMx,List.drop_eq_nil_of_le oMx,zSr oMx];rfl
def zJk (a b:Nat):Int:=if a<b then -1 else if b<a then 1 else 0
theorem zJn {a b:Nat} (h:a<b):zJk a b = -1:=by simp [zJk,h]
theorem zJm {a b:Nat} (h:b<a):zJk a b=1:=by
 have:¬a<b:=by omega
 simp [zJk,h,this]
theorem zJl {a b:Nat} (h:a=b):zJk a b=0:=by simp [zJk,h]
theorem xEh {xs ys:List Nat} {i:Nat} (hl:xs.length=ys.length) (hi:i<xs.length) (hx:Low xs) (hd:val (xs.drop (i+1))=val (ys.drop (i+1))) (h:nth xs i<nth ys i):val xs<val ys:=by
 rw [xEl xs i,xEl ys i,xEd xs i,xEd ys i,hd,<-hl,Nat.min_eq_left oMx];have h1:=xEg (hx.take i);rw [List.length_take,Nat.min_eq_left oMx] at h1;generalize val (ys.drop (i+1))=D at *;generalize nth xs i=x at *;generalize nth ys i=y at *;have h2:1000000000^i*(x+1000000000*D+1)<=1000000000^i*(y+1000000000*D):=Nat.mul_le_mul_left _ oMx;rw [Nat.mul_add,Nat.mul_one] at h2;omega
theorem zHs (xs ys os:List Nat) (k cr:Nat) (hk:os.length=k) (h:val os+cr*1000000000^k=val (xs.take k)+val (ys.take k)) :
  val (os++[(nth xs k+nth ys k+cr)%1000000000])+(nth xs k+nth ys k+cr)/1000000000*1000000000^(k+1)=val (xs.take (k+1))+val (ys.take (k+1)):=by
 rw [xEk,hk,xEn,xEn,Nat.pow_succ];generalize 1000000000^k=P at *;generalize nth xs k=x at *;generalize nth ys k=y at *
 have e:P*(x+y+cr)=P*((x+y+cr)%1000000000)+(x+y+cr)/1000000000*(P*1000000000):=by
  have:=Nat.mod_add_div (x+y+cr) 1000000000
  grind
 rw [Nat.mul_add,Nat.mul_add,Nat.mul_comm P cr] at e;omega
theorem zHr (a b n cr:Nat) (os:List Nat) (_hl:os.length=n+1) (hlow:Low os) (ha:(limbs a).length<=n) (hb:(limbs b).length<=n) (h:val os+cr*1000000000^(n+1)=val ((limbs a).take (n+1))+val ((limbs b).take (n+1))) :
  xDa os=limbs (a+b):=by
 rw [List.take_of_length_le oMx,List.take_of_length_le oMx,xEf,xEf] at h;have h1:=Nat.lt_of_lt_of_le (zQh a) (zVg ha);have h2:=Nat.lt_of_lt_of_le (zQh b) (zVg hb)
 have hc:cr=0:=by
  rcases Nat.eq_zero_or_pos cr with h0|h0
  ·exact h0
  have:1*1000000000^(n+1)<=cr*1000000000^(n+1):=Nat.mul_le_mul_right _ h0;rw [Nat.pow_succ] at *;generalize 1000000000^n=P at *;omega
 subst hc;rw [Nat.zero_mul,Nat.add_zero] at h;rw [<-zQm hlow,h]
theorem xBs (xs ys os:List Nat) (k br:Nat) (hk:os.length=k) (hx:nth xs k<1000000000) (hy:nth ys k<1000000000) (hbr:br<=1) (h:val os+val (ys.take k)=val (xs.take k)+br*1000000000^k) :
  val (os++[(nth xs k+1000000000-nth ys k-br)%1000000000])+val (ys.take (k+1))=val (xs.take (k+1))+(1-(nth xs k+1000000000-nth ys k-br)/1000000000)*1000000000^(k+1):=by
 rw [xEk,hk,xEn,xEn,Nat.pow_succ];generalize 1000000000^k=P at *;generalize nth xs k=x at *;generalize nth ys k=y at *
 rcases Nat.lt_or_ge x (y+br) with hlt|hge
 ·have e1:(x+1000000000-y-br)%1000000000=x+1000000000-y-br:=Nat.mod_eq_of_lt oMx;have e2:(x+1000000000-y-br)/1000000000=0:=Nat.div_eq_of_lt oMx;rw [e1,e2];obtain ⟨z,hz⟩:∃ z,x+1000000000=y+br+z:=⟨x+1000000000-y-br,oMx⟩
  have e3:x+1000000000-y-br=z:=by omega
  rw [e3]
  grind
 obtain ⟨z,hz⟩:∃ z,x=y+br+z:=⟨x-y-br,oMx⟩
 have e1:(x+1000000000-y-br)%1000000000=z:=by omega
 have e2:(x+1000000000-y-br)/1000000000=1:=by omega
 rw [e1,e2]
 grind
theorem sub_end (a b br:Nat) (os:List Nat) (hab:b<=a) (hl:os.length=(limbs a).length) (hlow:Low os) (h:val os+val ((limbs b).take (limbs a).length)=val ((limbs a).take (limbs a).length)+br*1000000000^(limbs a).length) :
  xDa os=limbs (a-b):=by
 rw [List.take_of_length_le (zQd hab),List.take_length,xEf,xEf] at h;have h1:=xEg hlow;rw [hl] at h1
 have hc:br=0:=by
  rcases Nat.eq_zero_or_pos br with h0|h0
  ·exact h0
  have:1*1000000000^(limbs a).length<=br*1000000000^(limbs a).length:=Nat.mul_le_mul_right _ h0;omega
 subst hc;rw [Nat.zero_mul,Nat.add_zero] at h
 rw [<-zQm hlow];congr 1;omega
theorem zSv {xs:List Nat} {i j x:Nat} (h:i≠j):nth (xs.set i x) j=nth xs j:=by simp [nth,h,List.getD_eq_getElem?_getD]
theorem xEj {xs:List Nat} {i x:Nat} (h:i<xs.length):val (xs.set i x)+1000000000^i*nth xs i=val xs+1000000000^i*x:=by
 induction xs generalizing i with
 | nil=>simp at h
 | cons y ys ih =>
  cases i with
  | zero=>simp [xEb,zSq];omega
  | succ i =>
   have:=ih (i:=i) (by simpa using h);rw [List.set_cons_succ,xEb,xEb,zSp,Nat.pow_succ]
   grind
theorem Low.set {xs:List Nat} (h:Low xs) (i:Nat) {x:Nat} (hx:x<1000000000):Low (xs.set i x):=by
 intro y hy
 rcases List.mem_or_eq_of_mem_set hy with h1|h1
 ·exact h y h1
 omega
theorem zRx (r:List Nat) (i k x y cr V Y:Nat) (hj:i+k<r.length) (h:val r+cr*1000000000^(i+k)=V+x*1000000000^i*Y) :
  val (r.set (i+k) ((nth r (i+k)+x*y+cr)%1000000000))+(nth r (i+k)+x*y+cr)/1000000000*1000000000^(i+(k+1))=V+x*1000000000^i*(Y+1000000000^k*y):=by
 have h1:=xEj (x:=(nth r (i+k)+x*y+cr)%1000000000) hj;have h2:=Nat.mod_add_div (nth r (i+k)+x*y+cr) 1000000000
 have h3:1000000000^(i+(k+1))=1000000000^(i+k)*1000000000:=by rw [<-Nat.add_assoc,Nat.pow_succ]
 have h4:1000000000^i*1000000000^k=1000000000^(i+k):=by rw [Nat.pow_add]
 rw [h3];generalize nth r (i+k)=z at *;generalize (z+x*y+cr)%1000000000=m at *;generalize (z+x*y+cr)/1000000000=q at *;generalize 1000000000^(i+k)=P at *;generalize 1000000000^i=I at *;generalize 1000000000^k=K at *;generalize val (r.set (i+k) m)=vs at *;generalize val r=v at *
 have e:P*(z+x*y+cr)=P*m+P*(1000000000*q):=by rw [<-h2,Nat.mul_add]
 have e2:x*I*(Y+K*y)=x*I*Y+P*(x*y):=by rw [<-h4];grind
 rw [e2]
 have e3:P*(z+x*y+cr)=P*z+P*(x*y)+cr*P:=by grind
 have e4:P*(1000000000*q)=q*(P*1000000000):=by grind
 omega
theorem zRw (r:List Nat) (i cr lb V x Y:Nat) (hj:i+lb<r.length) (hz:nth r (i+lb)=0) (h:val r+cr*1000000000^(i+lb)=V+x*1000000000^i*Y) :
  val (r.set (i+lb) (nth r (i+lb)+cr))=V+x*1000000000^i*Y:=by
 have h1:=xEj (x:=nth r (i+lb)+cr) hj;rw [hz,Nat.zero_add] at h1;rw [hz,Nat.zero_add,<-h,Nat.mul_comm cr];omega
theorem zSw (n i:Nat):nth (xGk n) i=0:=by
 simp [nth,xGk,List.getD_eq_getElem?_getD,List.getElem?_replicate]
 split<;>rfl
theorem drop_set {xs:List Nat} {k x:Nat} (h:k<xs.length):(xs.set k x).drop k=x::xs.drop (k+1):=by
 rw [List.drop_eq_getElem_cons (by simpa using h)]
 simp [List.drop_set_of_lt]
theorem zZt (r xs:List Nat) (k d rest:Nat) (hk:k<r.length) (_hd:0<d) (h:d*val (r.drop (k+1))+rest=val (xs.drop (k+1))) :
  d*val ((r.set k ((rest*1000000000+nth xs k)/d)).drop k)+(rest*1000000000+nth xs k)%d=val (xs.drop k):=by
 rw [drop_set hk,xEb,xEd xs k,<-h];have:=Nat.mod_add_div (rest*1000000000+nth xs k) d;generalize (rest*1000000000+nth xs k)%d=m at *;generalize (rest*1000000000+nth xs k)/d=q at *;generalize val (r.drop (k+1))=V at *
 grind
theorem zZs {rest x d:Nat} (hr:rest<d) (hx:x<1000000000):(rest*1000000000+x)/d<1000000000:=by
 apply Nat.div_lt_of_lt_mul
 have:(rest+1)*1000000000<=d*1000000000:=Nat.mul_le_mul_right _ hr;omega
theorem zZr (a d rest:Nat) (r:List Nat) (hd:rest<d) (hr:Low r) (h:d*val r+rest=a):xDa r=limbs (a/d)/\rest=a%d:=by
 have h1:a/d=val r:=by
  rw [<-h,Nat.mul_add_div oMx,Nat.div_eq_of_lt hd,Nat.add_zero]
 exact ⟨by rw [<-zQm hr,h1],by rw [<-h,Nat.mul_add_mod,Nat.mod_eq_of_lt hd]⟩
theorem xEo (vs:List Nat) (n:Nat) (hn:vs.length=n+2):val vs=(nth vs (n+1)*1000000000+nth vs n)*1000000000^n+val (vs.take n):=by
 have h:=xEl vs n;rw [hn,Nat.min_eq_left oMx,xEd vs n,xEd vs (n+1),List.drop_eq_nil_of_le oMx] at h;rw [h,xEi]
 grind
theorem val_top3 (us:List Nat) (n:Nat) (hn:us.length=n+3):val us=((nth us (n+2)*1000000000+nth us (n+1))*1000000000+nth us n)*1000000000^n+val (us.take n):=by
 have h:=xEl us n;rw [hn,Nat.min_eq_left oMx,xEd us n,xEd us (n+1),xEd us (n+2),List.drop_eq_nil_of_le oMx] at h;rw [h,xEi]
 grind
section
variable {U V P v1 v2 vl top u2 ul q r:Nat}
structure zHf (U V P v1 v2 vl top u2 ul:Nat):Prop where
 hV:V=(v1*1000000000+v2)*P+vl
 hU:U=(top*1000000000+u2)*P+ul
 hvl:vl<P
 hul:ul<P
 hv2:v2<1000000000
 hu2:u2<1000000000
 hv1:0<v1
 hlt:U<1000000000*V
theorem zHf.init (h:zHf U V P v1 v2 vl top u2 ul) (hq:top<(q+1)*v1):U<(q+1)*V:=by
 have h1:(top+1)*(1000000000*P)<=((q+1)*v1)*(1000000000*P):=Nat.mul_le_mul_right _ hq
 have h2:(q+1)*((v1*1000000000)*P)<=(q+1)*V:=Nat.mul_le_mul_left _ (by
  rw [h.hV,Nat.add_mul];omega)
 have h3:U<(top+1)*(1000000000*P):=by
  have h4:(top*1000000000+u2+1)*P<=((top+1)*1000000000)*P:=Nat.mul_le_mul_right _ (by have:=h.hu2;omega);have h5:=h.hU;have h6:=h.hul;rw [Nat.add_mul _ 1] at h4;rw [Nat.mul_assoc] at h4;omega
 have h4:(q+1)*((v1*1000000000)*P)=((q+1)*v1)*(1000000000*P):=by grind
 omega
theorem zHf.dec (h:zHf U V P v1 v2 vl top u2 ul) (hqr:q*v1+r=top) (hc:r*1000000000+u2<q*v2):U<q*V:=by
 have h1:(top*1000000000+u2+1)<=q*(v1*1000000000+v2):=by
  rw [<-hqr,Nat.mul_add,<-Nat.mul_assoc];omega
 have h2:=Nat.mul_le_mul_right P h1;have h3:q*((v1*1000000000+v2)*P)<=q*V:=Nat.mul_le_mul_left _ (Nat.le_trans (Nat.le_add_right _ vl) (Nat.le_of_eq h.hV.symm));have h4:=h.hU;have h5:=h.hul;rw [Nat.add_mul _ 1,Nat.mul_assoc q] at h2;omega
theorem zHf.dec_big (h:zHf U V P v1 v2 vl top u2 ul) (hq:1000000000<=q):U<q*V:=by
 have h1:1000000000*V<=q*V:=Nat.mul_le_mul_right V hq;have:=h.hlt;omega
theorem zHf.exit_small (h:zHf U V P v1 v2 vl top u2 ul) (hqr:q*v1+r=top) (hq:q<1000000000) (hc:q*v2<=r*1000000000+u2):q*V<=U+V:=by
 have h1:q*(v1*1000000000+v2)<=top*1000000000+u2:=by
  rw [<-hqr,Nat.mul_add,<-Nat.mul_assoc];omega
 have h2:=Nat.mul_le_mul_right P h1;have h3:q*vl<=1000000000*P:=Nat.mul_le_mul oMx (by have:=h.hvl;omega);have h4:1*(1000000000*P)<=v1*(1000000000*P):=Nat.mul_le_mul_right _ h.hv1;have h5:=h.hU;have h6:=h.hV
 have h7:q*V=q*(v1*1000000000+v2)*P+q*vl:=by rw [h.hV];grind
 have h8:v1*(1000000000*P)=v1*1000000000*P:=by grind
 rw [Nat.add_mul] at h6;omega
theorem zHf.top_lt (h:zHf U V P v1 v2 vl top u2 ul):top<(v1+1)*1000000000:=by
 apply Decidable.byContradiction
 intro hc
 have h1:((v1+1)*1000000000)*(1000000000*P)<=top*(1000000000*P):=Nat.mul_le_mul_right _ oMx
 have h2:V<(v1+1)*1000000000*P:=by
  have h3:(v1*1000000000+v2+1)*P<=((v1+1)*1000000000)*P:=Nat.mul_le_mul_right _ (by have:=h.hv2;omega);have h4:=h.hV;have h5:=h.hvl;rw [Nat.add_mul _ 1] at h3;omega
 have h3:1000000000*V<((v1+1)*1000000000)*(1000000000*P):=by
  have:1000000000*V<1000000000*((v1+1)*1000000000*P):=by omega
  grind
 have h4:top*(1000000000*P)<=U:=by
  rw [h.hU,Nat.add_mul,Nat.mul_assoc];omega
 have:=h.hlt;omega
theorem zHf.q_lt (h:zHf U V P v1 v2 vl top u2 ul) (hqr:q*v1+r=top) (hr:1000000000<=r):q<1000000000:=by
 have h1:=h.top_lt;rw [Nat.add_mul] at h1
 apply Decidable.byContradiction
 intro hc
 have h2:1000000000*v1<=q*v1:=Nat.mul_le_mul_right _ oMx;omega
theorem zHf.exit_big (h:zHf U V P v1 v2 vl top u2 ul) (hqr:q*v1+r=top) (hr:1000000000<=r):q*V<=U+V:=by
 have h0:=h.q_lt hqr hr
 have h1:q*V<=q*((v1+1)*1000000000*P):=Nat.mul_le_mul_left _ (by
  have h3:(v1*1000000000+v2+1)*P<=((v1+1)*1000000000)*P:=Nat.mul_le_mul_right _ (by have:=h.hv2;omega);have h4:=h.hV;have h5:=h.hvl;rw [Nat.add_mul _ 1] at h3
  omega)
 have h2:(q*v1+q)*(1000000000*P)<=top*(1000000000*P):=Nat.mul_le_mul_right _ oMx
 have h3:q*((v1+1)*1000000000*P)=(q*v1+q)*(1000000000*P):=by grind
 have h4:top*(1000000000*P)<=U:=by
  rw [h.hU,Nat.add_mul,Nat.mul_assoc];omega
 omega
end
theorem xCq (os us vs:List Nat) (k q bo x y:Nat) (hk:os.length=k) (hx:nth us k=x) (hy:nth vs k=y) (h:val (us.take k)+bo*1000000000^k=val os+q*val (vs.take k)) (o bo':Nat)
  (ho:x+bo'*1000000000=o+q*y+bo):val (us.take (k+1))+bo'*1000000000^(k+1)=val (os++[o])+q*val (vs.take (k+1)):=by
 rw [xEk,hk,xEn,xEn,hx,hy,Nat.pow_succ];generalize 1000000000^k=P at *
 have e:P*(x+bo'*1000000000)=P*(o+q*y+bo):=by rw [ho]
 grind
theorem xBd {U V q M un bo vo:Nat} (h0:U<(q+1)*V) (hU:U=M+un*vo) (os:Nat) (h:M+bo*vo=os+q*V) (hge:bo<=un):q=U/V/\os+(un-bo)*vo=U%V:=by
 have hV:0<V:=by rcases Nat.eq_zero_or_pos V with e|e;(subst e;omega);exact e
 obtain ⟨d,rfl⟩:∃ d,un=bo+d:=⟨un-bo,oMx⟩
 have h1:U=q*V+(os+d*vo):=by rw [hU];grind
 have h2:os+d*vo<V:=by rw [Nat.add_mul] at h0;omega
 have e:bo+d-bo=d:=by omega
 rw [e,h1];refine ⟨?_,?_⟩
 ·rw [Nat.mul_comm q V,Nat.mul_add_div hV,Nat.div_eq_of_lt h2,Nat.add_zero]
 rw [Nat.mul_comm q V,Nat.mul_add_mod,Nat.mod_eq_of_lt h2]
theorem xBa {U V q M un bo vo:Nat} (h0:q*V<=U+V) (hU:U=M+un*vo) (os:Nat) (hos:os<vo) (h:M+bo*vo=os+q*V) (hlt:un<bo) (os2 ca:Nat) (hos2:os2<vo) (hVo:V<vo) (hV:0<V) (h2:os2+ca*vo=os+V) :
  0<q/\q-1=U/V/\os2=U%V/\un+ca=bo:=by
 obtain ⟨d,rfl⟩:∃ d,bo=un+(d+1):=⟨bo-un-1,oMx⟩
 have h3:U+(d+1)*vo=os+q*V:=by rw [hU];grind
 have h4:U<q*V:=by rw [Nat.add_mul] at h3;omega
 have hq:0<q:=by rcases Nat.eq_zero_or_pos q with e|e;(subst e;omega);exact e
 obtain ⟨p,rfl⟩:∃ p,q=p+1:=⟨q-1,oMx⟩
 have e1:(p+1)*V=p*V+V:=by grind
 rw [e1] at h0 h3 h4
 have h5:U-p*V<V:=by omega
 have h6:U+(d+1)*vo=os2+ca*vo+p*V:=by omega
 have hca:ca=d+1:=by
  rcases Nat.lt_trichotomy ca (d+1) with e|e|e
  ·have:(ca+1)*vo<=(d+1)*vo:=Nat.mul_le_mul_right _ e;rw [Nat.add_mul] at this;omega
  ·exact e
  have:(d+1+1)*vo<=ca*vo:=Nat.mul_le_mul_right _ e;rw [Nat.add_mul (d+1) 1] at this;omega
 subst hca
 have h7:U=p*V+os2:=by omega
 refine ⟨oMx,?_,?_,rfl⟩
 ·rw [Nat.add_sub_cancel,h7,Nat.mul_comm p V,Nat.mul_add_div hV,Nat.div_eq_of_lt oMx,Nat.add_zero]
 rw [h7,Nat.mul_comm p V,Nat.mul_add_mod,Nat.mod_eq_of_lt oMx]
theorem zQi {f:Nat} (h0:0<f) (h1:f<1000000000):limbs f=[f]:=by
 rw [zQj oMx,Nat.mod_eq_of_lt h1,Nat.div_eq_of_lt h1,zQo]
theorem zSs {b n:Nat} (h:(limbs b).length=n+1):0<nth (limbs b) n:=by
 have h1:=val_last' (limbs b) n h
 have hb:b≠0:=by intro e;subst e;rw [zQo] at h;simp at h
 have h2:=zPy hb;rw [h,Nat.add_sub_cancel] at h2;rw [xEf] at h1;have h3:=xEg ((Low.limbs b).take n);rw [List.length_take,Nat.min_eq_left oMx] at h3
 rcases Nat.eq_zero_or_pos (nth (limbs b) n) with e|e
 ·rw [e] at h1;omega
 exact e
where
 val_last' (us:List Nat) (n:Nat) (h:us.length=n+1):val us=val (us.take n)+nth us n*1000000000^n:=by
  have:=xEl us n;rw [h,Nat.min_eq_left oMx,xEd us n,List.drop_eq_nil_of_le oMx,xEi] at this
  rw [this];grind
structure Fac (b n f:Nat):Prop where
 len:(limbs b).length=n+2
 pos:0<f
 low:f<1000000000
 fit:b*f<1000000000^(n+2)
theorem Fac.mk' {b n:Nat} (h:(limbs b).length=n+2):Fac b n (1000000000/(nth (limbs b) (n+1)+1)):=by
 have h1:=zSs (n:=n+1) h;have h2:=(Low.limbs b).nth (n+1);have hV:=xEo (limbs b) n h;rw [xEf] at hV;have hl:=xEg ((Low.limbs b).take n);rw [List.length_take,Nat.min_eq_left oMx] at hl;have h3:=(Low.limbs b).nth n;generalize nth (limbs b) (n+1)=t at *;generalize nth (limbs b) n=s at *;generalize val ((limbs b).take n)=l at *;refine ⟨h,Nat.div_pos oMx oMx,Nat.div_lt_of_lt_mul oMx,?_⟩
 have h4:b<(t+1)*1000000000*1000000000^n:=by
  have h5:(t*1000000000+s+1)*1000000000^n<=(t+1)*1000000000*1000000000^n:=Nat.mul_le_mul_right _ oMx;rw [Nat.add_mul _ 1] at h5;omega
 have h5:(t+1)*(1000000000/(t+1))<=1000000000:=Nat.mul_div_le _ _;have h6:0<1000000000/(t+1):=Nat.div_pos oMx oMx;generalize 1000000000/(t+1)=f at *;have h7:b*f<(t+1)*1000000000*1000000000^n*f:=Nat.mul_lt_mul_of_pos_right h4 h6
 have h8:(t+1)*1000000000*1000000000^n*f=((t+1)*f)*(1000000000*1000000000^n):=by grind
 have h9:((t+1)*f)*(1000000000*1000000000^n)<=1000000000*(1000000000*1000000000^n):=Nat.mul_le_mul_right _ h5
 have h10:1000000000^(n+2)=1000000000*(1000000000*1000000000^n):=by rw [Nat.pow_succ,Nat.pow_succ];grind
 omega
theorem Fac.len2 {b n f:Nat} (h:Fac b n f):(limbs (b*f)).length=n+2:=by
 have h1:=zQb h.fit;have h2:(limbs b).length<=(limbs (b*f)).length:=zQd (Nat.le_mul_of_pos_right _ h.pos);have:=h.len;omega
theorem Fac.ne {b n f:Nat} (h:Fac b n f):0<b:=by
 have:=h.len
 rcases Nat.eq_zero_or_pos b with e|e
 ·subst e;rw [zQo] at this;simp at this
 exact e
theorem Fac.pos2 {b n f:Nat} (h:Fac b n f):0<b*f:=Nat.mul_pos h.ne h.pos
def Div (a b f k:Nat) (us qs:List Nat):Prop:=a*f=val us+(b*f)*(1000000000^k*val (qs.drop k))/\val (us.drop k)<b*f
theorem Div.start {a b n f:Nat} (h:Fac b n f) (us qs:List Nat) (hl:us.length=(limbs a).length+1) (hv:val us=a*f) (hq:qs.length=(limbs a).length+1-(n+2)) (hba:n+2<=(limbs a).length) (_hu:Low us) :
  Div a b f ((limbs a).length+1-(n+2)) us qs:=by
 refine ⟨by rw [List.drop_eq_nil_of_le oMx,hv];simp [val],?_⟩;generalize hk:(limbs a).length+1-(n+2)=k at *;have h1:=xEl us k;rw [Nat.min_eq_left oMx] at h1;have h2:=zQh a;have h3:a*f<1000000000^(limbs a).length*f:=Nat.mul_lt_mul_of_pos_right h2 h.pos
 have h4:1000000000^(limbs a).length=1000000000^k*1000000000^(n+1):=by rw [<-Nat.pow_add];congr 1;omega
 have h5:1000000000^(n+1)<=b:=by
  have:=zPy (n:=b) (by have:=h.ne;omega)
  rwa [h.len] at this
 have h6:1000000000^k*val (us.drop k)<1000000000^k*(b*f):=by
  have h7:1000000000^k*(1000000000^(n+1)*f)<=1000000000^k*(b*f):=Nat.mul_le_mul_left _ (Nat.mul_le_mul_right _ h5)
  have h8:1000000000^(limbs a).length*f=1000000000^k*(1000000000^(n+1)*f):=by rw [h4,Nat.mul_assoc]
  omega
 exact Nat.lt_of_mul_lt_mul_left h6
theorem Div.win {a b n f j:Nat} {us qs:List Nat} (h:Div a b f (j+1) us qs) (hf:Fac b n f) (hu:Low us) (hl:j+(n+3)<=us.length) :
  val ((us.drop j).take (n+3))<1000000000*(b*f)/\val (us.drop (j+(n+3)))=0:=by
 have h1:=h.2;have h2:=xEd us j;have h3:=hu.nth j;have h4:=xEl (us.drop j) (n+3);rw [List.length_drop,Nat.min_eq_left oMx,List.drop_drop] at h4;have h5:=hf.fit
 have h6:val (us.drop j)<1000000000*(b*f):=by omega
 refine ⟨oMx,?_⟩
 rcases Nat.eq_zero_or_pos (val (us.drop (j+(n+3)))) with e|e
 ·exact e
 exfalso
 have h7:1000000000^(n+3)*1<=1000000000^(n+3)*val (us.drop (j+(n+3))):=Nat.mul_le_mul_left _ e;have h8:1000000000^(n+3)=1000000000^(n+2)*1000000000:=Nat.pow_succ ..;omega
theorem Div.step {a b n f j:Nat} {us qs ws:List Nat} (h:Div a b f (j+1) us qs) (hf:Fac b n f) (hu:Low us) (hl:j+(n+3)<=us.length) (hq:j<qs.length) (hw:ws.length=n+3) (hv:val ws=val ((us.drop j).take (n+3))%(b*f)) :
  Div a b f j (us.take j++(ws++us.drop (j+(n+3)))) (qs.set j (val ((us.drop j).take (n+3))/(b*f))):=by
 obtain ⟨hw1,hz⟩:=h.win hf hu hl;have hV:=hf.pos2;have hm:=Nat.mod_lt (val ((us.drop j).take (n+3))) hV;have hd:=Nat.mod_add_div (val ((us.drop j).take (n+3))) (b*f);have hs:=xEl us j;rw [Nat.min_eq_left oMx] at hs;have hs2:=xEl (us.drop j) (n+3);rw [List.length_drop,Nat.min_eq_left oMx,List.drop_drop,hz,Nat.mul_zero,Nat.add_zero] at hs2
 have hlt:(us.take j).length=j:=by rw [List.length_take];omega
 refine ⟨?_,?_⟩
 ·rw [h.1,xEa,xEa,hlt,hz,Nat.mul_zero,Nat.add_zero,drop_set hq,xEb,hs,hs2,hv];generalize val ((us.drop j).take (n+3))=W at *;generalize W%(b*f)=M at *;generalize W/(b*f)=D at *;generalize val (qs.drop (j+1))=Z at *;generalize b*f=V at *;rw [Nat.pow_succ];generalize 1000000000^j=P at *;rw [<-hd]
  grind
 rw [List.drop_append_of_le_length oMx,List.drop_eq_nil_of_le oMx,List.nil_append,xEa,hz,hv];omega
theorem Div.done {a b f:Nat} {us qs:List Nat} (h:Div a b f 0 us qs) (hf:0<f) (hb:0<b):val qs=a/b/\val us=(a%b)*f:=by
 obtain ⟨h1,h2⟩:=h;rw [List.drop_zero,Nat.pow_zero,Nat.one_mul] at h1;rw [List.drop_zero] at h2;have hV:0<b*f:=Nat.mul_pos hb hf;have e1:a*f/(b*f)=a/b:=Nat.mul_div_mul_right _ _ hf;have e2:a*f%(b*f)=(a%b)*f:=Nat.mul_mod_mul_right ..;rw [<-e1,<-e2,h1];refine ⟨?_,?_⟩
 ·rw [Nat.add_comm,Nat.mul_add_div hV,Nat.div_eq_of_lt h2,Nat.add_zero]
 rw [Nat.add_comm,Nat.mul_add_mod,Nat.mod_eq_of_lt h2]
theorem take_all {us:List Nat} {n:Nat} (hl:n<=us.length) (hv:val us<1000000000^n):val (us.take n)=val us:=by
 have h:=xEl us n;rw [Nat.min_eq_left hl] at h
 rcases Nat.eq_zero_or_pos (val (us.drop n)) with e|e
 ·rw [e] at h;omega
 have:1000000000^n*1<=1000000000^n*val (us.drop n):=Nat.mul_le_mul_left _ e;omega
theorem Div.rest {a b n f:Nat} {us qs:List Nat} (h:Div a b f 0 us qs) (hf:Fac b n f) (hu:Low us) (hl:n+2<=us.length):xDa (us.take (n+2))=limbs ((a%b)*f):=by
 have h1:=(h.done hf.pos hf.ne).2;have h2:=h.2;rw [List.drop_zero] at h2;have h3:=hf.fit;rw [<-zQm (hu.take _),take_all hl oMx,h1]
theorem xCz (xs os:List Nat) (k n cr:Nat) (hk:os.length=k) (h:val os+cr*1000000000^k=n*val (xs.take k)) :
  val (os++[(cr+nth xs k*n)%1000000000])+(cr+nth xs k*n)/1000000000*1000000000^(k+1)=n*val (xs.take (k+1)):=by
 rw [xEk,hk,xEn,Nat.pow_succ,Nat.mul_add,<-h];generalize 1000000000^k=P at *;generalize nth xs k=x at *
 have e:P*(cr+x*n)=P*((cr+x*n)%1000000000)+(cr+x*n)/1000000000*(P*1000000000):=by
  have:=Nat.mod_add_div (cr+x*n) 1000000000
  grind
 have e2:P*(cr+x*n)=cr*P+n*(P*x):=by grind
 omega
theorem zPw {x R:Nat} (hx:x<1000000000):xDa (x::limbs R)=limbs (R*1000000000+x):=by
 rw [<-zQm (Low.cons hx (Low.limbs R)),xEb,xEf]
 congr 1;omega
theorem xEq (xs:List Nat) (n:Nat) (h:xs.length<=n+2):val xs=val (xs.take n)+1000000000^n*(nth xs n+nth xs (n+1)*1000000000):=by
 have h1:=xEn xs n;have h2:=xEn xs (n+1);rw [List.take_of_length_le oMx] at h2;rw [h2,h1,Nat.pow_succ];generalize 1000000000^n=P at *
 grind
theorem xEp (xs:List Nat) (n:Nat) (h:xs.length<=n+1):val xs=val (xs.take n)+1000000000^n*nth xs n:=by
 have h1:=xEn xs n;rw [List.take_of_length_le oMx] at h1;exact h1
theorem xEm (a n:Nat):val ((limbs a).take n)<1000000000^n:=by
 have h:=xEg ((Low.limbs a).take n);exact Nat.lt_of_lt_of_le h (zVg (by rw [List.length_take];omega))
theorem quo_est {R Y n:Nat} (hn:(limbs Y).length=n+1) (hR2:R<Y*1000000000) :
  R/Y<=(nth (limbs R) n+nth (limbs R) (n+1)*1000000000)/nth (limbs Y) n/\(nth (limbs R) n+nth (limbs R) (n+1)*1000000000)/(nth (limbs Y) n+1)<=R/Y/\R/Y<1000000000:=by
 have hy0:=zSs hn
 have hY:0<Y:=by
  rcases Nat.eq_zero_or_pos Y with h|h
  ·rw [h,zQo] at hn;simp at hn
  exact h
 have hYlt:=zQh Y;rw [hn] at hYlt
 have hRl:(limbs R).length<=n+2:=zQb (by
  rw [Nat.pow_succ]
  exact Nat.lt_of_lt_of_le hR2 (Nat.mul_le_mul_right _ (Nat.le_of_lt hYlt)))
 have eR:=xEq (limbs R) n hRl;have eY:=xEp (limbs Y) n oMx;rw [xEf] at eR eY;have lR:=xEm R n;have lY:=xEm Y n;generalize nth (limbs R) n+nth (limbs R) (n+1)*1000000000=top at *;generalize nth (limbs Y) n=y at *;generalize val ((limbs R).take n)=rl at *;generalize val ((limbs Y).take n)=yl at *;generalize 1000000000^n=P at *;have hd:=Nat.div_mul_le_self R Y;refine ⟨?_,?_,Nat.div_lt_of_lt_mul hR2⟩
 ·rw [Nat.le_div_iff_mul_le hy0];generalize R/Y=d at *
  apply Decidable.byContradiction
  intro hk
  have h1:P*(top+1)<=P*(d*y):=Nat.mul_le_mul_left _ oMx
  have h2:d*Y=d*yl+P*(d*y):=by rw [eY];grind
  rw [Nat.mul_add,Nat.mul_one] at h1;omega
 rw [Nat.le_div_iff_mul_le hY];have h1:=Nat.div_mul_le_self top (y+1);generalize top/(y+1)=q at *;have h2:P*(q*(y+1))<=P*top:=Nat.mul_le_mul_left _ h1
 have h3:q*Y<=P*(q*(y+1)):=by
  have:Y<=P*(y+1):=by rw [Nat.mul_add,Nat.mul_one];omega
  have:=Nat.mul_le_mul_left q this
  grind
 omega
theorem zVr {R Y mid:Nat} (hY:0<Y) (h:mid*Y<=R):mid<=R/Y:=(Nat.le_div_iff_mul_le hY).2 h
theorem zVq {R Y mid:Nat} (hY:0<Y) (h:R<mid*Y):R/Y<mid:=(Nat.div_lt_iff_lt_mul hY).2 h
theorem zRp {a b br:Nat} {os:List Nat} (hab:b<=a) (hl:os.length=(limbs a).length) (hlow:Low os) (h:val os+val ((limbs b).take (limbs a).length)=val ((limbs a).take (limbs a).length)+br*1000000000^(limbs a).length):br=0:=by
 rw [List.take_of_length_le (zQd hab),List.take_length,xEf,xEf] at h;have h1:=xEg hlow;rw [hl] at h1
 rcases Nat.eq_zero_or_pos br with h0|h0
 ·exact h0
 have:1*1000000000^(limbs a).length<=br*1000000000^(limbs a).length:=Nat.mul_le_mul_right _ h0;omega
open Go.Lib
def zKp (l:List UInt8):Nat:=l.foldl (fun a c=>10*a+(c.toNat-48)) 0
def zBn (c:UInt8):Prop:=48<=c.toNat/\c.toNat<=57
def zAn (l:List UInt8):Prop:=∀ c∈l,zBn c
theorem zNf (l:List UInt8) (a:Nat):l.foldl (fun a c=>10*a+(c.toNat-48)) a=a*10^l.length+zKp l:=by
 induction l generalizing a with
 | nil=>simp [zKp]
 | cons c l ih =>
  unfold zKp;rw [List.foldl_cons,List.foldl_cons,ih,ih (10*0+(c.toNat-48)),List.length_cons,Nat.pow_succ]
  grind
theorem zKv:zKp []=0:=rfl
theorem zKq (l m:List UInt8):zKp (l++m)=zKp l*10^m.length+zKp m:=by
 unfold zKp;rw [List.foldl_append,zNf];rfl
theorem zKw (l:List UInt8) (c:UInt8):zKp (l++[c])=10*zKp l+(c.toNat-48):=by
 rw [zKq];simp [zKp];omega
theorem zKr (c:UInt8) (l:List UInt8):zKp (c::l)=(c.toNat-48)*10^l.length+zKp l:=by
 rw [<-List.singleton_append,zKq];simp [zKp]
theorem zAn.nil:zAn []:=by intro c h;simp at h
theorem zAn.append {l m:List UInt8} (h:zAn l) (k:zAn m):zAn (l++m):=by
 intro c hc
 rcases List.mem_append.1 hc with hc|hc
 ·exact h c hc
 exact k c hc
theorem zAn.left {l m:List UInt8} (h:zAn (l++m)):zAn l:=fun c hc=>h c (List.mem_append_left _ hc)
theorem zAn.take {l:List UInt8} (h:zAn l) (n:Nat):zAn (l.take n):=fun c hc=>h c (List.mem_of_mem_take hc)
theorem zAn.drop {l:List UInt8} (h:zAn l) (n:Nat):zAn (l.drop n):=fun c hc=>h c (List.mem_of_mem_drop hc)
theorem zAn.head {c:UInt8} {l:List UInt8} (h:zAn (c::l)):zBn c:=h c sMx
theorem zAn.tail {c:UInt8} {l:List UInt8} (h:zAn (c::l)):zAn l:=fun x hx=>h x (by simp [hx])
theorem zMh {d:Nat} (h:d<10):(UInt8.ofNat (48+d)).toNat=48+d:=by
 rw [UInt8.toNat_ofNat'];exact Nat.mod_eq_of_lt oMx
theorem zMf {d:Nat} (h:d<10):zBn (UInt8.ofNat (48+d)):=by
 unfold zBn;rw [zMh h];omega
theorem zKt {l:List UInt8} (h:zAn l):zKp l<10^l.length:=by
 induction l with
 | nil=>simp [zKp]
 | cons c l ih =>
  have h1:=ih h.tail;have h2:=h.head;unfold zBn at h2;rw [zKr,List.length_cons,Nat.pow_succ];have h3:(c.toNat-48)*10^l.length<=9*10^l.length:=Nat.mul_le_mul_right _ oMx;omega
theorem zKo (n:Nat):zKp (decDigits n)=n:=by
 induction n using Nat.strongRecOn with
 | _ n ih =>
  by_cases h:n<10
  ·rw [decDigits_one h];simp only [zKp,List.foldl_cons,List.foldl_nil,zMh h];omega
  rw [decDigits,dif_neg h,zKw,ih _ oMx,zMh oMx];omega
theorem zKg (n:Nat):zAn (decDigits n):=by
 induction n using Nat.strongRecOn with
 | _ n ih =>
  by_cases h:n<10
  ·rw [decDigits_one h];intro c hc;rw [List.mem_singleton] at hc;subst hc;exact zMf h
  rw [decDigits,dif_neg h];refine (ih _ oMx).append ?_
  intro c hc;rw [List.mem_singleton] at hc;subst hc;exact zMf oMx
theorem dig_eq {c:UInt8} (h:zBn c):UInt8.ofNat (48+(c.toNat-48))=c:=by
 unfold zBn at h
 apply UInt8.toNat_inj.1
 rw [zMh oMx];omega
theorem zKm {l:List UInt8} (h:zAn l) (hne:l≠[]) (h0:l.head? ≠ some 48):decDigits (zKp l)=l:=by
 generalize hn:l.length=n
 induction n generalizing l with
 | zero=>exact absurd (List.eq_nil_of_length_eq_zero hn) hne
 | succ n ih =>
  obtain ⟨m,c,rfl⟩:∃ m c,l=m++[c]:=⟨l.dropLast,l.getLast hne,(List.dropLast_concat_getLast hne).symm⟩;have hc:zBn c:=h c sMx;rw [zKw]
  by_cases hm:m=[]
  ·subst hm;unfold zBn at hc;simp only [zKv,Nat.mul_zero,Nat.zero_add,List.nil_append];rw [decDigits_one oMx,dig_eq hc]
  have h1:decDigits (zKp m)=m:=ih h.left hm (by
   intro e;apply h0
   cases m with
   | nil=>exact absurd rfl hm
   | cons a m=>simpa using e) (by simp at hn;omega)
  have hpos:0<zKp m:=by
   rcases Nat.eq_zero_or_pos (zKp m) with e|e
   ·exfalso
    rw [e,decDigits_one oMx] at h1
    apply h0
    rw [<-h1];rfl
   exact e
  unfold zBn at hc;rw [decDigits,dif_neg oMx,show (10*zKp m+(c.toNat-48))/10=zKp m by omega,show (10*zKp m+(c.toNat-48))%10=c.toNat-48 by omega,h1,dig_eq hc]
theorem zKl (n:Nat):decDigits n≠[]:=by
 intro e;have:=decDigits_length n;rw [e] at this;have:=nDigits_pos n;simp at *;omega
theorem zKh {n:Nat} (h:0<n):(decDigits n).head? ≠ some 48:=by
 induction n using Nat.strongRecOn with
 | _ n ih =>
  by_cases h1:n<10
  ·rw [decDigits_one h1]
   intro e
   rw [List.head?_cons] at e;have:=congrArg UInt8.toNat (Option.some.inj e);rw [zMh h1,show (48:UInt8).toNat=48 from rfl] at this;omega
  rw [decDigits,dif_neg h1];have:=ih (n/10) oMx oMx
  cases hd:decDigits (n/10) with
  | nil=>exact absurd hd (zKl _)
  | cons a l=>rw [hd] at this;simpa using this
theorem zKx {l:List UInt8} (h:zAn l) (e:Nat) (_he:e<=l.length):zKp (l.take e)=zKp l/10^(l.length-e):=by
 have h1:=zKq (l.take e) (l.drop e);rw [List.take_append_drop,List.length_drop] at h1;have h2:=zKt (h.drop e);rw [List.length_drop] at h2;rw [h1,Nat.mul_comm,Nat.mul_add_div (Nat.pow_pos oMx),Nat.div_eq_of_lt h2,Nat.add_zero]
theorem zKs {l:List UInt8} (h:zAn l) (e:Nat):zKp (l.drop e)=zKp l%10^(l.length-e):=by
 have h1:=zKq (l.take e) (l.drop e);rw [List.take_append_drop,List.length_drop] at h1;have h2:=zKt (h.drop e);rw [List.length_drop] at h2;rw [h1,Nat.mul_comm,Nat.mul_add_mod,Nat.mod_eq_of_lt h2]
theorem zVa (M:Nat) (hM:M<=18446744073709551615):∀ (l:List UInt8) (a:Nat),zAn l->a*10^l.length+zKp l<=M->parseUintM M a l = .ok (a*10^l.length+zKp l)
 | [],a,_,h=>by simp [parseUintM,zKp]
 | c::l,a,hd,h=>by
  have hc:=hd.head;unfold zBn at hc;rw [zKr,List.length_cons,Nat.pow_succ] at h ⊢;have hp:0<10^l.length:=Nat.pow_pos oMx
  have e1:a*(10^l.length*10)+((c.toNat-48)*10^l.length+zKp l)=(a*10+(c.toNat-48))*10^l.length+zKp l:=by grind
  rw [e1] at h ⊢
  have h2:a*10+(c.toNat-48)<=M:=by
   have:(a*10+(c.toNat-48))*1<=(a*10+(c.toNat-48))*10^l.length:=Nat.mul_le_mul_left _ hp;omega
  have ih:=zVa M hM l (a*10+(c.toNat-48)) hd.tail h;rw [parseUintM,if_pos hc,if_neg oMx,if_neg oMx,ih]
theorem zUz {l:List UInt8} (h:zAn l) (hne:l≠[]) (hl:l.length<=9):parseUintB 64 l = .ok (zKp l):=by
 have h1:=zKt h;have h2:10^l.length<=10^9:=Nat.pow_le_pow_right oMx hl
 rw [parseUintB,if_neg hne,zVa _ dCx l 0 h (by rw [Nat.zero_mul,Nat.zero_add];have:(10:Nat)^9<=2^64-1:=by decide
                                               omega)]
 rw [Nat.zero_mul,Nat.zero_add]
theorem zJj (n k:Nat) (hk:9*k<(decDigits n).length) :
  zKp (((decDigits n).take ((decDigits n).length-9*k)).drop ((decDigits n).length-9*k-9))=n/1000000000^k%1000000000:=by
 have hd:=zKg n;have ht:=zKx hd ((decDigits n).length-9*k) oMx;rw [zKs (hd.take _),ht,zKo,List.length_take,Nat.min_eq_left oMx];rw [show (decDigits n).length-((decDigits n).length-9*k)=9*k by omega,Nat.pow_mul,show (10:Nat)^9=1000000000 from rfl]
 by_cases h9:9<=(decDigits n).length-9*k
 ·rw [show (decDigits n).length-9*k-((decDigits n).length-9*k-9)=9 by omega]
 rw [show (decDigits n).length-9*k-((decDigits n).length-9*k-9)=(decDigits n).length-9*k by omega];have h1:=zKt (hd.take ((decDigits n).length-9*k));rw [ht,zKo,List.length_take,Nat.min_eq_left oMx,show (decDigits n).length-((decDigits n).length-9*k)=9*k by omega,Nat.pow_mul,show (10:Nat)^9=1000000000 from rfl] at h1;have h2:10^((decDigits n).length-9*k)<=10^9:=Nat.pow_le_pow_right oMx oMx;rw [show (10:Nat)^9=1000000000 from rfl] at h2;rw [Nat.mod_eq_of_lt h1,Nat.mod_eq_of_lt oMx]
def zPq (n k:Nat):List Nat:=(List.range k).map fun i=>n/1000000000^i%1000000000
theorem zPr (n k:Nat):(zPq n k).length=k:=by simp [zPq]
theorem zPt (n k:Nat):zPq n (k+1)=zPq n k++[n/1000000000^k%1000000000]:=by simp [zPq,List.range_succ]
theorem zPs (n k:Nat):Low (zPq n k):=by
 intro x hx
 simp [zPq] at hx
 obtain ⟨i,_,rfl⟩:=hx;exact Nat.mod_lt _ oMx
theorem zPv (n k:Nat):val (zPq n k)=n%1000000000^k:=by
 induction k with
 | zero=>simp [zPq,val,Nat.mod_one]
 | succ k ih=>rw [zPt,xEk,ih,zPr,Nat.pow_succ,Nat.mod_mul]
theorem zPu {n k:Nat} (h:n<1000000000^k):xDa (zPq n k)=limbs n:=by
 rw [<-zQm (zPs n k),zPv,Nat.mod_eq_of_lt h]
theorem zQv {n k:Nat} (h:(decDigits n).length<=9*k):n<1000000000^k:=by
 have h1:=lt_pow_nDigits n;rw [<-decDigits_length] at h1;have h2:10^(decDigits n).length<=10^(9*k):=Nat.pow_le_pow_right oMx h;rw [Nat.pow_mul,show (10:Nat)^9=1000000000 from rfl] at h2;omega
def pad9 (r:Nat):List UInt8:=List.replicate (9-(decDigits r).length) 48++decDigits r
theorem zKy (k:Nat):zKp (List.replicate k 48)=0:=by
 induction k with
 | zero=>rfl
 | succ k ih=>rw [List.replicate_succ,zKr,ih];simp
theorem zMk (k:Nat):zAn (List.replicate k 48):=by
 intro c hc;rw [List.eq_of_mem_replicate hc];exact ⟨dCx,dCx⟩
theorem zKk {r k:Nat} (hk:0<k) (h:r<10^k):(decDigits r).length<=k:=by
 rw [decDigits_length]
 apply Decidable.byContradiction
 intro hc
 have h1:10^(nDigits r-1)<=r:=by
  by_cases h10:r<10
  ·exfalso;rw [nDigits_small h10] at hc;omega
  exact pow_le r h10
 have h2:10^k<=10^(nDigits r-1):=Nat.pow_le_pow_right oMx oMx;omega
where
 pow_le (r:Nat) (h:¬r<10):10^(nDigits r-1)<=r:=by
  induction r using Nat.strongRecOn with
  | _ r ih =>
   rw [nDigits_big h,Nat.add_sub_cancel]
   by_cases h1:r/10<10
   ·rw [nDigits_small h1];omega
   have:=ih (r/10) oMx h1
   have e:nDigits (r/10)=nDigits (r/10)-1+1:=by have:=nDigits_pos (r/10);omega
   rw [e,Nat.pow_succ];omega
theorem zUy {r:Nat} (h:r<1000000000):(pad9 r).length=9:=by
 have:=zKk (r:=r) (k:=9) oMx (by simpa using h)
 simp [pad9];omega
theorem pad9_val (r:Nat):zKp (pad9 r)=r:=by rw [pad9,zKq,zKy,zKo];simp
theorem zUx (r:Nat):zAn (pad9 r):=(zMk _).append (zKg r)
theorem zKi {q r:Nat} (hq:0<q) (hr:r<1000000000):decDigits (q*1000000000+r)=decDigits q++pad9 r:=by
 have h1:zKp (decDigits q++pad9 r)=q*1000000000+r:=by
  rw [zKq,zKo,pad9_val,zUy hr]
 rw [<-h1]
 apply zKm ((zKg q).append (zUx r))
 ·intro e;have:=zKl q;simp at e;exact this e.1
 have:=zKh hq
 cases hd:decDigits q with
 | nil=>exact absurd hd (zKl _)
 | cons a l=>rw [hd] at this;simpa using this
end Go.Proofs.YtbjaplppalcmgaaGreatDoor
