import Derived.Test.YtafflnognagadaaGreatDoorZF
set_option maxHeartbeats 16000000
set_option maxRecDepth 100000
set_option linter.unusedVariables false
set_option linter.unusedSimpArgs false
set_option linter.unusedSectionVars false
namespace Go.Proofs.YtafflnognagadaaGreatDoor
open Go.RowKit
structure STO {α:Type} (lt:α->α->Bool):Prop where
 irr:∀ a,lt a a=false
 trans:∀ {a b c},lt a b=true->lt b c=true->lt a c=true
 tri:∀ {a b},lt a b=false->lt b a=false->a=b
theorem STO.asym {α:Type} {lt:α->α->Bool} (h:STO lt) {a b:α} (hab:lt a b=true):lt b a=false:=by
 cases hb:lt b a with
 | false=>rfl
 | true=>have:=h.trans hab hb;rw [h.irr] at this;cases this
def lexB {α:Type} (lt:α->α->Bool):List α->List α->Bool
 | _,[]=>false
 | [],_::_=>true
 | a::x,b::y=>lt a b || (!lt b a&&lexB lt x y)
theorem zOo {α:Type} (lt:α->α->Bool) (x:List α):lexB lt x []=false:=by cases x<;>rfl
theorem STO.lex {α:Type} {lt:α->α->Bool} (h:STO lt):STO (lexB lt) where
 irr a:=by
  induction a with
  | nil=>rfl
  | cons a x ih=>simp [lexB,h.irr,ih]
 trans:=by
  intro a
  induction a with
  | nil =>
   intro b c hab hbc
   cases c with
   | nil=>rw [zOo] at hbc;cases hbc
   | cons=>rfl
  | cons a x ih =>
   intro b c hab hbc
   cases b with
   | nil=>cases hab
   | cons b y =>
    cases c with
    | nil=>cases hbc
    | cons c z =>
     simp only [lexB,Bool.or_eq_true,Bool.and_eq_true,Bool.not_eq_true'] at *
     rcases hab with hab|⟨h1,hab⟩
     ·rcases hbc with hbc|⟨h2,hbc⟩
      ·exact .inl (h.trans hab hbc)
      left
      cases hq:lt b c with
      | true=>exact h.trans hab hq
      | false=>rw [<-h.tri hq h2];exact hab
     cases hab2:lt a b with
     | true =>
      rcases hbc with hbc|⟨h2,hbc⟩
      ·exact .inl (h.trans hab2 hbc)
      left
      cases hq:lt b c with
      | true=>exact h.trans hab2 hq
      | false=>rw [<-h.tri hq h2];exact hab2
     | false =>
      have e:=h.tri hab2 h1;subst e
      rcases hbc with hbc|⟨h2,hbc⟩
      ·exact .inl hbc
      exact .inr ⟨h2,ih hab hbc⟩
 tri:=by
  intro a
  induction a with
  | nil =>
   intro b hab hba
   cases b with
   | nil=>rfl
   | cons=>cases hab
  | cons a x ih =>
   intro b hab hba
   cases b with
   | nil=>cases hba
   | cons b y =>
    simp only [lexB,Bool.or_eq_false_iff] at *;have e:=h.tri hab.1 hba.1;subst e;simp only [h.irr,Bool.not_false,Bool.true_and] at hab hba;rw [ih hab.2 hba.2]
theorem zWk:STO (fun a b:UInt8=>decide (a<b)) where
 irr a:=by simp
 trans:=by
  intro a b c h1 h2
  rw [decide_eq_true_eq] at *;exact UInt8.lt_trans h1 h2
 tri:=by
  intro a b h1 h2
  rw [decide_eq_false_iff_not] at *;exact UInt8.le_antisymm (UInt8.not_lt.1 h2) (UInt8.not_lt.1 h1)
def ltS (a b:ByteArray):Bool:=Go.Op.bytesLess a.toList b.toList
theorem zJc (x y:List UInt8):Go.Op.bytesLess x y=lexB (fun a b:UInt8=>decide (a<b)) x y:=by
 induction x generalizing y with
 | nil=>cases y<;>rfl
 | cons a x ih =>
  cases y with
  | nil=>rfl
  | cons b y =>
   rw [Go.Op.bytesLess,lexB,ih]
   cases h:decide (a<b) with
   | true=>rfl
   | false =>
    rw [Bool.false_or,Bool.false_or]
    congr 1
    rw [decide_eq_false_iff_not] at h;rw [Bool.eq_iff_iff,beq_iff_eq,Bool.not_eq_true',decide_eq_false_iff_not]
    constructor
    ·rintro rfl;exact UInt8.lt_irrefl a
    intro h2
    exact UInt8.le_antisymm (UInt8.not_lt.1 h2) (UInt8.not_lt.1 h)
theorem ba_lst {a b:ByteArray} (h:a.toList=b.toList):a=b:=by
 rw [Lib.toList_data,Lib.toList_data] at h
 cases a;cases b
 simp only [ByteArray.mk.injEq];exact Array.toList_inj.1 h
theorem zWj:STO ltS where
 irr a:=by unfold ltS;rw [zJc];exact zWk.lex.irr _
 trans:=by
  intro a b c h1 h2
  unfold ltS at *;rw [zJc] at *;exact zWk.lex.trans h1 h2
 tri:=by
  intro a b h1 h2
  unfold ltS at *;rw [zJc] at *;exact ba_lst (zWk.lex.tri h1 h2)
def ltL:List ByteArray->List ByteArray->Bool:=lexB ltS
theorem zWi:STO ltL:=zWj.lex
abbrev zGg:=List ByteArray × Int
def sem:List zGg->List ByteArray->Int
 | [],_=>0
 | r::T,k=>(if r.1=k then r.2 else 0)+sem T k
theorem zUv (A B:List zGg) (k:List ByteArray):sem (A++B) k=sem A k+sem B k:=by
 induction A with
 | nil=>simp [sem]
 | cons r A ih=>rw [List.cons_append,sem,sem,ih];omega
theorem sem_perm {A B:List zGg} (h:A.Perm B) (k:List ByteArray):sem A k=sem B k:=by
 induction h with
 | nil=>rfl
 | cons x _ ih=>simp only [sem,ih]
 | swap x y l=>simp only [sem];omega
 | trans _ _ h1 h2=>rw [h1,h2]
theorem zVa {T:List zGg} {k:List ByteArray} (h:∀ r∈T,r.1≠k):sem T k=0:=by
 induction T with
 | nil=>rfl
 | cons r T ih=>rw [sem,if_neg (h r sMx),ih fun x hx=>h x (by simp [hx])];rfl
theorem sem_nz (T:List zGg) (k:List ByteArray):sem (T.filter fun r => !(r.2==0)) k=sem T k:=by
 induction T with
 | nil=>rfl
 | cons r T ih =>
  rw [List.filter_cons]
  by_cases h:r.2=0
  ·simp [h,sem,ih]
  simp [h,sem,ih]
def ins (r:zGg):List zGg->List zGg
 | []=>[r]
 | x::T=>if ltL x.1 r.1 then x::ins r T else if x.1=r.1 then (x.1,x.2+r.2)::T else r::x::T
def norm (l:List zGg):List zGg:=(l.foldl (fun T r=>ins r T) []).filter fun r => !(r.2==0)
def Srt (T:List zGg):Prop:=T.Pairwise fun a b=>ltL a.1 b.1=true
def NZ (T:List zGg):Prop:=∀ r∈T,r.2≠0
theorem sem_ins (r:zGg) (T:List zGg) (k:List ByteArray):sem (ins r T) k=(if r.1=k then r.2 else 0)+sem T k:=by
 induction T with
 | nil=>rfl
 | cons x T ih =>
  unfold ins
  split
  ·rw [sem,ih,sem];omega
  split
  ·rename_i h
   rw [sem,sem,h]
   split<;>omega
  rfl
theorem zNm {r:zGg} {T:List zGg} {x:zGg} (h:x∈ins r T):x.1=r.1\/∃ y∈T,x.1=y.1:=by
 induction T with
 | nil=>rw [ins,List.mem_singleton] at h;exact .inl (by rw [h])
 | cons y T ih =>
  unfold ins at h
  split at h
  ·rcases List.mem_cons.1 h with h|h
   ·exact .inr ⟨y,by simp,by rw [h]⟩
   rcases ih h with h|⟨z,hz,e⟩
   ·exact .inl h
   exact .inr ⟨z,by simp [hz],e⟩
  split at h
  ·rcases List.mem_cons.1 h with h|h
   ·exact .inr ⟨y,by simp,by rw [h]⟩
   exact .inr ⟨x,by simp [h],rfl⟩
  rcases List.mem_cons.1 h with h|h
  ·exact .inl (by rw [h])
  exact .inr ⟨x,h,rfl⟩
theorem ins_srt {r:zGg} {T:List zGg} (h:Srt T):Srt (ins r T):=by
 induction T with
 | nil=>exact List.pairwise_singleton _ _
 | cons y T ih =>
  have h':=List.pairwise_cons.1 h;unfold ins
  split
  ·rename_i hy
   refine List.pairwise_cons.2 ⟨fun z hz=>?_,ih h'.2⟩
   rcases zNm hz with e|⟨u,hu,e⟩
   ·rw [e];exact hy
   rw [e];exact h'.1 u hu
  rename_i hy
  split
  ·rename_i e
   exact List.pairwise_cons.2 ⟨fun z hz=>h'.1 z hz,h'.2⟩
  rename_i hne
  have hlt:ltL r.1 y.1=true:=by
   cases hq:ltL r.1 y.1 with
   | true=>rfl
   | false=>exact absurd (zWi.tri (by simpa using hy) hq) hne
  refine List.pairwise_cons.2 ⟨fun z hz=>?_,h⟩
  rcases List.mem_cons.1 hz with e|hz
  ·rw [e];exact hlt
  exact zWi.trans hlt (h'.1 z hz)
def zNf (T l:List zGg):List zGg:=l.foldl (fun T r=>ins r T) T
theorem zNk {T:List zGg} (l:List zGg) (h:Srt T):Srt (zNf T l):=by
 induction l generalizing T with
 | nil=>exact h
 | cons r l ih=>exact ih (ins_srt h)
theorem zUx (T l:List zGg) (k:List ByteArray):sem (zNf T l) k=sem T k+sem l k:=by
 induction l generalizing T with
 | nil=>simp [zNf,sem]
 | cons r l ih =>
  show sem (zNf (ins r T) l) k=_
  rw [ih,sem_ins,sem];omega
theorem zNh {T l:List zGg} {x:zGg} (h:x∈zNf T l):(∃ y∈T,x.1=y.1)\/∃ y∈l,x.1=y.1:=by
 induction l generalizing T with
 | nil=>exact .inl ⟨x,h,rfl⟩
 | cons r l ih =>
  rcases ih (T:=ins r T) h with ⟨y,hy,e⟩|⟨y,hy,e⟩
  ·rcases zNm hy with e2|⟨z,hz,e2⟩
   ·exact .inr ⟨r,by simp,e.trans e2⟩
   exact .inl ⟨z,hz,e.trans e2⟩
  exact .inr ⟨y,by simp [hy],e⟩
theorem zNj (T l:List zGg) (r:zGg):zNf T (l++[r])=ins r (zNf T l):=by simp [zNf]
theorem norm_eq (l:List zGg):norm l=(zNf [] l).filter fun r => !(r.2==0):=rfl
theorem zWd:Srt []:=List.Pairwise.nil
theorem zQr (l:List zGg):Srt (norm l):=List.Pairwise.filter _ (zNk l zWd)
theorem zQp (l:List zGg):NZ (norm l):=fun r hr=>by
 have:=(List.mem_filter.1 hr).2
 simpa using this
theorem zVb (l:List zGg) (k:List ByteArray):sem (norm l) k=sem l k:=by
 rw [norm_eq,sem_nz,zUx];simp [sem]
theorem zQn {l:List zGg} {x:zGg} (h:x∈norm l):∃ y∈l,x.1=y.1:=by
 rcases zNh (List.mem_filter.1 h).1 with ⟨y,hy,_⟩|h
 ·cases hy
 exact h
theorem zWu:∀ {A B:List zGg},Srt A->NZ A->Srt B->NZ B->(∀ k,sem A k=sem B k)->A=B
 | [],[],_,_,_,_,_=>rfl
 | [],b::B,_,_,hs,hz,h=>by
  have h0:sem B b.1=0:=zVa fun r hr e=>by have h1:=(List.pairwise_cons.1 hs).1 r hr;rw [e,zWi.irr] at h1;cases h1
  have:=h b.1;simp only [sem,if_pos,h0] at this;exact absurd oMx (hz b sMx)
 | a::A,[],hs,hz,_,_,h=>by
  have h0:sem A a.1=0:=zVa fun r hr e=>by have h1:=(List.pairwise_cons.1 hs).1 r hr;rw [e,zWi.irr] at h1;cases h1
  have:=h a.1;simp only [sem,if_pos,h0] at this;exact absurd oMx (hz a sMx)
 | a::A,b::B,hs,hz,hs',hz',h=>by
  have ha:=List.pairwise_cons.1 hs;have hb:=List.pairwise_cons.1 hs'
  have na:sem A a.1=0:=zVa fun r hr e=>by have h1:=ha.1 r hr;rw [e,zWi.irr] at h1;cases h1
  have nb:sem B b.1=0:=zVa fun r hr e=>by have h1:=hb.1 r hr;rw [e,zWi.irr] at h1;cases h1
  have e:a.1=b.1:=by
   cases h1:ltL a.1 b.1 with
   | true =>
    have:=h a.1;rw [sem,if_pos rfl,na,zVa (T:=b::B)] at this
    ·exact absurd (by simpa using this) (hz a sMx)
    intro r hr e
    rcases List.mem_cons.1 hr with rfl|hr
    ·rw [e,zWi.irr] at h1;cases h1
    have:=zWi.trans h1 (hb.1 r hr)
    rw [e,zWi.irr] at this;cases this
   | false =>
    cases h2:ltL b.1 a.1 with
    | false=>exact zWi.tri h1 h2
    | true =>
     have:=h b.1;rw [zVa (T:=a::A),sem,if_pos rfl,nb] at this
     ·exact absurd (by simpa using this.symm) (hz' b sMx)
     intro r hr e
     rcases List.mem_cons.1 hr with rfl|hr
     ·rw [e,zWi.irr] at h2;cases h2
     have:=zWi.trans h2 (ha.1 r hr)
     rw [e,zWi.irr] at this;cases this
  have ew:a.2=b.2:=by
   have:=h a.1;rw [sem,sem,if_pos rfl,if_pos e.symm,na,e,nb] at this;omega
  have eab:a=b:=Prod.ext e ew;subst eab;refine congrArg (a::·) (zWu ha.2 (fun r hr=>hz r (by simp [hr])) hb.2 (fun r hr=>hz' r (by simp [hr])) fun k=>?_);have:=h k;rw [sem,sem] at this;omega
theorem zQm {T:List zGg} (hs:Srt T) (hz:NZ T):norm T=T:=zWu (zQr T) (zQp T) hs hz fun k=>zVb T k
theorem zQq {A B:List zGg} (hs:Srt B) (hz:NZ B) (h:∀ k,sem A k=sem B k):norm A=B:=zWu (zQr A) (zQp A) hs hz fun k=>(zVb A k).trans (h k)
theorem zWe {T:List zGg} (h:Srt T):(T.map (·.1)).Nodup:=by
 rw [List.Nodup,List.pairwise_map]
 exact h.imp fun {a b} hab e=>by rw [e,zWi.irr] at hab;cases hab
def WB (B:Nat) (T:List zGg):Prop:=∀ r∈T, -(B:Int)<=r.2/\r.2<=B
theorem ins_wb {r:zGg} {T:List zGg} {B C:Nat} (h:WB B T) (hr : -(C:Int)<=r.2/\r.2<=C):WB (B+C) (ins r T):=by
 intro x hx
 induction T with
 | nil=>rw [ins,List.mem_singleton] at hx;subst hx;omega
 | cons y T ih =>
  have hy:=h y sMx;unfold ins at hx
  split at hx
  ·rcases List.mem_cons.1 hx with rfl|hx
   ·omega
   exact ih (fun z hz=>h z (by simp [hz])) hx
  split at hx
  ·rcases List.mem_cons.1 hx with rfl|hx
   ·show _<=y.2+r.2/\y.2+r.2<=_
    omega
   have:=h x (by simp [hx]);omega
  rcases List.mem_cons.1 hx with rfl|hx
  ·omega
  have:=h x hx;omega
theorem zNl {l:List zGg} {B:Nat} (h:WB B l):WB (l.length*B) (zNf [] l):=by
 suffices H:∀ (l T:List zGg) (m:Nat),WB B l->WB (m*B) T->WB ((m+l.length)*B) (zNf T l) by
  simpa using H l [] 0 h (fun r hr=>by cases hr)
 intro l
 induction l with
 | nil=>intro T m _ ht;simpa [zNf] using ht
 | cons r l ih =>
  intro T m hl ht
  have h1:=ins_wb (r:=r) ht (hl r sMx);have h2:=ih (ins r T) (m+1) (fun z hz=>hl z (by simp [hz])) (by rw [Nat.succ_mul];exact h1);rw [List.length_cons,show m+(l.length+1)=m+1+l.length by omega];exact h2
theorem zQs {l:List zGg} {B:Nat} (h:WB B l):WB (l.length*B) (norm l):=fun r hr=>zNl h r (List.mem_filter.1 hr).1
theorem ins_len (r:zGg) (T:List zGg):(ins r T).length<=T.length+1:=by
 induction T with
 | nil=>simp [ins]
 | cons y T ih=>unfold ins;split<;>(try split)<;>simp<;>omega
theorem zNi (T l:List zGg):(zNf T l).length<=T.length+l.length:=by
 induction l generalizing T with
 | nil=>simp [zNf]
 | cons r l ih=>have h1:=ih (ins r T);have h2:=ins_len r T;show (zNf (ins r T) l).length<=_;simp only [List.length_cons];omega
theorem zQo (l:List zGg):(norm l).length<=l.length:=by
 have h1:=zNi [] l;have h2:=List.length_filter_le (fun r:zGg => !(r.2==0)) (zNf [] l);rw [norm_eq]
 simp at h1
 omega
def zLe:zGg:=([],0)
def rk (T:List zGg) (i:Nat):List ByteArray:=(T.getD i zLe).1
def leK (x y:List ByteArray):Prop:=ltL y x=false
theorem leK.refl (x:List ByteArray):leK x x:=zWi.irr x
theorem leK.of_lt {x y:List ByteArray} (h:ltL x y=true):leK x y:=zWi.asym h
theorem leK.trans {x y z:List ByteArray} (h:leK x y) (h2:leK y z):leK x z:=by
 unfold leK at *
 cases hz:ltL z x with
 | false=>rfl
 | true =>
  cases hq:ltL x y with
  | true=>rw [zWi.trans hz hq] at h2;cases h2
  | false=>rw [zWi.tri hq h] at hz;rw [hz] at h2;cases h2
def zGb (T:List zGg) (a b:Nat):Prop:=∀ p q,a<=p->p<q->q<b->leK (rk T p) (rk T q)
theorem zGb.one (T:List zGg) {a b:Nat} (h:b<=a+1):zGb T a b:=fun p q h1 h2 h3=>absurd h3 oMx
theorem zGb.mono {T:List zGg} {a b a' b':Nat} (h:zGb T a b) (ha:a<=a') (hb:b'<=b):zGb T a' b':=fun p q h1 h2 h3=>h p q oMx h2 oMx
def swp (T:List zGg) (i j:Nat):List zGg:=(T.set i (T.getD j zLe)).set j (T.getD i zLe)
theorem swp_len (T:List zGg) (i j:Nat):(swp T i j).length=T.length:=by simp [swp]
theorem zWt (T:List zGg) {i j:Nat} (hi:i<T.length) (hj:j<T.length) (k:Nat):(swp T i j)[k]? = if k=i then T[j]? else if k=j then T[i]? else T[k]? :=by
 unfold swp;rw [List.getElem?_set,List.getElem?_set];simp only [List.length_set]
 by_cases h1:j=k
 ·subst h1
  by_cases h2:j=i
  ·subst h2;simp [hj]
  simp [h2,hj,hi]
 by_cases h2:i=k
 ·subst h2;rw [if_neg h1,if_pos rfl,if_pos hi,if_pos rfl]
  simp [hj]
 rw [if_neg h1,if_neg h2,if_neg (Ne.symm h2),if_neg (Ne.symm h1)]
theorem zTq {T T':List zGg} {i j:Nat} (h:T[i]? = T'[j]?):rk T i=rk T' j:=by unfold rk;rw [List.getD_eq_getElem?_getD,List.getD_eq_getElem?_getD,h]
theorem zTr (T:List zGg) {i j:Nat} (hi:i<T.length) (hj:j<T.length) (k:Nat):rk (swp T i j) k=if k=i then rk T j else if k=j then rk T i else rk T k:=by
 have h:=zWt T hi hj k
 split
 ·rename_i e;subst e;exact zTq (by rw [h,if_pos rfl])
 rename_i e1
 split
 ·rename_i e;subst e;exact zTq (by rw [h,if_neg e1,if_pos rfl])
 rename_i e2;exact zTq (by rw [h,if_neg e1,if_neg e2])
theorem set_perm {x y:zGg}:∀ {l:List zGg} {i:Nat},l[i]? = some x->(y::l).Perm (x::l.set i y)
 | a::l,0,h=>by
  injection h with h;subst h;exact List.Perm.swap _ _ _
 | a::l,i+1,h=>by
  have:=set_perm (y:=y) (l:=l) (i:=i) h;exact ((List.Perm.swap a y l).trans (this.cons a)).trans (List.Perm.swap x a _)
theorem swp_perm (T:List zGg) {i j:Nat} (hi:i<T.length) (hj:j<T.length):(swp T i j).Perm T:=by
 have ei:T[i]? = some (T.getD i zLe):=by simp [hi]
 have ej:T[j]? = some (T.getD j zLe):=by simp [hj]
 unfold swp;generalize T.getD i zLe=x at *;generalize T.getD j zLe=y at *
 by_cases hij:i=j
 ·subst hij;rw [ei] at ej;injection ej with ej;subst ej;rw [List.set_set];have h1:=set_perm (y:=x) ei;exact ((List.perm_cons x).1 h1).symm
 have h1:=set_perm (y:=y) ei
 have h2:(T.set i y)[j]? = some y:=by rw [List.getElem?_set,if_neg hij];exact ej
 have h3:=set_perm (y:=x) h2;exact (List.perm_cons y).1 (h3.symm.trans h1.symm)
structure Win (T T':List zGg) (a b:Nat):Prop where
 perm:T'.Perm T
 out:∀ k,(k<a\/b<=k)->T'[k]? = T[k]?
 inn:∀ k,a<=k->k<b->∃ k',a<=k'/\k'<b/\T'[k]? = T[k']?
section
variable {T T' T2:List zGg} {a b a' b':Nat}
theorem Win.refl (T:List zGg) (a b:Nat):Win T T a b:=⟨.refl _,fun _ _=>rfl,fun k h1 h2=>⟨k,h1,h2,rfl⟩⟩
theorem Win.trans (h:Win T T' a b) (h2:Win T' T2 a b):Win T T2 a b:=⟨h2.perm.trans h.perm,fun k hk=>(h2.out k hk).trans (h.out k hk),fun k h3 h4=>by
 obtain ⟨k',h5,h6,e⟩:=h2.inn k h3 h4;obtain ⟨k2,h7,h8,e2⟩:=h.inn k' h5 h6
 exact ⟨k2,h7,h8,e.trans e2⟩⟩
theorem Win.mono (h:Win T T' a b) (ha:a'<=a) (hb:b<=b'):Win T T' a' b':=⟨h.perm,fun k hk=>h.out k oMx,fun k h3 h4=>by
 by_cases hk:a<=k/\k<b
 ·obtain ⟨k',h5,h6,e⟩:=h.inn k hk.1 hk.2;exact ⟨k',oMx,oMx,e⟩
 exact ⟨k,h3,h4,h.out k oMx⟩⟩
theorem Win.len (h:Win T T' a b):T'.length=T.length:=h.perm.length_eq
theorem Win.swp {i j:Nat} (hi:i<T.length) (hj:j<T.length) (h1:a<=i) (h2:i<b) (h3:a<=j) (h4:j<b):Win T (swp T i j) a b:=⟨swp_perm T hi hj,fun k hk=>by
 rw [zWt T hi hj,if_neg oMx,if_neg oMx],fun k h5 h6=>by
 rw [zWt T hi hj]
 split
 ·exact ⟨j,h3,h4,rfl⟩
 split
 ·exact ⟨i,h1,h2,rfl⟩
 exact ⟨k,h5,h6,rfl⟩⟩
theorem Win.rkO (h:Win T T' a b) {k:Nat} (hk:k<a\/b<=k):rk T' k=rk T k:=zTq (h.out k hk)
theorem Win.rkI (h:Win T T' a b) {k:Nat} (h1:a<=k) (h2:k<b):∃ k',a<=k'/\k'<b/\rk T' k=rk T k':=by
 obtain ⟨k',h3,h4,e⟩:=h.inn k h1 h2;exact ⟨k',h3,h4,zTq e⟩
theorem Win.srtO (h:Win T T' a b) {p q:Nat} (hs:zGb T p q) (hpq:q<=a\/b<=p):zGb T' p q:=fun x y h1 h2 h3=>by
 rw [h.rkO oMx,h.rkO oMx];exact hs x y h1 h2 h3
end
def InsI (T:List zGg) (a i j:Nat):Prop:=∀ p q,a<=p->p<q->q<=i->q≠j->leK (rk T p) (rk T q)
section
variable {T:List zGg} {a i j:Nat}
theorem InsI.start (h:zGb T a i):InsI T a i i:=fun p q h1 h2 h3 h4=>h p q h1 h2 oMx
theorem InsI.step (h:InsI T a i j) (hj:a<j) (hji:j<=i) (hi:i<T.length) (hlt:ltL (rk T j) (rk T (j-1))=true):InsI (swp T j (j-1)) a i (j-1):=fun p q h1 h2 h3 h4=>by
 have hs:=zTr T (show j<T.length by omega) (show j-1<T.length by omega);rw [hs p,hs q]
 by_cases q1:q=j
 ·subst q1;rw [if_pos rfl,if_neg (show p≠q by omega)]
  by_cases p1:p=q-1
  ·rw [if_pos p1];exact .of_lt hlt
  rw [if_neg p1];exact h p (q-1) h1 oMx oMx oMx
 rw [if_neg q1,if_neg h4]
 by_cases p1:p=j
 ·rw [if_pos p1];exact h (j-1) q oMx oMx h3 q1
 rw [if_neg p1]
 by_cases p2:p=j-1
 ·rw [if_pos p2];exact h j q oMx oMx h3 q1
 rw [if_neg p2];exact h p q h1 h2 h3 q1
theorem InsI.done (h:InsI T a i j) (hj:j=a\/ltL (rk T j) (rk T (j-1))=false):zGb T a (i+1):=fun p q h1 h2 h3=>by
 by_cases q1:q=j
 ·subst q1
  rcases hj with hj|hj
  ·omega
  by_cases p1:p=q-1
  ·rw [p1];exact hj
  exact (h p (q-1) h1 oMx oMx oMx).trans hj
 exact h p q h1 h2 oMx q1
end
theorem zWc {T:List zGg} (h:zGb T 0 T.length):T.Pairwise fun x y=>leK x.1 y.1:=by
 rw [List.pairwise_iff_getElem]
 intro p q hp hq hpq
 have:=h p q oLx hpq hq;unfold rk at this
 simpa [hp,hq] using this
def mst (acc:List zGg) (r:zGg):List zGg :=
 if 0<acc.length/\rk acc (acc.length-1)=r.1 then acc.set (acc.length-1) (r.1,(acc.getD (acc.length-1) zLe).2+r.2) else acc++[r]
def zPu (T:List zGg):List zGg:=T.foldl mst []
theorem zPz (T:List zGg) (r:zGg):zPu (T++[r])=mst (zPu T) r:=by simp [zPu]
theorem zOm {acc:List zGg} (h:0<acc.length):∃ l y,acc=l++[y]/\rk acc (acc.length-1)=y.1/\acc.getD (acc.length-1) zLe=y:=by
 have hl:acc.length-1<acc.length:=by omega
 have e:acc=acc.take (acc.length-1)++[acc[acc.length-1]]:=by
  rw [<-List.take_succ_eq_append_getElem hl,List.take_of_length_le oMx]
 have h2:acc.getD (acc.length-1) zLe=acc[acc.length-1]:=by simp [hl]
 refine ⟨_,_,e,?_,h2⟩;unfold rk;rw [h2]
theorem mst_inv {acc:List zGg} {r:zGg} (hs:Srt acc) (hle:∀ y∈acc,leK y.1 r.1):Srt (mst acc r)/\(∀ k,sem (mst acc r) k=sem acc k+sem [r] k)/\(∀ y∈mst acc r,leK y.1 r.1):=by
 unfold mst
 split
 ·rename_i h
  obtain ⟨l,y,e,h1,h2⟩:=zOm h.1;rw [h2];have hy:y.1=r.1:=h1.symm.trans h.2
  have hset:acc.set (acc.length-1) (r.1,y.2+r.2)=l++[(r.1,y.2+r.2)]:=by
   rw [e,List.set_append_right _ _ sMx]
   simp
  rw [hset];subst e;refine ⟨?_,fun k=>?_,fun z hz=>?_⟩
  ·rw [Srt,List.pairwise_append] at hs ⊢;refine ⟨hs.1,List.pairwise_singleton _ _,fun a ha b hb=>?_⟩;rw [List.mem_singleton] at hb;subst hb;rw [<-hy];exact hs.2.2 a ha y sMx
  ·rw [zUv,zUv];simp only [sem,hy]
   split<;>omega
  rcases List.mem_append.1 hz with hz|hz
  ·exact hle z (by simp [hz])
  rw [List.mem_singleton] at hz;subst hz;exact .refl _
 rename_i h
 refine ⟨?_,fun k=>zUv _ _ _,fun z hz=>?_⟩
 ·rw [Srt,List.pairwise_append];refine ⟨hs,List.pairwise_singleton _ _,fun a ha b hb=>?_⟩;rw [List.mem_singleton] at hb;subst hb;have h0:0<acc.length:=List.length_pos_of_mem ha;obtain ⟨l,y,e,h1, -⟩:=zOm h0
  have hne:y.1≠b.1:=fun e2=>h ⟨h0,h1.trans e2⟩
  have hyb:ltL y.1 b.1=true:=by
   cases hq:ltL y.1 b.1 with
   | true=>rfl
   | false=>exact absurd (zWi.tri hq (hle y (by rw [e];simp))) hne
  rw [e] at ha
  rcases List.mem_append.1 ha with ha|ha
  ·have h3:Srt (l++[y]):=e▸hs;rw [Srt,List.pairwise_append] at h3;exact zWi.trans (h3.2.2 a ha y sMx) hyb
  rw [List.mem_singleton] at ha;subst ha;exact hyb
 rcases List.mem_append.1 hz with hz|hz
 ·exact hle z hz
 rw [List.mem_singleton] at hz;subst hz;exact .refl _
theorem zPx:∀ (T acc:List zGg),Srt acc->(T.Pairwise fun x y=>leK x.1 y.1)->(∀ y∈acc,∀ r∈T,leK y.1 r.1)->Srt (T.foldl mst acc)/\∀ k,sem (T.foldl mst acc) k=sem acc k+sem T k
 | [],acc,hs,_,_=>⟨hs,fun k=>by simp [sem]⟩
 | r::T,acc,hs,hp,hle=>by
  have hp':=List.pairwise_cons.1 hp;obtain ⟨h1,h2,h3⟩:=mst_inv hs (fun y hy=>hle y hy r sMx);obtain ⟨h4,h5⟩:=zPx T (mst acc r) h1 hp'.2 (fun y hy x hx=>(h3 y hy).trans (hp'.1 x hx));refine ⟨h4,fun k=>?_⟩
  show sem (T.foldl mst (mst acc r)) k=_
  rw [h5,h2];simp only [sem];omega
theorem zPy {T T':List zGg} (hp:T'.Perm T) (hs:zGb T' 0 T'.length):(zPu T').filter (fun r => !(r.2==0))=norm T:=by
 obtain ⟨h1,h2⟩:=zPx T' [] zWd (zWc hs) (fun y hy=>by cases hy);refine (zQq (List.Pairwise.filter _ h1) (fun r hr=>?_) fun k=>?_).symm
 ·have:=(List.mem_filter.1 hr).2;simpa using this
 rw [sem_nz]
 show _=sem (T'.foldl mst []) k
 rw [h2,sem_perm hp]
 simp [sem]
theorem mst_wb {r:zGg} {T:List zGg} {B C:Nat} (h:WB B T) (hr : -(C:Int)<=r.2/\r.2<=C):WB (B+C) (mst T r):=by
 intro x hx
 unfold mst at hx
 split at hx
 ·rename_i h0
  rcases List.mem_or_eq_of_mem_set hx with hx|hx
  ·have:=h x hx;omega
  obtain ⟨l,y,e, -,h2⟩:=zOm h0.1;rw [h2] at hx;have:=h y (by rw [e];simp);subst hx
  show _<=y.2+r.2/\y.2+r.2<=_
  omega
 rcases List.mem_append.1 hx with hx|hx
 ·have:=h x hx;omega
 rw [List.mem_singleton] at hx;subst hx;omega
theorem mAll_wb {l:List zGg} {B:Nat} (h:WB B l):WB (l.length*B) (zPu l):=by
 suffices H:∀ (l T:List zGg) (m:Nat),WB B l->WB (m*B) T->WB ((m+l.length)*B) (l.foldl mst T) by
  have:=H l [] 0 h (fun r hr=>by cases hr);rw [Nat.zero_add] at this;exact this
 intro l
 induction l with
 | nil=>intro T m _ ht;simpa using ht
 | cons r l ih =>
  intro T m hl ht
  have h1:=mst_wb (r:=r) ht (hl r sMx);have h2:=ih (mst T r) (m+1) (fun z hz=>hl z (by simp [hz])) (by rw [Nat.succ_mul];exact h1);rw [List.length_cons,show m+(l.length+1)=m+1+l.length by omega];exact h2
theorem mst_keys {acc:List zGg} {r x:zGg} (h:x∈mst acc r):x.1=r.1\/∃ y∈acc,x.1=y.1:=by
 unfold mst at h
 split at h
 ·rcases List.mem_or_eq_of_mem_set h with h|h
  ·exact .inr ⟨x,h,rfl⟩
  exact .inl (by rw [h])
 rcases List.mem_append.1 h with h|h
 ·exact .inr ⟨x,h,rfl⟩
 rw [List.mem_singleton] at h;exact .inl (by rw [h])
theorem mst_len (acc:List zGg) (r:zGg):(mst acc r).length<=acc.length+1:=by unfold mst;split<;>simp
theorem zPv {T:List zGg}:(zPu T).length<=T.length/\∀ x∈zPu T,∃ y∈T,x.1=y.1:=by
 suffices H:∀ (T acc:List zGg),(T.foldl mst acc).length<=acc.length+T.length/\∀ x∈T.foldl mst acc,(∃ y∈acc,x.1=y.1)\/∃ y∈T,x.1=y.1 by
  obtain ⟨h1,h2⟩:=H T [];refine ⟨by rw [List.length_nil,Nat.zero_add] at h1;exact h1,fun x hx=>?_⟩
  rcases h2 x hx with ⟨y,hy,_⟩|h
  ·cases hy
  exact h
 intro T
 induction T with
 | nil=>intro acc;exact ⟨lRx,fun x hx => .inl ⟨x,hx,rfl⟩⟩
 | cons r T ih =>
  intro acc
  obtain ⟨h1,h2⟩:=ih (mst acc r);have h3:=mst_len acc r;refine ⟨by simp only [List.foldl_cons,List.length_cons];omega,fun x hx=>?_⟩
  rcases h2 x hx with ⟨y,hy,e⟩|⟨y,hy,e⟩
  ·rcases mst_keys hy with e2|⟨z,hz,e2⟩
   ·exact .inr ⟨r,by simp,e.trans e2⟩
   exact .inl ⟨z,hz,e.trans e2⟩
  exact .inr ⟨y,by simp [hy],e⟩
def swX (T:List zGg) (a b n k:Nat):Option zGg:=if a<=k/\k<a+n then T[k-a+b]? else if b<=k/\k<b+n then T[k-b+a]? else T[k]?
theorem swX_zero (T:List zGg) (a b k:Nat):swX T a b 0 k=T[k]? := by unfold swX;rw [if_neg oMx,if_neg oMx]
theorem swX_succ {T T1:List zGg} {a b n:Nat} (hab:a+n<b) (hb:b+n<T1.length) (h:∀ k,T1[k]? = swX T a b n k):∀ k,(swp T1 (a+n) (b+n))[k]? = swX T a b (n+1) k:=fun k=>by
 rw [zWt T1 oMx hb,h,h,h];unfold swX
 by_cases k1:k=a+n<;>by_cases k2:k=b+n<;>by_cases k3:a<=k/\k<a+n<;>by_cases k4:b<=k/\k<b+n
 all_goals first
  | omega
  | ((repeat (first|rw [if_pos oMx]|rw [if_neg oMx]))<;>first|rfl|(congr 1;omega))
def zTt (T:List zGg) (lo mid hi k:Nat):Option zGg:=if lo<=k/\k<lo+(hi-mid) then T[k+(mid-lo)]? else if lo+(hi-mid)<=k/\k<hi then T[k-(hi-mid)]? else T[k]?
theorem rot_gt {T T2:List zGg} {m i j:Nat} (hj:j<i) (hi:i<=m) (h:∀ k,T2[k]? = swX T (m-i) m j k) (k:Nat):zTt T2 (m-(i-j)) m (m+j) k=zTt T (m-i) m (m+j) k:=by
 have e1:m-(m-i)=i:=by omega
 have e2:m-(m-(i-j))=i-j:=by omega
 unfold zTt;rw [h,h,h,e1,e2,Nat.add_sub_cancel_left];unfold swX
 by_cases c1:k<m-i<;>by_cases c2:k<m-i+j<;>by_cases c3:k<m-(i-j)+j<;>by_cases c4:k<m+j<;>by_cases c5:k<m
 all_goals first
  | omega
  | ((repeat (first|rw [if_pos oMx]|rw [if_neg oMx]))<;>first|rfl|(congr 1;omega))
theorem rot_lt {T T2:List zGg} {m i j:Nat} (hj:i<j) (hi:i<=m) (h:∀ k,T2[k]? = swX T (m-i) (m+j-i) i k) (k:Nat):zTt T2 (m-i) m (m+(j-i)) k=zTt T (m-i) m (m+j) k:=by
 have e1:m-(m-i)=i:=by omega
 unfold zTt;rw [h,h,h,e1,Nat.add_sub_cancel_left,Nat.add_sub_cancel_left];unfold swX
 by_cases c1:k<m-i<;>by_cases c2:k<m-i+(j-i)<;>by_cases c3:k<m+(j-i)<;>by_cases c4:k<m+j<;>by_cases c5:k<m-i+j
 all_goals first
  | omega
  | ((repeat (first|rw [if_pos oMx]|rw [if_neg oMx]))<;>first|rfl|(congr 1;omega))
theorem rot_eq {T T2:List zGg} {m i:Nat} (hi:i<=m) (h:∀ k,T2[k]? = swX T (m-i) m i k) (k:Nat):T2[k]? = zTt T (m-i) m (m+i) k:=by
 rw [h];unfold swX zTt;rw [Nat.add_sub_cancel_left]
 by_cases c1:m-i<=k/\k<m-i+i
 ·rw [if_pos c1,if_pos c1];congr 1;omega
 rw [if_neg c1,if_neg c1]
 by_cases c2:m<=k/\k<m+i
 ·rw [if_pos c2,if_pos oMx];congr 1;omega
 rw [if_neg c2,if_neg oMx]
structure SymS (T:List zGg) (a m b s e:Nat):Prop where
 h1:a<=s
 h2:s<=m
 h3:m<=e
 h4:e<=b
 l:zGb T a m
 r:zGb T m b
 x:∀ p q,a<=p->p<s->e<=q->q<b->leK (rk T p) (rk T q)
 y:∀ p q,m<=p->p<e->s<=q->q<m->leK (rk T p) (rk T q)
section
variable {T T':List zGg} {a m b s e:Nat}
theorem SymS.of (h1:a<=s) (h2:s<=m) (h3:m<=e) (h4:e<=b) (l:zGb T a m) (r:zGb T m b) (x:a<s->e<b->leK (rk T (s-1)) (rk T e)) (y:m<e->s<m->leK (rk T (e-1)) (rk T s)):SymS T a m b s e where
 h1:=h1
 h2:=h2
 h3:=h3
 h4:=h4
 l:=l
 r:=r
 x p q p1 p2 q1 q2:=by
  have k1:leK (rk T p) (rk T (s-1)):=by
   by_cases e1:p=s-1
   ·rw [e1];exact .refl _
   exact l p (s-1) p1 oMx oMx
  have k2:leK (rk T e) (rk T q):=by
   by_cases e1:q=e
   ·rw [e1];exact .refl _
   exact r e q oMx oMx q2
  exact (k1.trans (x oMx oMx)).trans k2
 y p q p1 p2 q1 q2:=by
  have k1:leK (rk T p) (rk T (e-1)):=by
   by_cases e1:p=e-1
   ·rw [e1];exact .refl _
   exact r p (e-1) p1 oMx oMx
  have k2:leK (rk T s) (rk T q):=by
   by_cases e1:q=s
   ·rw [e1];exact .refl _
   exact l s q oMx oMx q2
  exact (k1.trans (y oMx oMx)).trans k2
structure zBi (T:List zGg) (a s mid e b:Nat):Prop where
 a1:zGb T a s
 a2:zGb T s mid
 b1:zGb T mid e
 b2:zGb T e b
 lt:∀ p q,a<=p->p<mid->mid<=q->q<b->leK (rk T p) (rk T q)
theorem SymS.rotated (h:SymS T a m b s e) {mid:Nat} (hmid:mid=s+(e-m)) (hr:∀ k,T'[k]? = zTt T s m e k):zBi T' a s mid e b:=by
 subst hmid
 have h1:=h.h1;have h2:=h.h2;have h3:=h.h3;have h4:=h.h4
 have r1:∀ k,k<s\/e<=k->rk T' k=rk T k:=fun k hk=>zTq (by rw [hr];unfold zTt;rw [if_neg oMx,if_neg oMx])
 have r2:∀ k,s<=k->k<s+(e-m)->rk T' k=rk T (k+(m-s)):=fun k k1 k2=>zTq (by rw [hr];unfold zTt;rw [if_pos ⟨k1,k2⟩])
 have r3:∀ k,s+(e-m)<=k->k<e->rk T' k=rk T (k-(e-m)):=fun k k1 k2=>zTq (by rw [hr];unfold zTt;rw [if_neg oMx,if_pos ⟨k1,k2⟩])
 refine ⟨fun p q p1 p2 p3=>?_,fun p q p1 p2 p3=>?_,fun p q p1 p2 p3=>?_,fun p q p1 p2 p3=>?_,fun p q p1 p2 q1 q2=>?_⟩
 ·rw [r1 p oMx,r1 q oMx];exact h.l p q p1 p2 oMx
 ·rw [r2 p oMx oMx,r2 q oMx oMx];exact h.r _ _ oMx oMx oMx
 ·rw [r3 p oMx oMx,r3 q oMx oMx];exact h.l _ _ oMx oMx oMx
 ·rw [r1 p oMx,r1 q oMx];exact h.r p q oMx p2 oMx
 by_cases c1:p<s
 ·rw [r1 p oMx]
  by_cases c2:q<e
  ·rw [r3 q oMx c2];exact h.l _ _ oMx oMx oMx
  rw [r1 q oMx];exact h.x p q p1 c1 oMx q2
 rw [r2 p oMx p2]
 by_cases c2:q<e
 ·rw [r3 q oMx c2];exact h.y _ _ oMx oMx oMx oMx
 rw [r1 q oMx];exact h.r _ _ oMx oMx oMx
theorem rot_win {T T':List zGg} {lo mid hi:Nat} (h1:lo<=mid) (h2:mid<=hi) (hp:T'.Perm T) (hr:∀ k,T'[k]? = zTt T lo mid hi k):Win T T' lo hi:=⟨hp,fun k hk=>by
 rw [hr];unfold zTt;rw [if_neg oMx,if_neg oMx],fun k k1 k2=>by
 rw [hr];unfold zTt
 split
 ·exact ⟨_,oMx,oMx,rfl⟩
 rw [if_pos oMx]
 exact ⟨_,oMx,oMx,rfl⟩⟩
theorem rot_none {T:List zGg} {lo mid hi:Nat} (h:mid<=lo\/hi<=mid) (h1:lo<=mid) (h2:mid<=hi) (k:Nat):T[k]? = zTt T lo mid hi k:=by
 unfold zTt
 rcases h with h|h
 ·have:mid=lo:=by omega
  subst this;rw [Nat.sub_self,Nat.add_zero]
  split
  ·rfl
  rw [if_neg oMx]
 have:hi=mid:=by omega
 subst this;rw [Nat.sub_self,Nat.add_zero,Nat.sub_zero,if_neg oMx]
 split<;>rfl
theorem zBi.done {T2 T3:List zGg} {mid:Nat} (h:zBi T a s mid e b) (w1:Win T T2 a mid) (s1:zGb T2 a mid) (w2:Win T2 T3 mid b) (s2:zGb T3 mid b):zGb T3 a b:=fun p q p1 p2 q2=>by
 by_cases c1:q<mid
 ·rw [w2.rkO oMx,w2.rkO oMx];exact s1 p q p1 p2 c1
 by_cases c2:mid<=p
 ·exact s2 p q c2 p2 q2
 rw [w2.rkO oMx];obtain ⟨p',k1,k2,e1⟩:=w1.rkI (k:=p) p1 oMx;obtain ⟨q',k3,k4,e2⟩:=w2.rkI (k:=q) oMx q2;rw [e1,e2,w1.rkO oMx];exact h.lt p' q' k1 k2 k3 k4
end
structure UpI (T:List zGg) (a b i k:Nat):Prop where
 o:∀ p q,a<=p->p<q->q<b->p≠k->q≠k->leK (rk T p) (rk T q)
 lo:∀ p,a<=p->p<i->p≠k->leK (rk T p) (rk T k)
 hi:∀ q,i<=q->q<b->leK (rk T k) (rk T q)
section
variable {T:List zGg} {a b i k:Nat}
theorem UpI.step (h:UpI T a b i k) (h1:a<=k) (h2:k+1<i) (h3:i<=b) (h4:b<=T.length):UpI (swp T k (k+1)) a b i (k+1):=by
 have hs:=zTr T (show k<T.length by omega) (show k+1<T.length by omega);refine ⟨fun p q p1 p2 p3 p4 p5=>?_,fun p p1 p2 p3=>?_,fun q q1 q2=>?_⟩
 ·rw [hs p,hs q,if_neg p4,if_neg p5]
  by_cases c1:p=k
  ·rw [if_pos c1,if_neg oMx];exact h.o (k+1) q oMx oMx p3 oMx oMx
  rw [if_neg c1]
  by_cases c2:q=k
  ·rw [if_pos c2];exact h.o p (k+1) p1 oMx oMx c1 oMx
  rw [if_neg c2];exact h.o p q p1 p2 p3 c1 c2
 ·rw [hs p,hs (k+1),if_neg p3,if_neg (show ¬k+1=k by omega),if_pos rfl]
  by_cases c1:p=k
  ·rw [if_pos c1];exact h.lo (k+1) oMx h2 oMx
  rw [if_neg c1];exact h.lo p p1 p2 c1
 rw [hs (k+1),hs q,if_neg (show ¬k+1=k by omega),if_pos rfl,if_neg oMx,if_neg oMx];exact h.hi q q1 q2
theorem UpI.down (h:UpI T a b i k) (h1:i<k) (h2:k<b) (h4:b<=T.length) (ha:a<=i):UpI (swp T k (k-1)) a b i (k-1):=by
 have hs:=zTr T (show k<T.length by omega) (show k-1<T.length by omega);refine ⟨fun p q p1 p2 p3 p4 p5=>?_,fun p p1 p2 p3=>?_,fun q q1 q2=>?_⟩
 ·rw [hs p,hs q,if_neg p4,if_neg p5]
  by_cases c1:p=k
  ·rw [if_pos c1,if_neg oMx];exact h.o (k-1) q oMx oMx p3 oMx oMx
  rw [if_neg c1]
  by_cases c2:q=k
  ·rw [if_pos c2];exact h.o p (k-1) p1 oMx oMx c1 oMx
  rw [if_neg c2];exact h.o p q p1 p2 p3 c1 c2
 ·rw [hs p,hs (k-1),if_neg oMx,if_neg p3,if_neg oMx,if_pos rfl];exact h.lo p p1 p2 oMx
 rw [hs (k-1),hs q,if_neg oMx,if_pos rfl]
 by_cases c1:q=k
 ·rw [if_pos c1];exact h.hi (k-1) oMx oMx
 rw [if_neg c1]
 by_cases c2:q=k-1
 ·rw [if_pos c2];exact .refl _
 rw [if_neg c2];exact h.hi q q1 q2
theorem UpI.done (h:UpI T a b i k) (h1:k+1=i\/k=i):zGb T a b:=fun p q p1 p2 p3=>by
 by_cases c1:p=k
 ·rw [c1];exact h.hi q oMx p3
 by_cases c2:q=k
 ·rw [c2];exact h.lo p p1 oMx c1
 exact h.o p q p1 p2 p3 c1 c2
end
def KpT (es:List Nat) (w w':World):Prop:=w.heap.size<=w'.heap.size/\∀ (i:Nat) (cs:Array Value) (t:Nat) (fr:Nat × Nat),w.heap[i]? = some (.cells cs t fr)->t ∉ es->w'.heap[i]? = w.heap[i]?
section
variable {es:List Nat} {w w' w2:World}
theorem zNc {w:World} {i:Nat} {o:Obj} (h:w.heap[i]? = some o):i<w.heap.size:=(Array.getElem?_eq_some_iff.1 h).1
theorem KpT.trans (h:KpT es w w') (h2:KpT es w' w2):KpT es w w2:=⟨Nat.le_trans h.1 h2.1,fun i cs t fr hi ht=>(h2.2 i cs t fr ((h.2 i cs t fr hi ht).trans hi) ht).trans (h.2 i cs t fr hi ht)⟩
theorem KpT.of_below (h:Below w.heap.size w w'):KpT es w w':=⟨h.size,fun i _ _ _ hi _=>h.block i (zNc hi)⟩
theorem KpT.of_grown {row:Option Nat} (h:w.grownBy w' row) (hr:∀ g,row=some g->∃ cs t fr,w.heap[g]? = some (.cells cs t fr)/\t∈es):KpT es w w':=⟨h.size,fun i cs t fr hi ht=>h.block i (zNc hi) fun e=>by
 obtain ⟨cs',t',fr',h1,h2⟩:=hr i e.symm;rw [hi] at h1;injection h1 with h1;injection h1 with _ h1
 exact ht (h1▸h2)⟩
theorem zRs {B e s n:Nat} {v:Value} {xs:List Value} (h:w.ownsRow B e s v n xs):∀ g,v.ownBlock=some g->∃ cs fr,w.heap[g]? = some (.cells cs e fr):=fun g hg=>by
 rcases h.2 with ⟨rfl,_⟩|⟨g',cap,cur,rfl,_,h',_⟩
 ·cases hg
 injection hg with hg;subst hg;exact ⟨_,_,h'⟩
theorem KpT.of_own {B e s n:Nat} {v:Value} {xs:List Value} (h:w.ownsRow B e s v n xs) (hg:w.grownBy w' v.ownBlock):KpT [e] w w' :=
 KpT.of_grown hg fun g hv=>by obtain ⟨cs,fr,h1⟩:=zRs h g hv;exact ⟨cs,e,fr,h1,by simp⟩
theorem KpT.of_src {b:Nat} (h:Src w b) (hg:w.grownBy w' (some b)):KpT [70] w w' :=
 KpT.of_grown hg fun g hv=>by
  injection hv with hv;subst hv;obtain ⟨_,_,_,_,h1,_⟩:=h;exact ⟨_,_,_,h1,by simp⟩
theorem KpT.alloc (es:List Nat) (w:World) (o:Obj):KpT es w (w.alloc o) := .of_below (bA)
end
structure Kind (α:Type) where
 t:Nat
 k:Nat
 ts:List Nat
 E:World->List Value->α->Prop
 len:∀ {w cs x},E w cs x->cs.length=k
 one:∀ {w cs x},E w cs x->∀ u∈cs,u.oneCell'=true
 kp:∀ {w w' cs x es},E w cs x->KpT es w w'->(∀ t∈ts,t ∉ es)->E w' cs x
def zAa {β α:Type} (E:β->α->Prop):List β->List α->Prop
 | [],[]=>True
 | b::bs,a::ys=>E b a/\zAa E bs ys
 | _,_=>False
section
variable {β α:Type} {E E':β->α->Prop}
theorem zAa.len:∀ {bs:List β} {ys:List α},zAa E bs ys->bs.length=ys.length
 | [],[],_=>rfl
 | _::_,_::_,h=>by rw [List.length_cons,List.length_cons,zAa.len h.2]
theorem zAa.imp:∀ {bs:List β} {ys:List α},zAa E bs ys->(∀ b a,E b a->E' b a)->zAa E' bs ys
 | [],[],_,_=>trivial
 | _::_,_::_,h,hi=>⟨hi _ _ h.1,h.2.imp hi⟩
theorem zAa.append:∀ {bs bs2:List β} {ys ys2:List α},zAa E bs ys->zAa E bs2 ys2->zAa E (bs++bs2) (ys++ys2)
 | [],_,[],_,_,h2=>h2
 | _::_,_,_::_,_,h,h2=>⟨h.1,h.2.append h2⟩
theorem zAa.get:∀ {bs:List β} {ys:List α},zAa E bs ys->∀ (i:Nat) (a:α),ys[i]? = some a->∃ b,bs[i]? = some b/\E b a
 | [],[],_,i,a,e=>by cases e
 | b::_,_::_,h,0,_,e=>⟨b,rfl,by injection e with e;exact e▸h.1⟩
 | _::_,_::_,h,i+1,a,e=>h.2.get i a e
theorem zAa.take:∀ {bs:List β} {ys:List α} (n:Nat),zAa E bs ys->zAa E (bs.take n) (ys.take n)
 | _,_,0,_=>trivial
 | [],[],_+1,_=>trivial
 | _::_,_::_,n+1,h=>⟨h.1,h.2.take n⟩
theorem zAa.drop:∀ {bs:List β} {ys:List α} (n:Nat),zAa E bs ys->zAa E (bs.drop n) (ys.drop n)
 | _,_,0,h=>h
 | [],[],_+1,_=>trivial
 | _::_,_::_,n+1,h=>h.2.drop n
theorem zAa.set:∀ {bs:List β} {ys:List α} (i:Nat) {b:β} {a:α},zAa E bs ys->E b a->zAa E (bs.set i b) (ys.set i a)
 | [],[],_,_,_,_,_=>trivial
 | _::_,_::_,0,_,_,h,hb=>⟨hb,h.2⟩
 | _::_,_::_,i+1,_,_,h,hb=>⟨h.1,h.2.set i hb⟩
theorem zAa.one {b:β} {a:α} (h:E b a):zAa E [b] [a]:=⟨h,trivial⟩
end
def ARow (w:World) (t:Nat) (A:oAx) (cs:List Value):Prop:=cs≠[]->∃ b off arr fr,A=some ⟨b,off,none⟩/\w.heap[b]? = some (.cells arr t fr)/\∀ i u,cs[i]? = some u->arr[off+i]? = some u
theorem ARow.nil (w:World) (t:Nat) (A:oAx):ARow w t A []:=fun h=>absurd rfl h
theorem ARow.kp {es:List Nat} {w w':World} {t:Nat} {A:oAx} {cs:List Value} (h:ARow w t A cs) (hk:KpT es w w') (ht:t ∉ es):ARow w' t A cs:=fun hn=>by
 obtain ⟨b,off,arr,fr,e,h1,h2⟩:=h hn;exact ⟨b,off,arr,fr,e,(hk.2 _ _ _ _ h1 ht).trans h1,h2⟩
theorem zMi {k:Nat}:∀ {css:List (List Value)},(∀ cs∈css,cs.length=k)->∀ (i j:Nat) (cs:List Value) (u:Value),css[i]? = some cs->cs[j]? = some u->css.flatten[i*k+j]? = some u
 | c::css,h,0,j,cs,u,e,e2=>by
  injection e with e;subst e;rw [List.flatten_cons,Nat.zero_mul,Nat.zero_add,List.getElem?_append_left (List.getElem?_eq_some_iff.1 e2).1];exact e2
 | c::css,h,i+1,j,cs,u,e,e2=>by
  have hc:=h c sMx;rw [List.flatten_cons,show (i+1)*k+j=c.length+(i*k+j) by rw [Nat.succ_mul,hc];omega,List.getElem?_append_right (Nat.le_add_right _ _),Nat.add_sub_cancel_left];exact zMi (fun x hx=>h x (by simp [hx])) i j cs u e e2
theorem zMj {k:Nat}:∀ {css:List (List Value)},(∀ cs∈css,cs.length=k)->css.flatten.length=css.length*k
 | [],_=>by simp
 | c::css,h=>by
  rw [List.flatten_cons,List.length_append,h c sMx,zMj fun x hx=>h x (by simp [hx]),List.length_cons,Nat.succ_mul];omega
section
variable {α:Type} {K:Kind α} {w w':World} {es:List Nat} {v:Value} {xs:List α}
theorem zAa.lens {css:List (List Value)} (h:zAa (K.E w) css xs):∀ cs∈css,cs.length=K.k:=by
 induction css generalizing xs with
 | nil=>simp
 | cons c css ih =>
  cases xs with
  | nil=>exact h.elim
  | cons x xs =>
   intro cs hcs
   rcases List.mem_cons.1 hcs with rfl|hcs
   ·exact K.len h.1
   exact ih h.2 cs hcs
theorem zAa.flat {css:List (List Value)} (h:zAa (K.E w) css xs):css.flatten.length=xs.length*K.k:=by rw [zMj h.lens,h.len]
def Sl (K:Kind α) (w:World) (v:Value) (xs:List α):Prop:=∃ A c css,v = .slice A xs.length c/\xs.length<=c/\zAa (K.E w) css xs/\ARow w K.t A css.flatten
theorem Sl.kp (h:Sl K w v xs) (hk:KpT es w w') (hs:∀ t∈K.t::K.ts,t ∉ es):Sl K w' v xs:=by
 obtain ⟨A,c,css,e,hc,ha,hr⟩:=h;exact ⟨A,c,css,e,hc,ha.imp fun _ _ hE=>K.kp hE hk fun t ht=>hs t (List.mem_cons_of_mem _ ht),hr.kp hk (hs _ List.mem_cons_self)⟩
theorem Sl.below (h:Sl K w v xs) (hb:Below w.heap.size w w'):Sl K w' v xs:=h.kp (es:=[]) (.of_below hb) fun _ _=>by simp
theorem Sl.nil (K:Kind α) (w:World) (A:oAx) (c:Nat):Sl K w (.slice A 0 c) []:=⟨A,c,[],rfl,oLx,trivial,.nil _ _ _⟩
theorem Sl.form (h:Sl K w v xs):∃ A c,v = .slice A xs.length c/\xs.length<=c:=by obtain ⟨A,c,_,e,hc,_⟩:=h;exact ⟨A,c,e,hc⟩
theorem Sl.el {A:oAx} {n c:Nat} (h:Sl K w (.slice A n c) xs) (hn:xs≠[]) (hk:0<K.k):∃ b off,A=some ⟨b,off,none⟩/\b<w.heap.size/\∀ i x,xs[i]? = some x->∃ cs,K.E w cs x/\∀ j u,cs[j]? = some u->w.cell? ⟨b,off+(i*K.k+j),none⟩=some u:=by
 obtain ⟨A,c,css,e,hc,ha,hr⟩:=h;injection e with e1;subst e1
 have hf:css.flatten≠[]:=fun e=>by
  have:=ha.flat;rw [e,List.length_nil] at this
  have:xs.length=0:=by
   rcases Nat.eq_zero_or_pos xs.length with h0|h0
   ·exact h0
   have:=Nat.mul_pos h0 hk;omega
  exact hn (List.eq_nil_of_length_eq_zero this)
 obtain ⟨b,off,arr,fr,rfl,h1,h2⟩:=hr hf;refine ⟨b,off,rfl,zNc h1,fun i x hx=>?_⟩;obtain ⟨cs,hcs,hE⟩:=ha.get i x hx;exact ⟨cs,hE,fun j u hu=>(cell_of_row w b _ arr _ fr h1).trans (h2 _ _ (zMi ha.lens i j cs u hcs hu))⟩
def zCo (K:Kind α) (B:Nat) (w:World) (v:Value) (xs:List α):Prop:=∃ css,zAa (K.E w) css xs/\w.ownsRow B K.t K.k v xs.length css.flatten
variable {B:Nat}
theorem zCo.nil (K:Kind α) (B:Nat) (w:World):zCo K B w (.slice none 0 0) []:=⟨[],trivial,World.ownsRow_nil _ _ _ _⟩
theorem zCo.kp {row:Option Nat} (h:zCo K B w v xs) (hg:w.grownBy w' row) (hne:v.ownBlock=none\/v.ownBlock≠row) (hk:KpT es w w') (hs:∀ t∈K.ts,t ∉ es):zCo K B w' v xs:=by
 obtain ⟨css,ha,ho⟩:=h;exact ⟨css,ha.imp fun _ _ hE=>K.kp hE hk hs,ho.kept hg hne⟩
theorem zMu (hb:Below w.heap.size w w'):w.grownBy w' none:=⟨hb.os,hb.tape,hb.output,hb.size,fun k hk _=>hb.block k hk⟩
theorem zCo.below (h:zCo K B w v xs) (hb:Below w.heap.size w w'):zCo K B w' v xs :=
 h.kp (es:=[]) (zMu hb) (by rcases v.ownBlock with _|g<;>simp) (.of_below hb) fun _ _=>by simp
theorem zCo.alloc (h:zCo K B w v xs) (o:Obj):zCo K B (w.alloc o) v xs:=h.below (bA)
theorem zCo.blk (h:zCo K B w v xs):∀ g,v.ownBlock=some g->B<=g/\g<w.heap.size/\∃ cs fr,w.heap[g]? = some (.cells cs K.t fr):=fun g hg=>by
 obtain ⟨css, -,ho⟩:=h;exact ⟨(ho.lt g hg).1,(ho.lt g hg).2,zRs ho g hg⟩
theorem zCo.src {b:Nat} (h:zCo K B w v xs) (hs:Src w b) (hg:w.grownBy w' (some b)) (ht:∀ t∈K.t::K.ts,t ∉ [70]):zCo K B w' v xs :=
 h.kp hg (by
  rcases hv:v.ownBlock with _|g
  ·exact .inl rfl
  refine .inr fun e=>?_
  injection e with e;subst e;obtain ⟨-, -,cs,fr,h1⟩:=h.blk _ hv;obtain ⟨_,_,_,_,h2,_⟩:=hs;rw [h1] at h2;injection h2 with h2;injection h2 with _ h2
  exact ht _ List.mem_cons_self (by rw [h2];simp)) (.of_src hs hg) fun t h1=>ht t (List.mem_cons_of_mem _ h1)
theorem zCo.other {B' e s n:Nat} {v':Value} {ys:List Value} (h:zCo K B w v xs) (h':w.ownsRow B' e s v' n ys) (hg:w.grownBy w' v'.ownBlock) (ht:∀ t∈K.t::K.ts,t ∉ [e]):zCo K B w' v xs :=
 h.kp hg (by
  rcases hv:v.ownBlock with _|g
  ·exact .inl rfl
  refine .inr fun e=>?_
  obtain ⟨-, -,cs,fr,h1⟩:=h.blk _ hv;obtain ⟨cs2,fr2,h2⟩:=zRs h' g e.symm;rw [h1] at h2;injection h2 with h2;injection h2 with _ h2
  exact ht _ List.mem_cons_self (by rw [h2];simp)) (.of_own h' hg) fun t h1=>ht t (List.mem_cons_of_mem _ h1)
theorem zCo.low {B':Nat} (h:zCo K B w v xs) (hB:B'<=B):zCo K B' w v xs:=by
 obtain ⟨css,ha,h1,h2⟩:=h;refine ⟨css,ha,h1,?_⟩
 rcases h2 with h2|⟨g,cap,cur,hv,h3,h4⟩
 ·exact .inl h2
 exact .inr ⟨g,cap,cur,hv,Nat.le_trans hB h3,h4⟩
theorem zCo.form (h:zCo K B w v xs):∃ A c,v = .slice A xs.length c/\xs.length<=c:=by
 obtain ⟨css,ha,h1,h2⟩:=h
 rcases h2 with ⟨hv,h2⟩|⟨g,cap,cur,hv, -, -,hle, -⟩
 ·exact ⟨none,0,by rw [hv,h2],oMx⟩
 exact ⟨_,cap,hv,hle⟩
theorem zCo.sl (h:zCo K B w v xs):Sl K w v xs:=by
 obtain ⟨css,ha,h1,h2⟩:=h
 rcases h2 with ⟨hv,h2⟩|⟨g,cap,cur,hv, -,hg,hle, -, -,htake⟩
 ·have:xs=[]:=List.eq_nil_of_length_eq_zero h2;subst this;exact ⟨none,0,css,hv,lRx,ha,fun hn=>by rw [h2,Nat.zero_mul] at h1;exact absurd (List.eq_nil_of_length_eq_zero h1) hn⟩
 refine ⟨_,cap,css,hv,hle,ha,fun _=>⟨g,0,cur,_,rfl,hg,fun i u hu=>?_⟩⟩;rw [<-htake,List.getElem?_take] at hu
 split at hu
 ·rw [Nat.zero_add];simpa using hu
 cases hu
end
def zOg:Kind ByteArray where
 t:=9
 k:=1
 ts:=[]
 E _ cs x:=cs=[.string x]
 len h:=by rw [h];rfl
 one h u hu:=by rw [h,List.mem_singleton] at hu;rw [hu];rfl
 kp h _ _:=h
section
variable {α:Type} (K:Kind α) (t:Nat)
def Kind.sl:Kind (List α) where
 t:=t
 k:=1
 ts:=K.t::K.ts
 E w cs x:=∃ u,cs=[u]/\Sl K w u x
 len h:=by obtain ⟨u,rfl,_⟩:=h;rfl
 one h u hu:=by obtain ⟨u',rfl,h1⟩:=h;obtain ⟨A,c,e,_⟩:=h1.form;rw [List.mem_singleton] at hu;rw [hu,e];rfl
 kp h hk hs:=by obtain ⟨u,e,h1⟩:=h;exact ⟨u,e,h1.kp hk hs⟩
def Kind.sli:Kind (List α × Int) where
 t:=t
 k:=2
 ts:=K.t::K.ts
 E w cs x:=∃ u,cs=[u,.int .i64 x.2]/\Sl K w u x.1
 len h:=by obtain ⟨u,rfl,_⟩:=h;rfl
 one h u hu:=by
  obtain ⟨u',rfl,h1⟩:=h;obtain ⟨A,c,e,_⟩:=h1.form
  rcases List.mem_cons.1 hu with rfl|hu
  ·rw [e];rfl
  rw [List.mem_singleton] at hu;rw [hu];rfl
 kp h hk hs:=by obtain ⟨u,e,h1⟩:=h;exact ⟨u,e,h1.kp hk hs⟩
def Kind.isl:Kind (Int × List α) where
 t:=t
 k:=2
 ts:=K.t::K.ts
 E w cs x:=∃ u,cs=[.int .i64 x.1,u]/\Sl K w u x.2
 len h:=by obtain ⟨u,rfl,_⟩:=h;rfl
 one h u hu:=by
  obtain ⟨u',rfl,h1⟩:=h;obtain ⟨A,c,e,_⟩:=h1.form
  rcases List.mem_cons.1 hu with rfl|hu
  ·rfl
  rw [List.mem_singleton] at hu;rw [hu,e];rfl
 kp h hk hs:=by obtain ⟨u,e,h1⟩:=h;exact ⟨u,e,h1.kp hk hs⟩
end
def zOe:Kind zGg:=zOg.sli 64
def zOf:Kind (List zGg):=zOe.sl 43
def kDb:Kind (List (List zGg)):=zOf.sl 34
def zOd:Kind (Int × List zGg):=zOe.isl 45
def zOc:Kind (Int × List (Int × List zGg)):=zOd.isl 54
section
variable {w:World} {b off:Nat} {A:oAx} {n c:Nat}
theorem Sl.txt {ss:List ByteArray} (h:Sl zOg w (.slice A n c) ss) (hn:ss≠[]):∃ b off,A=some ⟨b,off,none⟩/\b<w.heap.size/\∀ i,(hi:i<ss.length)->w.cell? ⟨b,off+i,none⟩=some (.string ss[i]):=by
 obtain ⟨b,off,e,hb,hx⟩:=h.el hn dCx;refine ⟨b,off,e,hb,fun i hi=>?_⟩;obtain ⟨cs,hE,hc⟩:=hx i _ (List.getElem?_eq_getElem hi);have:=hc 0 _ (by rw [hE];rfl);rw [show i*zOg.k+0=i from Nat.mul_one i] at this;exact this
theorem Sl.sl1 {α:Type} {K:Kind α} {t:Nat} {xs:List (List α)} (h:Sl (K.sl t) w (.slice A n c) xs) (hn:xs≠[]):∃ b off,A=some ⟨b,off,none⟩/\b<w.heap.size/\∀ i,(hi:i<xs.length)->∃ u,w.cell? ⟨b,off+i,none⟩=some u/\Sl K w u xs[i]:=by
 obtain ⟨b,off,e,hb,hx⟩:=h.el hn (by simp [Kind.sl,Kind.sli,Kind.isl]);refine ⟨b,off,e,hb,fun i hi=>?_⟩;obtain ⟨cs,⟨u,rfl,hE⟩,hc⟩:=hx i _ (List.getElem?_eq_getElem hi);have:=hc 0 _ rfl;rw [show i*(K.sl t).k+0=i from Nat.mul_one i] at this;exact ⟨u,this,hE⟩
theorem Sl.sli2 {α:Type} {K:Kind α} {t:Nat} {xs:List (List α × Int)} (h:Sl (K.sli t) w (.slice A n c) xs) (hn:xs≠[]):∃ b off,A=some ⟨b,off,none⟩/\b<w.heap.size/\∀ i,(hi:i<xs.length)->∃ u,w.cell? ⟨b,off+i*2,none⟩=some u/\w.cell? ⟨b,off+i*2+1,none⟩=some (.int .i64 xs[i].2)/\Sl K w u xs[i].1:=by
 obtain ⟨b,off,e,hb,hx⟩:=h.el hn (by simp [Kind.sl,Kind.sli,Kind.isl]);refine ⟨b,off,e,hb,fun i hi=>?_⟩;obtain ⟨cs,⟨u,rfl,hE⟩,hc⟩:=hx i _ (List.getElem?_eq_getElem hi);exact ⟨u,hc 0 _ rfl,hc 1 _ rfl,hE⟩
theorem Sl.isl2 {α:Type} {K:Kind α} {t:Nat} {xs:List (Int × List α)} (h:Sl (K.isl t) w (.slice A n c) xs) (hn:xs≠[]):∃ b off,A=some ⟨b,off,none⟩/\b<w.heap.size/\∀ i,(hi:i<xs.length)->∃ u,w.cell? ⟨b,off+i*2,none⟩=some (.int .i64 xs[i].1)/\w.cell? ⟨b,off+i*2+1,none⟩=some u/\Sl K w u xs[i].2:=by
 obtain ⟨b,off,e,hb,hx⟩:=h.el hn (by simp [Kind.sl,Kind.sli,Kind.isl]);refine ⟨b,off,e,hb,fun i hi=>?_⟩;obtain ⟨cs,⟨u,rfl,hE⟩,hc⟩:=hx i _ (List.getElem?_eq_getElem hi);exact ⟨u,hc 0 _ rfl,hc 1 _ rfl,hE⟩
end
section
variable {P:Program} {w:World} {α:Type} {K:Kind α} {B:Nat} {v v2:Value} {xs ys:List α}
theorem Kind.all_one:∀ {css:List (List Value)} {xs:List α},zAa (K.E w) css xs->∀ u∈css.flatten,u.oneCell'=true
 | [],_,_,u,hu=>by cases hu
 | c::css,x::xs,h,u,hu=>by
  rw [List.flatten_cons] at hu
  rcases List.mem_append.1 hu with hu|hu
  ·exact K.one h.1 u hu
  exact Kind.all_one h.2 u hu
theorem append_e (base:Nat) (t ty e:TypeId) (i:TypeInfo) (size:Nat) (ht:P.underlying t=some (.slice e)) (hi:P.info? e=some i) (v:Value) (n:Nat) (xs:List Value) (hown:w.ownsRow base e size v n xs) (A:oAx) (c:Nat) :
  (Builtin.append_ #[t,t] ty #[v,.slice A 0 c]).run P w = .ok v w:=by
 rcases A with _|a
 ·rcases hown.2 with ⟨rfl,rfl⟩|⟨g,cap,cur,rfl,_,_,hnc,_⟩
  ·simp [Builtin.append_,run_underlying ht,sizeOf,typeInfo,hi,Builtin.lenOf,Builtin.firstCells]
  simp [Builtin.append_,run_underlying ht,sizeOf,typeInfo,hi,Builtin.lenOf,Builtin.firstCells,hnc,storeCells]
 rcases hown.2 with ⟨rfl,rfl⟩|⟨g,cap,cur,rfl,_,_,hnc,_⟩
 ·simp [Builtin.append_,run_underlying ht,sizeOf,typeInfo,hi,Builtin.lenOf,Builtin.firstCells,loadCells,loadCellsFrom]
 simp [Builtin.append_,run_underlying ht,sizeOf,typeInfo,hi,Builtin.lenOf,Builtin.firstCells,hnc,storeCells,loadCells,loadCellsFrom]
structure zCb (P:Program) (K:Kind α):Prop where
 inf:∃ z i,P.info? K.t=some i/\i.zero=some z/\i.size=K.k/\i.bytes<=64/\z.cells.size=K.k
 pos:0<K.k
 ts:K.t ∉ K.ts
theorem zCb.mk' {z:Value} {by_:Nat} (h:(P.info? K.t).map (fun i=>(i.zero,i.size,i.bytes))=some (some z,K.k,by_)) (hb:by_<=64) (hz:z.cells.size=K.k) (hp:0<K.k) (ht:K.t ∉ K.ts):zCb P K:=by
 obtain ⟨i,hi,h1,h2,h3⟩:=info_parts h;exact ⟨⟨z,i,hi,h1,h2,oMx,hz⟩,hp,ht⟩
theorem zUo (t ty:TypeId) (ht:P.underlying t=some (.slice K.t)) (hK:zCb P K) (ho:zCo K B w v xs) (hs:Sl K w v2 ys) (hn:xs.length+ys.length<=1000000) (hB:B<=w.heap.size) :
  ∃ v' w',(Builtin.append_ #[t,t] ty #[v,v2]).run P w = .ok v' w'/\zCo K B w' v' (xs++ys)/\w.grownBy w' v.ownBlock:=by
 obtain ⟨z,i,hi,hz,hsz,hby,hzs⟩:=hK.inf;obtain ⟨css,ha,ho⟩:=ho;obtain ⟨A,c,css2,rfl,hc,ha2,hr⟩:=hs
 rcases ys with _|⟨y,ys⟩
 ·refine ⟨v,w,append_e B t ty K.t i K.k ht hi v _ _ ho A c,⟨css,by rw [List.append_nil];exact ha,by rw [List.append_nil];exact ho⟩,⟨rfl,rfl,rfl,lRx,fun _ _ _=>rfl⟩⟩
 have hf:css2.flatten≠[]:=fun e=>by
  have:=ha2.flat;rw [e,List.length_nil,List.length_cons,Nat.succ_mul] at this;have:=hK.pos;omega
 obtain ⟨b,off,arr,fr,rfl,h1,h2⟩:=hr hf;have hb:(xs.length+(y::ys).length)*i.bytes<=140737488355328:=Nat.le_trans (Nat.mul_le_mul hn hby) dCx;obtain ⟨v',w',hr,h3,h4, -⟩:=run_append_own (P:=P) w B t ty K.t i z K.k i.bytes ht hi hz hsz rfl hzs hK.pos v _ _ ho ⟨b,off,none⟩ _ c css2.flatten ha2.flat (fun j u hu=>by rw [Addr.add_lit];exact (cell_of_row w b _ arr K.t fr h1).trans (h2 j u hu)) (Kind.all_one ha2) (by unfold maxLen;omega) hb hB;have hk:=KpT.of_own ho h4
 have h5:∀ t∈K.ts,t ∉ [K.t]:=fun t ht h6=>by rw [List.mem_singleton] at h6;exact hK.ts (h6▸ht)
 refine ⟨v',w',hr,⟨css++css2,(ha.imp fun _ _ h=>K.kp h hk h5).append (ha2.imp fun _ _ h=>K.kp h hk h5),?_⟩,h4⟩;rw [List.length_append,List.flatten_append];exact h3
structure App (K:Kind α) (B:Nat) (w w':World) (v v':Value) (xs:List α):Prop where
 own:zCo K B w' v' xs
 gr:w.grownBy w' v.ownBlock
 kp:KpT [K.t] w w'
 bel:∀ {a:World},Below B a w->Below B a w'
theorem App.of {w':World} {v':Value} {zs:List α} (ho:zCo K B w v xs) (hB:B<=w.heap.size) (h1:zCo K B w' v' zs) (h2:w.grownBy w' v.ownBlock):App K B w w' v v' zs:=by
 refine ⟨h1,h2,?_,fun h=>⟨h2.os.trans h.os,h2.tape.trans h.tape,h2.output.trans h.output,Nat.le_trans h.size h2.size,fun k hk=>(h2.block k oMx fun e=>?_).trans (h.block k hk)⟩⟩
 ·exact KpT.of_grown h2 fun g hg=>by obtain ⟨-, -,cs,fr,h3⟩:=ho.blk g hg;exact ⟨_,_,_,h3,by simp⟩
 have:=(ho.blk k e.symm).1;omega
theorem xAn {ops:Array Oper} {rest:List Oper} {o:Oper} {a:Act} {Q:Exit->Act->World->Prop} (s x:Operand) (t:TypeId) (hgd:o.guard=none)
  (hop:o.op = .call { callee := .builtin .append,args:=#[s,x],argTypes:=#[t,t] }) (ht:P.underlying t=some (.slice K.t)) (hK:zCb P K) (ho:zCo K B w (a.eval s) xs) (hs:Sl K w (a.eval x) ys) (hn:xs.length+ys.length<=1000000) (hB:B<=w.heap.size)
  (h:∀ v' w',App K B w w' (a.eval s) v' (xs++ys)->wpList P ops Q rest (a.put o.dst v') w'):wpList P ops Q (o::rest) a w:=by
 refine wpList_plain hgd fun K' hK'=>?_
 obtain ⟨v',w',hr,h1,h2⟩:=zUo (P:=P) t o.type ht hK ho hs hn hB;unfold Oper.wp;simp only [execOp,hop,resolve,invoke,builtin,Sem.run_bind,Sem.run_pure,Result.andThen_ok,List.map_toArray,List.map_cons,List.map_nil,hr];exact hK' _ _ (h v' w' (.of ho hB h1 h2))
theorem zWf {ops:Array Oper} {o:Oper} {a:Act} {K':Act->World->Prop} {Q:Exit->Act->World->Prop} {E:Prop} (s x:Operand) (t:TypeId) (hgd:o.guard=none)
  (hop:o.op = .call { callee := .builtin .append,args:=#[s,x],argTypes:=#[t,t] }) (ht:P.underlying t=some (.slice K.t)) (hK:zCb P K) (hv:a.eval s=v) (ho:zCo K B w v xs) (hx:a.eval x=v2) (hs:Sl K w v2 ys) (hn:xs.length+ys.length<=1000000) (hB:B<=w.heap.size)
  (h:∀ v' w',App K B w w' v v' (xs++ys)->K' (a.put o.dst v') w'):if Region.wanted o (yielded ops a.tmps)=true then Oper.wp P o a w K' Q else E:=by
 have hw:Region.wanted o (yielded ops a.tmps)=true:=by simp [Region.wanted,hgd]
 rw [if_pos hw];subst hv hx;obtain ⟨v',w',hr,h1,h2⟩:=zUo (P:=P) t o.type ht hK ho hs hn hB;unfold Oper.wp execOp;simp only [hop,resolve,invoke,builtin,Sem.run_bind,Sem.run_pure,Result.andThen_ok,List.map_toArray,List.map_cons,List.map_nil,hr];exact h v' w' (.of ho hB h1 h2)
theorem Sl.new {g:Nat} {arr:Array Value} {x:α} (hg:w.heap.size=g) (hE:K.E w arr.toList x):Sl K (w.alloc (.cells arr K.t)) (.slice (some ⟨g,0,none⟩) 1 1) [x]:=by
 subst hg;have hk:KpT [] w (w.alloc (.cells arr K.t)) := .alloc _ _ _;refine ⟨_,1,[arr.toList],rfl,lRx,.one (K.kp hE hk fun _ _=>by simp),fun _=>⟨w.heap.size,0,arr,(0,0),rfl,heap_alloc_new w _,fun i u hu=>?_⟩⟩;rw [Nat.zero_add]
 simpa using hu
end
theorem zMz {w:World} (g i:Nat) (u:Value):w.grownBy (w.setCell ⟨g,i,none⟩ u) (some g):=zRn (p:=⟨g,i,none⟩) (World.grownBy.refl w (some g)) (.inl rfl) u
section
variable {α:Type} {K:Kind α} {B g t:Nat} {w w':World} {v v':Value} {cs:List Value} {xs xs0:List α}
theorem Blk.app (h:Blk w g t cs) (hap:App K B w w' v v' xs) (ht:t≠K.t):Blk w' g t cs:=(hap.kp.2 g _ t _ h (by simpa using ht)).trans h
theorem zCo.app {β:Type} {K':Kind β} {B':Nat} {u:Value} {ys:List β} (h:zCo K' B' w u ys) (hap:App K B w w' v v' xs) (ho:zCo K B w v xs0) (ht:∀ t∈K'.t::K'.ts,t ∉ [K.t]):zCo K' B' w' u ys:=by
 obtain ⟨css, -,ho⟩:=ho;exact h.other ho hap.gr ht
theorem Blk.app' (h:Blk w g t cs) (hap:App K B w w' v v' xs) (hne:∀ j,v.ownBlock=some j->j<g):Blk w' g t cs:=h.grown hap.gr fun e=>by have:=hne _ e.symm;omega
end
theorem zCo.store {α:Type} {K:Kind α} {B g t i:Nat} {w:World} {v u:Value} {cs:List Value} {xs:List α} (h:zCo K B w v xs) (hb:Blk w g t cs) (ht:∀ s∈K.t::K.ts,s ∉ [t]):zCo K B (w.setCell ⟨g,i,none⟩ u) v xs :=
 h.kp (row:=some g) (zMz g i u) (by
  rcases hv:v.ownBlock with _|k
  ·exact .inl rfl
  refine .inr fun e=>?_
  injection e with e;subst e;obtain ⟨-, -,cs2,fr,h1⟩:=h.blk _ hv;unfold Blk at hb;rw [h1] at hb;injection hb with hb;injection hb with _ hb
  exact ht _ List.mem_cons_self (by rw [hb];simp)) (KpT.of_grown (zMz g i u) fun k hk=>by injection hk with hk;subst hk;exact ⟨_,_,_,hb,by simp⟩) fun s hs=>ht s (List.mem_cons_of_mem _ hs)
theorem Tryz.kiTxt:zCb Tryz.prog zOg := .mk' (z := .string ⟨#[]⟩) (by_:=16) (by kernel_rfl) dCx rfl dCx dCx
theorem Tryz.kiRow:zCb Tryz.prog zOe := .mk' (z := .agg #[.slice none 0 0,.int .i64 0]) (by_:=32) (by kernel_rfl) dCx rfl dCx dCx
theorem Tryz.kiTab:zCb Tryz.prog zOf := .mk' (z := .slice none 0 0) (by_:=24) (by kernel_rfl) dCx rfl dCx dCx
theorem Tryz.kiDb:zCb Tryz.prog kDb := .mk' (z := .slice none 0 0) (by_:=24) (by kernel_rfl) dCx rfl dCx dCx
theorem Tryz.kiDel:zCb Tryz.prog zOd := .mk' (z := .agg #[.int .i64 0,.slice none 0 0]) (by_:=32) (by kernel_rfl) dCx rfl dCx dCx
theorem Tryz.kiChg:zCb Tryz.prog zOc := .mk' (z := .agg #[.int .i64 0,.slice none 0 0]) (by_:=32) (by kernel_rfl) dCx rfl dCx dCx
end Go.Proofs.YtafflnognagadaaGreatDoor
