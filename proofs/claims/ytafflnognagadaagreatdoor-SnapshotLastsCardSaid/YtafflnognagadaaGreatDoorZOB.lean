import Derived.Test.YtafflnognagadaaGreatDoorZWS
import Derived.Test.YtafflnognagadaaGreatDoorZOA
import Derived.Test.YtafflnognagadaaGreatDoorShelfC
set_option maxHeartbeats 16000000
set_option maxRecDepth 100000
set_option linter.unusedVariables false
set_option linter.unusedSimpArgs false
set_option linter.unusedSectionVars false
namespace Go.Proofs.YtafflnognagadaaGreatDoor
open Go.RowKit
theorem zIa {x y:ByteArray}:(x.toList==y.toList)=decide (x=y):=by
 rw [Bool.eq_iff_iff,beq_iff_eq,decide_eq_true_eq];exact ⟨ba_lst,fun h=>by rw [h]⟩
theorem zXc {α:Type} {a b:List α} {k:Nat} (ha:k<a.length) (hb:k<b.length) (h:a.take k=b.take k) (he:a[k]=b[k]):a.take (k+1)=b.take (k+1):=by
 rw [List.take_succ_eq_append_getElem ha,List.take_succ_eq_append_getElem hb,h,he]
theorem ne_at {α:Type} {a b:List α} {k:Nat} (ha:k<a.length) (hb:k<b.length) (he:a[k]≠b[k]):a≠b:=fun e=>by subst e;exact he rfl
theorem zGj {va vb:Value} {a b:List ByteArray} (r:Bool) {w:World} (ha:Sl zOg w va a) (hb:Sl zOg w vb b) (hr:r=true↔a=b) (hl:a.length<=1000) (hl2:b.length<=1000) :
  Calls Tryz.prog 59 #[va,vb] w fun e w'=>e = .returned (.bool r)/\∃ q,w'=w.drewN q:=by
 obtain ⟨A,c,rfl, -⟩:=ha.form;obtain ⟨A2,c2,rfl, -⟩:=hb.form;have HA:=oH ha;have HB:=oH hb;have HR:=oH hr;clear ha hb hr
 by_cases hne:a.length=b.length
 ·rw [<-hne];have HNE:=oH hne;clear hne hl2
  go_enter Tryz.func59,Tryz.ntmps59
  go_wp2_with fail
  go_loopw [13] (fun iv wq=>∃ k m:Nat,iv = .int .i64 (k:Int)/\k<=a.length/\a.take k=b.take k/\wq=w.drewN m) (fun iv _=>a.length-(intOf iv).toNat)
  ·exact ⟨0,0,rfl,oLx,rfl,rfl⟩
  obtain ⟨k,m,rfl,hk,htk,rfl⟩:=hrel;have HTK:=oH htk;clear htk
  by_cases hlt:k<a.length
  ·have hlt2:k<b.length:=by rw [<-HNE.out];exact hlt
   obtain ⟨b1,o1,rfl, -,hc1⟩:=HA.txt (by intro e;subst e;simp at hlt);obtain ⟨b2,o2,rfl, -,hc2⟩:=HB.txt (by intro e;subst e;simp at hlt2);have h1:w.cell? ⟨b1,o1+k,none⟩=some (.string a[k]):=hc1 k hlt;have h2:w.cell? ⟨b2,o2+k,none⟩=some (.string b[k]):=hc2 k hlt2;have HS:=oH (zXc hlt hlt2 HTK.out);have HN:=oH (ne_at (a:=a) (b:=b) hlt hlt2);have hq:=zIa (x:=a[k]) (y:=b[k]);clear hc1 hc2;generalize a[k]=x at *;generalize b[k]=y at *
   by_cases he:x=y
   ·have E:=oH (HS.out he);rw [decide_eq_true he] at hq;clear he;go_wp2_with fail
    go_quiet (fail)
    go_wp2_with fail;go_roundw
    ·exact ⟨k+1,_,by go_num,oMx,E.out,rfl⟩
    simp [intOf];omega
   have E:=oH (HN.out he);rw [decide_eq_false he] at hq;clear he;go_wp2_with fail
   go_quiet (fail)
   go_wp2_with fail;go_ret
   refine ⟨?_,m+nq,by simp [World.drewN,Nat.add_assoc]⟩
   cases r with
   | false=>rfl
   | true=>exact absurd (HR.1 rfl) E.out
  obtain rfl:k=a.length:=by omega
  have E:Hid (r=true):=oH (HR.2 (by have h:=HTK.out;rw [List.take_length,HNE.out,List.take_length] at h;exact h));go_wp2_with fail;go_ret
  exact ⟨by rw [E.out];rfl,_,rfl⟩
 have hi:((a.length:Int)==(b.length:Int))=false:=by rw [beq_eq_false_iff_ne];omega
 have E:Hid (r=false):=oH (by
  cases r with
  | false=>rfl
  | true=>exact absurd (congrArg List.length (HR.1 rfl)) hne)
 clear hne
 go_enter Tryz.func59,Tryz.ntmps59
 go_wp2_with fail;go_ret
 exact ⟨by rw [E.out];rfl,0,rfl⟩
theorem zLn {α:Type} {a:List α} {k:Nat} (h:k<a.length):a.drop k=a[k]::a.drop (k+1):=List.drop_eq_getElem_cons h
def zJu {α:Type} (lt:α->α->Bool) (a b:α):Int:=if lt a b then -1 else if lt b a then 1 else 0
theorem zJv {x y:ByteArray} {a b:List ByteArray}:zJu ltL (x::a) (y::b)=if ltS x y then -1 else if ltS y x then 1 else zJu ltL a b:=by
 have e1:ltL (x::a) (y::b)=(ltS x y || (!ltS y x&&ltL a b)):=rfl;have e2:ltL (y::b) (x::a)=(ltS y x || (!ltS x y&&ltL b a)):=rfl;unfold zJu;rw [e1,e2]
 cases h:ltS x y with
 | true=>simp
 | false =>
  cases h2:ltS y x with
  | true=>simp
  | false=>simp only [Bool.not_false,Bool.true_and,Bool.false_or,Bool.false_eq_true,if_false]
theorem zJw (a b:List ByteArray):decide (zJu ltL a b<0)=ltL a b:=by
 unfold zJu
 cases ltL a b with
 | true=>rfl
 | false=>cases ltL b a<;>rfl
theorem bytes_eq {x y:ByteArray}:(x.toList==y.toList)=(!ltS x y && !ltS y x):=by
 rw [zIa]
 by_cases he:x=y
 ·subst he;rw [zWj.irr];simp
 rw [decide_eq_false he]
 cases h:ltS x y with
 | true=>rfl
 | false =>
  cases h2:ltS y x with
  | true=>rfl
  | false=>exact absurd (zWj.tri h h2) he
theorem zNp (x:ByteArray) (w:World):Calls Tryz.prog 120 #[.string x] w fun e w'=>e = .returned (.bool false)/\w=w':=by
 have h:(x.toList==x.toList)=true:=by simp
 go_enter Tryz.func120,Tryz.ntmps120
 go_wp2_with fail;go_ret
 exact ⟨by simp,rfl⟩
theorem Cmp_str (x y:ByteArray) (w:World):Calls Tryz.prog 112 #[.string x,.string y] w fun e w'=>e = .returned (.int .i64 (zJu ltS x y))/\w=w':=by
 have H1:=oH (zNp x w);have H2:=oH (zNp y w);have hg:=bytes_eq (x:=x) (y:=y);obtain ⟨q1,h1⟩:=eXx (ltS x y);obtain ⟨q2,h2⟩:=eXx (ltS y x);have h1':Go.Op.bytesLess x.toList y.toList=q1:=h1;have E:=oH (show zJu ltS x y=if q1 then -1 else if q2 then 1 else 0 by unfold zJu;rw [h1,h2]);rw [h1,h2] at hg;rw [E.out];clear E h1 h2
 go_enter Tryz.func112,Tryz.ntmps112
 go_wp2_with fail;refine H1.mono ?_;rintro e w' ⟨rfl,rfl⟩;go_wp2_with fail;refine H2.mono ?_;rintro e w' ⟨rfl,rfl⟩
 cases q1<;>cases q2
 all_goals
  simp only [Bool.not_true,Bool.not_false,Bool.and_true,Bool.and_false,Bool.true_and,Bool.false_and] at hg;go_wp2_with fail;go_ret
  exact ⟨rfl,rfl⟩
theorem zAk {va vb:Value} {a b:List ByteArray} {w:World} (ha:Sl zOg w va a) (hb:Sl zOg w vb b) (hl:a.length<=1000) (hl2:b.length<=1000) :
  Calls Tryz.prog 97 #[va,vb] w fun e w'=>e = .returned (.int .i64 (zJu ltL a b))/\w=w':=by
 obtain ⟨A,c,rfl, -⟩:=ha.form;obtain ⟨A2,c2,rfl, -⟩:=hb.form;have HA:=oH ha;have HB:=oH hb;obtain ⟨z,hz⟩:=eXx (zJu ltL a b);have HZ:=oH hz;rw [hz];clear ha hb hz
 go_enter Tryz.func97,Tryz.ntmps97
 go_wp2_with fail
 go_loop [11] (fun iv=>∃ k:Nat,iv = .int .i64 (k:Int)/\k<=a.length/\k<=b.length/\zJu ltL (a.drop k) (b.drop k)=z) (fun iv=>a.length-(intOf iv).toNat)
 ·exact ⟨0,rfl,oLx,oLx,HZ.out⟩
 obtain ⟨k,rfl,hk,hk2,hcm⟩:=hrel;have HC:=oH hcm;clear hcm HZ
 by_cases hlt:k<a.length
 ·obtain ⟨b1,o1,rfl, -,hc1⟩:=HA.txt (by intro e;subst e;simp at hlt);have h1:=hc1 k hlt;clear hc1
  by_cases hlt2:k<b.length
  ·obtain ⟨b2,o2,rfl, -,hc2⟩:=HB.txt (by intro e;subst e;simp at hlt2);have h2:=hc2 k hlt2;have HCC:=oH (show zJu ltL (a[k]::a.drop (k+1)) (b[k]::b.drop (k+1))=z by rw [<-zLn hlt,<-zLn hlt2];exact HC.out);have HP:=oH (Cmp_str a[k] b[k] w);clear hc2;generalize a[k]=x at *;generalize b[k]=y at *;unfold zJu at HP
   cases h5:ltS x y
   ·cases h6:ltS y x
    ·rw [h5,h6] at HP;have E:=oH (show zJu ltL (a.drop (k+1)) (b.drop (k+1))=z by have:=HCC.out;rw [zJv,h5,h6] at this;exact this);clear h5 h6;go_wp2_with fail;refine HP.mono ?_;rintro e w' ⟨rfl,rfl⟩;go_wp2_with fail
     go_round
     ·exact ⟨k+1,by go_num,oMx,oMx,E.out⟩
     simp [intOf];omega
    rw [h5,h6] at HP;have E:=oH (show 1=z by have:=HCC.out;rw [zJv,h5,h6] at this;exact this);clear h5 h6;go_wp2_with fail;refine HP.mono ?_;rintro e w' ⟨rfl,rfl⟩;go_wp2_with fail;go_ret
    exact ⟨by rw [<-E.out];rfl,rfl⟩
   rw [h5] at HP;have E:=oH (show -1=z by have:=HCC.out;rw [zJv,h5] at this;exact this);clear h5;go_wp2_with fail;refine HP.mono ?_;rintro e w' ⟨rfl,rfl⟩;go_wp2_with fail;go_ret
   exact ⟨by rw [<-E.out];rfl,rfl⟩
  have E:=oH (show 1=z by rw [<-HC.out,zLn hlt,List.drop_eq_nil_of_le (by omega:b.length<=k)];rfl);go_wp2_with fail;go_ret
  exact ⟨by rw [<-E.out];rfl,rfl⟩
 obtain rfl:k=a.length:=by omega
 by_cases hlt2:a.length<b.length
 ·have E:=oH (show -1=z by rw [<-HC.out,List.drop_length,zLn hlt2];rfl);go_wp2_with fail;go_ret
  exact ⟨by rw [<-E.out];rfl,rfl⟩
 have E:=oH (show 0=z by rw [<-HC.out,List.drop_length,List.drop_eq_nil_of_le (by omega:b.length<=a.length)];rfl);go_wp2_with fail;go_ret
 exact ⟨by rw [<-E.out];rfl,rfl⟩
theorem JLess_of {va vb:Value} {a b:List ByteArray} {w:World} (ha:Sl zOg w va a) (hb:Sl zOg w vb b) (hl:a.length<=1000) (hl2:b.length<=1000) :
  Calls Tryz.prog 95 #[va,vb] w fun e w'=>e = .returned (.bool (ltL a b))/\w=w':=by
 have H:=oH (zAk ha hb hl hl2);have E:=oH (zJw a b);clear ha hb;generalize zJu ltL a b=z at *
 go_enter Tryz.func95,Tryz.ntmps95
 go_wp2_with fail;refine H.mono ?_;rintro e w' ⟨rfl,rfl⟩;go_wp2_with fail;go_ret
 exact ⟨by rw [<-E.out];rfl,rfl⟩
theorem zBz {va vb:Value} {a b:List ByteArray} {y z:Int} {w:World} (ha:Sl zOg w va a) (hb:Sl zOg w vb b) (hl:a.length<=1000) (hl2:b.length<=1000) :
  Calls Tryz.prog 83 #[.agg #[va,.int .i64 y],.agg #[vb,.int .i64 z]] w fun e w'=>e = .returned (.int .i64 (zJu ltL a b))/\Below w.heap.size w w':=by
 have hb1:Below w.heap.size w ((w.alloc (.cells #[va,.int .i64 y] 64)).alloc (.cells #[vb,.int .i64 z] 64)):=(bA).alloc sMx _;have H:=oH (zAk (ha.below hb1) (hb.below hb1) hl hl2);have HB:=oH hb1;obtain ⟨A,c,rfl, -⟩:=ha.form;obtain ⟨A2,c2,rfl, -⟩:=hb.form;clear ha hb hb1;generalize zJu ltL a b=z at *
 go_enter Tryz.func83,Tryz.ntmps83
 go_wp2_with fail;refine H.mono ?_;rintro e w' ⟨rfl,rfl⟩;go_wp2_with fail;go_ret
 exact ⟨rfl,HB.out⟩
theorem zEf {va vb:Value} {a b:List ByteArray} {w:World} (ha:Sl zOg w va a) (hb:Sl zOg w vb b) (hl:a.length<=1000) (hl2:b.length<=1000) :
  Calls Tryz.prog 58 #[va,vb] w fun e w'=>e = .returned (.bool (ltL a b))/\∃ q,w'=w.drewN q:=by
 obtain ⟨A,c,rfl, -⟩:=ha.form;obtain ⟨A2,c2,rfl, -⟩:=hb.form;have HA:=oH ha;have HB:=oH hb;obtain ⟨z,hz⟩:=eXx (ltL a b);have HZ:=oH hz;rw [hz];clear ha hb hz
 go_enter Tryz.func58,Tryz.ntmps58
 go_wp2_with fail
 go_loopw [5] (fun iv wq=>∃ k m:Nat,iv = .int .i64 (k:Int)/\k<=a.length/\k<=b.length/\ltL (a.drop k) (b.drop k)=z/\wq=w.drewN m) (fun iv _=>a.length-(intOf iv).toNat)
 ·exact ⟨0,0,rfl,oLx,oLx,HZ.out,rfl⟩
 obtain ⟨k,m,rfl,hk,hk2,hcm,rfl⟩:=hrel;have HC:=oH hcm;clear hcm HZ
 by_cases hlt:k<a.length
 ·by_cases hlt2:k<b.length
  ·obtain ⟨b1,o1,rfl, -,hc1⟩:=HA.txt (by intro e;subst e;simp at hlt);obtain ⟨b2,o2,rfl, -,hc2⟩:=HB.txt (by intro e;subst e;simp at hlt2);have h1:=hc1 k hlt;have h2:=hc2 k hlt2;have HCC:=oH (show ltL (a[k]::a.drop (k+1)) (b[k]::b.drop (k+1))=z by rw [<-zLn hlt,<-zLn hlt2];exact HC.out);clear hc1 hc2;have hq:=zIa (x:=a[k]) (y:=b[k]);generalize a[k]=x at *;generalize b[k]=y at *
   by_cases he:x=y
   ·have E:=oH (show ltL (a.drop (k+1)) (b.drop (k+1))=z by have:=HCC.out;unfold ltL lexB at this;rw [he,zWj.irr] at this;exact this);rw [decide_eq_true he] at hq;clear he;go_wp2_with fail
    go_quiet (fail)
    go_wp2_with fail;go_roundw
    ·exact ⟨k+1,_,by go_num,oMx,oMx,E.out,rfl⟩
    simp [intOf];omega
   have E:=oH (show ltS x y=z by
    have:=HCC.out;unfold ltL lexB at this
    cases h5:ltS x y with
    | true=>rw [h5] at this;exact this
    | false =>
     cases h6:ltS y x with
     | true=>rw [h5,h6] at this;exact this
     | false=>exact absurd (zWj.tri h5 h6) he)
   rw [decide_eq_false he] at hq;clear he;go_wp2_with fail
   go_quiet (fail)
   go_wp2_with fail
   go_quiet (fail)
   go_wp2_with fail;go_ret
   exact ⟨by rw [<-E.out];rfl,_,(by first|rfl|(simp only [World.drewN_drewN];rfl))⟩
  have E:=oH (show decide (a.length<b.length)=z by
   rw [<-HC.out,List.drop_eq_nil_of_le (by omega:b.length<=k)];unfold ltL;rw [zOo]
   exact decide_eq_false oMx)
  go_wp2_with fail;go_ret
  exact ⟨by rw [<-E.out];rfl,_,rfl⟩
 obtain rfl:k=a.length:=by omega
 have E:=oH (show decide (a.length<b.length)=z by
  rw [<-HC.out,List.drop_length]
  by_cases hlt2:a.length<b.length
  ·rw [zLn hlt2];exact decide_eq_true oMx
  rw [List.drop_eq_nil_of_le (by omega:b.length<=a.length)];exact decide_eq_false oMx)
 go_wp2_with fail;go_ret
 exact ⟨by rw [<-E.out];rfl,_,rfl⟩
theorem zSg {w:World} {B:Nat} {v:Value} {ss:List ByteArray} (h:w.ownsRow B 9 1 v ss.length (ss.map Value.string)):zCo zOg B w v ss:=by
 refine ⟨ss.map fun s=>[.string s],?_,?_⟩
 ·induction ss with
  | nil=>trivial
  | cons s ss ih =>
   clear h ih
   show zOg.E w [.string s] s/\zAa (zOg.E w) (ss.map fun s=>[.string s]) ss
   refine ⟨rfl,?_⟩
   induction ss with
   | nil=>trivial
   | cons s ss ih=>exact ⟨rfl,ih⟩
 have e:∀ l:List ByteArray,(l.map fun s=>[Value.string s]).flatten=l.map Value.string:=fun l=>by
  induction l with
  | nil=>rfl
  | cons s l ih=>simp only [List.map_cons,List.flatten_cons,ih];rfl
 rw [e];exact h
theorem zAi {va:Value} {a:List ByteArray} {w:World} (ha:Sl zOg w va a) (hl:a.length<=1000):Calls Tryz.prog 75 #[va] w fun e w'=>∃ v,e = .returned v/\zCo zOg w.heap.size w' v a/\Below w.heap.size w w':=by
 obtain ⟨A,c,rfl, -⟩:=ha.form
 rcases a with _|⟨s,a⟩
 ·rcases A with _|A
  ·refine (Tryz.slices_Clone_string_nil 0 c w).mono ?_;rintro e w' ⟨rfl,rfl⟩;exact ⟨_,rfl,.nil _ _ _,bRx⟩
  refine (Tryz.slices_Clone_string_zero A c w).mono ?_;rintro e w' ⟨v,rfl,ho, -,hb⟩;exact ⟨v,rfl,zSg (ss:=[]) ho,hb⟩
 obtain ⟨b,off,rfl, -,hc⟩:=ha.txt sMx;refine (Tryz.slices_Clone_string b off (s::a).length c (s::a) w lRx oMx fun j hj=>?_).mono ?_
 ·rw [hc j hj]
  simp [List.getD_eq_getElem?_getD,List.getElem?_eq_getElem hj]
 rintro e w' ⟨v,rfl,ho, -,hb⟩;rw [List.take_length] at ho;exact ⟨v,rfl,zSg ho,hb⟩
def Lit (T:List zGg):Prop:=T.length<=1000/\∀ r∈T,r.1.length<=1000 /\ -1000000000<=r.2/\r.2<=1000000000
def mulT (f:Int) (T:List zGg):List zGg:=T.map fun r=>(r.1,f*r.2)
theorem zQd (T:List zGg):mulT 1 T=T:=by
 unfold mulT;rw [List.map_congr_left (g:=id) fun r _=>by simp]
 simp
def zFr {α:Type} (K:Kind α) (w:World) (xs:List α) (e:Ending) (w':World):Prop:=∃ v,e = .returned v/\zCo K w.heap.size w' v xs/\Below w.heap.size w w'
theorem zAn {va:Value} {T:List zGg} (f:Int) (hf:f=1\/f = -1) {w:World} (ha:Sl zOe w va T) (hT:Lit T):Calls Tryz.prog 69 #[va,.int .i64 f] w (zFr zOe w (mulT f T)):=by
 obtain ⟨A,c,rfl, -⟩:=ha.form;have HA:=oH ha;have HT:=oH hT.2;have htl:=hT.1;clear ha hT
 go_enter Tryz.func69,Tryz.ntmps69
 go_wp2_with fail
 go_loopw [5,10] (fun v iv wr=>∃ k:Nat,iv = .int .i64 (k:Int)/\k<=T.length/\zCo zOe w.heap.size wr v (mulT f (T.take k))/\Below w.heap.size w wr) (fun _ iv _=>T.length-(intOf iv).toNat)
 ·exact ⟨0,rfl,oLx,.nil _ _ _,bRx⟩
 obtain ⟨k,rfl,hk,hown,hbel⟩:=hrel
 have hnb:=fun j hj=>(hown.blk j hj).2.1
 obtain ⟨Av,cv,rfl, -⟩:=hown.form;have HBEL:=oH hbel;have hsz:=hbel.size;clear hbel
 by_cases hlt:k<T.length
 ·obtain ⟨b,off,rfl,hb,hc⟩:=(HA.below HBEL.out).sli2 (by intro e;subst e;simp at hlt);obtain ⟨u,c0,c1,hu⟩:=hc k hlt;have hz:=HT.out _ (List.getElem_mem hlt);have HTK:=oH (List.take_succ_eq_append_getElem hlt);have HLE:=oH (show (mulT f (T.take k)).length=k by simp [mulT];omega);generalize T[k]=r at *;obtain ⟨ss,z⟩:=r;obtain ⟨hsl,hz1,hz2⟩:=hz;simp only at hsl hz1 hz2 hu c1;obtain ⟨Au,cu,rfl, -⟩:=hu.form;have HU:=oH (fun W (hW:Below wr.heap.size wr W)=>hu.below hW);have HWz:=oH ((Below.refl wr.heap.size wr).alloc lRx (.cells #[.slice Au ss.length cu,.int .i64 z] 64)).drew;have HOWN:=oH hown;have HBz:=oH (Blk.new wr 64 [.slice Au ss.length cu,.int .i64 z]).drew;have KSz:Hid ((wr.alloc (.cells #[.slice Au ss.length cu,.int .i64 z] 64)).drew.cell? ⟨wr.heap.size,0,none⟩=some (.slice Au ss.length cu)/\(wr.alloc (.cells #[.slice Au ss.length cu,.int .i64 z] 64)).drew.cell? ⟨wr.heap.size,1,none⟩=some (.int .i64 z)):=oH ⟨HBz.at_ (i:=0) rfl,HBz.at_ (i:=1) rfl⟩
  have hwr:IntKind.i64.wrap (f*z)=f*z:=by rcases hf with rfl|rfl<;>exact IntWalk.i64_in _ oMx
  clear hu hown hc hb;go_wp2_with fail;refine xAq (S:=(fun w'=>w'.cell? ⟨wr.heap.size,0,none⟩=some (.slice Au ss.length cu)/\w'.cell? ⟨wr.heap.size,1,none⟩=some (.int .i64 z))) 11 (by kernel_rfl) rfl (by kernel_rfl) (by kernel_rfl) rfl (by exact KSz.out) (fun hHeld=>?_);simp only [List.pop_toArray,List.dropLast_cons_cons,List.dropLast_singleton];refine tkH 0 ?_;refine tkH 1 ?_;refine tkH 2 ?_;refine tkH 4 ?_;refine tkH 5 ?_;refine tkH 6 ?_;refine tkH 7 ?_
  try simp only [Act.put,tkA,tkB,tkC]
  refine tkS 3 fun K hK=>?_
  go_simp
  (go_at_call 75;(with_reducible refine (zAi (HU.out _ HWz.out) hsl).mono ?_);rintro e wa ⟨va,rfl,ho,hb⟩;have hw:Below wr.heap.size wr wa:=HWz.out.trans (hb.mono HWz.out.size);have HWa:=oH hw;obtain ⟨Aa,ca,rfl, -⟩:=ho.form;have HVa:=oH ho.sl;have HOa:=oH (HOWN.out.below hw);have HBa:=oH (HBz.out.below hb);have KSa:Hid (wa.cell? ⟨wr.heap.size,0,none⟩=some (.slice Au ss.length cu)/\wa.cell? ⟨wr.heap.size,1,none⟩=some (.int .i64 z)):=oH ⟨HBa.out.at_ (i:=0) rfl,HBa.out.at_ (i:=1) rfl⟩;clear hb hw ho)
  go_wp2_with fail;refine hK.out _ _ ?_ (fun hHeld=>?_)
  ·exact kSx
  clear hK K
  try simp only [Act.put,tkA,tkB,tkC]
  refine tkS 8 fun K hK=>?_
  go_simp
  refine hK.out _ _ ?_ (fun hHeld=>?_)
  ·exact kSx
  clear hK K
  try simp only [Act.put,tkA,tkB,tkC]
  refine tkS 9 fun K hK=>?_
  go_simp
  have HWm:=oH (HWa.alloc HWa.size (.cells #[.slice Aa ss.length ca,.int .i64 (f*z)] 64));have HOm:=oH (HOa.alloc (.cells #[.slice Aa ss.length ca,.int .i64 (f*z)] 64));have HBm:=oH (HBa.alloc (.cells #[.slice Aa ss.length ca,.int .i64 (f*z)] 64));have KSm:Hid ((wa.alloc (.cells #[.slice Aa ss.length ca,.int .i64 (f*z)] 64)).cell? ⟨wr.heap.size,0,none⟩=some (.slice Au ss.length cu)/\(wa.alloc (.cells #[.slice Aa ss.length ca,.int .i64 (f*z)] 64)).cell? ⟨wr.heap.size,1,none⟩=some (.int .i64 z)):=oH ⟨HBm.at_ (i:=0) rfl,HBm.at_ (i:=1) rfl⟩
  refine hK.out _ _ ?_ (fun hHeld=>?_)
  ·exact kSx
  clear hK K
  try simp only [Act.put,tkA,tkB,tkC]
  refine tkS 10 fun K hK=>?_
  (refine zWf _ _ _ (by rfl) (by rfl) Tryz.underlying43 Tryz.kiRow (by go_simp) HOm.out (by go_simp) (Sl.new (K:=zOe) (x:=(ss,f*z)) rfl ⟨_,rfl,HVa.out⟩) (by have:=HLE.out;simp only [List.length_singleton];omega) (Nat.le_trans hsz HWm.size) ?_;intro v' w12 hap;have HAP:=oH hap.own;have HBP:=oH (hap.bel (HBEL.trans (HWm.mono hsz)));have HBc:=oH (HBm.grown hap.gr (fun e=>by have:=hnb _ e.symm;omega));have KSc:Hid (w12.cell? ⟨wr.heap.size,0,none⟩=some (.slice Au ss.length cu)/\w12.cell? ⟨wr.heap.size,1,none⟩=some (.int .i64 z)):=oH ⟨HBc.at_ (i:=0) rfl,HBc.at_ (i:=1) rfl⟩;clear hap)
  refine hK.out _ _ ?_ (fun hHeld=>?_)
  ·exact kSx
  clear hK K
  try simp only [Act.put,tkA,tkB,tkC]
  refine wpAnyH_done (by kernel_rfl) ?_ _;simp only [zWx,List.getElem_toArray,List.getElem_cons_succ,List.getElem_cons_zero];go_wp2_with fail;go_roundw
  ·exact ⟨k+1,by go_num,oMx,by rw [HTK.out];unfold mulT;rw [List.map_append];exact HAP.out,HBP.out⟩
  simp [intOf];omega
 have HLM:=oH (show T.take k=T from List.take_of_length_le oMx);go_wp2_with fail;go_ret
 exact ⟨_,rfl,by rw [HLM.out] at hown ⊢;exact hown,HBEL.out⟩
theorem zAr {va:Value} {T:List zGg} {w:World} (ha:Sl zOe w va T) (hT:Lit T):Calls Tryz.prog 61 #[va] w (zFr zOe w (T)):=by
 obtain ⟨A,c,rfl, -⟩:=ha.form;have HA:=oH ha;have HT:=oH hT.2;have htl:=hT.1;clear ha hT
 go_enter Tryz.func61,Tryz.ntmps61
 go_wp2_with fail
 go_loopw [3,8] (fun v iv wr=>∃ k:Nat,iv = .int .i64 (k:Int)/\k<=T.length/\zCo zOe w.heap.size wr v (id (T.take k))/\Below w.heap.size w wr) (fun _ iv _=>T.length-(intOf iv).toNat)
 ·exact ⟨0,rfl,oLx,.nil _ _ _,bRx⟩
 obtain ⟨k,rfl,hk,hown,hbel⟩:=hrel
 have hnb:=fun j hj=>(hown.blk j hj).2.1
 obtain ⟨Av,cv,rfl, -⟩:=hown.form;have HBEL:=oH hbel;have hsz:=hbel.size;clear hbel
 by_cases hlt:k<T.length
 ·obtain ⟨b,off,rfl,hb,hc⟩:=(HA.below HBEL.out).sli2 (by intro e;subst e;simp at hlt);obtain ⟨u,c0,c1,hu⟩:=hc k hlt;have hz:=HT.out _ (List.getElem_mem hlt);have HTK:=oH (List.take_succ_eq_append_getElem hlt);have HLE:=oH (show (id (T.take k)).length=k by simp [mulT];omega);generalize T[k]=r at *;obtain ⟨ss,z⟩:=r;obtain ⟨hsl,hz1,hz2⟩:=hz;simp only at hsl hz1 hz2 hu c1;obtain ⟨Au,cu,rfl, -⟩:=hu.form;have HU:=oH (fun W (hW:Below wr.heap.size wr W)=>hu.below hW);have HWz:=oH ((Below.refl wr.heap.size wr).alloc lRx (.cells #[.slice Au ss.length cu,.int .i64 z] 64)).drew;have HOWN:=oH hown;have HBz:=oH (Blk.new wr 64 [.slice Au ss.length cu,.int .i64 z]).drew;have KSz:Hid ((wr.alloc (.cells #[.slice Au ss.length cu,.int .i64 z] 64)).drew.cell? ⟨wr.heap.size,0,none⟩=some (.slice Au ss.length cu)/\(wr.alloc (.cells #[.slice Au ss.length cu,.int .i64 z] 64)).drew.cell? ⟨wr.heap.size,1,none⟩=some (.int .i64 z)):=oH ⟨HBz.at_ (i:=0) rfl,HBz.at_ (i:=1) rfl⟩
  clear hu hown hc hb;go_wp2_with fail;refine xAq (S:=(fun w'=>w'.cell? ⟨wr.heap.size,0,none⟩=some (.slice Au ss.length cu)/\w'.cell? ⟨wr.heap.size,1,none⟩=some (.int .i64 z))) 9 (by kernel_rfl) rfl (by kernel_rfl) (by kernel_rfl) rfl (by exact KSz.out) (fun hHeld=>?_);simp only [List.pop_toArray,List.dropLast_cons_cons,List.dropLast_singleton];refine tkH 0 ?_;refine tkH 1 ?_;refine tkH 2 ?_;refine tkH 4 ?_;refine tkH 5 ?_
  try simp only [Act.put,tkA,tkB,tkC]
  refine tkS 3 fun K hK=>?_
  go_simp
  (go_at_call 75;(with_reducible refine (zAi (HU.out _ HWz.out) hsl).mono ?_);rintro e wa ⟨va,rfl,ho,hb⟩;have hw:Below wr.heap.size wr wa:=HWz.out.trans (hb.mono HWz.out.size);have HWa:=oH hw;obtain ⟨Aa,ca,rfl, -⟩:=ho.form;have HVa:=oH ho.sl;have HOa:=oH (HOWN.out.below hw);have HBa:=oH (HBz.out.below hb);have KSa:Hid (wa.cell? ⟨wr.heap.size,0,none⟩=some (.slice Au ss.length cu)/\wa.cell? ⟨wr.heap.size,1,none⟩=some (.int .i64 z)):=oH ⟨HBa.out.at_ (i:=0) rfl,HBa.out.at_ (i:=1) rfl⟩;clear hb hw ho)
  go_wp2_with fail;refine hK.out _ _ ?_ (fun hHeld=>?_)
  ·exact kSx
  clear hK K
  try simp only [Act.put,tkA,tkB,tkC]
  refine tkS 6 fun K hK=>?_
  go_simp
  refine hK.out _ _ ?_ (fun hHeld=>?_)
  ·exact kSx
  clear hK K
  try simp only [Act.put,tkA,tkB,tkC]
  refine tkS 7 fun K hK=>?_
  go_simp
  have HWm:=oH (HWa.alloc HWa.size (.cells #[.slice Aa ss.length ca,.int .i64 (z)] 64));have HOm:=oH (HOa.alloc (.cells #[.slice Aa ss.length ca,.int .i64 (z)] 64));have HBm:=oH (HBa.alloc (.cells #[.slice Aa ss.length ca,.int .i64 (z)] 64));have KSm:Hid ((wa.alloc (.cells #[.slice Aa ss.length ca,.int .i64 (z)] 64)).cell? ⟨wr.heap.size,0,none⟩=some (.slice Au ss.length cu)/\(wa.alloc (.cells #[.slice Aa ss.length ca,.int .i64 (z)] 64)).cell? ⟨wr.heap.size,1,none⟩=some (.int .i64 z)):=oH ⟨HBm.at_ (i:=0) rfl,HBm.at_ (i:=1) rfl⟩
  refine hK.out _ _ ?_ (fun hHeld=>?_)
  ·exact kSx
  clear hK K
  try simp only [Act.put,tkA,tkB,tkC]
  refine tkS 8 fun K hK=>?_
  (refine zWf _ _ _ (by rfl) (by rfl) Tryz.underlying43 Tryz.kiRow (by go_simp) HOm.out (by go_simp) (Sl.new (K:=zOe) (x:=(ss,z)) rfl ⟨_,rfl,HVa.out⟩) (by have:=HLE.out;simp only [List.length_singleton];omega) (Nat.le_trans hsz HWm.size) ?_;intro v' w12 hap;have HAP:=oH hap.own;have HBP:=oH (hap.bel (HBEL.trans (HWm.mono hsz)));have HBc:=oH (HBm.grown hap.gr (fun e=>by have:=hnb _ e.symm;omega));have KSc:Hid (w12.cell? ⟨wr.heap.size,0,none⟩=some (.slice Au ss.length cu)/\w12.cell? ⟨wr.heap.size,1,none⟩=some (.int .i64 z)):=oH ⟨HBc.at_ (i:=0) rfl,HBc.at_ (i:=1) rfl⟩;clear hap)
  refine hK.out _ _ ?_ (fun hHeld=>?_)
  ·exact kSx
  clear hK K
  try simp only [Act.put,tkA,tkB,tkC]
  refine wpAnyH_done (by kernel_rfl) ?_ _;simp only [zWx,List.getElem_toArray,List.getElem_cons_succ,List.getElem_cons_zero];go_wp2_with fail;go_roundw
  ·exact ⟨k+1,by go_num,oMx,by rw [HTK.out];simp only [id];exact HAP.out,HBP.out⟩
  simp [intOf];omega
 have HLM:=oH (show T.take k=T from List.take_of_length_le oMx);go_wp2_with fail;go_ret
 exact ⟨_,rfl,by rw [HLM.out] at hown ⊢;exact hown,HBEL.out⟩
theorem zEl {va:Value} {T:List zGg} {w:World} (ha:Sl zOe w va T) (hT:Lit T):Calls Tryz.prog 56 #[va] w (zFr zOe w (T)):=by
 obtain ⟨A,c,rfl, -⟩:=ha.form;have HA:=oH ha;have HT:=oH hT.2;have htl:=hT.1;clear ha hT
 go_enter Tryz.func56,Tryz.ntmps56
 go_wp2_with fail
 go_loopw [3,8] (fun v iv wr=>∃ k:Nat,iv = .int .i64 (k:Int)/\k<=T.length/\zCo zOe w.heap.size wr v (id (T.take k))/\Below w.heap.size w wr) (fun _ iv _=>T.length-(intOf iv).toNat)
 ·exact ⟨0,rfl,oLx,.nil _ _ _,bRx⟩
 obtain ⟨k,rfl,hk,hown,hbel⟩:=hrel
 have hnb:=fun j hj=>(hown.blk j hj).2.1
 obtain ⟨Av,cv,rfl, -⟩:=hown.form;have HBEL:=oH hbel;have hsz:=hbel.size;clear hbel
 by_cases hlt:k<T.length
 ·obtain ⟨b,off,rfl,hb,hc⟩:=(HA.below HBEL.out).sli2 (by intro e;subst e;simp at hlt);obtain ⟨u,c0,c1,hu⟩:=hc k hlt;have hz:=HT.out _ (List.getElem_mem hlt);have HTK:=oH (List.take_succ_eq_append_getElem hlt);have HLE:=oH (show (id (T.take k)).length=k by simp [mulT];omega);generalize T[k]=r at *;obtain ⟨ss,z⟩:=r;obtain ⟨hsl,hz1,hz2⟩:=hz;simp only at hsl hz1 hz2 hu c1;obtain ⟨Au,cu,rfl, -⟩:=hu.form;have HU:=oH (fun W (hW:Below wr.heap.size wr W)=>hu.below hW);have HWz:=oH ((Below.refl wr.heap.size wr).alloc lRx (.cells #[.slice Au ss.length cu,.int .i64 z] 64)).drew;have HOWN:=oH hown;have HBz:=oH (Blk.new wr 64 [.slice Au ss.length cu,.int .i64 z]).drew;have KSz:Hid ((wr.alloc (.cells #[.slice Au ss.length cu,.int .i64 z] 64)).drew.cell? ⟨wr.heap.size,0,none⟩=some (.slice Au ss.length cu)/\(wr.alloc (.cells #[.slice Au ss.length cu,.int .i64 z] 64)).drew.cell? ⟨wr.heap.size,1,none⟩=some (.int .i64 z)):=oH ⟨HBz.at_ (i:=0) rfl,HBz.at_ (i:=1) rfl⟩
  clear hu hown hc hb;go_wp2_with fail;refine xAq (S:=(fun w'=>w'.cell? ⟨wr.heap.size,0,none⟩=some (.slice Au ss.length cu)/\w'.cell? ⟨wr.heap.size,1,none⟩=some (.int .i64 z))) 9 (by kernel_rfl) rfl (by kernel_rfl) (by kernel_rfl) rfl (by exact KSz.out) (fun hHeld=>?_);simp only [List.pop_toArray,List.dropLast_cons_cons,List.dropLast_singleton];refine tkH 0 ?_;refine tkH 1 ?_;refine tkH 2 ?_;refine tkH 4 ?_;refine tkH 5 ?_
  try simp only [Act.put,tkA,tkB,tkC]
  refine tkS 3 fun K hK=>?_
  (refine zWf _ _ _ (by rfl) (by rfl) Tryz.underlying62 Tryz.kiTxt (v := .slice none 0 0) (xs:=[]) (B:=wr.heap.size) (by go_simp) (zCo.nil _ _ _) (v2 := .slice Au ss.length cu) (by go_simp) (HU.out _ HWz.out) (by simp;omega) HWz.size ?_;intro va wa hap;have hw:Below wr.heap.size wr wa:=hap.bel HWz.out;have HWa:=oH hw;have ho:zCo zOg wr.heap.size wa va ss:=hap.own;obtain ⟨Aa,ca,rfl, -⟩:=ho.form;have HVa:=oH ho.sl;have HOa:=oH (HOWN.below hw);have HBa:=oH (HBz.grown hap.gr (by simp [Value.ownBlock]));have KSa:Hid (wa.cell? ⟨wr.heap.size,0,none⟩=some (.slice Au ss.length cu)/\wa.cell? ⟨wr.heap.size,1,none⟩=some (.int .i64 z)):=oH ⟨HBa.at_ (i:=0) rfl,HBa.at_ (i:=1) rfl⟩;clear hw ho hap)
  refine hK.out _ _ ?_ (fun hHeld=>?_)
  ·exact kSx
  clear hK K
  try simp only [Act.put,tkA,tkB,tkC]
  refine tkS 6 fun K hK=>?_
  go_simp
  refine hK.out _ _ ?_ (fun hHeld=>?_)
  ·exact kSx
  clear hK K
  try simp only [Act.put,tkA,tkB,tkC]
  refine tkS 7 fun K hK=>?_
  go_simp
  have HWm:=oH (HWa.alloc HWa.size (.cells #[.slice Aa ss.length ca,.int .i64 (z)] 64));have HOm:=oH (HOa.alloc (.cells #[.slice Aa ss.length ca,.int .i64 (z)] 64));have HBm:=oH (HBa.alloc (.cells #[.slice Aa ss.length ca,.int .i64 (z)] 64));have KSm:Hid ((wa.alloc (.cells #[.slice Aa ss.length ca,.int .i64 (z)] 64)).cell? ⟨wr.heap.size,0,none⟩=some (.slice Au ss.length cu)/\(wa.alloc (.cells #[.slice Aa ss.length ca,.int .i64 (z)] 64)).cell? ⟨wr.heap.size,1,none⟩=some (.int .i64 z)):=oH ⟨HBm.at_ (i:=0) rfl,HBm.at_ (i:=1) rfl⟩
  refine hK.out _ _ ?_ (fun hHeld=>?_)
  ·exact kSx
  clear hK K
  try simp only [Act.put,tkA,tkB,tkC]
  refine tkS 8 fun K hK=>?_
  (refine zWf _ _ _ (by rfl) (by rfl) Tryz.underlying43 Tryz.kiRow (by go_simp) HOm.out (by go_simp) (Sl.new (K:=zOe) (x:=(ss,z)) rfl ⟨_,rfl,HVa.out⟩) (by have:=HLE.out;simp only [List.length_singleton];omega) (Nat.le_trans hsz HWm.size) ?_;intro v' w12 hap;have HAP:=oH hap.own;have HBP:=oH (hap.bel (HBEL.trans (HWm.mono hsz)));have HBc:=oH (HBm.grown hap.gr (fun e=>by have:=hnb _ e.symm;omega));have KSc:Hid (w12.cell? ⟨wr.heap.size,0,none⟩=some (.slice Au ss.length cu)/\w12.cell? ⟨wr.heap.size,1,none⟩=some (.int .i64 z)):=oH ⟨HBc.at_ (i:=0) rfl,HBc.at_ (i:=1) rfl⟩;clear hap)
  refine hK.out _ _ ?_ (fun hHeld=>?_)
  ·exact kSx
  clear hK K
  try simp only [Act.put,tkA,tkB,tkC]
  refine wpAnyH_done (by kernel_rfl) ?_ _;simp only [zWx,List.getElem_toArray,List.getElem_cons_succ,List.getElem_cons_zero];go_wp2_with fail;go_roundw
  ·exact ⟨k+1,by go_num,oMx,by rw [HTK.out];simp only [id];exact HAP.out,HBP.out⟩
  simp [intOf];omega
 have HLM:=oH (show T.take k=T from List.take_of_length_le oMx);go_wp2_with fail;go_ret
 exact ⟨_,rfl,by rw [HLM.out] at hown ⊢;exact hown,HBEL.out⟩
end Go.Proofs.YtafflnognagadaaGreatDoor
