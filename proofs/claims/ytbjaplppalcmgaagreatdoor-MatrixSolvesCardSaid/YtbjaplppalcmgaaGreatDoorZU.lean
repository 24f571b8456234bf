import Derived.Test.YtbjaplppalcmgaaGreatDoorZT
import Derived.OpenVars
set_option maxHeartbeats 16000000
set_option maxRecDepth 100000
namespace Go.Proofs.YtbjaplppalcmgaaGreatDoor
open Go.RowKit
def xAg (l:List UInt8):List UInt8 × List UInt8 × Bool:=if (zJy l).2.2 then zJy l else (l,[49],false)
theorem xAh {l:List UInt8} {k:Nat} (hk:k<l.length) (h:47 ∉ l.take k) (hc:l[k]=47):xAg l=(l.take k,l.drop (k+1),true):=by
 have e:l=l.take k++47::l.drop (k+1):=by
  rw [<-hc];simp
 have:=zKc (b:=l.drop (k+1)) h;rw [<-e] at this;unfold xAg;rw [this]
 rfl
theorem xAi {l:List UInt8} (h:47 ∉ l):xAg l=(l,[49],false):=by
 unfold xAg;rw [zKb h]
 rfl
theorem zMy (s:ByteArray) (k:Nat):s.extract 0 k=⟨(s.data.toList.take k).toArray⟩:=by
 apply ByteArray.ext
 apply Array.toList_inj.1
 rw [Lib.extract_data]
 simp
theorem zMw (s:ByteArray) (k:Nat):s.extract k s.size=⟨(s.data.toList.drop k).toArray⟩:=by
 apply ByteArray.ext
 apply Array.toList_inj.1
 rw [Lib.extract_data];have:s.data.toList.length=s.size:=Array.length_toList;rw [<-this,<-List.length_drop,List.take_length]
theorem take_no {s:ByteArray} {k:Nat} (hk:k<s.size) (h:47 ∉ s.data.toList.take k) (hc:s[k]≠47):47 ∉ s.data.toList.take (k+1):=by
 have hl:k<s.data.toList.length:=by rw [zIh];exact hk
 rw [List.take_succ_eq_append_getElem hl]
 intro hm
 rcases List.mem_append.1 hm with h1|h1
 ·exact h h1
 simp at h1
 exact hc h1.symm
theorem xAj (s:ByteArray) (w:World) (hs:s.size<=4000000000) :
  Calls Tryz.prog 86 #[.string s] w fun e w'=>e = .returned (.tuple #[.string ⟨(xAg s.data.toList).1.toArray⟩,.string ⟨(xAg s.data.toList).2.1.toArray⟩,.bool (xAg s.data.toList).2.2])/\Below w.heap.size w w':=by
 go_enter Tryz.func86,Tryz.ntmps86
 go_wp2
 go_loop [5] (fun iv=>∃ k:Nat,k<=s.size/\iv = .int .i64 (k:Int)/\47 ∉ s.data.toList.take k) (fun iv=>s.size-(intOf iv).toNat)
 ·exact ⟨0,oLx,rfl,by simp⟩
 obtain ⟨k,hk,rfl,hno⟩:=hrel;have HNO:=oH hno;clear hno
 by_cases hlt:k<s.size
 ·by_cases hc:s[k]=47
  ·have hc':(((s[k]).toNat:Int)==47)=true:=by rw [hc];rfl
   have E:=oH (xAh (l:=s.data.toList) (k:=k) (by rw [zIh];exact hlt) HNO.out hc);have E1:=oH (zMy s k);have E2:=oH (zMw s (k+1));clear hc HNO;have g1:IntKind.i64.wrap ((k:Int)+1)=(k:Int)+1:=IntWalk.i64_in _ oMx
   have g2:(0:Int)<=(k:Int)+1:=by omega
   have g3:((k:Int)+1).toNat=k+1:=by omega
   have g4:(k:Int)+1<=(s.size:Int):=by omega
   have g5:(k:Int)<=(s.size:Int):=by omega
   have g6:(0:Int)<=(k:Int):=by omega
   go_wp2
   go_quiet (fail)
   go_wp2
   go_ret3
   exact ⟨by rw [E.out,<-E1.out,<-E2.out];rfl,below_drewN bRx _⟩
  have hc':(((s[k]).toNat:Int)==47)=false:=by
   rw [beq_eq_false_iff_ne]
   intro e
   apply hc
   apply UInt8.toNat_inj.1
   have:(47:UInt8).toNat=47:=rfl;omega
  have E:=oH (take_no hlt HNO.out hc);clear hc HNO
  go_wp2
  go_round
  ·exact ⟨k+1,oMx,by go_num,E.out⟩
  simp [intOf];omega
 have E:=oH (xAi (l:=s.data.toList) (by have:=HNO.out;rwa [List.take_of_length_le (by rw [zIh];omega)] at this))
 go_wp2
 go_ret3
 exact ⟨by rw [E.out];simp only [zIg];rfl,bRx⟩
theorem zPc {x:Int} (h0:0<=x) (h:Fits x):(Lib.itoa x).length<=400:=by
 obtain ⟨n,rfl⟩:∃ n:Nat,x=(n:Int):=⟨x.toNat,oMx⟩;rw [zPb];unfold Fits at h
 rwa [Int.natAbs_natCast] at h
theorem zXx {q:Rat} (h:zBd q):(zXu q).length<=802:=by
 have h1:=zOx h.1;have h2:=zPc oMx h.2;unfold zXu
 split
 ·omega
 simp;omega
theorem xAl {q:Rat} (h:q.den=1) (hf:zBd q) (w:World) :
  Calls Tryz.prog 86 #[.string (zXl q)] w fun e w'=>e = .returned (.tuple #[.string (str q.num),.string ⟨#[49]⟩,.bool false])/\Below w.heap.size w w':=by
 have:=xAj (zXl q) w (by rw [zXr];have:=zXw hf;omega);rw [zXo,show xAg (zXu q)=(zXu q,[49],false) by unfold xAg;rw [zKf h];rfl,zXz h] at this;exact this
theorem xAk {q:Rat} (h:q.den≠1) (hf:zBd q) (w:World) :
  Calls Tryz.prog 86 #[.string (zXl q)] w fun e w'=>e = .returned (.tuple #[.string (str q.num),.string (str (q.den:Int)),.bool true])/\Below w.heap.size w w':=by
 have:=xAj (zXl q) w (by rw [zXr];have:=zXw hf;omega);rw [zXo,show xAg (zXu q)=(Lib.itoa q.num,Lib.itoa (q.den:Int),true) by unfold xAg;rw [zKd h];rfl] at this;exact this
theorem xBn (x:Int):0<(str x).size:=by
 rw [xBo]
 rcases Nat.eq_zero_or_pos (Lib.itoa x).length with h|h
 ·exfalso
  have h1:=(zPd x).2;rw [List.eq_nil_of_length_eq_zero h] at h1;exact zKl x.natAbs (by rw [<-h1];rfl)
 exact h
theorem xBj (x:Int) (hsz:0<(str x).size):((((str x)[0]).toNat:Int)==45)=decide (x<0):=by
 have hdata:(str x).data.toList=Lib.itoa x:=by unfold str;simp
 have h0c:(str x)[0]=(Lib.itoa x)[0]'(by rw [<-xBo];exact hsz):=by
  have h2:(str x).data.toList[0]'(by rw [hdata,<-xBo];exact hsz)=(Lib.itoa x)[0]'(by rw [<-xBo];exact hsz):=by simp [hdata]
  have h3:(str x).data[0]'hsz=(Lib.itoa x)[0]'(by rw [<-xBo];exact hsz):=by simpa using h2
  exact h3
 by_cases hx:x<0
 ·have:(Lib.itoa x)[0]'(by rw [<-xBo];exact hsz)=45:=by
   have:Lib.itoa x=45::Lib.decDigits x.natAbs:=by unfold Lib.itoa;rw [if_pos hx]
   simp [this]
  rw [h0c,this,decide_eq_true hx];rfl
 have hI:Lib.itoa x=Lib.decDigits x.natAbs:=by unfold Lib.itoa;rw [if_neg hx];congr 1;omega
 have hd:zBn ((Lib.itoa x)[0]'(by rw [<-xBo];exact hsz)):=zKg x.natAbs _ (by rw [<-hI];exact List.getElem_mem _);rw [h0c,decide_eq_false hx,beq_eq_false_iff_ne];unfold zBn at hd;omega
theorem str_is {x:Int} {n:Int}:((str x).toList==Lib.itoa n)=decide (x=n):=by
 rw [xBp]
 by_cases h:x=n
 ·subst h;simp
 rw [decide_eq_false h,beq_eq_false_iff_ne]
 exact fun e=>h (zOw e)
theorem xBk (x:Int):((str x).toList==[48])=decide (x=0):=by rw [<-zPe];exact str_is
theorem xBl (x:Int):((str x).toList==[49])=decide (x=1):=by rw [<-str_1l];exact str_is
theorem str_isn1 (x:Int):((str x).toList != [49]) = !decide (x=1):=by rw [<-xBl];rfl
theorem RTextS (u:Value) (x:Int) (w:World) (hx:zBm w u x) (hlx:(limbs x.natAbs).length<=1000000) :
  Calls Tryz.prog 98 #[u] w fun e w'=>e = .returned (.string (str x))/\Below w.heap.size w w':=zEy u x w hx hlx
theorem zEu (x:Int) (w:World) (hf:Fits x):Calls Tryz.prog 87 #[.string (str x)] w (zFm w x):=zEt x w (by unfold Fits at hf;omega)
theorem zDt (q:Rat) (w:World) (h:q.den=1) (hf:zBd q):Calls Tryz.prog 81 #[.string (zXl q)] w fun e w'=>e = .returned (.tuple #[.string (str q.num),.string ⟨#[49]⟩,.bool true])/\Below w.heap.size w w':=by
 have H1:=oH (xAl h hf w);have H2:=oH (fun W=>zFa q.num W hf.1);have H3:=oH (fun W=>zFa 1 W zTt);rw [str_1] at H3
 have hz:(zXl q).size<=802:=by rw [zXr];exact zXx hf
 generalize zXl q=s at *;generalize str q.num=s1 at *;clear h hf
 go_enter Tryz.func81,Tryz.ntmps81
 go_wp2_with fail;refine (H1.out).mono ?_;rintro e w1 ⟨rfl,hb⟩;have HB:=oH hb;clear hb;go_wp2_with fail;refine (H2.out w1).mono ?_;rintro e w2 ⟨rfl,hb⟩;replace HB:=bTx2 HB hb;clear hb;go_wp2_with fail;refine (H3.out w2).mono ?_;rintro e w3 ⟨rfl,hb⟩;replace HB:=bTx2 HB hb;clear hb;go_wp2_with fail
 go_ret3
 exact ⟨rfl,HB.out⟩
def zVc (n m:Int):Bool:=decide (n≠0)&&decide (1<m)&&decide (n.natAbs.gcd m.natAbs=1)
def zVd (n m:Int):Value:=if zVc n m then .tuple #[.string (str n),.string (str m),.bool true] else .tuple #[.string ⟨#[]⟩,.string ⟨#[]⟩,.bool false]
theorem zDs (s:ByteArray) (n m:Int) (w:World) (hs:s.size<=802) (fn:Fits n) (fm:Fits m) (hsp:∀ W,Calls Tryz.prog 86 #[.string s] W fun e w'=>e = .returned (.tuple #[.string (str n),.string (str m),.bool true])/\Below W.heap.size W w') :
  Calls Tryz.prog 81 #[.string s] w fun e w'=>e = .returned (zVd n m)/\Below w.heap.size w w':=by
 have HSP:=oH (hsp w);have HV1:=oH (fun W=>zFa n W fn);have HV2:=oH (fun W=>zFa m W fm);have HRN:=oH (fun W=>zEu n W fn);have HRM:=oH (fun W=>zEu m W fm);have lnn:=fn.len;have lmm:=fm.len;have hms:=xBn m;have t0:=xBj m hms;have t1:=xBk n;have t2:=xBl m;have t3:=xBk m;have t4:=str_isn1 ((n.natAbs.gcd m.natAbs:Nat):Int);have t5:=xBl ((n.natAbs.gcd m.natAbs:Nat):Int)
 have lg:(limbs (((n.natAbs.gcd m.natAbs:Nat):Int)).natAbs).length<=1000000:=by
  rw [Int.natAbs_natCast]
  rcases Nat.eq_zero_or_pos m.natAbs with e|e
  ·rw [e,Nat.gcd_zero_right];omega
  exact Nat.le_trans (zQd (Nat.gcd_le_right _ e)) oMx
 have HGC:=oH (fun U V W (hU:zBm W U n) (hV:zBm W V m)=>zEb U V n m W hU hV oMx oMx);have HTX:=oH (fun U W (hU:zBm W U ((n.natAbs.gcd m.natAbs:Nat):Int))=>RTextS U _ W hU lg);clear hsp fn fm
 by_cases c1:n=0
 ·rw [decide_eq_true c1] at t1
  have E0:zVc n m=false:=by unfold zVc;simp [c1]
  have E:=oH (show zVd n m=_ by unfold zVd;rw [E0]);clear E0;clear t2 t3 t4 t5 t0 hms c1 HRN HRM lg;generalize str n=s1 at *;generalize str m=s2 at *
  go_enter Tryz.func81,Tryz.ntmps81
  go_wp2_with fail;refine (HSP.out).mono ?_;rintro e w1 ⟨rfl,hb⟩;have HB:=oH hb;clear hb;go_wp2_with fail;refine (HV1.out w1).mono ?_;rintro e w2 ⟨rfl,hb⟩;replace HB:=bTx2 HB hb;clear hb;go_wp2_with fail;refine (HV2.out w2).mono ?_;rintro e w3 ⟨rfl,hb⟩;replace HB:=bTx2 HB hb;clear hb;go_wp2_with fail
  go_ret3
  exact ⟨by rw [E.out];rfl,HB.out⟩
 rw [decide_eq_false c1] at t1
 by_cases c2:m=1
 ·rw [decide_eq_true c2] at t2
  have E0:zVc n m=false:=by unfold zVc;simp [c2]
  have E:=oH (show zVd n m=_ by unfold zVd;rw [E0]);clear E0;clear t3 t4 t5 t0 hms c1 c2 HRN HRM lg;generalize str n=s1 at *;generalize str m=s2 at *
  go_enter Tryz.func81,Tryz.ntmps81
  go_wp2_with fail;refine (HSP.out).mono ?_;rintro e w1 ⟨rfl,hb⟩;have HB:=oH hb;clear hb;go_wp2_with fail;refine (HV1.out w1).mono ?_;rintro e w2 ⟨rfl,hb⟩;replace HB:=bTx2 HB hb;clear hb;go_wp2_with fail;refine (HV2.out w2).mono ?_;rintro e w3 ⟨rfl,hb⟩;replace HB:=bTx2 HB hb;clear hb;go_wp2_with fail
  go_ret3
  exact ⟨by rw [E.out];rfl,HB.out⟩
 rw [decide_eq_false c2] at t2
 by_cases c3:m=0
 ·rw [decide_eq_true c3] at t3
  have E0:zVc n m=false:=by unfold zVc;simp [c3]
  have E:=oH (show zVd n m=_ by unfold zVd;rw [E0]);clear E0;clear t4 t5 t0 hms c1 c2 c3 HRN HRM lg;generalize str n=s1 at *;generalize str m=s2 at *
  go_enter Tryz.func81,Tryz.ntmps81
  go_wp2_with fail;refine (HSP.out).mono ?_;rintro e w1 ⟨rfl,hb⟩;have HB:=oH hb;clear hb;go_wp2_with fail;refine (HV1.out w1).mono ?_;rintro e w2 ⟨rfl,hb⟩;replace HB:=bTx2 HB hb;clear hb;go_wp2_with fail;refine (HV2.out w2).mono ?_;rintro e w3 ⟨rfl,hb⟩;replace HB:=bTx2 HB hb;clear hb;go_wp2_with fail
  go_ret3
  exact ⟨by rw [E.out];rfl,HB.out⟩
 rw [decide_eq_false c3] at t3
 by_cases c4:m<0
 ·rw [decide_eq_true c4] at t0
  have E0:zVc n m=false:=by unfold zVc;simp;omega
  have E:=oH (show zVd n m=_ by unfold zVd;rw [E0]);clear E0;clear t4 t5 c1 c2 c3 c4 HRN HRM lg;generalize str n=s1 at *;generalize str m=s2 at *
  go_enter Tryz.func81,Tryz.ntmps81
  go_wp2_with fail;refine (HSP.out).mono ?_;rintro e w1 ⟨rfl,hb⟩;have HB:=oH hb;clear hb;go_wp2_with fail;refine (HV1.out w1).mono ?_;rintro e w2 ⟨rfl,hb⟩;replace HB:=bTx2 HB hb;clear hb;go_wp2_with fail;refine (HV2.out w2).mono ?_;rintro e w3 ⟨rfl,hb⟩;replace HB:=bTx2 HB hb;clear hb;go_wp2_with fail
  go_ret3
  exact ⟨by rw [E.out];rfl,HB.out⟩
 rw [decide_eq_false c4] at t0
 have c5:1<m:=by omega
 by_cases c6:n.natAbs.gcd m.natAbs=1
 ·rw [decide_eq_true (show ((n.natAbs.gcd m.natAbs:Nat):Int)=1 by omega)] at t4 t5
  have E0:zVc n m=true:=by unfold zVc;simp [c1,c5,c6]
  have E:=oH (show zVd n m=_ by unfold zVd;rw [E0]);clear E0;clear c1 c2 c3 c4 c5 c6;generalize ((n.natAbs.gcd m.natAbs:Nat):Int)=G at *;generalize str n=s1 at *;generalize str m=s2 at *;generalize str G=s3 at *
  go_enter Tryz.func81,Tryz.ntmps81
  go_wp2_with fail;refine (HSP.out).mono ?_;rintro e w1 ⟨rfl,hb⟩;have HB:=oH hb;clear hb;go_wp2_with fail;refine (HV1.out w1).mono ?_;rintro e w2 ⟨rfl,hb⟩;replace HB:=bTx2 HB hb;clear hb;go_wp2_with fail;refine (HV2.out w2).mono ?_;rintro e w3 ⟨rfl,hb⟩;replace HB:=bTx2 HB hb;clear hb;go_wp2_with fail;refine (HRN.out w3).mono ?_;rintro e w4 ⟨v4,rfl,hv,hb⟩;have HN:=oH hv;obtain ⟨x4,X4,y4,z4,rfl⟩:=hv.slice;replace HB:=bTx2 HB hb;clear hb hv;go_wp2_with fail;refine (HRM.out w4).mono ?_;rintro e w5 ⟨v5,rfl,hv,hb⟩;replace HN:=oH (HN.below hb);have HM:=oH hv;obtain ⟨x5,X5,y5,z5,rfl⟩:=hv.slice;replace HB:=bTx2 HB hb;clear hb hv;go_wp2_with fail;refine (HGC.out _ _ w5 HN.out HM.out).mono ?_;rintro e w6 ⟨v6,rfl,hv,hb⟩;clear HN HM;have HG:=oH hv;obtain ⟨x6,X6,y6,z6,rfl⟩:=hv.slice;replace HB:=bTx2 HB hb;clear hb hv;go_wp2_with fail;refine (HTX.out _ w6 HG.out).mono ?_;rintro e w7 ⟨rfl,hb⟩;clear HG;replace HB:=bTx2 HB hb
  clear hb;go_wp2_with fail
  go_ret3
  exact ⟨by rw [E.out];rfl,HB.out⟩
 rw [decide_eq_false (show ¬((n.natAbs.gcd m.natAbs:Nat):Int)=1 by omega)] at t4 t5
 have E0:zVc n m=false:=by unfold zVc;simp [c6]
 have E:=oH (show zVd n m=_ by unfold zVd;rw [E0]);clear E0;clear c1 c2 c3 c4 c5 c6;generalize ((n.natAbs.gcd m.natAbs:Nat):Int)=G at *;generalize str n=s1 at *;generalize str m=s2 at *;generalize str G=s3 at *
 go_enter Tryz.func81,Tryz.ntmps81
 go_wp2_with fail;refine (HSP.out).mono ?_;rintro e w1 ⟨rfl,hb⟩;have HB:=oH hb;clear hb;go_wp2_with fail;refine (HV1.out w1).mono ?_;rintro e w2 ⟨rfl,hb⟩;replace HB:=bTx2 HB hb;clear hb;go_wp2_with fail;refine (HV2.out w2).mono ?_;rintro e w3 ⟨rfl,hb⟩;replace HB:=bTx2 HB hb;clear hb;go_wp2_with fail;refine (HRN.out w3).mono ?_;rintro e w4 ⟨v4,rfl,hv,hb⟩;have HN:=oH hv;obtain ⟨x4,X4,y4,z4,rfl⟩:=hv.slice;replace HB:=bTx2 HB hb;clear hb hv;go_wp2_with fail;refine (HRM.out w4).mono ?_;rintro e w5 ⟨v5,rfl,hv,hb⟩;replace HN:=oH (HN.below hb);have HM:=oH hv;obtain ⟨x5,X5,y5,z5,rfl⟩:=hv.slice;replace HB:=bTx2 HB hb;clear hb hv;go_wp2_with fail;refine (HGC.out _ _ w5 HN.out HM.out).mono ?_;rintro e w6 ⟨v6,rfl,hv,hb⟩;clear HN HM;have HG:=oH hv;obtain ⟨x6,X6,y6,z6,rfl⟩:=hv.slice;replace HB:=bTx2 HB hb;clear hb hv;go_wp2_with fail;refine (HTX.out _ w6 HG.out).mono ?_;rintro e w7 ⟨rfl,hb⟩;clear HG;replace HB:=bTx2 HB hb
 clear hb;go_wp2_with fail
 go_ret3
 exact ⟨by rw [E.out];rfl,HB.out⟩
theorem zDr (q:Rat) (w:World) (h:q.den≠1) (hf:zBd q):Calls Tryz.prog 81 #[.string (zXl q)] w fun e w'=>e = .returned (.tuple #[.string (str q.num),.string (str (q.den:Int)),.bool true])/\Below w.heap.size w w':=by
 have:=zDs (zXl q) q.num (q.den:Int) w (by rw [zXr];exact zXx hf) hf.1 hf.2 (fun W=>xAk h hf W);have hv:=xFe hf
 rw [xEy (l:=zXu q) (n:=q.num) (m:=(q.den:Int)) (by rw [zKd h]) (by rw [zKd h]) (by rw [zKd h]) hf.1 hf.2 (by
  intro h0
  have:=q.reduced;rw [h0] at this
  simp [Nat.Coprime] at this
  exact h this) (by have:=q.den_pos;omega)] at hv
 have hp:zVc q.num (q.den:Int)=true:=by
  unfold zVc;rw [hv]
  have h1:q.num≠0:=by
   intro h0
   have:=q.reduced;rw [h0] at this
   simp [Nat.Coprime] at this
   exact h this
  have h2:1<(q.den:Int):=by have:=q.den_pos;omega
  simp [h1,h2]
 rw [show zVd q.num (q.den:Int)=_ by unfold zVd;rw [hp]] at this;exact this
theorem zDq (q:Rat) (w:World) (hf:zBd q):Calls Tryz.prog 81 #[.string (zXl q)] w fun e w'=>e = .returned (.tuple #[.string (str q.num),.string (str (q.den:Int)),.bool true])/\Below w.heap.size w w':=by
 by_cases h:q.den=1
 ·have:=zDt q w h hf;rw [<-str_1] at this;rw [h];exact this
 exact zDr q w h hf
theorem zDp (s:ByteArray) (w:World) (hs:s.size<=4000000000) (h:vR s=false):Calls Tryz.prog 81 #[.string s] w fun e w'=>e = .returned (.tuple #[.string ⟨#[]⟩,.string ⟨#[]⟩,.bool false])/\Below w.heap.size w w':=by
 by_cases hz:s.size<=802
 ·have HSP:=oH (fun W=>xAj s W hs)
  cases hk:(zJy s.data.toList).2.2
  ·rw [show xAg s.data.toList=(s.data.toList,[49],false) by unfold xAg;rw [hk];rfl,zIg] at HSP
   have hv:xEt s.data.toList=false:=by rw [<-xFb hk];exact h
   have HV:=oH (fun W=>zEz s.data.toList W (by rw [zIh];omega));rw [hv,zIg] at HV;clear hv hk h
   go_enter Tryz.func81,Tryz.ntmps81
   go_wp2_with fail;refine (HSP.out w).mono ?_;rintro e w1 ⟨rfl,hb⟩;have HB:=oH hb;clear hb;go_wp2_with fail;refine (HV.out w1).mono ?_;rintro e w2 ⟨rfl,hb⟩;replace HB:=bTx2 HB hb;clear hb;go_wp2_with fail
   go_ret3
   exact ⟨rfl,HB.out⟩
  rw [show xAg s.data.toList=zJy s.data.toList by unfold xAg;rw [hk];rfl,hk] at HSP;have hl:=zKa s.data.toList;rw [zIh] at hl;have HV1:=oH (fun W=>zEz (zJy s.data.toList).1 W oMx)
  cases hv1:xEt (zJy s.data.toList).1
  ·rw [hv1] at HV1;clear hv1 hk h hl;generalize (zJy s.data.toList).1=p at *;generalize (zJy s.data.toList).2.1=q at *
   go_enter Tryz.func81,Tryz.ntmps81
   go_wp2_with fail;refine (HSP.out w).mono ?_;rintro e w1 ⟨rfl,hb⟩;have HB:=oH hb;clear hb;go_wp2_with fail;refine (HV1.out w1).mono ?_;rintro e w2 ⟨rfl,hb⟩;replace HB:=bTx2 HB hb;clear hb;go_wp2_with fail
   go_ret3
   exact ⟨rfl,HB.out⟩
  have HV2:=oH (fun W=>zEz (zJy s.data.toList).2.1 W oMx)
  cases hv2:xEt (zJy s.data.toList).2.1
  ·rw [hv1] at HV1;rw [hv2] at HV2;clear hv1 hv2 hk h hl;generalize (zJy s.data.toList).1=p at *;generalize (zJy s.data.toList).2.1=q at *
   go_enter Tryz.func81,Tryz.ntmps81
   go_wp2_with fail;refine (HSP.out w).mono ?_;rintro e w1 ⟨rfl,hb⟩;have HB:=oH hb;clear hb;go_wp2_with fail;refine (HV1.out w1).mono ?_;rintro e w2 ⟨rfl,hb⟩;replace HB:=bTx2 HB hb;clear hb;go_wp2_with fail;refine (HV2.out w2).mono ?_;rintro e w3 ⟨rfl,hb⟩;replace HB:=bTx2 HB hb;clear hb;go_wp2_with fail
   go_ret3
   exact ⟨rfl,HB.out⟩
  obtain ⟨n,hn,fn⟩:=xFg hv1;obtain ⟨m,hm,fm⟩:=xFg hv2;rw [hn,hm] at HSP;have:=zDs s n m w hz fn fm (fun W=>HSP.out W)
  have hp:zVc n m=false:=by
   cases hp:zVc n m
   ·rfl
   exfalso
   unfold zVc at hp;simp only [Bool.and_eq_true,decide_eq_true_eq] at hp;have:=xEy hk hn hm fn fm hp.1.1 hp.1.2;rw [decide_eq_true hp.2] at this;unfold vR at h;rw [this] at h
   cases h
  rw [show zVd n m=_ by unfold zVd;rw [hp]] at this;exact this
 clear h
 go_enter Tryz.func81,Tryz.ntmps81
 go_wp2_with fail
 go_ret3
 exact ⟨rfl,bRx⟩
theorem zDw (s:ByteArray) (w:World) (hs:s.size<=4000000000):Calls Tryz.prog 40 #[.string s] w fun e w'=>e = .returned (.bool (vR s))/\Below w.heap.size w w':=by
 cases h:vR s
 ·have H:=oH (zDp s w hs h);clear h
  go_enter Tryz.func40,Tryz.ntmps40
  go_wp2_with fail;refine (H.out).mono ?_;rintro e w1 ⟨rfl,hb⟩;have HB:=oH hb;clear hb;go_wp2_with fail;go_ret
  exact ⟨rfl,HB.out⟩
 obtain ⟨q,rfl,hf⟩:=vR_ex h;have H:=oH (zDq q w hf);clear h hf
 go_enter Tryz.func40,Tryz.ntmps40
 go_wp2_with fail;refine (H.out).mono ?_;rintro e w1 ⟨rfl,hb⟩;have HB:=oH hb;clear hb;go_wp2_with fail;go_ret
 exact ⟨rfl,HB.out⟩
theorem zDx (q:Rat) (w:World) (hf:zBd q):Calls Tryz.prog 40 #[.string (zXl q)] w fun e w'=>e = .returned (.bool true)/\Below w.heap.size w w':=by
 have:=zDw (zXl q) w (by rw [zXr];have:=zXw hf;omega);rw [xDv hf] at this;exact this
theorem zDu (q:Rat) (w:World) (hf:zBd q):Calls Tryz.prog 44 #[.string (zXl q)] w (zGa w q):=by
 have H1:Hid (∀ W,Calls Tryz.prog 86 #[.string (zXl q)] W fun e w'=>∃ b,e = .returned (.tuple #[.string (str q.num),.string (str (q.den:Int)),.bool b])/\Below W.heap.size W w'):=oH (fun W=>by
  by_cases h:q.den=1
  ·refine (xAl h hf W).mono ?_;rintro e w' ⟨rfl,hb⟩;rw [h];exact ⟨false,by rw [show str ((1:Nat):Int)=_ from str_1],hb⟩
  refine (xAk h hf W).mono ?_;rintro e w' ⟨rfl,hb⟩
  exact ⟨true,rfl,hb⟩)
 have H2:=oH (fun W=>zEu q.num W hf.1);have H3:=oH (fun W=>zEu (q.den:Int) W hf.2);clear hf
 go_enter Tryz.func44,Tryz.ntmps44
 go_wp2_with fail;have hHR:=(Blk.new w 87 [.bool false,.slice none 0 0,.bool false,.slice none 0 0]);have hB0:Below w.heap.size w (w.alloc (.cells #[.bool false,.slice none 0 0,.bool false,.slice none 0 0] 87)):=bA;generalize w.alloc (.cells #[.bool false,.slice none 0 0,.bool false,.slice none 0 0] 87)=W at *;have HR:=oH hHR;have HB:=oH hB0;clear hB0 hHR;refine (H1.out W).mono ?_;rintro e w1 ⟨b1,rfl,hb⟩;replace HR:=oH (HR.below hb);replace HB:=bTx2 HB hb;clear hb;go_wp2_with fail;refine (H2.out w1).mono ?_;rintro e w2 ⟨v2,rfl,hv,hb⟩;replace HR:=oH (HR.below hb);have HN:=oH hv;obtain ⟨x2,X2,y2,z2,rfl⟩:=hv.slice;replace HB:=bTx2 HB hb;clear hb hv;go_wp2_with fail;refine (H3.out w2).mono ?_;rintro e w3 ⟨v3,rfl,hv,hb⟩;replace HR:=oH (HR.below hb);replace HN:=oH (HN.below hb);have HD:=oH hv;obtain ⟨x3,X3,y3,z3,rfl⟩:=hv.slice;replace HB:=bTx2 HB hb;clear hb hv;have r0:=HR.at_ (i:=0) rfl;have r1:=HR.at_ (i:=1) rfl
 have r2:=HR.at_ (i:=2) rfl;have r3:=HR.at_ (i:=3) rfl;have fr0:=HR.fr 0;have fr1:=HR.fr 1;have fr2:=HR.fr 2;have fr3:=HR.fr 3;go_wp2_with fail;refine bodyPost_ret (v := .agg #[.bool x2,.slice X2 y2 z2,.bool x3,.slice X3 y3 z3]) (by simp [results,Tryz.results44,go_sem, *]) rfl ?_;exact zWn HR.out zSj HB.out lRx (zBt.mk (q:=q) HN.out HD.out rfl rfl) rfl
end Go.Proofs.YtbjaplppalcmgaaGreatDoor
namespace Go.Proofs.YtbjaplppalcmgaaGreatDoor
open Go.RowKit
theorem zDy (n:Int) (w:World) (h0 : -9223372036854775808<=n) (h1:n<=9223372036854775807):Calls Tryz.prog 26 #[.int .i64 n] w fun e w'=>e = .returned (.string (str n))/\Below w.heap.size w w':=by
 have H:=oH (RMake_ok n w h0 h1)
 go_enter Tryz.func26,Tryz.ntmps26
 go_wp2_with fail;refine (H.out).mono ?_;rintro e w1 ⟨rfl,hb⟩;have HB:=oH hb;clear hb;go_wp2_with fail;go_ret
 exact ⟨rfl,HB.out⟩
end Go.Proofs.YtbjaplppalcmgaaGreatDoor
namespace Go.Proofs.YtbjaplppalcmgaaGreatDoor
open Go.RowKit
open Classical in
noncomputable def xDx (s:ByteArray):Rat:=if h:∃ q:Rat,s=zXl q/\zBd q then h.choose else 0
theorem rstr_inj {p q:Rat} (h:zXl p=zXl q):p=q:=by
 apply zXv
 rw [<-zXo p,<-zXo q,h]
open Classical in
theorem xDy {q:Rat} (h:zBd q):xDx (zXl q)=q:=by
 have hx:∃ p:Rat,zXl q=zXl p/\zBd p:=⟨q,rfl,h⟩;unfold xDx;rw [dif_pos hx];exact (rstr_inj hx.choose_spec.1).symm
theorem xDw {s:ByteArray} (h:vR s=true):s=zXl (xDx s)/\zBd (xDx s):=by
 obtain ⟨q,rfl,hf⟩:=vR_ex h;rw [xDy hf];exact ⟨rfl,hf⟩
noncomputable def digS (s:ByteArray):Nat:=if vR s then digR (xDx s) else 0
theorem FReadS (s:ByteArray) (w:World) (h:vR s=true) (henv:Env w):Calls Tryz.prog 109 #[.string s] w (zFp w (xDx s)):=by
 obtain ⟨h1,h2⟩:=xDw h;have:=FRead_ok (xDx s) w h2 henv;rw [<-h1] at this;exact this
theorem xDz (s:ByteArray):Sz 45 (xDx s):=by
 cases h:vR s
 ·have:xDx s=0:=by
   unfold xDx;rw [dif_neg];rintro ⟨q,rfl,hf⟩;rw [xDv hf] at h
   cases h
  rw [this];exact Sz.zero.mono dCx
 exact (xDw h).2.sz
def rsum (l:List Rat):Rat:=l.foldl (· + ·) 0
def nmax (l:List Nat):Nat:=l.foldl max 0
noncomputable def prods (ss ts:List ByteArray):List Rat:=List.zipWith (fun s t=>xDx s*xDx t) ss ts
noncomputable def pdigs (ss ts:List ByteArray):List Nat:=List.zipWith (fun s t=>max (digS s) (digS t)) ss ts
noncomputable def dotS (ss ts:List ByteArray):Rat:=rsum (prods ss ts)
noncomputable def mostS (ss ts:List ByteArray):Nat:=nmax (pdigs ss ts)
noncomputable def dotV (ss ts:List ByteArray):Value :=
 if ss.length≠ts.length then .tuple #[.string ⟨#[]⟩,.int .i64 5]
 else if ¬(ss.all vR=true/\ts.all vR=true) then .tuple #[.string ⟨#[]⟩,.int .i64 1]
 else if 6000<ss.length*mostS ss ts then .tuple #[.string ⟨#[]⟩,.int .i64 3]
 else .tuple #[.string (zUa (dotS ss ts)),.int .i64 (zUb (dotS ss ts))]
end Go.Proofs.YtbjaplppalcmgaaGreatDoor
namespace Go.Proofs.YtbjaplppalcmgaaGreatDoor
open Go.RowKit
abbrev CS2 (W:World) (b o b' o':Nat) (s t:ByteArray):Prop:=W.cell? ⟨b,o,none⟩=some (.string s)/\W.cell? ⟨b',o',none⟩=some (.string t)
attribute [local go_sem ↓] Go.wp_at_zero Go.wp_at_succ
end Go.Proofs.YtbjaplppalcmgaaGreatDoor
namespace Go.Proofs.YtbjaplppalcmgaaGreatDoor
open Go.RowKit
abbrev LT:=Option Addr × Nat × List ByteArray
def LTs (w:World) (g:Nat) (L:List LT):Prop:=g<w.heap.size/\(∀ i,(h:i<L.length)->w.cell? ⟨g,i,none⟩=some (.slice L[i].1 L[i].2.2.length L[i].2.1))/\∀ x∈L,zGx w x.1 x.2.2
noncomputable def ltN (L:List LT):Nat:=nmax (L.map fun x=>x.2.2.length)
noncomputable def ltD (L:List LT):Nat:=nmax (L.map fun x=>nmax (x.2.2.map digS))
noncomputable def ltV (L:List LT):Bool:=L.all fun x=>x.2.2.all vR
noncomputable def lightV (L:List LT):Int:=if ltV L=false then 1 else if 6000<ltN L*ltD L then 3 else 0
noncomputable def sumS (ss:List ByteArray):Rat:=rsum (ss.map xDx)
noncomputable def sumV (ss:List ByteArray):Value :=
 if ss.all vR=false then .tuple #[.string ⟨#[]⟩,.int .i64 1]
 else if 6000<ss.length*nmax (ss.map digS) then .tuple #[.string ⟨#[]⟩,.int .i64 3]
 else .tuple #[.string (zUa (sumS ss)),.int .i64 (zUb (sumS ss))]
def one1:ByteArray:=⟨#[49]⟩
end Go.Proofs.YtbjaplppalcmgaaGreatDoor
namespace Go.Proofs.YtbjaplppalcmgaaGreatDoor
open Go.RowKit
def Apart (b:Nat) (v:Value):Prop:=∃ nb A l c,v = .agg #[.bool nb,.slice A l c]/\∀ bb off,A=some ⟨bb,off,none⟩->bb≠b
theorem zBf.apart {w:World} {v:Value} {b:Nat} (h:zBf w v) (hb:b<w.heap.size):Apart b v:=by
 obtain ⟨nb,A,l,c,e,hA⟩:=h;exact ⟨nb,A,l,c,e,fun bb off e2=>by have:=hA bb off e2;omega⟩
theorem zBm.grown {w w':World} {v:Value} {z:Int} {b:Nat} (h:zBm w v z) (ha:Apart b v) (hg:w.grownBy w' (some b)):zBm w' v z:=by
 obtain ⟨A,c,rfl,hl,hc⟩:=h;obtain ⟨nb,A2,l2,c2,e,hA⟩:=ha;injection e with e;have e1:=congrArg (fun a=>a[1]?) e
 simp at e1
 obtain ⟨rfl,_,_⟩:=e1;exact ⟨A,c,rfl,hl,hc.only hg hA⟩
theorem zOa {a w w':World} {g:Option Nat} (h:a.grownBy w g) (hb:Below w.heap.size w w'):a.grownBy w' g :=
 ⟨hb.os.trans h.os,hb.tape.trans h.tape,hb.output.trans h.output,Nat.le_trans h.size hb.size,fun i hi hne=>(hb.block i (Nat.lt_of_lt_of_le hi h.size)).trans (h.block i hi hne)⟩
def RetLong (w:World) (b d:Nat) (e:Ending) (w':World):Prop:=∃ q:Rat,e = .returned (.string (zXl q))/\zAl d q/\Src w' b/\w.grownBy w' (some b)
def LongS (w:World) (b d g:Nat) (W:World):Prop:=∃ (z:Int) (nb:Bool) (A:oAx) (l c:Nat),z≠0/\Dig d z/\Blk W g 85 [.bool nb,.slice A l c]/\zBm W (.agg #[.bool nb,.slice A l c]) z/\Apart b (.agg #[.bool nb,.slice A l c])/\Src W b/\w.grownBy W (some b)/\b<g
end Go.Proofs.YtbjaplppalcmgaaGreatDoor
namespace Go.Proofs.YtbjaplppalcmgaaGreatDoor
open Go.RowKit
theorem zXp {q:Rat} {n:Int} {d:Nat} {a b:List UInt8} (h1:q.num=n) (h2:q.den=d) (hd:d≠1) (ha:Lib.itoa n=a) (hb:Lib.itoa (d:Int)=b):zXl q=⟨(a++47::b).toArray⟩:=by
 unfold zXl;rw [zXy (by rw [h2];exact hd),h1,h2,ha,hb]
theorem zOu {n:Nat} (h:n<10):Lib.itoa (n:Int)=[UInt8.ofNat (48+n)]:=by rw [zPb,Lib.decDigits_one h]
theorem itoa_nd {n:Nat} (h:n<10) (h0:0<n):Lib.itoa (-(n:Int))=[45,UInt8.ofNat (48+n)]:=by rw [zOz _ h0,Lib.decDigits_one h]
theorem t_12:zXl (Rat.divInt 1 2)=⟨#[49,47,50]⟩:=zXp (n:=1) (d:=2) (by decide +kernel) (by decide +kernel) dCx (zOu (n:=1) dCx) (zOu (n:=2) dCx)
theorem zNd {q:Rat} (h1:q.num.natAbs<1000000000) (h2:q.den<1000000000):zBd q:=⟨zNe h1,zNe (by rw [Int.natAbs_natCast];exact h2)⟩
end Go.Proofs.YtbjaplppalcmgaaGreatDoor
namespace Go.Proofs.YtbjaplppalcmgaaGreatDoor
open Go.ChangeShapes Go.WideShapes Go.ChangeAt Go.RowKit
theorem env_of {W:World} (h:laidMetH Tryz.prog laidList W) (hs:W.ShapedOpen Tryz.prog):Env W :=
 ⟨tab_of h,cell_of_shapedOpen_int (zero:=#[.int .i64 0]) (t:=3) hs (of_decide_eq_true (by kernel_rfl)) (by kernel_rfl) rfl (by kernel_rfl) (by kernel_rfl) Tryz.underlying3⟩
end Go.Proofs.YtbjaplppalcmgaaGreatDoor
namespace Go.Proofs.YtbjaplppalcmgaaGreatDoor
open Go.RowKit
theorem zFb (b:Nat) (lo hi:Int) (w:World) (hs:Src w b) (h1:lo<=hi) (h2 : -100000<=lo) (h3:hi<=100000) :
  Calls Tryz.prog 64 #[.pointer (some ⟨b,0,none⟩),.int .i64 lo,.int .i64 hi] w fun e w'=>∃ r:Int,e = .returned (.int .i64 r)/\(lo<=r/\r<=hi)/\Src w' b/\w.grownBy w' (some b):=by
 have HN:=oH (zCn b (hi-lo+1) w hs oMx oMx);clear hs
 go_enter Tryz.func64,Tryz.ntmps64
 go_wp2_with fail;refine HN.mono ?_;rintro e w1 ⟨r,rfl,hr,hs1,hg1⟩;have HS1:=oH hs1;have HG1:=oH hg1;clear hs1 hg1;go_wp2_with fail;go_ret
 exact ⟨lo+(r:Int),rfl,⟨oMx,oMx⟩,HS1.out,HG1.out⟩
theorem zDd (b g n:Nat) (S:Nat->Int) (w:World) (hs:Src w b) (hrow:∀ i,i<n->w.cell? ⟨g,i,none⟩=some (.int .i64 (S i))) (hgb:g≠b) (hg:g<w.heap.size) (hn1:1<=n) (hn2:n<=1000) :
  Calls Tryz.prog 27 #[.pointer (some ⟨b,0,none⟩),.slice (some ⟨g,0,none⟩) n n] w fun e w'=>∃ i,i<n/\e = .returned (.int .i64 (S i))/\Src w' b/\w.grownBy w' (some b):=by
 have HS:=oH hs;have HROW:=oH hrow;clear hs hrow
 go_enter Tryz.func27,Tryz.ntmps27
 go_wp2_with fail;refine (zCn b (n:Int) w HS.out oMx oMx).mono ?_;rintro e w1 ⟨r,rfl,hr,hs1,hg1⟩;have hcell:w1.cell? ⟨g,r,none⟩=some (.int .i64 (S r)):=(World.cell?_of_block (w:=w) (a:=⟨g,r,none⟩) (hg1.block g hg (fun e=>hgb (by injection e)))).trans (HROW.out r oMx);have HS1:=oH hs1;have HG1:=oH hg1
 have hrn:r<n:=by omega
 clear hs1 hg1;go_wp2_with fail;go_ret
 exact ⟨r,hrn,rfl,HS1.out,HG1.out⟩
def zGn (q:Rat):Prop:=q.num.natAbs<=9/\q.den<=4
theorem zGn.dig {q:Rat} (h:zGn q):zAl 1 q:=⟨by unfold Dig;have:=h.1;omega,by unfold Dig;have:=h.2;omega⟩
theorem zGn.fits {q:Rat} (h:zGn q):zBd q:=h.dig.fits dCx dCx
def dens:List Int:=[1,1,1,2,3,4]
theorem dens_get (i:Nat):1<=dens.getD i 1/\dens.getD i 1<=4:=by
 by_cases h:i<dens.length
 ·have:∀ s∈dens,1<=s/\s<=4:=by decide
  rw [List.getD_eq_getElem?_getD,List.getElem?_eq_getElem h];exact this _ (List.getElem_mem h)
 rw [List.getD_eq_getElem?_getD,List.getElem?_eq_none oMx]
 decide
def RetRat (w:World) (b:Nat) (e:Ending) (w':World):Prop:=∃ q:Rat,e = .returned (.string (zXl q))/\zGn q/\Src w' b/\w.grownBy w' (some b)
theorem MRat_any (b:Nat) (w:World) (hs:Src w b):Calls Tryz.prog 29 #[.pointer (some ⟨b,0,none⟩)] w (RetRat w b):=by
 have HPK:=oH (fun (W:World) (g:Nat) (hW:Blk W g 3 (dens.map (Value.int .i64))) (hS:Src W b) (hg:g≠b)=>zDd b g 6 (fun i=>dens.getD i 1) W hS (fun i hi=>by
  rw [hW.cell,List.getElem?_map,List.getD_eq_getElem?_getD,List.getElem?_eq_getElem (show i<dens.length from hi)];rfl) hg hW.lt oMx oMx)
 have HS:=oH hs;clear hs
 go_enter Tryz.func29,Tryz.ntmps29
 go_wp2_with fail;refine (zFb b (-9) 9 w HS.out dCx dCx dCx).mono ?_;rintro e w1 ⟨r,rfl,⟨hr1,hr2⟩,hs1,hg1⟩;have HS1:=oH hs1;have HG1:=oH hg1;have hb1:=hs1.lt;clear hs1 hg1;go_wp2_with fail;refine (ROf_f r w1 oMx oMx).mono ?_;rintro e w2 ⟨v2,rfl,hv2,hb2,hfr⟩;have HAP:=oH (hfr.apart hb1);obtain ⟨x2,X2,y2,z2,rfl⟩:=hv2.slice;have hk:=Blk.new w2 3 (dens.map (Value.int .i64));have hB0:Below w2.heap.size w2 (w2.alloc (.cells #[.int .i64 1,.int .i64 1,.int .i64 1,.int .i64 2,.int .i64 3,.int .i64 4] 3)):=bA;have HV:=oH (hv2.below hB0);have HS2:=oH ((HS1.below hb2).below hB0);have HG2:=oH (zOa (zOa HG1.out hb2) hB0)
 have hne:w2.heap.size≠b:=by have:=hb2.size;omega
 have HP:=oH (HPK.out _ _ hk HS2.out hne);clear hv2 hfr hb2 hk hne;go_wp2_with fail;refine HP.mono ?_;rintro e w3 ⟨i,hi,rfl,hs3,hg3⟩;obtain ⟨hd1,hd2⟩:=dens_get i;have HV3:=oH (HV.grown HAP.out hg3);have HS3:=oH hs3;have HG3:=oH (zOe HG2.out hg3);clear hs3 hg3 HP HV HS2 HG2 hB0;generalize dens.getD i 1=k at *;go_wp2_with fail;refine (zEm k w3 oMx oMx).mono ?_;rintro e w4 ⟨v4,rfl,hv4,hb4⟩;obtain ⟨x4,X4,y4,z4,rfl⟩:=hv4.slice;have HV4:=oH hv4;have HR4:=oH (HV3.below hb4);have HS4:=oH (HS3.below hb4);have HG4:=oH (zOa HG3.out hb4);have lr:(limbs r.natAbs).length<=1:=zQk oMx;have lk:(limbs k.natAbs).length<=1:=zQk oMx
 have hk0:k≠0:=by omega
 have sz:Sz 1 (Rat.divInt r k):=Sz.divInt hk0 lr lk
 have HSM:Hid (zGn (Rat.divInt r k)):=by
  have:=zMl (n:=r) hk0;exact ⟨oMx,oMx⟩
 have E1:=oH (zUe HSM.fits);clear hv4 hb4;go_wp2_with fail;refine (zEl _ _ r k w4 HR4.out HV4.out oMx oMx hk0).mono ?_;rintro e w5 ⟨v5,rfl,hv5,hb5⟩;obtain ⟨x5,x5',X5,X5',y5,z5,y5',z5',rfl⟩:=hv5.slice;have HF:=oH hv5;have HS5:=oH (HS4.below hb5);have HG5:=oH (zOa HG4.out hb5);clear hv5 hb5;go_wp2_with fail;refine (zDm _ _ w5 HF.out (sz.mono oMx)).mono ?_;rintro e w6 ⟨rfl,hb6⟩;have HS6:=oH (HS5.below hb6);have HG6:=oH (zOa HG5.out hb6);clear hb6;go_wp2_with fail;go_ret
 exact ⟨_,by rw [E1.out];rfl,HSM.out,HS6.out,HG6.out⟩
def zTo:List ByteArray:=[⟨#[]⟩,⟨#[49,47,49]⟩,⟨#[50,47,52]⟩,⟨#[49,47,45,50]⟩,⟨#[49,47,48]⟩,⟨#[48,47,51]⟩,⟨#[45,49,47,50]⟩,⟨#[49,47,50,47,51]⟩,⟨#[47,50]⟩,⟨#[49,47]⟩,⟨#[45,48]⟩,⟨#[55]⟩,⟨#[49,50,51,52,53,54,55,56,57,48,49,50,51,52,53,54,55,56,57,48,47,55]⟩]
theorem zTp (i:Nat):(zTo.getD i ⟨#[]⟩).size<=22:=by
 by_cases h:i<zTo.length
 ·have:∀ s∈zTo,s.size<=22:=by decide
  rw [List.getD_eq_getElem?_getD,List.getElem?_eq_getElem h];exact this _ (List.getElem_mem h)
 rw [List.getD_eq_getElem?_getD,List.getElem?_eq_none oMx]
 decide
theorem zCr (b:Nat) (w:World) (hs:Src w b) :
  Calls Tryz.prog 28 #[.pointer (some ⟨b,0,none⟩)] w fun e w'=>∃ s:ByteArray,e = .returned (.string s)/\s.size<=22/\Src w' b/\w.grownBy w' (some b):=by
 have HB:=oH (Blk.new w 9 (zTo.map Value.string))
 have HO:Hid (∀ o:Obj,w.grownBy (w.alloc o) (some b)):=fun o=>World.grownBy_alloc _ _ _
 have hlt:=hs.lt
 have HC:=oH (fun (W:World) (hW:Blk W w.heap.size 9 (zTo.map Value.string)) (hS:Src W b)=>zCh b w.heap.size 13 (fun i=>zTo.getD i ⟨#[]⟩) W hS (fun i hi=>by
  rw [hW.cell,List.getElem?_map,List.getD_eq_getElem?_getD,List.getElem?_eq_getElem (show i<zTo.length from hi)];rfl) oMx hW.lt oMx oMx)
 have HSA:=oH (fun o=>xAq hs o);clear hs
 go_enter Tryz.func28,Tryz.ntmps28
 go_wp2_with fail;refine (HC.out _ HB.out (HSA.out _)).mono ?_;rintro e w1 ⟨i,hi,rfl,hs1,hg1⟩;have HS1:=oH hs1;have HG1:=oH (zOe (HO.out _) hg1);clear hs1 hg1;go_wp2_with fail;go_ret
 exact ⟨_,rfl,zTp i,HS1.out,HG1.out⟩
end Go.Proofs.YtbjaplppalcmgaaGreatDoor
namespace Go.Proofs.YtbjaplppalcmgaaGreatDoor
open Go.RowKit
def sv (ss:List ByteArray):List Value:=ss.map Value.string
theorem xCg (ss:List ByteArray):(sv ss).length=ss.length:=by simp [sv]
theorem sv_snoc (ss:List ByteArray) (s:ByteArray):sv (ss++[s])=sv ss++[.string s]:=by simp [sv]
theorem zUw {w:World} {B e:Nat} {v:Value} {ss:List ByteArray} (h:w.ownsRow B e 1 v ss.length (sv ss)):∃ A c,v = .slice A ss.length c/\ss.length<=c/\zGx w A ss/\∀ b off,A=some ⟨b,off,none⟩->B<=b:=by
 have h':=h
 rcases h.2 with ⟨hv,h0⟩|⟨g,cap,cur,hv,hB,hg,hle,hm,hs,htake⟩
 ·have:ss=[]:=by simpa using h0
  subst this;exact ⟨none,0,hv,by simp,fun hn=>absurd rfl hn,fun b off e=>by cases e⟩
 refine ⟨_,cap,hv,hle,fun _=>⟨g,0,rfl,?_,fun i hi=>?_⟩,?_⟩
 ·rcases Nat.lt_or_ge g w.heap.size with h'|h'
  ·exact h'
  rw [Array.getElem?_eq_none h'] at hg;cases hg
 ·subst hv;have:=h'.cellAt i oMx;rw [Nat.zero_add,this]
  simp [sv,hi]
 intro b off e
 injection e with e;injection e with e;omega
theorem Tryz.infoRat:(Tryz.prog.info? 43).map (fun i=>(i.zero,i.size,i.bytes))=some (some (.string ⟨#[]⟩),1,16):=by kernel_rfl
theorem zTv {s:ByteArray}:∀ u∈([Value.string s]:List Value),u.oneCell'=true:=by intro u hu;simp at hu;subst hu;rfl
theorem xAe {B:Nat} {wr w1:World} {t e:TypeId} {v v' u:Value} {ss:List ByteArray} {s:ByteArray} (h:wr.ownsRow B e 1 v ss.length (sv ss)) (hB:B<=wr.heap.size)
  (hown:w1.ownsRow B e 1 v' (ss.length+1) (sv ss++[.string s])) (hg:(wr.alloc (.cells #[u] t)).grownBy w1 v.ownBlock) :
  w1.ownsRow B e 1 v' (ss++[s]).length (sv (ss++[s]))/\(∀ i,i<B->w1.heap[i]? = wr.heap[i]?)/\wr.heap.size<=w1.heap.size/\∀ (a:World) (g:Option Nat),a.heap.size<=B->a.grownBy wr g->a.grownBy w1 g:=by
 have hs:=hg.size;rw [World.size_alloc] at hs
 have hk:∀ i,i<B->w1.heap[i]? = wr.heap[i]? := fun i hi=>by
  rw [hg.block i (by simp;omega) (fun e=>by have:=(h.lt i e.symm).1;omega)];exact Below.heap_alloc wr _ i oMx
 refine ⟨?_,hk,oMx,fun a g ha hag=>⟨hg.os.trans hag.os,hg.tape.trans hag.tape,hg.output.trans hag.output,Nat.le_trans hag.size oMx,fun i hi hne=>(hk i oMx).trans (hag.block i hi hne)⟩⟩;rw [sv_snoc,List.length_append];exact hown
theorem zUq {w w':World} {B e n b:Nat} {v:Value} {xs:List Value} (h:w.ownsRow B e 1 v n xs) (hg:w.grownBy w' (some b)) (hb:b<B):w'.ownsRow B e 1 v n xs :=
 h.kept (row:=some b) hg (by
  rcases hv:v.ownBlock with _|g
  ·exact .inl rfl
  refine .inr ?_;have:=(h.lt g hv).1
  intro e
  injection e with e
  omega)
def RetRats (w:World) (b n:Nat) (e:Ending) (w':World):Prop:=∃ (v:Value) (qs:List Rat),e = .returned v/\qs.length=n/\(∀ q∈qs,zGn q)/\w'.ownsRow w.heap.size 43 1 v (qs.map zXl).length (sv (qs.map zXl))/\Src w' b/\w.grownBy w' (some b)
theorem zFe (b n:Nat) (w:World) (hs:Src w b) (hn:n<=1000):Calls Tryz.prog 12 #[.pointer (some ⟨b,0,none⟩),.int .i64 (n:Int)] w (RetRats w b n):=by
 obtain ⟨i0,hi,hz0,hz1,hz2⟩:=info_parts Tryz.infoRat;have HS:=oH hs;have hbw:=hs.lt;clear hs
 go_enter Tryz.func12,Tryz.ntmps12
 go_wp2_with fail
 go_loopw [5,6] (fun v iv wr=>∃ qs:List Rat,iv = .int .i64 (qs.length:Int)/\qs.length<=n/\(∀ q∈qs,zGn q)/\wr.ownsRow w.heap.size 43 1 v (qs.map zXl).length (sv (qs.map zXl))/\Src wr b/\w.grownBy wr (some b)) (fun _ iv _=>n-(intOf iv).toNat)
 ·exact ⟨[],rfl,oLx,by simp,World.ownsRow_nil _ _ _ _,HS.out,World.grownBy.refl _ _⟩
 obtain ⟨qs,rfl,hqn,hsm,hown,hsr,hgr⟩:=hrel;have HSM:=oH hsm;have HOWN:=oH hown;have HSR:=oH hsr;have HGR:=oH hgr;have hsz:=hgr.size;clear hsm hown hsr hgr
 by_cases hlt:qs.length<n
 ·go_wp2_with fail;refine (MRat_any b wr HSR.out).mono ?_;rintro e w2 ⟨q,rfl,hq,hs2,hg2⟩;have HQ:=oH hq;have HS2:=oH hs2;have HG2:=oH (zOe HGR.out hg2);have HO2:=oH (zUq HOWN.out hg2 hbw);have hsz2:w.heap.size<=w2.heap.size:=HG2.size
  have hml:(qs.map zXl).length<=1000:=by simp;omega
  clear hq hs2 hg2
  go_wp2_with (at_builtin;refine wpList_append_own _ rfl _ _ 25 rfl w.heap.size 43 i0 (.string ⟨#[]⟩) 1 16 Tryz.underlying25 hi hz0 hz1 hz2 rfl dCx _ _ _ rfl (HO2.alloc _) ⟨w2.heap.size,0,none⟩ 1 1 [_] rfl rfl zTu zTv (by unfold maxLen;omega) oMx (by simp;omega) ?_)
  intro v' w3 hown3 hgrow3 _
  have hown4:w3.ownsRow w.heap.size 43 1 v' ((qs.map zXl).length+1) (sv (qs.map zXl)++[.string (zXl q)]):=by rw [List.length_map];exact hown3
  obtain ⟨ho3,hk3,hs3,hg3⟩:=xAe HO2.out hsz2 hown4 hgrow3;have HO3:=oH ho3;have HS3:=oH (HS2.above hs3 (fun i hi=>hk3 i oMx));have HG3:=oH (hg3 w (some b) lRx HG2.out);clear hown3 hown4 hgrow3 ho3 hk3 hs3 hg3;go_wp2_with fail;go_roundw
  ·exact ⟨qs++[q],by simp,by simp;omega,fun x hx=>(List.mem_append.1 hx).elim (HSM.out x) (fun h=>by rw [List.mem_singleton.1 h];exact HQ.out),by rw [List.map_append];exact HO3.out,HS3.out,HG3.out⟩
  simp [intOf];omega
 go_wp2_with fail;go_ret
 exact ⟨_,qs,rfl,oMx,HSM.out,HOWN.out,HSR.out,HGR.out⟩
def shortB (ss:List ByteArray):Bool:=decide (ss.length<=14)&&ss.all fun s=>decide (s.size<=30)
end Go.Proofs.YtbjaplppalcmgaaGreatDoor
namespace Go.Proofs.YtbjaplppalcmgaaGreatDoor
open Go.ChangeShapes Go.WideShapes Go.ChangeAt Go.RowKit Go.WideElems
theorem laidOut:laidOutB Tryz.prog=true:=by kernel_rfl
section
variable {H:Type} {enc:TypeId × Value->H}
theorem zHt {W:World} {t:TypeId} (hr:Tryz.prog.readableRec t=true) (hrow:t<Tryz.prog.types.size) {v:Value} {d:DataW H} {p:List MemPlace} (h:DataW.Trod enc Tryz.prog W 0 (fun _=>true) true t v d p) :
  ∀ W',Below W.heap.size W W'->∀ sp:Nat->Bool,(∀ x∈p,sp x.block=true)->DataW.Trod enc Tryz.prog W' 0 sp true t v d p:=by
 intro W' hb sp hsp
 obtain ⟨fuel,hf⟩:=h
 have hlt:∀ x∈p,x.block<W.heap.size:=fun x hx=>DataW.trod_lt fuel t _ _ hf x hx
 exact ⟨fuel,DataW.trod_stays (kids_book laidOut hr) (book_sized hr) (fun h=>by cases h) ⟨hrow,book_self t⟩ hf (fun x hx=>hb.same (hlt x hx)) hsp⟩
theorem zJg:Tryz.prog.cellsOf 43=1:=by kernel_rfl
theorem ltRats:25<Tryz.prog.types.size:=of_decide_eq_true (by kernel_rfl)
theorem readRats:Tryz.prog.readableRec 25=true:=by kernel_rfl
theorem strs_in {W:World} {base:Nat} {v:Value} {d:DataW H} {p:List MemPlace} (hv:Value.okWide Tryz.prog W .any base 25 v)
  (h:DataW.Trod enc Tryz.prog W 0 (fun _=>true) true 25 v d p) :
  ∃ (A:oAx) (ss:List ByteArray) (c:Nat),v = .slice A ss.length c/\zGx W A ss/\ss.length<=9223372036854775807/\(∀ s∈ss,s.size<=9223372036854775807) /\
   ∀ W',Below W.heap.size W W'->∀ sp:Nat->Bool,(∀ x∈p,sp x.block=true)->DataW.Trod enc Tryz.prog W' 0 sp true 25 v d p:=by
 have hag:=zHt readRats ltRats h;obtain ⟨a0,len,cap,rfl⟩:=okWide_slice Tryz.underlying25 hv;obtain ⟨fuel,hf⟩:=h
 rcases open_strings Tryz.underlying25 Tryz.underlying43 zJg hf with ⟨hcs,hx⟩|⟨a,len',cap',ss,hcs,_,hl,hm,hz,hx,hcell,hwz⟩
 ·obtain ⟨rfl,rfl,rfl⟩:a0=none/\len=0/\cap=0:=by simpa [Value.cells] using hcs
  exact ⟨none,[],0,rfl,fun h=>absurd rfl h,dCx,by simp,hag⟩
 obtain ⟨rfl,rfl,rfl⟩:a0=some a/\len=len'/\cap=cap':=by simpa [Value.cells] using hcs
 have hzc:ss.length=cap:=by simpa using hz
 have hm':cap<=9223372036854775807:=hm;refine ⟨some a,ss.take len,cap,?_,?_,by simp;omega,fun s hs=>hwz s (List.mem_of_mem_take hs),hag⟩
 ·rw [List.length_take,Nat.min_eq_left oMx]
 intro hne
 have h0:0<len:=by
  rcases Nat.eq_zero_or_pos len with h|h
  ·subst h;exact absurd sMx hne
  exact h
 obtain ⟨b,off,spot⟩:=a;have hsp:=World.cell?_spot (hcell 0 oMx);have hspot:spot=none:=hsp;subst hspot
 have hlt:b<W.heap.size:=by
  have h1:=hcell 0 oMx
  rcases Nat.lt_or_ge b W.heap.size with hl'|hg'
  ·exact hl'
  exfalso
  rw [Lib.add_plain] at h1;unfold World.cell? at h1;rw [Array.getElem?_eq_none hg'] at h1
  simp at h1
 refine ⟨b,off,rfl,hlt,fun i hi=>?_⟩;have:=hcell i (by simp at hi;omega);rw [Lib.add_plain] at this;rw [this,List.getD_eq_getElem?_getD,List.getElem?_eq_getElem (by simp at hi;omega)]
 simp
end
end Go.Proofs.YtbjaplppalcmgaaGreatDoor
namespace Go.Proofs.YtbjaplppalcmgaaGreatDoor
open Go.RowKit
theorem zBt.set4 {W:World} {v:Value} {q:Rat} {g:Nat} {t:TypeId} {na nb:Bool} {A A':oAx} {l c l' c':Nat} (h:zBt W v q) (k:Blk W g t [.bool na,.slice A l c,.bool nb,.slice A' l' c']) (y0 y1 y2 y3:Value):zBt ((((W.setCell ⟨g,0,none⟩ y0).setCell ⟨g,1,none⟩ y1).setCell ⟨g,2,none⟩ y2).setCell ⟨g,3,none⟩ y3) v q:=h.box k zSj (zOd (zOd (zOd (zOc g 0 _) 1 _) 2 _) 3 _)
attribute [local go_sem ↓] Go.wp_at_zero Go.wp_at_succ
end Go.Proofs.YtbjaplppalcmgaaGreatDoor
