import Derived.Test.YtafflnognagadaaGreatDoorZJ
set_option maxHeartbeats 16000000
set_option maxRecDepth 100000
namespace Go.Proofs.YtafflnognagadaaGreatDoor
open Go.RowKit
def zVw (l:List UInt8):List UInt8 × List UInt8 × Bool:=if (zKc l).2.2 then zKc l else (l,[49],false)
theorem zVx {l:List UInt8} {k:Nat} (hk:k<l.length) (h:47 ∉ l.take k) (hc:l[k]=47):zVw l=(l.take k,l.drop (k+1),true):=by
 have e:l=l.take k++47::l.drop (k+1):=by
  rw [<-hc];simp
 have:=zKg (b:=l.drop (k+1)) h;rw [<-e] at this;unfold zVw;rw [this]
 rfl
theorem zVy {l:List UInt8} (h:47 ∉ l):zVw l=(l,[49],false):=by
 unfold zVw;rw [zKf h]
 rfl
theorem zMb (s:ByteArray) (k:Nat):s.extract 0 k=⟨(s.data.toList.take k).toArray⟩:=by
 apply ByteArray.ext
 apply Array.toList_inj.1
 rw [Lib.extract_data]
 simp
theorem zLz (s:ByteArray) (k:Nat):s.extract k s.size=⟨(s.data.toList.drop k).toArray⟩:=by
 apply ByteArray.ext
 apply Array.toList_inj.1
 rw [Lib.extract_data];have:s.data.toList.length=s.size:=Array.length_toList;rw [<-this,<-List.length_drop,List.take_length]
theorem take_no {s:ByteArray} {k:Nat} (hk:k<s.size) (h:47 ∉ s.data.toList.take k) (hc:s[k]≠47):47 ∉ s.data.toList.take (k+1):=by
 have hl:k<s.data.toList.length:=by rw [zHs];exact hk
 rw [List.take_succ_eq_append_getElem hl]
 intro hm
 rcases List.mem_append.1 hm with h1|h1
 ·exact h h1
 simp at h1
 exact hc h1.symm
theorem zVz (s:ByteArray) (w:World) (hs:s.size<=4000000000) :
  Calls Tryz.prog 98 #[.string s] w fun e w'=>e = .returned (.tuple #[.string ⟨(zVw s.data.toList).1.toArray⟩,.string ⟨(zVw s.data.toList).2.1.toArray⟩,.bool (zVw s.data.toList).2.2])/\Below w.heap.size w w':=by
 go_enter Tryz.func98,Tryz.ntmps98
 go_wp2
 go_loop [5] (fun iv=>∃ k:Nat,k<=s.size/\iv = .int .i64 (k:Int)/\47 ∉ s.data.toList.take k) (fun iv=>s.size-(intOf iv).toNat)
 ·exact ⟨0,oLx,rfl,by simp⟩
 obtain ⟨k,hk,rfl,hno⟩:=hrel;have HNO:=oH hno;clear hno
 by_cases hlt:k<s.size
 ·by_cases hc:s[k]=47
  ·have hc':(((s[k]).toNat:Int)==47)=true:=by rw [hc];rfl
   have E:=oH (zVx (l:=s.data.toList) (k:=k) (by rw [zHs];exact hlt) HNO.out hc);have E1:=oH (zMb s k);have E2:=oH (zLz s (k+1));clear hc HNO;have g1:IntKind.i64.wrap ((k:Int)+1)=(k:Int)+1:=IntWalk.i64_in _ oMx
   have g2:(0:Int)<=(k:Int)+1:=by omega
   have g3:((k:Int)+1).toNat=k+1:=by omega
   have g4:(k:Int)+1<=(s.size:Int):=by omega
   have g5:(k:Int)<=(s.size:Int):=by omega
   have g6:(0:Int)<=(k:Int):=by omega
   go_wp2
   go_quiet (fail)
   go_wp2
   go_ret3
   exact ⟨by rw [E.out,<-E1.out,<-E2.out];rfl,below_drewN bRx _⟩
  have hc':(((s[k]).toNat:Int)==47)=false:=by
   rw [beq_eq_false_iff_ne]
   intro e
   apply hc
   apply UInt8.toNat_inj.1
   have:(47:UInt8).toNat=47:=rfl;omega
  have E:=oH (take_no hlt HNO.out hc);clear hc HNO
  go_wp2
  go_round
  ·exact ⟨k+1,oMx,by go_num,E.out⟩
  simp [intOf];omega
 have E:=oH (zVy (l:=s.data.toList) (by have:=HNO.out;rwa [List.take_of_length_le (by rw [zHs];omega)] at this))
 go_wp2
 go_ret3
 exact ⟨by rw [E.out];simp only [ba_list];rfl,bRx⟩
theorem zNy {x:Int} (h0:0<=x) (h:Fits x):(Lib.itoa x).length<=400:=by
 obtain ⟨n,rfl⟩:∃ n:Nat,x=(n:Int):=⟨x.toNat,oMx⟩;rw [zNx];unfold Fits at h
 rwa [Int.natAbs_natCast] at h
theorem zUi {q:Rat} (h:zBc q):(zUg q).length<=802:=by
 have h1:=zNt h.1;have h2:=zNy oMx h.2;unfold zUg
 split
 ·omega
 simp;omega
theorem zWb {q:Rat} (h:q.den=1) (hf:zBc q) (w:World) :
  Calls Tryz.prog 98 #[.string (zUb q)] w fun e w'=>e = .returned (.tuple #[.string (str q.num),.string ⟨#[49]⟩,.bool false])/\Below w.heap.size w w':=by
 have:=zVz (zUb q) w (by rw [zUd];have:=zUh hf;omega);rw [zUc,show zVw (zUg q)=(zUg q,[49],false) by unfold zVw;rw [zKj h];rfl,zUk h] at this;exact this
theorem zWa {q:Rat} (h:q.den≠1) (hf:zBc q) (w:World) :
  Calls Tryz.prog 98 #[.string (zUb q)] w fun e w'=>e = .returned (.tuple #[.string (str q.num),.string (str (q.den:Int)),.bool true])/\Below w.heap.size w w':=by
 have:=zVz (zUb q) w (by rw [zUd];have:=zUh hf;omega);rw [zUc,show zVw (zUg q)=(Lib.itoa q.num,Lib.itoa (q.den:Int),true) by unfold zVw;rw [zKh h];rfl] at this;exact this
theorem zWo (x:Int):0<(str x).size:=by
 rw [zWp]
 rcases Nat.eq_zero_or_pos (Lib.itoa x).length with h|h
 ·exfalso
  have h1:=(zNz x).2;rw [List.eq_nil_of_length_eq_zero h] at h1;exact zKr x.natAbs (by rw [<-h1];rfl)
 exact h
theorem zWl (x:Int) (hsz:0<(str x).size):((((str x)[0]).toNat:Int)==45)=decide (x<0):=by
 have hdata:(str x).data.toList=Lib.itoa x:=by unfold str;simp
 have h0c:(str x)[0]=(Lib.itoa x)[0]'(by rw [<-zWp];exact hsz):=by
  have h2:(str x).data.toList[0]'(by rw [hdata,<-zWp];exact hsz)=(Lib.itoa x)[0]'(by rw [<-zWp];exact hsz):=by simp [hdata]
  have h3:(str x).data[0]'hsz=(Lib.itoa x)[0]'(by rw [<-zWp];exact hsz):=by simpa using h2
  exact h3
 by_cases hx:x<0
 ·have:(Lib.itoa x)[0]'(by rw [<-zWp];exact hsz)=45:=by
   have:Lib.itoa x=45::Lib.decDigits x.natAbs:=by unfold Lib.itoa;rw [if_pos hx]
   simp [this]
  rw [h0c,this,decide_eq_true hx];rfl
 have hI:Lib.itoa x=Lib.decDigits x.natAbs:=by unfold Lib.itoa;rw [if_neg hx];congr 1;omega
 have hd:zBu ((Lib.itoa x)[0]'(by rw [<-zWp];exact hsz)):=zKo x.natAbs _ (by rw [<-hI];exact List.getElem_mem _);rw [h0c,decide_eq_false hx,beq_eq_false_iff_ne];unfold zBu at hd;omega
theorem str_is {x:Int} {n:Int}:((str x).toList==Lib.itoa n)=decide (x=n):=by
 rw [zWq]
 by_cases h:x=n
 ·subst h;simp
 rw [decide_eq_false h,beq_eq_false_iff_ne]
 exact fun e=>h (zNs e)
theorem zWm (x:Int):((str x).toList==[48])=decide (x=0):=by rw [<-zOb];exact str_is
theorem zWn (x:Int):((str x).toList==[49])=decide (x=1):=by rw [<-str_1l];exact str_is
theorem str_isn1 (x:Int):((str x).toList != [49]) = !decide (x=1):=by rw [<-zWn];rfl
theorem RTextS (u:Value) (x:Int) (w:World) (hx:zBt w u x) (hlx:(limbs x.natAbs).length<=1000000) :
  Calls Tryz.prog 102 #[u] w fun e w'=>e = .returned (.string (str x))/\Below w.heap.size w w':=zEr u x w hx hlx
theorem zEi (x:Int) (w:World) (hf:Fits x):Calls Tryz.prog 100 #[.string (str x)] w (zFi w x):=zEh x w (by unfold Fits at hf;omega)
theorem zEd (q:Rat) (w:World) (h:q.den=1) (hf:zBc q):Calls Tryz.prog 88 #[.string (zUb q)] w fun e w'=>e = .returned (.tuple #[.string (str q.num),.string ⟨#[49]⟩,.bool true])/\Below w.heap.size w w':=by
 have H1:=oH (zWb h hf w);have H2:=oH (fun W=>zEu q.num W hf.1);have H3:=oH (fun W=>zEu 1 W zRi);rw [str_1] at H3
 have hz:(zUb q).size<=802:=by rw [zUd];exact zUi hf
 generalize zUb q=s at *;generalize str q.num=s1 at *;clear h hf
 go_enter Tryz.func88,Tryz.ntmps88
 go_wp2_with fail;refine (H1.out).mono ?_;rintro e w1 ⟨rfl,hb⟩;have HB:=oH hb;clear hb;go_wp2_with fail;refine (H2.out w1).mono ?_;rintro e w2 ⟨rfl,hb⟩;replace HB:=bTx2 HB hb;clear hb;go_wp2_with fail;refine (H3.out w2).mono ?_;rintro e w3 ⟨rfl,hb⟩;replace HB:=bTx2 HB hb;clear hb;go_wp2_with fail
 go_ret3
 exact ⟨rfl,HB.out⟩
def zSk (n m:Int):Bool:=decide (n≠0)&&decide (1<m)&&decide (n.natAbs.gcd m.natAbs=1)
def zSl (n m:Int):Value:=if zSk n m then .tuple #[.string (str n),.string (str m),.bool true] else .tuple #[.string ⟨#[]⟩,.string ⟨#[]⟩,.bool false]
theorem zEc (s:ByteArray) (n m:Int) (w:World) (hs:s.size<=802) (fn:Fits n) (fm:Fits m) (hsp:∀ W,Calls Tryz.prog 98 #[.string s] W fun e w'=>e = .returned (.tuple #[.string (str n),.string (str m),.bool true])/\Below W.heap.size W w') :
  Calls Tryz.prog 88 #[.string s] w fun e w'=>e = .returned (zSl n m)/\Below w.heap.size w w':=by
 have HSP:=oH (hsp w);have HV1:=oH (fun W=>zEu n W fn);have HV2:=oH (fun W=>zEu m W fm);have HRN:=oH (fun W=>zEi n W fn);have HRM:=oH (fun W=>zEi m W fm);have lnn:=fn.len;have lmm:=fm.len;have hms:=zWo m;have t0:=zWl m hms;have t1:=zWm n;have t2:=zWn m;have t3:=zWm m;have t4:=str_isn1 ((n.natAbs.gcd m.natAbs:Nat):Int);have t5:=zWn ((n.natAbs.gcd m.natAbs:Nat):Int)
 have lg:(limbs (((n.natAbs.gcd m.natAbs:Nat):Int)).natAbs).length<=1000000:=by
  rw [Int.natAbs_natCast]
  rcases Nat.eq_zero_or_pos m.natAbs with e|e
  ·rw [e,Nat.gcd_zero_right];omega
  exact Nat.le_trans (zPd (Nat.gcd_le_right _ e)) oMx
 have HGC:=oH (fun U V W (hU:zBt W U n) (hV:zBt W V m)=>RGcd_any U V n m W hU hV oMx oMx);have HTX:=oH (fun U W (hU:zBt W U ((n.natAbs.gcd m.natAbs:Nat):Int))=>RTextS U _ W hU lg);clear hsp fn fm
 by_cases c1:n=0
 ·rw [decide_eq_true c1] at t1
  have E0:zSk n m=false:=by unfold zSk;simp [c1]
  have E:=oH (show zSl n m=_ by unfold zSl;rw [E0]);clear E0;clear t2 t3 t4 t5 t0 hms c1 HRN HRM lg;generalize str n=s1 at *;generalize str m=s2 at *
  go_enter Tryz.func88,Tryz.ntmps88
  go_wp2_with fail;refine (HSP.out).mono ?_;rintro e w1 ⟨rfl,hb⟩;have HB:=oH hb;clear hb;go_wp2_with fail;refine (HV1.out w1).mono ?_;rintro e w2 ⟨rfl,hb⟩;replace HB:=bTx2 HB hb;clear hb;go_wp2_with fail;refine (HV2.out w2).mono ?_;rintro e w3 ⟨rfl,hb⟩;replace HB:=bTx2 HB hb;clear hb;go_wp2_with fail
  go_ret3
  exact ⟨by rw [E.out];rfl,HB.out⟩
 rw [decide_eq_false c1] at t1
 by_cases c2:m=1
 ·rw [decide_eq_true c2] at t2
  have E0:zSk n m=false:=by unfold zSk;simp [c2]
  have E:=oH (show zSl n m=_ by unfold zSl;rw [E0]);clear E0;clear t3 t4 t5 t0 hms c1 c2 HRN HRM lg;generalize str n=s1 at *;generalize str m=s2 at *
  go_enter Tryz.func88,Tryz.ntmps88
  go_wp2_with fail;refine (HSP.out).mono ?_;rintro e w1 ⟨rfl,hb⟩;have HB:=oH hb;clear hb;go_wp2_with fail;refine (HV1.out w1).mono ?_;rintro e w2 ⟨rfl,hb⟩;replace HB:=bTx2 HB hb;clear hb;go_wp2_with fail;refine (HV2.out w2).mono ?_;rintro e w3 ⟨rfl,hb⟩;replace HB:=bTx2 HB hb;clear hb;go_wp2_with fail
  go_ret3
  exact ⟨by rw [E.out];rfl,HB.out⟩
 rw [decide_eq_false c2] at t2
 by_cases c3:m=0
 ·rw [decide_eq_true c3] at t3
  have E0:zSk n m=false:=by unfold zSk;simp [c3]
  have E:=oH (show zSl n m=_ by unfold zSl;rw [E0]);clear E0;clear t4 t5 t0 hms c1 c2 c3 HRN HRM lg;generalize str n=s1 at *;generalize str m=s2 at *
  go_enter Tryz.func88,Tryz.ntmps88
  go_wp2_with fail;refine (HSP.out).mono ?_;rintro e w1 ⟨rfl,hb⟩;have HB:=oH hb;clear hb;go_wp2_with fail;refine (HV1.out w1).mono ?_;rintro e w2 ⟨rfl,hb⟩;replace HB:=bTx2 HB hb;clear hb;go_wp2_with fail;refine (HV2.out w2).mono ?_;rintro e w3 ⟨rfl,hb⟩;replace HB:=bTx2 HB hb;clear hb;go_wp2_with fail
  go_ret3
  exact ⟨by rw [E.out];rfl,HB.out⟩
 rw [decide_eq_false c3] at t3
 by_cases c4:m<0
 ·rw [decide_eq_true c4] at t0
  have E0:zSk n m=false:=by unfold zSk;simp;omega
  have E:=oH (show zSl n m=_ by unfold zSl;rw [E0]);clear E0;clear t4 t5 c1 c2 c3 c4 HRN HRM lg;generalize str n=s1 at *;generalize str m=s2 at *
  go_enter Tryz.func88,Tryz.ntmps88
  go_wp2_with fail;refine (HSP.out).mono ?_;rintro e w1 ⟨rfl,hb⟩;have HB:=oH hb;clear hb;go_wp2_with fail;refine (HV1.out w1).mono ?_;rintro e w2 ⟨rfl,hb⟩;replace HB:=bTx2 HB hb;clear hb;go_wp2_with fail;refine (HV2.out w2).mono ?_;rintro e w3 ⟨rfl,hb⟩;replace HB:=bTx2 HB hb;clear hb;go_wp2_with fail
  go_ret3
  exact ⟨by rw [E.out];rfl,HB.out⟩
 rw [decide_eq_false c4] at t0
 have c5:1<m:=by omega
 by_cases c6:n.natAbs.gcd m.natAbs=1
 ·rw [decide_eq_true (show ((n.natAbs.gcd m.natAbs:Nat):Int)=1 by omega)] at t4 t5
  have E0:zSk n m=true:=by unfold zSk;simp [c1,c5,c6]
  have E:=oH (show zSl n m=_ by unfold zSl;rw [E0]);clear E0;clear c1 c2 c3 c4 c5 c6;generalize ((n.natAbs.gcd m.natAbs:Nat):Int)=G at *;generalize str n=s1 at *;generalize str m=s2 at *;generalize str G=s3 at *
  go_enter Tryz.func88,Tryz.ntmps88
  go_wp2_with fail;refine (HSP.out).mono ?_;rintro e w1 ⟨rfl,hb⟩;have HB:=oH hb;clear hb;go_wp2_with fail;refine (HV1.out w1).mono ?_;rintro e w2 ⟨rfl,hb⟩;replace HB:=bTx2 HB hb;clear hb;go_wp2_with fail;refine (HV2.out w2).mono ?_;rintro e w3 ⟨rfl,hb⟩;replace HB:=bTx2 HB hb;clear hb;go_wp2_with fail;refine (HRN.out w3).mono ?_;rintro e w4 ⟨v4,rfl,hv,hb⟩;have HN:=oH hv;obtain ⟨x4,X4,y4,z4,rfl⟩:=hv.slice;replace HB:=bTx2 HB hb;clear hb hv;go_wp2_with fail;refine (HRM.out w4).mono ?_;rintro e w5 ⟨v5,rfl,hv,hb⟩;replace HN:=oH (HN.below hb);have HM:=oH hv;obtain ⟨x5,X5,y5,z5,rfl⟩:=hv.slice;replace HB:=bTx2 HB hb;clear hb hv;go_wp2_with fail;refine (HGC.out _ _ w5 HN.out HM.out).mono ?_;rintro e w6 ⟨v6,rfl,hv,hb⟩;clear HN HM;have HG:=oH hv;obtain ⟨x6,X6,y6,z6,rfl⟩:=hv.slice;replace HB:=bTx2 HB hb;clear hb hv;go_wp2_with fail;refine (HTX.out _ w6 HG.out).mono ?_;rintro e w7 ⟨rfl,hb⟩;clear HG;replace HB:=bTx2 HB hb
  clear hb;go_wp2_with fail
  go_ret3
  exact ⟨by rw [E.out];rfl,HB.out⟩
 rw [decide_eq_false (show ¬((n.natAbs.gcd m.natAbs:Nat):Int)=1 by omega)] at t4 t5
 have E0:zSk n m=false:=by unfold zSk;simp [c6]
 have E:=oH (show zSl n m=_ by unfold zSl;rw [E0]);clear E0;clear c1 c2 c3 c4 c5 c6;generalize ((n.natAbs.gcd m.natAbs:Nat):Int)=G at *;generalize str n=s1 at *;generalize str m=s2 at *;generalize str G=s3 at *
 go_enter Tryz.func88,Tryz.ntmps88
 go_wp2_with fail;refine (HSP.out).mono ?_;rintro e w1 ⟨rfl,hb⟩;have HB:=oH hb;clear hb;go_wp2_with fail;refine (HV1.out w1).mono ?_;rintro e w2 ⟨rfl,hb⟩;replace HB:=bTx2 HB hb;clear hb;go_wp2_with fail;refine (HV2.out w2).mono ?_;rintro e w3 ⟨rfl,hb⟩;replace HB:=bTx2 HB hb;clear hb;go_wp2_with fail;refine (HRN.out w3).mono ?_;rintro e w4 ⟨v4,rfl,hv,hb⟩;have HN:=oH hv;obtain ⟨x4,X4,y4,z4,rfl⟩:=hv.slice;replace HB:=bTx2 HB hb;clear hb hv;go_wp2_with fail;refine (HRM.out w4).mono ?_;rintro e w5 ⟨v5,rfl,hv,hb⟩;replace HN:=oH (HN.below hb);have HM:=oH hv;obtain ⟨x5,X5,y5,z5,rfl⟩:=hv.slice;replace HB:=bTx2 HB hb;clear hb hv;go_wp2_with fail;refine (HGC.out _ _ w5 HN.out HM.out).mono ?_;rintro e w6 ⟨v6,rfl,hv,hb⟩;clear HN HM;have HG:=oH hv;obtain ⟨x6,X6,y6,z6,rfl⟩:=hv.slice;replace HB:=bTx2 HB hb;clear hb hv;go_wp2_with fail;refine (HTX.out _ w6 HG.out).mono ?_;rintro e w7 ⟨rfl,hb⟩;clear HG;replace HB:=bTx2 HB hb
 clear hb;go_wp2_with fail
 go_ret3
 exact ⟨by rw [E.out];rfl,HB.out⟩
theorem zEb (q:Rat) (w:World) (h:q.den≠1) (hf:zBc q):Calls Tryz.prog 88 #[.string (zUb q)] w fun e w'=>e = .returned (.tuple #[.string (str q.num),.string (str (q.den:Int)),.bool true])/\Below w.heap.size w w':=by
 have:=zEc (zUb q) q.num (q.den:Int) w (by rw [zUd];exact zUi hf) hf.1 hf.2 (fun W=>zWa h hf W);have hv:=zZi hf
 rw [zZc (l:=zUg q) (n:=q.num) (m:=(q.den:Int)) (by rw [zKh h]) (by rw [zKh h]) (by rw [zKh h]) hf.1 hf.2 (by
  intro h0
  have:=q.reduced;rw [h0] at this
  simp [Nat.Coprime] at this
  exact h this) (by have:=q.den_pos;omega)] at hv
 have hp:zSk q.num (q.den:Int)=true:=by
  unfold zSk;rw [hv]
  have h1:q.num≠0:=by
   intro h0
   have:=q.reduced;rw [h0] at this
   simp [Nat.Coprime] at this
   exact h this
  have h2:1<(q.den:Int):=by have:=q.den_pos;omega
  simp [h1,h2]
 rw [show zSl q.num (q.den:Int)=_ by unfold zSl;rw [hp]] at this;exact this
theorem zEa (q:Rat) (w:World) (hf:zBc q):Calls Tryz.prog 88 #[.string (zUb q)] w fun e w'=>e = .returned (.tuple #[.string (str q.num),.string (str (q.den:Int)),.bool true])/\Below w.heap.size w w':=by
 by_cases h:q.den=1
 ·have:=zEd q w h hf;rw [<-str_1] at this;rw [h];exact this
 exact zEb q w h hf
open Go.RowKit
def Apart (b:Nat) (v:Value):Prop:=∃ nb A l c,v = .agg #[.bool nb,.slice A l c]/\∀ bb off,A=some ⟨bb,off,none⟩->bb≠b
def RetLong (w:World) (b d:Nat) (e:Ending) (w':World):Prop:=∃ q:Rat,e = .returned (.string (zUb q))/\DigR d q/\Src w' b/\w.grownBy w' (some b)
def LongS (w:World) (b d g:Nat) (W:World):Prop:=∃ (z:Int) (nb:Bool) (A:oAx) (l c:Nat),z≠0/\Dig d z/\Blk W g 133 [.bool nb,.slice A l c]/\zBt W (.agg #[.bool nb,.slice A l c]) z/\Apart b (.agg #[.bool nb,.slice A l c])/\Src W b/\w.grownBy W (some b)/\b<g
open Go.ChangeShapes Go.WideShapes Go.ChangeAt Go.RowKit
theorem env_of {W:World} (h:laidMetH Tryz.prog laidList W) (hs:W.ShapedOpen Tryz.prog):Env W :=
 ⟨tab_of h,cell_of_shapedOpen_int (zero:=#[.int .i64 0]) (t:=3) hs (of_decide_eq_true (by kernel_rfl)) (by kernel_rfl) rfl (by kernel_rfl) (by kernel_rfl) Tryz.underlying3⟩
theorem zEw (b:Nat) (lo hi:Int) (w:World) (hs:Src w b) (h1:lo<=hi) (h2 : -100000<=lo) (h3:hi<=100000) :
  Calls Tryz.prog 29 #[.pointer (some ⟨b,0,none⟩),.int .i64 lo,.int .i64 hi] w fun e w'=>∃ r:Int,e = .returned (.int .i64 r)/\(lo<=r/\r<=hi)/\Src w' b/\w.grownBy w' (some b):=by
 have HN:=oH (zCm b (hi-lo+1) w hs oMx oMx);clear hs
 go_enter Tryz.func29,Tryz.ntmps29
 go_wp2_with fail;refine HN.mono ?_;rintro e w1 ⟨r,rfl,hr,hs1,hg1⟩;have HS1:=oH hs1;have HG1:=oH hg1;clear hs1 hg1;go_wp2_with fail;go_ret
 exact ⟨lo+(r:Int),rfl,⟨oMx,oMx⟩,HS1.out,HG1.out⟩
theorem zDn (b g n:Nat) (S:Nat->Int) (w:World) (hs:Src w b) (hrow:∀ i,i<n->w.cell? ⟨g,i,none⟩=some (.int .i64 (S i))) (hgb:g≠b) (hg:g<w.heap.size) (hn1:1<=n) (hn2:n<=1000) :
  Calls Tryz.prog 31 #[.pointer (some ⟨b,0,none⟩),.slice (some ⟨g,0,none⟩) n n] w fun e w'=>∃ i,i<n/\e = .returned (.int .i64 (S i))/\Src w' b/\w.grownBy w' (some b):=by
 have HS:=oH hs;have HROW:=oH hrow;clear hs hrow
 go_enter Tryz.func31,Tryz.ntmps31
 go_wp2_with fail;refine (zCm b (n:Int) w HS.out oMx oMx).mono ?_;rintro e w1 ⟨r,rfl,hr,hs1,hg1⟩;have hcell:w1.cell? ⟨g,r,none⟩=some (.int .i64 (S r)):=(World.cell?_of_block (w:=w) (a:=⟨g,r,none⟩) (hg1.block g hg (fun e=>hgb (by injection e)))).trans (HROW.out r oMx);have HS1:=oH hs1;have HG1:=oH hg1
 have hrn:r<n:=by omega
 clear hs1 hg1;go_wp2_with fail;go_ret
 exact ⟨r,hrn,rfl,HS1.out,HG1.out⟩
def Small1 (q:Rat):Prop:=q.num.natAbs<=9/\q.den<=4
def dens:List Int:=[1,1,1,2,3,4]
def RetRat (w:World) (b:Nat) (e:Ending) (w':World):Prop:=∃ q:Rat,e = .returned (.string (zUb q))/\Small1 q/\Src w' b/\w.grownBy w' (some b)
def oddRats:List ByteArray:=[⟨#[]⟩,⟨#[49,47,49]⟩,⟨#[50,47,52]⟩,⟨#[49,47,45,50]⟩,⟨#[49,47,48]⟩,⟨#[48,47,51]⟩,⟨#[45,49,47,50]⟩,⟨#[49,47,50,47,51]⟩,⟨#[47,50]⟩,⟨#[49,47]⟩,⟨#[45,48]⟩,⟨#[55]⟩,⟨#[49,50,51,52,53,54,55,56,57,48,49,50,51,52,53,54,55,56,57,48,47,55]⟩]
end Go.Proofs.YtafflnognagadaaGreatDoor
