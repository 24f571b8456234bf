import Derived.Test.YtafflnognagadaaGreatDoorShelfC
import Derived.Test.YtafflnognagadaaGreatDoorZJ
set_option maxHeartbeats 16000000
set_option maxRecDepth 100000
namespace Go.Proofs.YtafflnognagadaaGreatDoor
open Go.RowKit
def letB (c:UInt8):Bool:=decide (97<=c.toNat/\c.toNat<=122)
def zWw (c:UInt8):Bool:=letB c || decide (c.toNat=45) || zLf c
def okW:List UInt8->Bool
 | []=>true
 | c::r=>letB c&&r.all zWw
def xAk (l:List UInt8):Bool:=okW l&&decide (1<=l.length/\l.length<=12)
theorem okW_snoc (l:List UInt8) (d:UInt8):okW (l++[d])=(okW l&&(if l=[] then letB d else zWw d)):=by
 cases l with
 | nil=>simp [okW]
 | cons c r=>simp [okW,Bool.and_assoc]
theorem okW_take {l:List UInt8} (n:Nat) (h:okW l=true):okW (l.take n)=true:=by
 cases l with
 | nil=>simp [okW]
 | cons c r =>
  cases n with
  | zero=>rfl
  | succ n =>
   rw [List.take_succ_cons];unfold okW at *;rw [Bool.and_eq_true_iff,List.all_eq_true] at *;exact ⟨h.1,fun x hx=>h.2 x (List.mem_of_mem_take hx)⟩
theorem zGv (s:ByteArray) (w:World) (hs:s.size<=9223372036854775807):Calls Tryz.prog 105 #[.string s] w fun e w'=>e = .returned (.bool (xAk s.data.toList))/\Below w.heap.size w w':=by
 have hcv:=fun W=>Lib.run_convert_string_bytes (P:=Tryz.prog) W 9 94 5 s Tryz.underlying9 Tryz.underlying94 Tryz.underlying5
 have HL:=oH (show s.data.toList.length=s.size from Array.length_toList)
 have HNO:=oH (fun k (h:okW (s.data.toList.take k)=false)=>show xAk s.data.toList=false by
  unfold xAk
  cases ho:okW s.data.toList with
  | false=>rfl
  | true=>rw [okW_take k ho] at h;cases h)
 go_enter Tryz.func105,Tryz.ntmps105
 go_wp2_with fail;clear hcv
 go_loop [9] (fun ix=>∃ k:Nat,k<=s.size/\ix = .int .i64 (k:Int)/\okW (s.data.toList.take k)=true) (fun ix=>s.size-(intOf ix).toNat)
 ·exact ⟨0,oLx,rfl,rfl⟩
 obtain ⟨k,hk,rfl,hall⟩:=hrel;have HALL:=oH hall;clear hall
 by_cases hlt:k<s.size
 ·have hcell:=Lib.bytesWorld_cell w 5 s k hlt
  have hts:s.data.toList.take (k+1)=s.data.toList.take k++[s.data.toList.getD k 0]:=by
   rw [List.take_succ_eq_append_getElem (by rw [HL.out];exact hlt)]
   simp [List.getD_eq_getElem?_getD,HL.out,hlt]
  have hnil:(s.data.toList.take k=[])=(k=0):=by
   apply propext
   constructor
   ·intro e
    have:=congrArg List.length e;rw [List.length_take,HL.out,List.length_nil] at this;omega
   rintro rfl;rfl
  have HTS:Hid (okW (s.data.toList.take (k+1))=if k=0 then letB (s.data.toList.getD k 0) else zWw (s.data.toList.getD k 0)):=oH (by rw [hts,okW_snoc,HALL.out,Bool.true_and];simp only [hnil]);clear hts hnil;have HNK:=oH (HNO.out (k+1));generalize s.data.toList.getD k 0=d at *;have hd256:d.toNat<256:=d.toNat_lt;have HLT:=oH (fun h=>show letB d=true from decide_eq_true h);have HLF:=oH (fun h=>show letB d=false from decide_eq_false h)
  by_cases hl1:97<=d.toNat/\d.toNat<=122
  ·have EL:=oH (HLT.out hl1);obtain ⟨g1,g2⟩:=hl1;go_wp2_with fail
   go_round
   ·exact ⟨k+1,oMx,by go_num,by rw [HTS.out];unfold zWw;rw [EL.out];simp⟩
   simp [intOf];omega
  have EL:=oH (HLF.out hl1)
  have hnl:d.toNat<97\/122<d.toNat:=by omega
  have h97:∀ (Q:Prop),(d.toNat<97->Q)->(97<=d.toNat->¬((d.toNat:Int)<=122)->Q)->Q:=fun Q a b=>by
   rcases Nat.lt_or_ge d.toNat 97 with h|h
   ·exact a h
   exact b h oMx
  have H97:=oH h97;clear hl1 hnl h97
  by_cases hk0:k=0
  ·subst hk0;have E:=oH (HNK.out (by rw [HTS.out,if_pos rfl];exact EL.out));refine H97.out _ (fun g=>?_) (fun g g'=>?_)
   ·go_wp2_with fail;go_ret
    exact ⟨by rw [E.out];rfl,Lib.bytesWorld_below _ _ _⟩
   go_wp2_with fail;go_ret
   exact ⟨by rw [E.out];rfl,Lib.bytesWorld_below _ _ _⟩
  have HT2:=oH (show okW (s.data.toList.take (k+1))=(decide (d.toNat=45) || zLf d) by rw [HTS.out,if_neg hk0];unfold zWw;rw [EL.out];rfl)
  have hkz:((k:Int)==0)=false:=by rw [beq_eq_false_iff_ne];omega
  by_cases h45:d.toNat=45
  ·have hz:((d.toNat:Int)==45)=true:=by rw [h45];rfl
   have hz2:((d.toNat:Int) != 45)=false:=by rw [bne,hz];rfl
   have E:=oH (show okW (s.data.toList.take (k+1))=true by rw [HT2.out,decide_eq_true h45];rfl)
   have g:d.toNat<97:=by omega
   clear h45;go_wp2_with fail
   go_round
   ·exact ⟨k+1,oMx,by go_num,E.out⟩
   simp [intOf];omega
  have hz:((d.toNat:Int)==45)=false:=by rw [beq_eq_false_iff_ne];omega
  have hz2:((d.toNat:Int) != 45)=true:=by rw [bne,hz];rfl
  by_cases hd:48<=d.toNat/\d.toNat<=57
  ·have E:=oH (show okW (s.data.toList.take (k+1))=true by rw [HT2.out,show zLf d=true from decide_eq_true hd,Bool.or_true]);obtain ⟨g1,g2⟩:=hd
   have g:d.toNat<97:=by omega
   clear h45;go_wp2_with fail
   go_round
   ·exact ⟨k+1,oMx,by go_num,E.out⟩
   simp [intOf];omega
  have E:=oH (HNK.out (by rw [HT2.out,show zLf d=false from decide_eq_false hd,decide_eq_false h45];rfl));clear h45
  by_cases hd1:d.toNat<48
  ·have g:d.toNat<97:=by omega
   go_wp2_with fail;go_ret
   exact ⟨by rw [E.out];rfl,Lib.bytesWorld_below _ _ _⟩
  have g0:48<=d.toNat:=by omega
  have g1:57<d.toNat:=by omega
  clear hd hd1;refine H97.out _ (fun g=>?_) (fun g g'=>?_)
  ·go_wp2_with fail;go_ret
   exact ⟨by rw [E.out];rfl,Lib.bytesWorld_below _ _ _⟩
  go_wp2_with fail;go_ret
  exact ⟨by rw [E.out];rfl,Lib.bytesWorld_below _ _ _⟩
 obtain rfl:k=s.size:=by omega
 have E:=oH (show xAk s.data.toList=decide (1<=s.size/\s.size<=12) by
  have:=HALL.out;rw [<-HL.out,List.take_length] at this;unfold xAk
  rw [this,Bool.true_and,HL.out])
 clear HNO
 by_cases h1:1<=s.size
 ·have E2:=oH (show xAk s.data.toList=decide ((s.size:Int)<=12) by rw [E.out];exact decide_eq_decide.2 ⟨fun h=>by omega,fun h=>⟨h1,oMx⟩⟩);go_wp2_with fail;go_ret
  exact ⟨by rw [E2.out];rfl,Lib.bytesWorld_below _ _ _⟩
 have E2:=oH (show xAk s.data.toList=false by rw [E.out];exact decide_eq_false (fun h=>h1 h.1));go_wp2_with fail;go_ret
 exact ⟨by rw [E2.out];rfl,Lib.bytesWorld_below _ _ _⟩
def bndB (x:Int):Bool:=zVr x&&(decide (-1000000000<=zVs x)&&decide (zVs x<=1000000000))
theorem zIe (s:ByteArray) (v:Int) (b:Bool) (w:World) (h:Calls Tryz.prog 118 #[.string s] w fun e w'=>e = .returned (.tuple #[.int .i64 v,.bool b])/\Below w.heap.size w w') :
  Calls Tryz.prog 116 #[.string s] w fun e w'=>e = .returned (.bool (b&&(decide (-1000000000<=v)&&decide (v<=1000000000))))/\Below w.heap.size w w':=by
 have HC:=oH h;clear h
 cases b
 ·go_enter Tryz.func116,Tryz.ntmps116
  go_wp2_with fail;refine HC.mono ?_;rintro e w1 ⟨rfl,hb⟩;have HB:=oH hb;clear hb;go_wp2_with fail;go_ret
  exact ⟨rfl,HB.out⟩
 by_cases h1 : -1000000000<=v
 ·have E:=oH (show (true&&(decide (-1000000000<=v)&&decide (v<=1000000000)))=decide (v<=1000000000) by rw [decide_eq_true h1];rfl)
  go_enter Tryz.func116,Tryz.ntmps116
  go_wp2_with fail;refine HC.mono ?_;rintro e w1 ⟨rfl,hb⟩;have HB:=oH hb;clear hb;go_wp2_with fail;go_ret
  exact ⟨by rw [E.out];rfl,HB.out⟩
 have E:=oH (show (true&&(decide (-1000000000<=v)&&decide (v<=1000000000)))=false by rw [decide_eq_false h1];rfl)
 go_enter Tryz.func116,Tryz.ntmps116
 go_wp2_with fail;refine HC.mono ?_;rintro e w1 ⟨rfl,hb⟩;have HB:=oH hb;clear hb;go_wp2_with fail;go_ret
 exact ⟨by rw [show (decide (-1000000000<=v)&&decide (v<=1000000000))=false from E.out];rfl,HB.out⟩
theorem zIf (x:Int) (w:World) (hf:Fits x):Calls Tryz.prog 116 #[.string (str x)] w fun e w'=>e = .returned (.bool (bndB x))/\Below w.heap.size w w':=zIe _ _ _ w (zBm x w hf)
theorem zGn (nm s:ByteArray) (b:Bool) (w:World) (hs:s.toList≠[]) (h:∀ W:World,Calls Tryz.prog 116 #[.string s] W fun e w'=>e = .returned (.bool b)/\Below W.heap.size W w') :
  Calls Tryz.prog 109 #[.agg #[.string nm,.int .i64 1],.string s] w fun e w'=>e = .returned (.bool b)/\Below w.heap.size w w':=by
 have HC:=oH h
 have hse:s.toList.isEmpty=false:=by cases hh:s.toList with|nil=>exact absurd hh hs|cons=>rfl
 clear h
 go_enter Tryz.func109,Tryz.ntmps109
 go_wp2_with fail;refine (HC.out _).mono ?_;rintro e w1 ⟨rfl,hb⟩;have HB:=oH (((Below.refl w.heap.size w).alloc lRx _).trans (hb.mono sMx));clear hb;go_wp2_with fail;go_ret
 exact ⟨rfl,HB.out⟩
theorem zGm (nm:ByteArray) (w:World):Calls Tryz.prog 109 #[.agg #[.string nm,.int .i64 1],.string ⟨#[]⟩] w fun e w'=>e = .returned (.bool true)/\Below w.heap.size w w':=by
 go_enter Tryz.func109,Tryz.ntmps109
 go_wp2_with fail;go_ret
 exact ⟨rfl,(Below.refl w.heap.size w).alloc lRx _⟩
theorem zGq (nm:ByteArray) (w:World):Calls Tryz.prog 109 #[.agg #[.string nm,.int .i64 3],.string ⟨#[]⟩] w fun e w'=>e = .returned (.bool true)/\Below w.heap.size w w':=by
 go_enter Tryz.func109,Tryz.ntmps109
 go_wp2_with fail;go_ret
 exact ⟨rfl,(Below.refl w.heap.size w).alloc lRx _⟩
theorem zGr (nm s:ByteArray) (w:World) (hs:s.toList≠[]) (hz:s.size<=9223372036854775807):Calls Tryz.prog 109 #[.agg #[.string nm,.int .i64 3],.string s] w fun e w'=>e = .returned (.bool (xAk s.data.toList))/\Below w.heap.size w w':=by
 have HC:=oH (fun W=>zGv s W hz)
 have hse:s.toList.isEmpty=false:=by cases hh:s.toList with|nil=>exact absurd hh hs|cons=>rfl
 go_enter Tryz.func109,Tryz.ntmps109
 go_wp2_with fail;refine (HC.out _).mono ?_;rintro e w1 ⟨rfl,hb⟩;have HB:=oH (((Below.refl w.heap.size w).alloc lRx _).trans (hb.mono sMx));clear hb;go_wp2_with fail;go_ret
 exact ⟨rfl,HB.out⟩
theorem zGp (nm s p q:ByteArray) (ok b2 b:Bool) (d:Int) (w:World) (hs:s.toList≠[]) (hP:∀ W,Env W->Calls Tryz.prog 117 #[.string s] W fun e w'=>e = .returned (.tuple #[.string p,.string q,.bool ok])/\Below W.heap.size W w')
  (hS:∀ W:World,Calls Tryz.prog 118 #[.string q] W fun e w'=>e = .returned (.tuple #[.int .i64 d,.bool b2])/\Below W.heap.size W w') (hC:∀ W:World,Calls Tryz.prog 116 #[.string p] W fun e w'=>e = .returned (.bool b)/\Below W.heap.size W w') (henv:Env w) :
  Calls Tryz.prog 109 #[.agg #[.string nm,.int .i64 2],.string s] w fun e w'=>e = .returned (.bool (ok&&(b&&decide (1<=d/\d<=12))))/\Below w.heap.size w w':=by
 have HP:=oH hP;have HS:=oH hS;have HC:=oH hC
 have hse:s.toList.isEmpty=false:=by cases hh:s.toList with|nil=>exact absurd hh hs|cons=>rfl
 clear hP hS hC
 cases ok
 ·have E:=oH (show (false&&(b&&decide (1<=d/\d<=12)))=false from rfl)
  go_enter Tryz.func109,Tryz.ntmps109
  go_wp2_with fail;refine (HP.out _ ?_).mono ?_
  ·exact henv.below ((Below.refl w.heap.size w).alloc lRx _)
  rintro e w1 ⟨rfl,hb⟩;have HB:=oH (((Below.refl w.heap.size w).alloc lRx _).trans (hb.mono sMx));clear hb;go_wp2_with fail;refine (HS.out _).mono ?_;rintro e w2 ⟨rfl,hb⟩;replace HB:=bTx2 HB hb;clear hb;go_wp2_with fail;go_ret
  exact ⟨rfl,HB.out⟩
 cases b
 ·go_enter Tryz.func109,Tryz.ntmps109
  go_wp2_with fail;refine (HP.out _ ?_).mono ?_
  ·exact henv.below ((Below.refl w.heap.size w).alloc lRx _)
  rintro e w1 ⟨rfl,hb⟩;have HB:=oH (((Below.refl w.heap.size w).alloc lRx _).trans (hb.mono sMx));clear hb;go_wp2_with fail;refine (HS.out _).mono ?_;rintro e w2 ⟨rfl,hb⟩;replace HB:=bTx2 HB hb;clear hb;go_wp2_with fail;refine (HC.out _).mono ?_;rintro e w3 ⟨rfl,hb⟩;replace HB:=bTx2 HB hb;clear hb;go_wp2_with fail;go_ret
  exact ⟨rfl,HB.out⟩
 by_cases h1:1<=d
 ·have E:=oH (show decide (1<=d/\d<=12)=decide (d<=12) from decide_eq_decide.2 ⟨fun h=>h.2,fun h=>⟨h1,h⟩⟩);obtain ⟨r,hr⟩:=eXx (decide (1<=d/\d<=12));have HR:=oH hr;rw [hr];clear hr
  go_enter Tryz.func109,Tryz.ntmps109
  go_wp2_with fail;refine (HP.out _ ?_).mono ?_
  ·exact henv.below ((Below.refl w.heap.size w).alloc lRx _)
  rintro e w1 ⟨rfl,hb⟩;have HB:=oH (((Below.refl w.heap.size w).alloc lRx _).trans (hb.mono sMx));clear hb;go_wp2_with fail;refine (HS.out _).mono ?_;rintro e w2 ⟨rfl,hb⟩;replace HB:=bTx2 HB hb;clear hb;go_wp2_with fail;refine (HC.out _).mono ?_;rintro e w3 ⟨rfl,hb⟩;replace HB:=bTx2 HB hb;clear hb;go_wp2_with fail;go_ret
  exact ⟨by rw [<-HR.out,E.out];rfl,HB.out⟩
 have E:=oH (show decide (1<=d/\d<=12)=false from decide_eq_false fun h=>h1 h.1);obtain ⟨r,hr⟩:=eXx (decide (1<=d/\d<=12));have HR:=oH hr;rw [hr];clear hr
 go_enter Tryz.func109,Tryz.ntmps109
 go_wp2_with fail;refine (HP.out _ ?_).mono ?_
 ·exact henv.below ((Below.refl w.heap.size w).alloc lRx _)
 rintro e w1 ⟨rfl,hb⟩;have HB:=oH (((Below.refl w.heap.size w).alloc lRx _).trans (hb.mono sMx));clear hb;go_wp2_with fail;refine (HS.out _).mono ?_;rintro e w2 ⟨rfl,hb⟩;replace HB:=bTx2 HB hb;clear hb;go_wp2_with fail;refine (HC.out _).mono ?_;rintro e w3 ⟨rfl,hb⟩;replace HB:=bTx2 HB hb;clear hb;go_wp2_with fail;go_ret
 exact ⟨by rw [<-HR.out,E.out];rfl,HB.out⟩
theorem zGo (nm:ByteArray) (w:World) (henv:Env w):Calls Tryz.prog 109 #[.agg #[.string nm,.int .i64 2],.string ⟨#[]⟩] w fun e w'=>e = .returned (.bool true)/\Below w.heap.size w w':=by
 have HP:=oH (fun W hE=>zEx [] W dCx hE (zZa dCx));have HS:=oH (fun W=>zBl [] W dCx dCx)
 go_enter Tryz.func109,Tryz.ntmps109
 go_wp2_with fail;refine (HP.out _ ?_).mono ?_
 ·exact henv.below ((Below.refl w.heap.size w).alloc lRx _)
 rintro e w1 ⟨rfl,hb⟩;have HB:=oH (((Below.refl w.heap.size w).alloc lRx _).trans (hb.mono sMx));clear hb;go_wp2_with fail;refine (HS.out _).mono ?_;rintro e w2 ⟨rfl,hb⟩;replace HB:=bTx2 HB hb;clear hb;go_wp2_with fail;go_ret
 exact ⟨rfl,HB.out⟩
def tv (ss:List ByteArray):List Value:=ss.map Value.string
theorem zXs (ss:List ByteArray):(tv ss).length=ss.length:=by simp [tv]
theorem zXt (ss:List ByteArray) (s:ByteArray):tv (ss++[s])=tv ss++[.string s]:=by simp [tv]
theorem tv_get {ss:List ByteArray} {i:Nat} (h:i<ss.length):(tv ss)[i]? = some (.string ss[i]):=by simp [tv,h]
theorem zQg (A:oAx) (ss:List ByteArray) (s:ByteArray) (n c:Nat) (r:Bool) (w:World) (h:zGl w A (tv (ss++[s]))) (hn:ss.length=n) (hl:n<=1000) (hc:n+1<=c) (hw:xAk s.data.toList=true) (hz:s.size<=9223372036854775807) (hr:Lib.containsS ss s=r) :
  Calls Tryz.prog 90 #[.slice A (n+1) c,.int .i64 (n:Int)] w fun e w'=>e = .returned (.int .i64 (if r then 9 else 0))/\Below w.heap.size w w':=by
 subst hn;obtain ⟨b,off,rfl,hb,hrow⟩:=h.some (by simp [tv]);have hk:w.cell? ⟨b,off+ss.length,none⟩=some (.string s):=hrow.at_ (by simp [tv]);have HROW:=oH hrow;have HW:=oH (fun W=>zGv s W hz);have HWT:=oH hw;have HR:=oH hr;clear h hrow hw hr
 go_enter Tryz.func90,Tryz.ntmps90
 go_wp2_with fail;refine (HW.out _).mono ?_;rintro e w1 ⟨rfl,hb1⟩;rw [HWT.out];have HB:=oH hb1;have hk1:w1.cell? ⟨b,off+ss.length,none⟩=some (.string s):=(hb1.cell (p:=⟨b,off+ss.length,none⟩) hb).trans hk
 have HC:=oH (fun n=>Tryz.slices_Contains_string b off ss.length c (ss++[s]) s (w1.drewN n) sMx oMx (fun j hj=>by
  rw [show (w1.drewN n).cell? ⟨b,off+j,none⟩=w1.cell? ⟨b,off+j,none⟩ from rfl,hb1.cell (p:=⟨b,off+j,none⟩) hb];refine HROW.at_ ?_;rw [tv_get hj]
  rw [List.getD_eq_getElem?_getD,List.getElem?_eq_getElem hj];rfl))
 clear hb1
 replace HC:=oH (fun n=>show Calls Tryz.prog 106 #[.slice (some ⟨b,off,none⟩) ss.length c,.string s] (w1.drewN n) fun e w'=>e = .returned (.bool r)/\w'=w1.drewN n by
  have:=HC.out n;rw [List.take_left' rfl,HR.out] at this
  exact this)
 cases r
 all_goals
  go_wp2_with fail
  go_quiet ((go_at_call 106;exact Calls.quiet_of_same (HC.out _)))
  go_wp2_with fail;go_ret
  exact ⟨rfl,below_drewN HB.out _⟩
def av (at1:List (ByteArray × Int)):List Value:=at1.flatMap fun a=>[.string a.1,.int .i64 a.2]
theorem zHq {at1:List (ByteArray × Int)} (h:at1≠[]):av at1≠[]:=by
 cases at1 with
 | nil=>exact absurd rfl h
 | cons a r=>simp [av]
theorem zHp:∀ {at1:List (ByteArray × Int)} {i:Nat} (h:i<at1.length),(av at1)[i*2]? = some (.string at1[i].1)/\(av at1)[i*2+1]? = some (.int .i64 at1[i].2)
 | a::r,0,_=>⟨rfl,rfl⟩
 | a::r,i+1,h=>by
  have:=zHp (at1:=r) (i:=i) (by simpa using h);rw [show (i+1)*2=i*2+2 by omega,show i*2+2+1=(i*2+1)+2 by omega];exact this
theorem xAl {s:ByteArray} (h:xAk s.data.toList=true):s.size<=12:=by
 unfold xAk at h;rw [Bool.and_eq_true_iff,decide_eq_true_eq] at h;exact h.2.2
theorem Tryz.infoStr:(Tryz.prog.info? 9).map (fun i=>(i.zero,i.size,i.bytes))=some (some (.string ⟨#[]⟩),1,16):=by kernel_rfl
theorem zRl {s:ByteArray}:∀ u∈([Value.string s]:List Value),u.oneCell'=true:=by intro u hu;simp at hu;subst hu;rfl
theorem zSh {w:World} {B e n:Nat} {v:Value} {cs:List Value} (h:w.ownsRow B e 1 v n cs) (hn:cs.length=n):∃ A c,v = .slice A n c/\n<=c/\zGl w A cs/\∀ b off,A=some ⟨b,off,none⟩->B<=b:=by
 have h':=h
 rcases h.2 with ⟨hv,h0⟩|⟨g,cap,cur,hv,hB,hg,hle,hm,hs,htake⟩
 ·subst h0;have:cs=[]:=List.eq_nil_of_length_eq_zero hn;subst this;exact ⟨none,0,hv,by simp,zGl.nil _ _,fun b off e=>by cases e⟩
 refine ⟨_,cap,hv,hle,fun _=>⟨g,0,rfl,?_,fun i hi=>?_⟩,?_⟩
 ·rcases Nat.lt_or_ge g w.heap.size with h'|h'
  ·exact h'
  rw [Array.getElem?_eq_none h'] at hg;cases hg
 ·subst hv;have:=h'.cellAt i oMx;rw [Nat.zero_add,this]
  simp
 intro b off e
 injection e with e;injection e with e;omega
theorem zRk {w:World} {u:Value} {t:TypeId} {g:Nat} (hg:w.heap.size=g):∀ (j:Nat) (x:Value),([u]:List Value)[j]? = some x->(w.alloc (.cells #[u] t)).cell? ((⟨g,0,none⟩:Addr).add j)=some x:=by subst hg;exact zRj
theorem app2 {B:Nat} {wr w3:World} {e:TypeId} {v:Value} {n:Nat} {xs:List Value} {cs cs2:Array Value} {t t2:TypeId} {hs:B<=wr.heap.size} (h:wr.ownsRow B e 1 v n xs) (hg:((wr.alloc (.cells cs t)).alloc (.cells cs2 t2)).grownBy w3 v.ownBlock) :
  Blk w3 wr.heap.size t cs.toList/\wr.heap.size+2<=w3.heap.size/\Below B wr w3:=by
 have hsz:=hg.size;rw [World.size_alloc,World.size_alloc] at hsz
 have hne:∀ g,some g=v.ownBlock->B<=g/\g<wr.heap.size:=fun g e=>h.lt g e.symm
 refine ⟨?_,oMx,?_⟩
 ·have h1:Blk (wr.alloc (.cells cs t)) wr.heap.size t cs.toList:=Blk.new wr t cs.toList;exact (h1.alloc _).grown hg (fun e=>by have:=hne _ e;omega)
 refine ⟨hg.os,hg.tape,hg.output,oMx,fun i hi=>?_⟩;rw [hg.block i (by simp;omega) (fun e=>by have:=hne _ e;omega)];rw [Below.heap_alloc _ _ i (by simp;omega)];exact Below.heap_alloc wr _ i oMx
def twc (r:Bool):Int:=if r then 9 else 0
theorem zQj {ss:List ByteArray} {s:ByteArray}:(ss++[s]).Nodup↔ss.Nodup/\Lib.containsS ss s=false:=by
 rw [List.nodup_append]
 have:Lib.containsS ss s=false↔s ∉ ss:=by rw [<-Lib.containsS_iff];cases Lib.containsS ss s<;>simp
 rw [this]
 constructor
 ·rintro ⟨h1, -,h3⟩;exact ⟨h1,fun h=>h3 s h s sMx rfl⟩
 rintro ⟨h1,h2⟩
 exact ⟨h1,by simp,fun a ha b hb e=>by
  rw [List.mem_singleton] at hb;subst hb e
  exact h2 ha⟩
theorem zHo (A:oAx) (at1:List (ByteArray × Int)) (c:Nat) (v1 v2 v3:Value) (r:Bool) (w:World) (h:zGl w A (av at1)) (hl:at1.length<=1000) (hw:∀ a∈at1,xAk a.1.data.toList=true/\1<=a.2/\a.2<=3) (hr:r=true↔¬(at1.map (·.1)).Nodup) :
  Calls Tryz.prog 78 #[.agg #[.slice A at1.length c,v1,v2,v3]] w fun e w'=>e = .returned (.int .i64 (twc r))/\Below w.heap.size w w':=by
 obtain ⟨i0,hi,hz0,hz1,hz2⟩:=info_parts Tryz.infoStr;have HROW:=oH h;have HW:=oH hw;have HR:=oH hr;clear h hw hr
 go_enter Tryz.func78,Tryz.ntmps78
 go_wp2_with fail
 go_loopw [3,10] (fun v iv wr=>∃ k:Nat,iv = .int .i64 (k:Int)/\k<=at1.length/\((at1.map (·.1)).take k).Nodup/\wr.ownsRow (w.heap.size+1) 9 1 v k (tv ((at1.map (·.1)).take k))/\Below (w.heap.size+1) (w.alloc (.cells #[.slice A at1.length c,v1,v2,v3] 31)) wr) (fun _ iv _=>at1.length-(intOf iv).toNat)
 ·exact ⟨0,rfl,oLx,List.nodup_nil,World.ownsRow_nil _ _ _ _,bRx⟩
 obtain ⟨k,rfl,hk,hnd,hown,hbel⟩:=hrel;have HND:=oH hnd;have HOWN:=oH hown;have HBEL:=oH hbel;clear hnd hown hbel
 by_cases hlt:k<at1.length
 ·obtain ⟨b,off,rfl,hb,hrow⟩:=HROW.some (zHq (by intro e;subst e;simp at hlt))
  have hb2:b<w.heap.size+1:=by omega
  obtain ⟨hg1,hg2⟩:=zHp hlt;have hc1:=(HBEL.cell (p:=⟨b,off+k*2,none⟩) hb2).trans ((World.cell?_alloc_lt w _ ⟨b,off+k*2,none⟩ hb).trans (hrow.at_ hg1));have hc2:wr.cell? ⟨b,off+k*2+1,none⟩=_:=(HBEL.cell (p:=⟨b,off+(k*2+1),none⟩) hb2).trans ((World.cell?_alloc_lt w _ ⟨b,off+(k*2+1),none⟩ hb).trans (hrow.at_ hg2));clear hrow hg1 hg2;obtain ⟨hwd,hk1,hk2⟩:=HW.out at1[k] (List.getElem_mem hlt)
  have hts:(at1.map (·.1)).take (k+1)=(at1.map (·.1)).take k++[at1[k].1]:=by rw [List.take_succ_eq_append_getElem (by simpa using hlt)];simp
  have HTS:=oH hts;generalize at1[k].1=s at *;generalize at1[k].2=z at *;clear hts;have HWD:=oH hwd;clear hwd;have hsz:=HBEL.size;rw [World.size_alloc] at hsz
  have hk3:k<=1000:=by omega
  go_wp2_with (at_builtin;refine wpList_append_own _ rfl _ _ 62 rfl (w.heap.size+1) 9 i0 (.string ⟨#[]⟩) 1 16 Tryz.underlying62 hi hz0 hz1 hz2 rfl dCx _ _ _ rfl ((HOWN.alloc _).alloc _) ⟨wr.heap.size+1,0,none⟩ 1 1 [_] rfl rfl (zRk sMx) zRl (by unfold maxLen;omega) oMx (by simp;omega) ?_)
  intro v' w3 hown3 hgrow3 _
  obtain ⟨hblk3,hgr3,hbel3⟩:=app2 (hs:=hsz) HOWN.out hgrow3
  have hkc:((at1.map (·.1)).take k).length=k:=by rw [List.length_take,List.length_map];omega
  obtain ⟨A',c',rfl,hc',hrow',hfar⟩:=zSh hown3 (by rw [List.length_append,zXs,hkc];rfl)
  have hrow4:zGl w3 A' (tv ((at1.map (·.1)).take k++[s])):=by rw [zXt];exact hrow'
  have hd1:=hblk3.at_ (i:=0) rfl;have hd2:=hblk3.at_ (i:=1) rfl;have HBLK:=oH hblk3;have HOWN3:=oH hown3;have HBEL3:=oH (HBEL.trans hbel3);have hsz3:wr.heap.size<w3.heap.size:=hblk3.lt
  cases hin:Lib.containsS ((at1.map (·.1)).take k) s with
  | false =>
   have HN:=oH (zQg A' _ s k c' false w3 hrow4 hkc hk3 hc' HWD.out (by have:=xAl HWD.out;omega) hin)
   have HND2:Hid (((at1.map (·.1)).take (k+1)).Nodup):=by
    rw [HTS.out];exact oH (zQj.2 ⟨HND.out,hin⟩)
   clear hown3 hgrow3 hblk3 hgr3 hbel3 hkc hrow' hfar hrow4 hin;go_wp2_with fail;refine HN.mono ?_;rintro e w4 ⟨rfl,hb4⟩;have hd2':=(hb4.cell (p:=⟨wr.heap.size,1,none⟩) hsz3).trans hd2;have HO4:=oH (zRq HOWN3.out hb4);have HB4:=oH (HBEL3.trans (hb4.mono oMx));clear hb4;go_wp2_with fail;go_roundw
   ·exact ⟨k+1,by go_num,oMx,HND2.out,by rw [HTS.out,zXt];exact HO4.out,HB4.out⟩
   simp [intOf];omega
  | true =>
   have HN:=oH (zQg A' _ s k c' true w3 hrow4 hkc hk3 hc' HWD.out (by have:=xAl HWD.out;omega) hin)
   have ER:Hid (r=true):=by
    refine oH (HR.2 fun hall=>?_);have h2:=(List.take_sublist (k+1) _).nodup hall;rw [HTS.out,zQj,hin] at h2
    cases h2.2
   clear hown3 hgrow3 hblk3 hgr3 hbel3 hkc hrow' hfar hrow4 hin;go_wp2_with fail;refine HN.mono ?_;rintro e w4 ⟨rfl,hb4⟩;have HB4:=oH (HBEL3.trans (hb4.mono oMx));clear hb4;go_wp2_with fail;go_ret
   exact ⟨by rw [ER.out];rfl,((Below.refl w.heap.size w).alloc lRx _).trans (HB4.mono oMx)⟩
 obtain rfl:k=at1.length:=by omega
 have ER:Hid (r=false):=by
  have:=HND.out;rw [List.take_of_length_le sMx] at this
  cases r with
  | false=>exact oH rfl
  | true=>exact absurd this (HR.1 rfl)
 go_wp2_with fail;go_ret
 exact ⟨by rw [ER.out];rfl,((Below.refl w.heap.size w).alloc lRx _).trans (HBEL.mono oMx)⟩
def bv (us:List Bool):List Value:=us.map Value.bool
theorem zJa (us:List Bool):(bv us).length=us.length:=by simp [bv]
theorem zIz {us:List Bool} {i:Nat} (h:i<us.length):(bv us)[i]? = some (.bool us[i]):=by simp [bv,h]
def idxF (us:List Bool):Int:=match us.findIdx? (fun b => !b) with|some i=>(i:Int)|none => -1
theorem idxF_at {us:List Bool} {k:Nat} (hk:k<us.length) (h:us[k]=false) (hb:∀ j,(hj:j<k)->us[j]=true):idxF us=k:=by
 unfold idxF;rw [show us.findIdx? (fun b => !b)=some k from List.findIdx?_eq_some_iff_getElem.2 ⟨hk,by simp [h],fun j hj=>by simp [hb j hj]⟩]
theorem idxF_no {us:List Bool} (hb:∀ j,(hj:j<us.length)->us[j]=true):idxF us = -1:=by
 unfold idxF
 rw [show us.findIdx? (fun b => !b)=none from List.findIdx?_eq_none_iff.2 fun x hx=>by
  obtain ⟨j,hj,e⟩:=List.getElem_of_mem hx
  rw [<-e,hb j hj];rfl]
theorem idxF_has (us:List Bool):decide (0<=idxF us)=us.contains false:=by
 rw [Bool.eq_iff_iff,decide_eq_true_eq,List.contains_iff_mem];unfold idxF
 constructor
 ·intro h
  split at h
  ·rename_i i e
   obtain ⟨hi,he,_⟩:=List.findIdx?_eq_some_iff_getElem.1 e
   have:us[i]=false:=by simpa using he
   rw [<-this];exact List.getElem_mem hi
  omega
 intro h
 split
 ·omega
 rename_i e
 have:=List.findIdx?_eq_none_iff.1 e false h
 simp at this
theorem zBq (A:oAx) (us:List Bool) (c:Nat) (w:World) (h:zGl w A (bv us)) (hl:us.length<=9223372036854775807) :
  Calls Tryz.prog 107 #[.slice A us.length c,.bool false] w fun e w'=>e = .returned (.int .i64 (idxF us))/\w=w':=by
 have HROW:=oH h;clear h
 go_enter Tryz.func107,Tryz.ntmps107
 go_wp2_with fail
 go_loop [8] (fun iv=>∃ k:Nat,iv = .int .i64 (k:Int)/\k<=us.length/\∀ j,(hj:j<us.length)->j<k->us[j]=true) (fun iv=>us.length-(intOf iv).toNat)
 ·exact ⟨0,rfl,oLx,fun j _ h=>absurd h oMx⟩
 obtain ⟨k,rfl,hk,hall⟩:=hrel;have HALL:=oH hall;clear hall
 by_cases hlt:k<us.length
 ·obtain ⟨b,off,rfl,hb,hrow⟩:=HROW.some (by intro e;have:=congrArg List.length e;rw [zJa] at this;simp at this;subst this;simp at hlt);have hc:=hrow.at_ (zIz hlt);have HX:=oH (fun h=>idxF_at hlt h fun j hj=>HALL.out j oMx hj)
  have HY:=oH (fun (h:us[k]=true) j (hj:j<us.length) (hjk:j<k+1)=>show us[j]=true by
   rcases Nat.lt_or_ge j k with h1|h1
   ·exact HALL.out j hj h1
   obtain rfl:j=k:=by omega
   exact h)
  generalize us[k]=x at *;clear hrow
  cases x
  ·have E:=oH (HX.out rfl);go_wp2_with fail;go_ret
   exact ⟨by rw [E.out];rfl,rfl⟩
  go_wp2_with fail
  go_round
  ·exact ⟨k+1,by go_num,oMx,HY.out rfl⟩
  simp [intOf];omega
 obtain rfl:k=us.length:=by omega
 have E:=oH (idxF_no (us:=us) fun j hj=>HALL.out j hj hj);go_wp2_with fail;go_ret
 exact ⟨by rw [E.out];rfl,rfl⟩
theorem zAm (A:oAx) (us:List Bool) (c:Nat) (w:World) (h:zGl w A (bv us)) (hl:us.length<=9223372036854775807) :
  Calls Tryz.prog 91 #[.slice A us.length c,.bool false] w fun e w'=>e = .returned (.bool (us.contains false))/\w=w':=by
 have H:=oH (zBq A us c w h hl);have E:=oH (idxF_has us);generalize us.contains false=r at *;generalize idxF us=z at *;clear h
 go_enter Tryz.func91,Tryz.ntmps91
 go_wp2_with fail;refine H.mono ?_;rintro e w' ⟨rfl,rfl⟩;go_wp2_with fail;go_ret
 exact ⟨by rw [<-E.out];rfl,rfl⟩
structure zFg where
 nm:ByteArray
 ad:Option Addr
 cp:Nat
 xs:List Nat
def zTe (rs:List zFg):List Value:=rs.flatMap fun r=>[.string r.nm,.slice r.ad r.xs.length r.cp]
theorem zTg {rs:List zFg} (h:rs≠[]):zTe rs≠[]:=by
 cases rs with
 | nil=>exact absurd rfl h
 | cons a r=>simp [zTe]
theorem zTf:∀ {rs:List zFg} {i:Nat} (h:i<rs.length),(zTe rs)[i*2]? = some (.string rs[i].nm)/\(zTe rs)[i*2+1]? = some (.slice rs[i].ad rs[i].xs.length rs[i].cp)
 | a::r,0,_=>⟨rfl,rfl⟩
 | a::r,i+1,h=>by
  have:=zTf (rs:=r) (i:=i) (by simpa using h);rw [show (i+1)*2=i*2+2 by omega,show i*2+2+1=(i*2+1)+2 by omega];exact this
def zXy (rs:List zFg) (i:Nat):Bool:=rs.any fun r=>r.xs.contains i
def Asc (xs:List Nat):Prop:=∀ i,i+1<xs.length->nth xs i<nth xs (i+1)
structure zFf (n:Nat) (r:zFg):Prop where
 word:xAk r.nm.data.toList=true
 some_:r.xs≠[]
 lt:∀ x∈r.xs,x<n
 asc:Asc r.xs
 room:r.xs.length<=r.cp
 short:r.xs.length<=1000
def zYa (n:Nat) (f:Nat->Bool):List Bool:=(List.range n).map f
theorem zYb (n:Nat) (f:Nat->Bool):(zYa n f).length=n:=by simp [zYa]
theorem zYc (n:Nat) (f:Nat->Bool) (x:Nat):(zYa n f).set x true=zYa n fun i=>f i || i==x:=by
 apply List.ext_getElem?
 intro i
 rw [List.getElem?_set];unfold zYa
 by_cases hi:i<n
 ·by_cases hx:x=i
  ·subst hx;simp [hi]
  have:(i==x)=false:=by rw [beq_eq_false_iff_ne];exact fun e=>hx e.symm
  simp [hi,hx,this]
 simp [hi];omega
theorem bv_set (us:List Bool) (x:Nat) (b:Bool):(bv us).set x (.bool b)=bv (us.set x b):=by simp [bv,List.map_set]
theorem bv_zero (n:Nat):bv (zYa n (zXy []))=List.replicate n (.bool false):=by
 apply List.ext_getElem
 ·simp [bv,zYa]
 intro i h1 h2;simp [bv,zYa,zXy]
theorem Tryz.infoBool:(Tryz.prog.info? 4).map (fun i=>(i.zero,i.size,i.bytes))=some (some (.bool false),1,1):=by kernel_rfl
theorem zUp {P:Program} (t e:TypeId) (i:TypeInfo) (ht:P.underlying t=some (.slice e)) (hi:P.info? e=some i) (hz:i.zero=some (.bool false)) (hs:i.size=1) (hby:i.bytes=1)
  (n:Nat) (hb:n<=1000) (w:World) :
  (Instr.makeSlice t (.int .i64 (n:Int)) (.int .i64 (n:Int))).run P w = .ok (.slice (some ⟨w.heap.size,0,none⟩) n n) (w.alloc (.cells (bv (zYa n (zXy []))).toArray e)):=by
 have hb':(i.bytes:Int)*(n:Int)<=281474976710656:=by rw [hby];omega
 have hr:=run_make (P:=P) w t e i (.bool false) ht hi hz .i64 .i64 n n oMx (Int.le_refl _) hb' oMx
 have hm:madeCells (Value.bool false).cells n=(bv (zYa n (zXy []))).toArray:=by
  apply Array.toList_inj.1
  show (madeCells #[Value.bool false] n).toList=_
  rw [toList_madeCells_one,bv_zero]
 simp only [Int.toNat_natCast,hs,Nat.mul_one,hm] at hr;exact hr
theorem zXz (rs:List zFg) (r:zFg) (i:Nat):zXy (rs++[r]) i=(zXy rs i || r.xs.contains i):=by simp [zXy]
theorem zMv {w w':World} {g b o:Nat} (h:w.grownBy w' (some g)) (hb:b<w.heap.size) (hg:b≠g):w'.cell? ⟨b,o,none⟩=w.cell? ⟨b,o,none⟩:=
 World.cell?_of_block (w:=w) (a:=⟨b,o,none⟩) (h.block b hb (fun e=>hg (by injection e)))
theorem zRw {w w':World} {B e n b:Nat} {v:Value} {xs:List Value} (h:w.ownsRow B e 1 v n xs) (hg:w.grownBy w' (some b)) (hb:b<B):w'.ownsRow B e 1 v n xs :=
 h.kept (row:=some b) hg (by
  rcases hv:v.ownBlock with _|g
  ·exact .inl rfl
  refine .inr ?_;have:=(h.lt g hv).1
  intro e
  injection e with e
  omega)
theorem zHy {w w':World} {B g:Nat} (hg:w.grownBy w' (some g)) (hB:B<=g) (hw:B<=w.heap.size):Below B w w' :=
 ⟨hg.os,hg.tape,hg.output,hg.size,fun i hi=>hg.block i oMx (fun e=>by injection e with e;omega)⟩
def unu (b:Bool):Int:=if b then 0 else 7
theorem zTd (v0A A:oAx) (n c0:Nat) (rs:List zFg) (c:Nat) (v2 v3:Value) (w:World) (h:zGl w A (zTe rs)) (hn:n<=1000) (hl:rs.length<=1000)
  (hf:∀ r∈rs,zFf n r/\zAe .i64 w r.ad r.xs) (hd:(rs.map (·.nm)).Nodup) :
  Calls Tryz.prog 79 #[.agg #[.slice v0A n c0,.slice A rs.length c,v2,v3]] w fun e w'=>e = .returned (.int .i64 (unu ((List.range n).all (zXy rs))))/\Below w.heap.size w w':=by
 obtain ⟨i0,hi,hz0,hz1,hz2⟩:=info_parts Tryz.infoStr;obtain ⟨i1,hj,hy0,hy1,hy2⟩:=info_parts Tryz.infoBool;have HROW:=oH h;have HF:=oH hf;have HD:=oH hd
 have hmk:=fun W=>zUp (P:=Tryz.prog) 111 4 i1 Tryz.underlying111 hj hy0 hy1 hy2 n hn W
 obtain ⟨rr,hrr⟩:=eXx ((List.range n).all (zXy rs));have HRR:=oH hrr;rw [hrr];clear h hf hd hrr
 go_enter Tryz.func79,Tryz.ntmps79
 go_wp2_with fail;clear hmk
 go_loopw [3,18] (fun v iv wr=>∃ k:Nat,iv = .int .i64 (k:Int)/\k<=rs.length/\wr.ownsRow (w.heap.size+2) 9 1 v k (tv ((rs.map (·.nm)).take k))/\Blk wr (w.heap.size+1) 4 (bv (zYa n (zXy (rs.take k))))/\Below (w.heap.size+1) (w.alloc (.cells #[.slice v0A n c0,.slice A rs.length c,v2,v3] 31)) wr) (fun _ iv _=>rs.length-(intOf iv).toNat)
 ·exact ⟨0,rfl,oLx,World.ownsRow_nil _ _ _ _,by
  have:=Blk.new (w.alloc (.cells #[.slice v0A n c0,.slice A rs.length c,v2,v3] 31)) 4 (bv (zYa n (zXy [])));rw [World.size_alloc] at this
  exact this,bRx.alloc sMx _⟩
 obtain ⟨wo,rfl⟩:=nWx wr;obtain ⟨k,rfl,hk,hown,hblk,hbel⟩:=hrel;have HOWN:=oH hown;have HBLK:=oH hblk;have HBEL:=oH hbel;have hgw:=hblk.lt;clear hown hblk hbel
 by_cases hlt:k<rs.length
 ·obtain ⟨b,off,rfl,hb,hrow⟩:=HROW.some (zTg (by intro e;subst e;simp at hlt))
  have hb2:b<w.heap.size+1:=by omega
  obtain ⟨hg1,hg2⟩:=zTf hlt;have hc1:=(HBEL.cell (p:=⟨b,off+k*2,none⟩) hb2).trans ((World.cell?_alloc_lt w _ ⟨b,off+k*2,none⟩ hb).trans (hrow.at_ hg1));have hc2:wo.cell? ⟨b,off+k*2+1,none⟩=_:=(HBEL.cell (p:=⟨b,off+(k*2+1),none⟩) hb2).trans ((World.cell?_alloc_lt w _ ⟨b,off+(k*2+1),none⟩ hb).trans (hrow.at_ hg2));clear hrow hg1 hg2;obtain ⟨hfine,hcells⟩:=HF.out rs[k] (List.getElem_mem hlt)
  have hts:(rs.map (·.nm)).take (k+1)=(rs.map (·.nm)).take k++[rs[k].nm]:=by rw [List.take_succ_eq_append_getElem (by simpa using hlt)];simp
  have HTS:=oH hts;have HTR:=oH (List.take_succ_eq_append_getElem hlt)
  have HNI:Hid (Lib.containsS ((rs.map (·.nm)).take k) rs[k].nm=false):=by
   have h2:=(List.take_sublist (k+1) _).nodup HD.out;rw [hts,zQj] at h2;exact oH h2.2
  obtain ⟨r,hr⟩:=eXx (rs[k]);rw [hr] at hc1 hc2 hfine hcells HTS HTR HNI;clear hts hr;obtain ⟨s,A1,c1,xs⟩:=r;have HFI:=oH hfine;have HCE:=oH hcells;have hxl:xs.length<=1000:=hfine.short
  have hxne:((xs.length:Int)==0)=false:=by
   have hx:xs≠[]:=hfine.some_
   have hx2:xs.length≠0:=fun e=>hx (List.eq_nil_of_length_eq_zero e)
   rw [beq_eq_false_iff_ne];omega
  clear hfine hcells;have hsz:=HBEL.size;rw [World.size_alloc] at hsz
  have hk3:k<=1000:=by omega
  go_wp2_with (at_builtin;refine wpList_append_own _ rfl _ _ 62 rfl (w.heap.size+2) 9 i0 (.string ⟨#[]⟩) 1 16 Tryz.underlying62 hi hz0 hz1 hz2 rfl dCx _ _ _ rfl ((HOWN.alloc _).alloc _) ⟨wo.heap.size+1,0,none⟩ 1 1 [_] rfl rfl (zRk sMx) zRl (by unfold maxLen;omega) oMx (by simp;omega) ?_)
  intro v' w3 hown3 hgrow3 _
  obtain ⟨hblk3,hgr3,hbel3⟩:=app2 (hs:=by omega) HOWN.out hgrow3
  have hkc:((rs.map (·.nm)).take k).length=k:=by rw [List.length_take,List.length_map];omega
  obtain ⟨A',c',rfl,hc',hrow',hfar⟩:=zSh hown3 (by rw [List.length_append,zXs,hkc];rfl)
  have hrow4:zGl w3 A' (tv ((rs.map (·.nm)).take k++[s])):=by rw [zXt];exact hrow'
  have HBLK3:=oH hblk3;have HUSE3:=oH (HBLK.under hbel3 oMx);have HOWN3:=oH hown3;have HBEL3:=oH (HBEL.trans (hbel3.mono oMx));have hsz3:wo.heap.size<w3.heap.size:=hblk3.lt;have HN:=oH (zQg A' _ s k c' false w3 hrow4 hkc hk3 hc' HFI.word (by have:=xAl HFI.word;simp at this;omega) HNI.out);clear hown3 hgrow3 hblk3 hgr3 hbel3 hkc hrow' hfar hrow4;go_wp2_with fail;refine HN.mono ?_;rintro e w4 ⟨rfl,hb4⟩;have HBLK4:=oH (HBLK3.below hb4);have HUSE4:=oH (HUSE3.below hb4);have HOWN4:=oH (zRq HOWN3.out hb4);have HBEL4:=oH (HBEL3.trans (hb4.mono oMx));have hsz4:wo.heap.size<w4.heap.size:=HBLK4.lt;have hd2:w4.cell? ⟨wo.heap.size,1,none⟩=some (.slice A1 xs.length c1):=HBLK4.at_ (i:=1) rfl;clear hb4;obtain ⟨b1,off1,rfl,hb1,hcx⟩:=HCE.out HFI.some_;have HB4:=oH (((Below.refl w.heap.size w).alloc lRx (.cells #[.slice v0A n c0,.slice (some ⟨b,off,none⟩) rs.length c,v2,v3] 31)).trans (HBEL4.mono oMx));have HCX:=oH (fun i (hi:i<xs.length)=>(HB4.cell (p:=⟨b1,off1+i,none⟩) hb1).trans (hcx i hi))
  clear hcx;go_wp2_with fail
  go_loopw [41] (fun iv wj=>∃ j:Nat,iv = .int .i64 (j:Int)/\j<=xs.length/\Blk wj (w.heap.size+1) 4 (bv (zYa n fun i=>zXy (rs.take k) i || (xs.take j).contains i))/\w4.grownBy wj (some (w.heap.size+1))) (fun iv _=>xs.length-(intOf iv).toNat)
  ·exact ⟨0,rfl,oLx,by simp only [List.take_zero,List.contains_nil,Bool.or_false];exact HUSE4.out,World.grownBy.refl _ _⟩
  obtain ⟨j,rfl,hj,huse,hgr⟩:=hrel;obtain ⟨wj,rfl⟩:=nWx wr;have HUSE:=oH huse;have HGR:=oH hgr;have hd2':=(zMv (o:=1) hgr hsz4 oMx).trans hd2;clear huse hgr
  by_cases hltj:j<xs.length
  ·have hcj:=(zMv (o:=off1+j) HGR.out (b:=b1) oMx oMx).trans (HCX.out j hltj);have hxn:nth xs j<n:=HFI.lt _ (by rw [nth,List.getD_eq_getElem?_getD,List.getElem?_eq_getElem hltj];exact List.getElem_mem hltj);have HTJ:=oH (show xs.take (j+1)=xs.take j++[nth xs j] by rw [List.take_succ_eq_append_getElem hltj,nth,List.getD_eq_getElem?_getD,List.getElem?_eq_getElem hltj];rfl);generalize nth xs j=x at *;have hcu:wj.cell? ⟨w.heap.size+1,x,none⟩=some (.bool ((zYa n fun i=>zXy (rs.take k) i || (xs.take j).contains i)[x]'(by rw [zYb];exact hxn))):=HUSE.at_ (zIz (by rw [zYb];exact hxn));have hfu:=HUSE.fr x
   have HUS:=oH (show Blk (wj.setCell ⟨w.heap.size+1,x,none⟩ (.bool true)) (w.heap.size+1) 4 (bv (zYa n fun i=>zXy (rs.take k) i || (xs.take (j+1)).contains i)) by
    have h1:=HUSE.set x (.bool true);rw [bv_set,zYc] at h1
    have e:(fun i=>zXy (rs.take k) i || (xs.take (j+1)).contains i)=fun i=>(zXy (rs.take k) i || (xs.take j).contains i) || i==x:=by
     funext i
     rw [HTJ.out]
     by_cases hix:i=x
     ·subst hix;simp
     have:(i==x)=false:=by rw [beq_eq_false_iff_ne];exact hix
     simp [hix,this]
    rw [e]
    exact h1)
   have HGS:=oH (zMy HGR.out x (.bool true));generalize ((zYa n fun i=>zXy (rs.take k) i || (xs.take j).contains i)[x]'_)=ob at hcu;go_wp2_with fail;go_roundw
   ·exact ⟨j+1,by go_num,oMx,HUS.out,HGS.out⟩
   simp [intOf];omega
  obtain rfl:j=xs.length:=by omega
  have HU5:=oH (show Blk wj (w.heap.size+1) 4 (bv (zYa n (zXy (rs.take (k+1))))) by
   have h1:=HUSE.out;rw [List.take_length] at h1
   have e:zXy (rs.take (k+1))=fun i=>zXy (rs.take k) i || xs.contains i:=by
    funext i
    rw [HTR.out,zXz]
   rw [e]
   exact h1)
  have hsz5:=HGR.size;have HO5:=oH (zRw HOWN4.out HGR.out oMx);have HB5:=oH (HBEL4.trans (zHy HGR.out oMx oMx));have HCJ:=oH (fun i (hi:i<xs.length)=>(zMv (o:=off1+i) HGR.out (b:=b1) oMx oMx).trans (HCX.out i hi))
  have hx1:1<=xs.length:=by
   have h1:xs≠[]:=HFI.some_
   rcases Nat.lt_or_ge 0 xs.length with h2|h2
   ·exact h2
   exact absurd (List.eq_nil_of_length_eq_zero oMx) h1
  go_wp2_with fail
  go_loopw [10] (fun iv wq=>∃ q m:Nat,iv = .int .i64 ((q:Int)+1)/\q+1<=xs.length/\wq=wj.drewN m) (fun iv _=>xs.length-(intOf iv).toNat)
  ·exact ⟨0,0,rfl,hx1,rfl⟩
  obtain ⟨q,m,rfl,hq,rfl⟩:=hrel;have hd2'':(wj.drewN m).cell? ⟨wo.heap.size,1,none⟩=_:=hd2'
  by_cases hltq:q+1<xs.length
  ·have hcq:=HCJ.out q oMx;have hcq1:=HCJ.out (q+1) hltq;have hasc:=HFI.asc q hltq;generalize nth xs q=x0 at *;generalize nth xs (q+1)=x1 at *;go_wp2_with fail
   have e1:IntKind.i64.wrap ((q:Int)+1-1)=q:=by rw [Int.add_sub_cancel];exact IntWalk.i64_in _ oMx
   have e2:(0:Int)<=(q:Int)+1:=by omega
   have e3:(q:Int)+1<(xs.length:Int):=by omega
   have e4:((q:Int)+1).toNat=q+1:=by omega
   go_quiet (fail)
   clear e1 e2 e3 e4;go_wp2_with fail;go_roundw
   ·exact ⟨q+1,_,by go_num,oMx,rfl⟩
   simp [intOf];omega
  have hq2:xs.length<=q+1:=by omega
  go_wp2_with fail;go_roundw
  ·exact ⟨k+1,by go_num,oMx,by rw [HTS.out,zXt];exact HO5.out,HU5.out,below_drewN HB5.out _⟩
  simp [intOf];omega
 obtain rfl:k=rs.length:=by omega
 have HU:=oH (show zGl wo (some ⟨w.heap.size+1,0,none⟩) (bv (zYa n (zXy rs))) by
  have h1:=HBLK.out;rw [List.take_length] at h1
  exact fun _=>⟨w.heap.size+1,0,rfl,h1.lt,fun i hi=>by rw [Nat.zero_add,h1.cell i,List.getElem?_eq_getElem hi]⟩)
 have HC:=oH (zAm _ _ n wo HU.out (by rw [zYb];omega))
 have E:Hid ((zYa n (zXy rs)).contains false = !rr):=by
  refine oH ?_;rw [<-HRR.out,Bool.eq_iff_iff,List.contains_iff_mem,Bool.not_eq_true',<-Bool.not_eq_true,List.all_eq_true];unfold zYa;rw [List.mem_map]
  constructor
  ·rintro ⟨i,hi,e⟩ h2;rw [h2 i hi] at e
   cases e
  intro h2
  refine Classical.byContradiction fun h3=>h2 fun i hi=>?_
  cases hu:zXy rs i with
  | true=>rfl
  | false=>exact absurd ⟨i,hi,hu⟩ h3
 rw [zYb] at HC;rw [E.out] at HC
 cases rr
 all_goals
  go_wp2_with fail;refine HC.mono ?_;rintro e w' ⟨rfl,rfl⟩;go_wp2_with fail;go_ret
  exact ⟨rfl,((Below.refl w.heap.size w).alloc lRx _).trans (HBEL.mono oMx)⟩
structure zBa where
 a:Nat
 k:Int
 m:Int
def fv (fs:List zBa):List Value:=fs.flatMap fun f=>[.int .i64 (f.a:Int),.int .i64 f.k,.int .i64 f.m]
theorem fv_nil {fs:List zBa} (h:fs≠[]):fv fs≠[]:=by
 cases fs with
 | nil=>exact absurd rfl h
 | cons a r=>simp [fv]
theorem zMp:∀ {fs:List zBa} {i:Nat} (h:i<fs.length),(fv fs)[i*3]? = some (.int .i64 (fs[i].a:Int))/\(fv fs)[i*3+1]? = some (.int .i64 fs[i].k)/\(fv fs)[i*3+2]? = some (.int .i64 fs[i].m)
 | a::r,0,_=>⟨rfl,rfl,rfl⟩
 | a::r,i+1,h=>by
  have:=zMp (fs:=r) (i:=i) (by simpa using h);rw [show (i+1)*3=i*3+3 by omega,show i*3+3+1=(i*3+1)+3 by omega,show i*3+3+2=(i*3+2)+3 by omega];exact this
structure zAy (at1:List (ByteArray × Int)) (lb:Int) (f:zBa):Prop where
 lt:f.a<at1.length
 kind:(f.k=1/\at1[f.a].2=2/\(f.m=0\/f.m=1))\/(f.k=2/\at1[f.a].2=3/\f.m=0)
 other:(f.a:Int)≠lb
theorem feat1 (g x y:Nat) (k m:Int) (w:World) (h:w.cell? ⟨g,0,none⟩=some (.int .i64 (y:Int))) (hg:g<w.heap.size) :
  Calls Tryz.prog 93 #[.agg #[.int .i64 (x:Int),.int .i64 k,.int .i64 m],.pointer (some ⟨g,0,none⟩)] w fun e w'=>e = .returned (.bool ((x:Int)==(y:Int)))/\Below w.heap.size w w':=by
 go_enter Tryz.func93,Tryz.ntmps93
 go_wp2_with fail;go_ret
 exact ⟨rfl,bA⟩
theorem zBn (b off y g n c:Nat) (fs:List zBa) (w:World) (h:zGl w (some ⟨b,off,none⟩) (fv fs)) (hb:b<w.heap.size) (hn:n<=fs.length) (hl:n<=1000) (hy:∀ i,(hi:i<fs.length)->i<n->fs[i].a≠y) (hg:w.cell? ⟨g,0,none⟩=some (.int .i64 (y:Int))) (hgl:g<w.heap.size) :
  Calls Tryz.prog 108 #[.slice (some ⟨b,off,none⟩) n c,.func (.func 93) #[] #[.pointer (some ⟨g,0,none⟩)]] w fun e w'=>e = .returned (.int .i64 (-1))/\Below w.heap.size w w':=by
 have HROW:=oH h;have HY:=oH hy;have HG:=oH hg;clear h hy hg
 go_enter Tryz.func108,Tryz.ntmps108
 go_wp2_with fail
 go_loopw [8] (fun iv wr=>∃ k:Nat,iv = .int .i64 (k:Int)/\k<=n/\Below w.heap.size w wr) (fun iv _=>n-(intOf iv).toNat)
 ·exact ⟨0,rfl,oLx,bRx⟩
 obtain ⟨k,rfl,hk,hbel⟩:=hrel;have HB:=oH hbel;clear hbel
 by_cases hlt:k<n
 ·have hltf:k<fs.length:=by omega
  obtain ⟨hg1,hg2,hg3⟩:=zMp hltf;have hc1:=(HB.cell (p:=⟨b,off+k*3,none⟩) hb).trans (HROW.at_ hg1);have hc2':wr.cell? ⟨b,off+k*3+1,none⟩=_:=(HB.cell (p:=⟨b,off+(k*3+1),none⟩) hb).trans (HROW.at_ hg2);have hc3:wr.cell? ⟨b,off+k*3+2,none⟩=_:=(HB.cell (p:=⟨b,off+(k*3+2),none⟩) hb).trans (HROW.at_ hg3);have hne:=HY.out k hltf hlt;have HP:=oH (fun kk mm=>feat1 g fs[k].a y kk mm wr ((HB.cell (p:=⟨g,0,none⟩) hgl).trans HG.out) (by have:=HB.size;omega));generalize fs[k].k=kk at *;generalize fs[k].m=mm at *;generalize fs[k].a=x at *
  have hne':((x:Int)==(y:Int))=false:=by rw [beq_eq_false_iff_ne];omega
  rw [hne'] at HP;clear hg1 hg2 hg3 hne hne';go_wp2_with fail;refine (HP.out _ _).mono ?_;rintro e w2 ⟨rfl,hb2⟩;have HB2:=bTx2 HB hb2;clear hb2;go_wp2_with fail;go_roundw
  ·exact ⟨k+1,by go_num,oMx,HB2.out⟩
  simp [intOf];omega
 go_wp2_with fail;go_ret
 exact ⟨rfl,HB.out⟩
theorem zAl (b off y g n c:Nat) (fs:List zBa) (w:World) (h:zGl w (some ⟨b,off,none⟩) (fv fs)) (hb:b<w.heap.size) (hn:n<=fs.length) (hl:n<=1000) (hy:∀ i,(hi:i<fs.length)->i<n->fs[i].a≠y) (hg:w.cell? ⟨g,0,none⟩=some (.int .i64 (y:Int))) (hgl:g<w.heap.size) :
  Calls Tryz.prog 92 #[.slice (some ⟨b,off,none⟩) n c,.func (.func 93) #[] #[.pointer (some ⟨g,0,none⟩)]] w fun e w'=>e = .returned (.bool false)/\Below w.heap.size w w':=by
 have H:=oH (zBn b off y g n c fs w h hb hn hl hy hg hgl);clear h hy hg
 go_enter Tryz.func92,Tryz.ntmps92
 go_wp2_with fail;refine H.mono ?_;rintro e w' ⟨rfl,hb2⟩;have HB2:=oH hb2;clear hb2;go_wp2_with fail;go_ret
 exact ⟨rfl,HB2.out⟩
theorem zMc (at1:List (ByteArray × Int)) (fs:List zBa) (A F:oAx) (c c2:Nat) (v1:Value) (lb:Int) (w:World) (h:zGl w A (av at1)) (hf:zGl w F (fv fs)) (hl:at1.length<=1000) (hl2:fs.length<=1000) (hc2:fs.length<=c2)
  (hfine:∀ f∈fs,zAy at1 lb f) (hd:(fs.map (·.a)).Nodup) :
  Calls Tryz.prog 80 #[.agg #[.slice A at1.length c,v1,.slice F fs.length c2,.int .i64 lb]] w fun e w'=>e = .returned (.int .i64 0)/\Below w.heap.size w w':=by
 have HROW:=oH h;have HFR:=oH hf;have HF:=oH hfine;have HD:=oH hd;clear h hf hfine hd
 go_enter Tryz.func80,Tryz.ntmps80
 go_wp2_with fail
 go_loopw [11] (fun iv wr=>∃ k:Nat,iv = .int .i64 (k:Int)/\k<=fs.length/\Below (w.heap.size+1) (w.alloc (.cells #[.slice A at1.length c,v1,.slice F fs.length c2,.int .i64 lb] 31)) wr) (fun iv _=>fs.length-(intOf iv).toNat)
 ·exact ⟨0,rfl,oLx,bRx⟩
 obtain ⟨k,rfl,hk,hbel⟩:=hrel;have HBEL:=oH hbel;have hsz:=hbel.size;rw [World.size_alloc] at hsz;have HB:=oH (((Below.refl w.heap.size w).alloc lRx (.cells #[.slice A at1.length c,v1,.slice F fs.length c2,.int .i64 lb] 31)).trans (hbel.mono oMx));have hs0:wr.cell? ⟨w.heap.size,0,none⟩=some (.slice A at1.length c):=(hbel.cell (p:=⟨w.heap.size,0,none⟩) sMx).trans sMx;have hs2:wr.cell? ⟨w.heap.size,2,none⟩=some (.slice F fs.length c2):=(hbel.cell (p:=⟨w.heap.size,2,none⟩) sMx).trans sMx;have hs3:wr.cell? ⟨w.heap.size,3,none⟩=some (.int .i64 lb):=(hbel.cell (p:=⟨w.heap.size,3,none⟩) sMx).trans sMx;clear hbel
 by_cases hlt:k<fs.length
 ·obtain ⟨b,off,rfl,hb,hrow⟩:=HFR.some (fv_nil (by intro e;subst e;simp at hlt));obtain ⟨hg1,hg2,hg3⟩:=zMp hlt;have hc1:=(HB.cell (p:=⟨b,off+k*3,none⟩) hb).trans (hrow.at_ hg1);have hc2':wr.cell? ⟨b,off+k*3+1,none⟩=_:=(HB.cell (p:=⟨b,off+(k*3+1),none⟩) hb).trans (hrow.at_ hg2);have hc3:wr.cell? ⟨b,off+k*3+2,none⟩=_:=(HB.cell (p:=⟨b,off+(k*3+2),none⟩) hb).trans (hrow.at_ hg3);clear hrow hg1 hg2 hg3;obtain ⟨fl,fk,fo⟩:=HF.out fs[k] (List.getElem_mem hlt);obtain ⟨b1,off1,rfl,hb1,hrow1⟩:=HROW.some (zHq (by intro e;subst e;simp at fl));have hc4:wr.cell? ⟨b1,off1+fs[k].a*2+1,none⟩=_:=(HB.cell (p:=⟨b1,off1+(fs[k].a*2+1),none⟩) hb1).trans (hrow1.at_ (zHp fl).2);clear hrow1;generalize at1[fs[k].a].2=z at *;generalize fs[k].k=kk at *;generalize fs[k].m=mm at *
  have HNE:Hid (∀ i,(hi:i<fs.length)->i<k->fs[i].a≠fs[k].a):=oH fun i hi hik e=>by
   have h2:=(List.pairwise_iff_getElem.1 HD.out) i k (by simpa using hi) (by simpa using hlt) hik
   apply h2
   simp [e]
  generalize hx:fs[k].a=x at *
  have hnl:((x:Int)==lb)=false:=by rw [beq_eq_false_iff_ne];exact fo
  clear fo hx
  have hx0:decide ((x:Int)<0)=false:=by simp
  have hx1:decide (at1.length<=x)=false:=by simp;omega
  have hbw:b<wr.heap.size:=by omega
  have hb1w:b1<wr.heap.size:=by omega
  have hszlt:w.heap.size<wr.heap.size:=by omega
  have HCALL:=oH (fun kk mm=>zAl b off x wr.heap.size k c2 fs (wr.alloc (.cells #[.int .i64 (x:Int),.int .i64 kk,.int .i64 mm] 75))
   (HFR.below (HB.trans (bRx.alloc oMx _))) (by simp;omega) oMx oMx HNE.out sMx sMx)
  rcases fk with ⟨rfl,rfl,rfl|rfl⟩|⟨rfl,rfl,rfl⟩
  all_goals
   go_wp2_with fail;refine (HCALL.out _ _).mono ?_;rintro e w2 ⟨rfl,hb2⟩;have HB2:=oH (HBEL.trans (((Below.refl (w.heap.size+1) wr).alloc oMx _).trans (hb2.mono (by simp;omega))));clear hb2;go_wp2_with fail;go_roundw
   ·exact ⟨k+1,by go_num,oMx,HB2.out⟩
   simp [intOf];omega
 go_wp2_with fail;go_ret
 exact ⟨rfl,HB.out⟩
structure zFv where
 at1:List (ByteArray × Int)
 aa:Option Addr
 ca:Nat
 rs:List zFg
 ar:Option Addr
 cr:Nat
 fs:List zBa
 af:Option Addr
 cf:Nat
 lb:Int
def zFv.cells (S:zFv):Array Value:=#[.slice S.aa S.at1.length S.ca,.slice S.ar S.rs.length S.cr,.slice S.af S.fs.length S.cf,.int .i64 S.lb]
structure zBp (w:World) (S:zFv):Prop where
 a:zGl w S.aa (av S.at1)
 r:zGl w S.ar (zTe S.rs)
 x:∀ r∈S.rs,zAe .i64 w r.ad r.xs
 f:zGl w S.af (fv S.fs)
theorem zBp.below {w w':World} {S:zFv} (h:zBp w S) (hb:Below w.heap.size w w'):zBp w' S:=⟨h.a.below hb,h.r.below hb,fun r hr=>(h.x r hr).below hb,h.f.below hb⟩
structure zFt (S:zFv):Prop where
 a1:1<=S.at1.length
 a2:S.at1.length<=12
 r1:1<=S.rs.length
 r2:S.rs.length<=6
 f2:S.fs.length<=8
 cf:S.fs.length<=S.cf
 word:∀ a∈S.at1,xAk a.1.data.toList=true/\1<=a.2/\a.2<=3
 rel:∀ r∈S.rs,zFf S.at1.length r
 reld:(S.rs.map (·.nm)).Nodup
 feat:∀ f∈S.fs,zAy S.at1 S.lb f
 featd:(S.fs.map (·.a)).Nodup
 lb1 : -1<=S.lb
 lb2:S.lb<S.at1.length
 lb3:∀ i,(hi:i<S.at1.length)->(i:Int)=S.lb->S.at1[i].2=2
def chk (r1 r2:Bool):Int:=if r1 then 9 else if r2 then 0 else 7
theorem Check_of (S:zFv) (r1 r2:Bool) (w:World) (hin:zBp w S) (hf:zFt S) (hr1:r1=true↔¬(S.at1.map (·.1)).Nodup) (hr2:(List.range S.at1.length).all (zXy S.rs)=r2) :
  Calls Tryz.prog 65 #[.agg S.cells] w fun e w'=>e = .returned (.int .i64 (chk r1 r2))/\Below w.heap.size w w':=by
 have HAT:=oH (fun W (hW:Below w.heap.size w W)=>zHo S.aa S.at1 S.ca (.slice S.ar S.rs.length S.cr) (.slice S.af S.fs.length S.cf) (.int .i64 S.lb) r1 W (hin.below hW).a (by have:=hf.a2;omega) hf.word hr1);have HRE:=oH (fun W (hW:Below w.heap.size w W)=>zTd S.aa S.ar S.at1.length S.ca S.rs S.cr (.slice S.af S.fs.length S.cf) (.int .i64 S.lb) W (hin.below hW).r (by have:=hf.a2;omega) (by have:=hf.r2;omega) (fun r hr=>⟨hf.rel r hr,(hin.below hW).x r hr⟩) hf.reld);have HFE:=oH (fun W (hW:Below w.heap.size w W)=>zMc S.at1 S.fs S.aa S.af S.ca S.cf (.slice S.ar S.rs.length S.cr) S.lb W (hin.below hW).a (hin.below hW).f (by have:=hf.a2;omega) (by have:=hf.f2;omega) hf.cf hf.feat hf.featd);rw [hr2] at HRE;have HIN:=oH hin;have HF:=oH hf;obtain ⟨q1,q2,q3,q4,q5, -, -, -, -, -, -,q6,q7, -⟩:=hf;unfold zFv.cells;obtain ⟨at1,aa,ca,rs,ar,cr,fs,af,cf,lb⟩:=S;simp only at q1 q2 q3 q4 q5 q6 q7 HAT HRE HFE ⊢
 clear hin hr1 hr2
 have t1:((at1.length:Int)==0)=false:=by rw [beq_eq_false_iff_ne];omega
 have t2:decide ((12:Int)<(at1.length:Int))=false:=by simp;omega
 have t3:((rs.length:Int)==0)=false:=by rw [beq_eq_false_iff_ne];omega
 have t4:decide ((6:Int)<(rs.length:Int))=false:=by simp;omega
 have t5:decide ((8:Int)<(fs.length:Int))=false:=by simp;omega
 go_enter Tryz.func65,Tryz.ntmps65
 go_wp2_with fail;clear t1 t2 t3 t4 t5
 go_loopw [36] (fun iv wr=>∃ k:Nat,iv = .int .i64 (k:Int)/\k<=3/\(1<=k->r1=false)/\(2<=k->r2=true)/\Below (w.heap.size+2) ((w.alloc (.cells #[.slice aa at1.length ca,.slice ar rs.length cr,.slice af fs.length cf,.int .i64 lb] 31)).alloc (.cells #[.func (.func 78) #[] #[],.func (.func 79) #[] #[],.func (.func 80) #[] #[]] 101)) wr) (fun iv _=>3-(intOf iv).toNat)
 ·exact ⟨0,rfl,oMx,fun h=>absurd h oMx,fun h=>absurd h oMx,bRx⟩
 obtain ⟨k,rfl,hk,hk1,hk2,hbel⟩:=hrel;have HBEL:=oH hbel;have HB:=oH ((((Below.refl w.heap.size w).alloc lRx (.cells #[.slice aa at1.length ca,.slice ar rs.length cr,.slice af fs.length cf,.int .i64 lb] 31)).alloc sMx (.cells #[.func (.func 78) #[] #[],.func (.func 79) #[] #[],.func (.func 80) #[] #[]] 101)).trans (hbel.mono oMx));have hs0:wr.cell? ⟨w.heap.size,0,none⟩=some (.slice aa at1.length ca):=(hbel.cell (p:=⟨w.heap.size,0,none⟩) sMx).trans sMx;have hs1:wr.cell? ⟨w.heap.size,1,none⟩=some (.slice ar rs.length cr):=(hbel.cell (p:=⟨w.heap.size,1,none⟩) sMx).trans sMx;have hs2:wr.cell? ⟨w.heap.size,2,none⟩=some (.slice af fs.length cf):=(hbel.cell (p:=⟨w.heap.size,2,none⟩) sMx).trans sMx;have hs3:wr.cell? ⟨w.heap.size,3,none⟩=some (.int .i64 lb):=(hbel.cell (p:=⟨w.heap.size,3,none⟩) sMx).trans sMx;have hf0:wr.cell? ⟨w.heap.size+1,0,none⟩=some (.func (.func 78) #[] #[]):=(hbel.cell (p:=⟨w.heap.size+1,0,none⟩) sMx).trans sMx
 have hf1:wr.cell? ⟨w.heap.size+1,1,none⟩=some (.func (.func 79) #[] #[]):=(hbel.cell (p:=⟨w.heap.size+1,1,none⟩) sMx).trans sMx;have hf2:wr.cell? ⟨w.heap.size+1,2,none⟩=some (.func (.func 80) #[] #[]):=(hbel.cell (p:=⟨w.heap.size+1,2,none⟩) sMx).trans sMx;have HK1:=oH hk1;have HK2:=oH hk2;have hsz:=hbel.size;simp only [World.size_alloc] at hsz;clear hbel hk1 hk2
 have hkc:k=0\/k=1\/k=2\/k=3:=by omega
 clear hk
 rcases hkc with rfl|rfl|rfl|rfl
 ·cases r1
  all_goals
   go_wp2_with fail;refine (HAT.out _ HB.out).mono ?_;rintro e w2 ⟨rfl,hb2⟩;have HB2:=oH (HBEL.trans (hb2.mono hsz));have HBB:=oH (HB.trans (hb2.mono oMx));clear hb2;simp only [twc];go_wp2_with fail
  ·go_roundw
   ·exact ⟨1,by go_num,oMx,by simp,by simp,HB2.out⟩
   simp [intOf]
  go_ret
  exact ⟨rfl,HBB.out⟩
 ·obtain rfl:=HK1.out oMx
  cases r2
  all_goals
   go_wp2_with fail;refine (HRE.out _ HB.out).mono ?_;rintro e w2 ⟨rfl,hb2⟩;have HB2:=oH (HBEL.trans (hb2.mono hsz));have HBB:=oH (HB.trans (hb2.mono oMx));clear hb2;simp only [unu];go_wp2_with fail
  ·go_ret
   exact ⟨rfl,HBB.out⟩
  go_roundw
  ·exact ⟨2,by go_num,oMx,by simp,by simp,HB2.out⟩
  simp [intOf]
 ·obtain rfl:=HK1.out oMx;obtain rfl:=HK2.out oMx;go_wp2_with fail;refine (HFE.out _ HB.out).mono ?_;rintro e w2 ⟨rfl,hb2⟩;have HB2:=oH (HBEL.trans (hb2.mono hsz));clear hb2;go_wp2_with fail;go_roundw
  ·exact ⟨3,by go_num,oMx,by simp,by simp,HB2.out⟩
  simp [intOf]
 obtain rfl:=HK1.out oMx;obtain rfl:=HK2.out oMx
 by_cases hl0:0<=lb
 ·obtain ⟨l,rfl⟩:∃ l:Nat,lb=l:=⟨lb.toNat,oMx⟩
  have hll:l<at1.length:=by omega
  obtain ⟨b1,off1,rfl,hb1,hrow1⟩:=(HIN.below HB.out).a.some (zHq (by intro e;simp only at e;subst e;simp at hll));have hcl:wr.cell? ⟨b1,off1+l*2+1,none⟩=_:=hrow1.at_ (zHp hll).2;rw [HF.lb3 l hll rfl] at hcl;clear hrow1;go_wp2_with fail;go_ret
  exact ⟨rfl,HB.out⟩
 have hl1:lb = -1:=by omega
 go_wp2_with fail;go_ret
 exact ⟨rfl,HB.out⟩
structure zFu (S:zFv):Prop where
 fine:zFt S
 names:(S.at1.map (·.1)).Nodup
 used:∀ i,i<S.at1.length->zXy S.rs i=true
theorem zAf (S:zFv) (w:World) (hin:zBp w S) (h:zFu S):Calls Tryz.prog 65 #[.agg S.cells] w fun e w'=>e = .returned (.int .i64 0)/\Below w.heap.size w w' :=
 Check_of S false true w hin h.fine ⟨(fun e=>by cases e),fun e=>absurd h.names e⟩ (List.all_eq_true.2 fun i hi=>h.used i (List.mem_range.1 hi))
def RetL (w:World) (us:List Nat) (e:Ending) (w':World):Prop:=∃ v,e = .returned v/\w'.ownsRow w.heap.size 3 1 v us.length (vn us)/\Below w.heap.size w w'
def hasAt (rs:List zFg) (a i:Nat):Bool:=match rs[i]? with|some r=>r.xs.contains a|none=>false
def zYd (rs:List zFg) (a k:Nat):List Nat:=(List.range k).filter (hasAt rs a)
theorem zYe (rs:List zFg) (a k:Nat):zYd rs a (k+1)=zYd rs a k++if hasAt rs a k then [k] else []:=by
 unfold zYd;rw [List.range_succ,List.filter_append];simp only [List.filter_cons,List.filter_nil]
theorem zMd (p:Nat->Bool) (k:Nat):((List.range k).filter p).length<=k:=by
 have:=List.length_filter_le p (List.range k);rw [List.length_range] at this;exact this
theorem own_low {w:World} {B B' e n:Nat} {v:Value} {xs:List Value} (h:w.ownsRow B e 1 v n xs) (hB:B'<=B):w.ownsRow B' e 1 v n xs:=by
 refine ⟨h.1,?_⟩
 rcases h.2 with h2|⟨g,cap,cur,hv,h3,h4⟩
 ·exact .inl h2
 exact .inr ⟨g,cap,cur,hv,Nat.le_trans hB h3,h4⟩
theorem app1 {B:Nat} {wr w3:World} {e:TypeId} {v:Value} {n:Nat} {xs:List Value} {o:Obj} (h:wr.ownsRow B e 1 v n xs) (hs:B<=wr.heap.size) (hg:(wr.alloc o).grownBy w3 v.ownBlock):Below B wr w3:=by
 have hsz:=hg.size;rw [World.size_alloc] at hsz
 have hne:∀ g,some g=v.ownBlock->B<=g/\g<wr.heap.size:=fun g e=>h.lt g e.symm
 refine ⟨hg.os,hg.tape,hg.output,oMx,fun i hi=>?_⟩;rw [hg.block i (by simp;omega) (fun e=>by have:=hne _ e;omega)];exact Below.heap_alloc wr _ i oMx
def joinB (rs:List zFg) (a:Nat):Bool:=decide (1<(zYd rs a rs.length).length)
def joinedN (rs:List zFg) (k:Nat):List Nat:=(List.range k).filter (joinB rs)
def isNum (fs:List zBa) (i:Nat):Bool:=match fs[i]? with|some f=>f.k==1|none=>false
def numsN (fs:List zBa) (k:Nat):List Nat:=(List.range k).filter (isNum fs)
def bothB (a b:Nat) (r:zFg):Bool:=r.xs.contains a&&r.xs.contains b
def nmB (nm:ByteArray) (a:ByteArray × Int):Bool:=a.1.toList==nm.toList
theorem RIn_of (A:oAx) (xs:List Nat) (c x:Nat) (w:World) (h:zAe .i64 w A xs) (hl:xs.length<=1000):Calls Tryz.prog 70 #[.slice A xs.length c,.int .i64 (x:Int)] w fun e w'=>e = .returned (.bool (xs.contains x))/\w=w':=by
 have HC:=oH h;obtain ⟨res,hres⟩:=eXx (xs.contains x);have HRES:=oH hres;rw [hres];clear h hres
 go_enter Tryz.func70,Tryz.ntmps70
 go_wp2_with fail
 go_loop [9] (fun iv=>∃ k:Nat,iv = .int .i64 (k:Int)/\k<=xs.length/\(xs.take k).contains x=false) (fun iv=>xs.length-(intOf iv).toNat)
 ·exact ⟨0,rfl,oLx,rfl⟩
 obtain ⟨k,rfl,hk,hall⟩:=hrel;have HALL:=oH hall;clear hall
 by_cases hlt:k<xs.length
 ·obtain ⟨b,off,rfl,hb,hc⟩:=HC.out (by intro e;subst e;simp at hlt);have hck:=hc k hlt
  have HT:=oH (show (xs.take (k+1)).contains x=((xs.take k).contains x || x==nth xs k) by
   rw [List.take_succ_eq_append_getElem hlt,show nth xs k=xs[k] by simp [nth,hlt],Bool.eq_iff_iff,List.contains_iff_mem,List.mem_append,List.mem_singleton,Bool.or_eq_true,List.contains_iff_mem,beq_iff_eq])
  generalize nth xs k=y at *;clear hc
  by_cases hxy:y=x
  ·subst hxy
   have E:=oH (show res=true by
    have h1:=HT.out;rw [<-HRES.out];rw [beq_self_eq_true,Bool.or_true,List.contains_iff_mem] at h1;rw [List.contains_iff_mem]
    exact List.mem_of_mem_take h1)
   go_wp2_with fail;go_ret
   exact ⟨by rw [E.out];rfl,rfl⟩
  have hne:((y:Int)==(x:Int))=false:=by rw [beq_eq_false_iff_ne];omega
  have E:=oH (show (xs.take (k+1)).contains x=false by rw [HT.out,HALL.out,Bool.false_or,beq_eq_false_iff_ne];exact fun e=>hxy e.symm);clear hxy;go_wp2_with fail
  go_round
  ·exact ⟨k+1,by go_num,oMx,E.out⟩
  simp [intOf];omega
 have E:=oH (show res=false by rw [<-HRES.out];have h1:=HALL.out;rw [List.take_of_length_le oMx] at h1;exact h1);go_wp2_with fail;go_ret
 exact ⟨by rw [E.out];rfl,rfl⟩
end Go.Proofs.YtafflnognagadaaGreatDoor
