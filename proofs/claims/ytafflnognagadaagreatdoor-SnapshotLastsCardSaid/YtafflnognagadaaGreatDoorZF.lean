import Derived.Test.YtafflnognagadaaGreatDoorZC
import Derived.Test.YtafflnognagadaaGreatDoorCards
import Derived.Test.YtafflnognagadaaGreatDoorTie
import Derived.ProofKit
import Derived.OpenShut
import Derived.Deep.DeepWitnessRowRef
import Derived.Stop.LaidErr
import Derived.Lay
import Derived.Deep.DrawnRows
set_option maxHeartbeats 16000000
set_option maxRecDepth 100000
namespace Go.Proofs.YtafflnognagadaaGreatDoor
open Go.RowKit
def zLf (c:UInt8):Bool:=decide (48<=c.toNat/\c.toNat<=57)
def zRc (m:List UInt8):Bool := !m.isEmpty&&decide (m.length<=400) && !(m.head? == some 48)&&m.all zLf
def zYx (l:List UInt8):Bool:=l==[48] || zRc (Lib.trimPrefix l [45])
def Fits (x:Int):Prop:=(Lib.decDigits x.natAbs).length<=400
theorem zLg (c:UInt8):zLf c=true↔zBu c:=by simp [zLf,zBu]
theorem zHa (m:List UInt8):m.all zLf=true↔zAw m:=by
 rw [List.all_eq_true];exact ⟨fun h c hc=>(zLg c).1 (h c hc),fun h c hc=>(zLg c).2 (h c hc)⟩
theorem zOb:Lib.itoa 0=[48]:=by unfold Lib.itoa;rw [if_neg oMx];exact Lib.decDigits_one dCx
theorem zNx (n:Nat):Lib.itoa (n:Int)=Lib.decDigits n:=by unfold Lib.itoa;rw [if_neg oMx];simp
theorem zNv (n:Nat) (h:0<n):Lib.itoa (-(n:Int))=45::Lib.decDigits n:=by unfold Lib.itoa;rw [if_pos oMx];simp
theorem zZl {x:Int} (h:Fits x):zYx (Lib.itoa x)=true:=by
 by_cases h0:x=0
 ·subst h0;rw [zOb];rfl
 unfold zYx;rw [(zNz x).2];unfold Fits at h;have h1:=zKr x.natAbs;have h2:=zKp (n:=x.natAbs) oMx;have h3:=(zHa _).2 (zKo x.natAbs);rw [zRc,h3]
 cases hd:Lib.decDigits x.natAbs with
 | nil=>exact absurd hd h1
 | cons a l =>
  rw [hd] at h h2
  simp at h2 h
  simp [h,h2]
theorem zZk {l:List UInt8} (h:zYx l=true):∃ x:Int,l=Lib.itoa x/\Fits x:=by
 unfold zYx at h;rw [Bool.or_eq_true] at h
 rcases h with h|h
 ·have:l=[48]:=by simpa using h
  exact ⟨0,by rw [this,zOb],by unfold Fits;rw [show (0:Int).natAbs=0 from rfl,Lib.decDigits_one dCx];simp⟩
 unfold zRc at h;simp only [Bool.and_eq_true,Bool.not_eq_true',decide_eq_true_eq] at h;obtain ⟨⟨⟨h1,h2⟩,h3⟩,h4⟩:=h;have hd:=(zHa _).1 h4
 have hne:Lib.trimPrefix l [45]≠[]:=by intro e;rw [e] at h1;simp at h1
 have hh:(Lib.trimPrefix l [45]).head? ≠ some 48:=by intro e;rw [e] at h3;simp at h3
 have he:=zKs hd hne hh;generalize hm:Lib.trimPrefix l [45]=m at *
 by_cases hp:Lib.hasPrefix l [45]=true
 ·have hl:l=45::m:=by
   rw [Lib.trimPrefix,if_pos hp] at hm
   cases l with
   | nil=>simp [Lib.hasPrefix] at hp
   | cons c l' =>
    simp [Lib.hasPrefix] at hp
    subst hp
    simp at hm
    rw [hm]
  have hpos:0<zKu m:=by
   rcases Nat.eq_zero_or_pos (zKu m) with e|e
   ·exfalso;rw [e,Lib.decDigits_one dCx] at he;apply hh;rw [<-he];rfl
   exact e
  exact ⟨-(zKu m:Int),by rw [zNv _ hpos,he,hl],by unfold Fits;rw [Int.natAbs_neg,Int.natAbs_natCast,he];exact h2⟩
 have hl:l=m:=by rw [Lib.trimPrefix,if_neg hp] at hm;exact hm
 exact ⟨(zKu m:Int),by rw [zNx,he,hl],by unfold Fits;rw [Int.natAbs_natCast,he];exact h2⟩
theorem zNs {x y:Int} (h:Lib.itoa x=Lib.itoa y):x=y:=by
 have hx:=zNz x;have hy:=zNz y;rw [h] at hx;have h1:decide (x<0)=decide (y<0):=hx.1.symm.trans hy.1;have h2:Lib.decDigits x.natAbs=Lib.decDigits y.natAbs:=hx.2.symm.trans hy.2
 have h3:x.natAbs=y.natAbs:=by rw [<-zKt x.natAbs,h2,zKt]
 have h4:(x<0↔y<0):=by simpa using h1
 omega
theorem zNr {x:Int}:Lib.itoa x=[48]↔x=0:=⟨fun h=>zNs (h.trans zOb.symm),fun h=>by rw [h,zOb]⟩
theorem zGs (l:List UInt8) (w:World) (hl:l.length<=140737488355328) :
  Calls Tryz.prog 125 #[.string ⟨l.toArray⟩] w fun e w'=>e = .returned (.bool (zYx l))/\Below w.heap.size w w':=by
 by_cases h0:l=[48]
 ·subst h0
  go_enter Tryz.func125,Tryz.ntmps125
  go_wp2_with fail;go_ret
  exact ⟨rfl,bRx⟩
 have hne:(l==[48])=false:=by simpa using h0
 have E:=oH (show zYx l=zRc (Lib.trimPrefix l [45]) by rw [zYx,hne,Bool.false_or]);have HTP:=oH (Tryz.strings_TrimPrefix ⟨l.toArray⟩ ⟨#[45]⟩ w);rw [show (⟨l.toArray⟩:ByteArray).data.toList=l by simp,show (⟨#[45]⟩:ByteArray).data.toList=[45] from rfl] at HTP
 have hml:(Lib.trimPrefix l [45]).length<=l.length:=by unfold Lib.trimPrefix;split<;>simp
 generalize Lib.trimPrefix l [45]=m at *
 cases m with
 | nil =>
  go_enter Tryz.func125,Tryz.ntmps125
  go_wp2_with fail;refine HTP.mono ?_;rintro e w' ⟨rfl,rfl⟩;go_wp2_with fail;go_ret
  exact ⟨by rw [E.out];rfl,bRx⟩
 | cons c r =>
  by_cases hlen:(c::r).length<=400
  ·obtain ⟨s,hs⟩:∃ s:ByteArray,s=⟨(c::r).toArray⟩:=⟨_,rfl⟩;rw [<-hs] at HTP
   have hsz:s.size=r.length+1:=by rw [hs];simp [ByteArray.size]
   have hsd:s.data.toList=c::r:=by rw [hs]
   have hse:s.toList.isEmpty=false:=by rw [Lib.toList_data,hsd];rfl
   have hse':¬s.toList=[]:=by rw [Lib.toList_data,hsd];simp
   have hs0:0<s.size:=by omega
   have hs4:¬400<s.size:=by simp at hlen;omega
   have hs4':decide (400<(s.size:Int))=false:=by simp at hlen ⊢;omega
   have hsc:s[0]=c:=by
    have:s.data.toList[0]'(by rw [hsd];simp)=c:=by simp [hsd]
    have h2:s.data[0]'hs0=c:=by simpa using this
    exact h2
   by_cases hc:c=48
   ·have hc':((s[0].toNat:Int)==48)=true:=by rw [hsc,hc];rfl
    have E2:=oH (show zRc (c::r)=false by simp [zRc,hc]);clear hs hsz hsd hsc
    go_enter Tryz.func125,Tryz.ntmps125
    go_wp2_with fail;refine HTP.mono ?_;rintro e w' ⟨rfl,rfl⟩;go_wp2_with fail;go_ret
    exact ⟨by rw [E.out,E2.out];rfl,bRx⟩
   have hc':((s[0].toNat:Int)==48)=false:=by
    rw [hsc,beq_eq_false_iff_ne]
    intro e
    apply hc
    apply UInt8.toNat_inj.1
    have:(48:UInt8).toNat=48:=rfl;omega
   have E2:=oH (show zRc (c::r)=s.data.toList.all zLf by rw [hsd,zRc];simp only [hlen];simp [hc])
   have hcv:=fun W=>Lib.run_convert_string_bytes (P:=Tryz.prog) W 9 94 5 s Tryz.underlying9 Tryz.underlying94 Tryz.underlying5
   have HL:=oH (show s.data.toList.length=s.size from Array.length_toList);clear hs hsz hsd hsc
   go_enter Tryz.func125,Tryz.ntmps125
   go_wp2_with fail;refine HTP.mono ?_;rintro e w' ⟨rfl,rfl⟩;go_wp2_with fail;clear hcv hc' hse hse' hs4'
   go_loop [25] (fun ix=>∃ k:Nat,k<=s.size/\ix = .int .i64 (k:Int)/\(s.data.toList.take k).all zLf=true) (fun ix=>s.size-(intOf ix).toNat)
   ·exact ⟨0,oLx,rfl,rfl⟩
   obtain ⟨k,hk,rfl,hall⟩:=hrel;have HALL:=oH hall;clear hall
   by_cases hlt:k<s.size
   ·have hcell:=Lib.bytesWorld_cell w' 5 s k hlt
    have hts:s.data.toList.take (k+1)=s.data.toList.take k++[s.data.toList.getD k 0]:=by
     rw [List.take_succ_eq_append_getElem (by rw [HL.out];exact hlt)]
     simp [List.getD_eq_getElem?_getD,HL.out,hlt]
    have HTS:=oH hts;clear hts;generalize hd:s.data.toList.getD k 0=d at *;have HD:=oH hd;clear hd;have hd256:d.toNat<256:=d.toNat_lt
    by_cases hdig:zLf d=true
    ·have hdd:=(zLg d).1 hdig;unfold zBu at hdd;obtain ⟨hd1,hd2⟩:=hdd;go_wp2_with fail
     go_round
     ·exact ⟨k+1,oMx,by go_num,by rw [HTS.out,List.all_append,HALL.out];simp [hdig]⟩
     simp [intOf];omega
    have hnd:¬(48<=d.toNat/\d.toNat<=57):=fun h=>hdig ((zLg d).2 h)
    have E3:=oH (show s.data.toList.all zLf=false by
     rw [<-Bool.not_eq_true,zHa]
     intro hh
     apply hdig
     rw [zLg]
     apply hh
     rw [<-HD.out,List.getD_eq_getElem?_getD,List.getElem?_eq_getElem (by rw [HL.out];exact hlt)]
     exact List.getElem_mem _)
    by_cases hd1:d.toNat<48
    ·go_wp2_with fail;go_ret
     exact ⟨by rw [E.out,E2.out,E3.out];rfl,Lib.bytesWorld_below _ _ _⟩
    have hd2:57<d.toNat:=by omega
    go_wp2_with fail;go_ret
    exact ⟨by rw [E.out,E2.out,E3.out];rfl,Lib.bytesWorld_below _ _ _⟩
   obtain rfl:k=s.size:=by omega
   have E3:=oH (show s.data.toList.all zLf=true by have:=HALL.out;rwa [<-HL.out,List.take_length] at this);go_wp2_with fail;go_ret
   exact ⟨by rw [E.out,E2.out,E3.out];rfl,Lib.bytesWorld_below _ _ _⟩
  simp only [List.length_cons] at hlen hml
  go_enter Tryz.func125,Tryz.ntmps125
  go_wp2_with fail;refine HTP.mono ?_;rintro e w' ⟨rfl,rfl⟩;go_wp2_with fail;go_ret
  exact ⟨by rw [E.out,zRc,List.length_cons];simp [hlen],bRx⟩
end Go.Proofs.YtafflnognagadaaGreatDoor
namespace Go.Proofs.YtafflnognagadaaGreatDoor
open Go.RowKit
def str (x:Int):ByteArray:=⟨(Lib.itoa x).toArray⟩
instance (x:Int):Decidable (Fits x):=inferInstanceAs (Decidable (_<=_))
def outS (x:Int):ByteArray:=if Fits x then str x else ⟨#[]⟩
def outE (x:Int):Int:=if Fits x then 0 else 3
theorem Fits.len {x:Int} (h:Fits x):(limbs x.natAbs).length<=45:=by
 apply zPb
 apply zPt
 unfold Fits at h;omega
theorem zTa (x:Int) (w:World) (hl:Fits x):Calls Tryz.prog 126 #[.string (str x)] w (zFq w x):=by
 have HRD:=oH (fun W=>zFe x W (by unfold Fits at hl;omega));unfold str
 go_enter Tryz.func126,Tryz.ntmps126
 go_wp2_with fail;have hr:=Res.new w;have hb0:Below w.heap.size w (w.alloc (.cells #[.bool false,.slice none 0 0] 158)):=bA;generalize w.alloc (.cells #[.bool false,.slice none 0 0] 158)=W0 at *;have HR:=oH hr;have HB0:=oH hb0;clear hr hb0;refine (HRD.out W0).mono ?_
 intro e w3 hret
 obtain ⟨A3,c3,rfl,hl3,hc3,hb3⟩:=hret.num;have HR3:=oH (HR.below hb3);have HC3:=oH hc3;have HB3:=bTx2 HB0 hb3;have hr0:=HR3.r0;have hr1:=HR3.r1;have hf0:=HR3.f 0;have hf1:=HR3.f 1;clear hret hc3 hb3 HRD;go_wp2_with fail;refine bodyPost_ret (v := .agg #[.bool (decide (x<0)),.slice A3 (limbs x.natAbs).length c3]) (by simp [results,Tryz.results126,go_sem,hr0,hr1]) rfl ?_;exact HR3.end_ HB3.out lRx HC3.out hl3 rfl
theorem zNu (x:Int):(Lib.itoa x).length<=(Lib.decDigits x.natAbs).length+1:=by
 unfold Lib.itoa
 by_cases h:x<0
 ·rw [if_pos h];simp
 rw [if_neg h,show x.toNat=x.natAbs by omega];omega
theorem zGt (x:Int) (w:World) (hf:Fits x):Calls Tryz.prog 125 #[.string (str x)] w fun e w'=>e = .returned (.bool true)/\Below w.heap.size w w':=by
 have:=zGs (Lib.itoa x) w (by have:=zNu x;unfold Fits at hf;omega);rw [zZl hf] at this;exact this
theorem zBk (x y:Int) (w:World) (hfx:Fits x) (hfy:Fits y):Calls Tryz.prog 129 #[.string (str x),.string (str y)] w fun e w'=>e = .returned (.int .i64 (sg (x-y)))/\Below w.heap.size w w':=by
 have HFX:=oH hfx;have HFY:=oH hfy;have hlx:=hfx.len;have hly:=hfy.len;clear hfx hfy
 go_enter Tryz.func129,Tryz.ntmps129
 go_wp2_with fail;refine (zGt x w HFX.out).mono ?_;rintro e w1 ⟨rfl,hb1⟩;have HB1:=oH hb1;clear hb1;go_wp2_with fail;refine (zGt y w1 HFY.out).mono ?_;rintro e w2 ⟨rfl,hb2⟩;have HB2:=bTx2 HB1 hb2;clear hb2;go_wp2_with fail;refine (zTa x w2 HFX.out).mono ?_;rintro e w3 ⟨v3,rfl,hv3,hb3⟩;have HV3:=oH hv3;have HB3:=bTx2 HB2 hb3;clear hv3 hb3;go_wp2_with fail;refine (zTa y w3 HFY.out).mono ?_;rintro e w4 ⟨v4,rfl,hv4,hb4⟩;have HV4:=oH hv4;have HV34:=oH (HV3.below hb4);have HB4:=bTx2 HB3 hb4;clear hv4 hb4;go_wp2_with fail;refine (zAj v3 v4 x y w4 HV34.out HV4.out oMx oMx).mono ?_;rintro e w5 ⟨rfl,hb5⟩;have HB5:=bTx2 HB4 hb5;clear hb5;go_wp2_with fail;go_ret
 exact ⟨rfl,HB5.out⟩
end Go.Proofs.YtafflnognagadaaGreatDoor
namespace Go.Proofs.YtafflnognagadaaGreatDoor
open Go.RowKit
end Go.Proofs.YtafflnognagadaaGreatDoor
namespace Go.Proofs.YtafflnognagadaaGreatDoor
open Go.RowKit
end Go.Proofs.YtafflnognagadaaGreatDoor
namespace Go.Proofs.YtafflnognagadaaGreatDoor
open Go.RowKit
theorem zPk {n:Nat} (h:(limbs n).length<=3):nth (limbs n) 2*1000000000000000000+(nth (limbs n) 1*1000000000+nth (limbs n) 0)=n:=by
 have h3:=zYj n;have e2:val ((limbs n).drop 2)=nth (limbs n) 2+1000000000*val ((limbs n).drop 3):=zYh (limbs n) 2;have e1:val ((limbs n).drop 1)=nth (limbs n) 1+1000000000*val ((limbs n).drop 2):=zYh (limbs n) 1;have e0:val ((limbs n).drop 0)=nth (limbs n) 0+1000000000*val ((limbs n).drop 1):=zYh (limbs n) 0;have e3:(limbs n).drop 3=[]:=List.drop_eq_nil_of_le h;rw [e3,zYm] at e2;rw [List.drop_zero,h3] at e0;omega
theorem zOy {n:Nat} (h:3<(limbs n).length):1000000000000000000000000000<=n:=by
 rcases Nat.lt_or_ge n 1000000000000000000000000000 with h1|h1
 ·have:=zPb (n:=n) (k:=3) (by simpa using h1);omega
 exact h1
theorem zVv (A:oAx) (n c:Nat) (w:World) (hx:zAe .u64 w A (limbs n)) (hl:(limbs n).length<=1000000000) :
  Calls Tryz.prog 137 #[.slice A (limbs n).length c] w fun e w'=>e = .returned (.int .u64 ((nth (limbs n) 1*1000000000+nth (limbs n) 0:Nat):Int))/\w=w':=by
 have b0:=(Low.limbs n).nth 0;have b1:=(Low.limbs n).nth 1;have H0:=oH (zHl A (limbs n) c 0 w hx oMx oMx);have H1:=oH (zHl A (limbs n) c 1 w hx oMx oMx)
 go_enter Tryz.func137,Tryz.ntmps137
 go_wp2_with fail;refine H1.mono ?_;rintro e w' ⟨rfl,rfl⟩;go_wp2_with fail;refine H0.mono ?_;rintro e w' ⟨rfl,rfl⟩;go_wp2_with fail;go_ret
 exact ⟨zTj oMx,rfl⟩
def zVr (x:Int):Bool:=decide (x.natAbs<=4611686018427387904)
def zVs (x:Int):Int:=if x.natAbs<=4611686018427387904 then x else 0
theorem zFx (u:Value) (x:Int) (w:World) (hx:zBw w u x) (hlx:(limbs x.natAbs).length<=1000000000) :
  Calls Tryz.prog 127 #[u] w fun e w'=>e = .returned (.tuple #[.int .i64 (zVs x),.bool (zVr x)])/\Below w.heap.size w w':=by
 obtain ⟨_,rfl,A,c,rfl,hlc,hc⟩:=hx;have HC:=oH hc;clear hc
 by_cases h3:3<(limbs x.natAbs).length
 ·have h4:=zOy h3;have E1:=oH (show zVs x=0 by unfold zVs;rw [if_neg oMx]);have E2:=oH (show zVr x=false by unfold zVr;simp;omega);clear h4;generalize decide (x<0)=na
  go_enter Tryz.func127,Tryz.ntmps127
  go_wp2_with fail;go_ret2
  exact ⟨by rw [E1.out,E2.out];rfl,bA⟩
 obtain ⟨t2,ht2⟩:=eXx (nth (limbs x.natAbs) 2);obtain ⟨t1,ht1⟩:=eXx (nth (limbs x.natAbs) 1*1000000000+nth (limbs x.natAbs) 0);have hn:=zPk (by omega:(limbs x.natAbs).length<=3);rw [ht2,ht1] at hn;have HN:=oH hn;have b2:t2<1000000000:=ht2▸(Low.limbs x.natAbs).nth 2
 have hs:t1<1000000000000000000:=by
  have b0:=(Low.limbs x.natAbs).nth 0;have b1:=(Low.limbs x.natAbs).nth 1;omega
 have EA:=oH (fun W (hW:zAe .u64 W A (limbs x.natAbs))=>zHl A (limbs x.natAbs) c 2 W hW oMx oMx);rw [ht2] at EA;have ES:=oH (fun W (hW:zAe .u64 W A (limbs x.natAbs))=>zVv A x.natAbs c W hW oMx);rw [ht1] at ES;clear ht1 ht2 hn
 by_cases h4:4<t2
 ·have E1:=oH (show zVs x=0 by unfold zVs;rw [if_neg (by have:=HN.out;omega)]);have E2:=oH (show zVr x=false by unfold zVr;simp;have:=HN.out;omega);generalize decide (x<0)=na
  go_enter Tryz.func127,Tryz.ntmps127
  go_wp2_with fail;refine (EA.out _ (HC.alloc _)).mono ?_;rintro e w' ⟨rfl,rfl⟩;go_wp2_with fail;go_ret2
  exact ⟨by rw [E1.out,E2.out];rfl,bA⟩
 have e1:IntKind.u64.wrap ((t2:Int)*1000000000)=(t2:Int)*1000000000:=by rw [IntKind.wrap_u64];omega
 have e2:IntKind.u64.wrap ((t2:Int)*1000000000*1000000000)=(t2:Int)*1000000000000000000:=by rw [IntKind.wrap_u64];omega
 have e3:IntKind.u64.wrap ((t2:Int)*1000000000000000000+(t1:Int))=(x.natAbs:Int):=by rw [IntKind.wrap_u64];have:=HN.out;omega
 by_cases h5:x.natAbs<=4611686018427387904
 ·have E1:=oH (show zVs x=x by unfold zVs;rw [if_pos h5]);have E2:=oH (show zVr x=true by unfold zVr;simpa using h5)
  have hd5:decide (4611686018427387904<(x.natAbs:Int))=false:=by simp;omega
  by_cases hx:x<0
  ·rw [show decide (x<0)=true by simpa using hx];have e4:IntKind.i64.wrap (x.natAbs:Int)=(x.natAbs:Int):=IntWalk.i64_in _ oMx
   have e5:IntKind.i64.wrap (-(x.natAbs:Int))=x:=by rw [IntWalk.i64_in _ oMx];omega
   have HX:=oH hx;clear hx
   go_enter Tryz.func127,Tryz.ntmps127
   go_wp2_with fail;refine (EA.out _ (HC.alloc _)).mono ?_;rintro e w' ⟨rfl,rfl⟩;go_wp2_with fail
   go_quiet ((first|(go_at_call 136;exact zSt (EA.out _ ((HC.alloc _).drewN _)))|(go_at_call 137;exact zSt (ES.out _ ((HC.alloc _).drewN _)))))
   go_wp2_with fail;go_ret2
   exact ⟨by rw [E1.out,E2.out];rfl,below_drewN (bA) _⟩
  rw [show decide (x<0)=false by simpa using hx]
  have e4:IntKind.i64.wrap (x.natAbs:Int)=x:=by rw [IntWalk.i64_in _ oMx];omega
  have HX:=oH hx;clear hx
  go_enter Tryz.func127,Tryz.ntmps127
  go_wp2_with fail;refine (EA.out _ (HC.alloc _)).mono ?_;rintro e w' ⟨rfl,rfl⟩;go_wp2_with fail
  go_quiet ((first|(go_at_call 136;exact zSt (EA.out _ ((HC.alloc _).drewN _)))|(go_at_call 137;exact zSt (ES.out _ ((HC.alloc _).drewN _)))))
  go_wp2_with fail;go_ret2
  exact ⟨by rw [E1.out,E2.out];rfl,below_drewN (bA) _⟩
 have E1:=oH (show zVs x=0 by unfold zVs;rw [if_neg h5]);have E2:=oH (show zVr x=false by unfold zVr;simpa using h5)
 have hd5:decide (4611686018427387904<(x.natAbs:Int))=true:=by simp;omega
 generalize decide (x<0)=na
 go_enter Tryz.func127,Tryz.ntmps127
 go_wp2_with fail;refine (EA.out _ (HC.alloc _)).mono ?_;rintro e w' ⟨rfl,rfl⟩;go_wp2_with fail
 go_quiet ((first|(go_at_call 136;exact zSt (EA.out _ ((HC.alloc _).drewN _)))|(go_at_call 137;exact zSt (ES.out _ ((HC.alloc _).drewN _)))))
 go_wp2_with fail;go_ret2
 exact ⟨by rw [E1.out,E2.out];rfl,below_drewN (bA) _⟩
theorem zBm (x:Int) (w:World) (hf:Fits x):Calls Tryz.prog 118 #[.string (str x)] w fun e w'=>e = .returned (.tuple #[.int .i64 (zVs x),.bool (zVr x)])/\Below w.heap.size w w':=by
 have HF:=oH hf;have hlen:=hf.len;clear hf
 go_enter Tryz.func118,Tryz.ntmps118
 go_wp2_with fail;refine (zGt x w HF.out).mono ?_;rintro e w1 ⟨rfl,hb1⟩;have HB1:=oH hb1;clear hb1;go_wp2_with fail;refine (zTa x w1 HF.out).mono ?_;rintro e w2 ⟨v2,rfl,hv2,hb2⟩;have HV2:=oH hv2;have HB2:=bTx2 HB1 hb2;clear hv2 hb2;go_wp2_with fail;refine (zFx v2 x w2 HV2.out oMx).mono ?_;rintro e w3 ⟨rfl,hb3⟩;have HB3:=bTx2 HB2 hb3;clear hb3;go_wp2_with fail;go_ret2
 exact ⟨rfl,HB3.out⟩
end Go.Proofs.YtafflnognagadaaGreatDoor
namespace Go.Proofs.YtafflnognagadaaGreatDoor
open Go.RowKit
def modI (x n:Int):Int:=(x.tmod n+n).tmod n
theorem zQb (x n:Int) (h:1<=n):0<=modI x n/\modI x n<n:=by
 unfold modI
 have h1:0<=x.tmod n+n:=by
  have:=Int.tmod_lt_of_pos (-x) (show 0<n by omega);rw [Int.neg_tmod] at this;omega
 exact ⟨Int.tmod_nonneg _ h1,Int.tmod_lt_of_pos _ oMx⟩
theorem Mod_any (x n:Int) (w:World) (h1:1<=n) (h2:n<=1000000) (_hx : -9223372036854775808<=x) (_hx':x<=9223372036854775807) :
  Calls Tryz.prog 47 #[.int .i64 x,.int .i64 n] w fun e w'=>e = .returned (.int .i64 (modI x n))/\w=w':=by
 have hn1:¬n<1:=by omega
 have hn0:(n==0)=false:=by rw [beq_eq_false_iff_ne];omega
 have b1 : -1000000<=x.tmod n:=by
  have:=Int.tmod_lt_of_pos (-x) (show 0<n by omega);rw [Int.neg_tmod] at this;omega
 have b2:x.tmod n<=1000000:=by
  have:=Int.tmod_lt_of_pos x (show 0<n by omega);omega
 have E:=oH (show (x.tmod n+n).tmod n=modI x n from rfl)
 have b3:0<=x.tmod n+n:=by
  have:=Int.tmod_lt_of_pos (-x) (show 0<n by omega);rw [Int.neg_tmod] at this;omega
 have E2:=oH (show (x.tmod n+n)%n=modI x n by unfold modI;rw [Int.tmod_eq_emod_of_nonneg b3])
 go_enter Tryz.func47,Tryz.ntmps47
 go_wp2
 go_ret
 refine ⟨?_,rfl⟩
 have E3:x.tmod n%n=modI x n:=by rw [<-E2.out,Int.add_emod_right]
 first|(rw [<-E.out];rfl)|(rw [<-E2.out];rfl)|(rw [<-E3];rfl)
def Src (w:World) (b:Nat):Prop:=∃ (A:oAx) (l c k:Nat),w.heap[b]? = some (.cells #[.slice A l c,.int .i64 (k:Int)] 70 (0,0))/\l<=600/\k<=l /\
 (0<l->∃ bb off,A=some ⟨bb,off,none⟩/\bb<b/\bb<w.heap.size/\∀ i,i<l->∃ z:Int,w.cell? ⟨bb,off+i,none⟩=some (.int .i64 z) /\ -9223372036854775808<=z/\z<=9223372036854775807)
theorem Src.lt {w:World} {b:Nat} (h:Src w b):b<w.heap.size:=by
 obtain ⟨A,l,c,k,hb,_⟩:=h
 rcases Nat.lt_or_ge b w.heap.size with hlt|hge
 ·exact hlt
 rw [Array.getElem?_eq_none hge] at hb;cases hb
theorem Src.below {w w':World} {b:Nat} (h:Src w b) (hb:Below w.heap.size w w'):Src w' b:=by
 have hlt:=h.lt;obtain ⟨A,l,c,k,hbk,hl,hk,hc⟩:=h;refine ⟨A,l,c,k,(hb.block b hlt).trans hbk,hl,hk,fun h0=>?_⟩;obtain ⟨bb,off,e,hne,hlt',hcell⟩:=hc h0;have:=hb.size
 exact ⟨bb,off,e,hne,oMx,fun i hi=>by
  obtain ⟨z,hz,h1,h2⟩:=hcell i hi
  exact ⟨z,(hb.cell (p:=⟨bb,off+i,none⟩) hlt').trans hz,h1,h2⟩⟩
theorem Src.above {w w':World} {b:Nat} (h:Src w b) (hs:w.heap.size<=w'.heap.size) (hk:∀ i,i<=b->w'.heap[i]? = w.heap[i]?):Src w' b:=by
 obtain ⟨A,l,c,k,hbk,hl,hk',hc⟩:=h;refine ⟨A,l,c,k,(hk b lRx).trans hbk,hl,hk',fun h0=>?_⟩;obtain ⟨bb,off,e,hne,hlt',hcell⟩:=hc h0
 exact ⟨bb,off,e,hne,oMx,fun i hi=>by
  obtain ⟨z,hz,h1,h2⟩:=hcell i hi
  exact ⟨z,(World.cell?_of_block (w:=w) (a:=⟨bb,off+i,none⟩) (hk bb (Nat.le_of_lt hne))).trans hz,h1,h2⟩⟩
def RetN (w:World) (b:Nat) (n:Int) (e:Ending) (w':World):Prop:=∃ r:Nat,e = .returned (.int .i64 (r:Int))/\(r:Int)<n/\Src w' b/\w.grownBy w' (some b)
theorem zCm (b:Nat) (n:Int) (w:World) (hs:Src w b) (h1:1<=n) (h2:n<=1000000):Calls Tryz.prog 22 #[.pointer (some ⟨b,0,none⟩),.int .i64 n] w (RetN w b n):=by
 have HS:=oH hs;obtain ⟨A,l,c,k,hbk,hl,hk,hc⟩:=hs;have h0c:w.cell? ⟨b,0,none⟩=some (.slice A l c):=cell_of_row _ _ 0 _ _ _ hbk;have h1c:w.cell? ⟨b,1,none⟩=some (.int .i64 (k:Int)):=cell_of_row _ _ 1 _ _ _ hbk;have h1f:w.frozen? ⟨b,1,none⟩=false:=frozen_of_row _ _ 1 _ _ hbk
 by_cases hlt:k<l
 ·obtain ⟨bb,off,rfl,hne,hbb,hcell⟩:=hc oMx;obtain ⟨z,hz,hz1,hz2⟩:=hcell k hlt
  have hz':∀ u,(w.setCell ⟨b,1,none⟩ u).cell? ⟨bb,off+k,none⟩=some (.int .i64 z):=fun u=>(cell_far u (by show bb≠b;exact Nat.ne_of_lt hne)).trans hz
  have HBK:=oH hbk;have HCELL:=oH hcell
  have hd:decide ((l:Int)<=(k:Int))=false:=by simp;omega
  clear hbk hcell hz hc
  go_enter Tryz.func22,Tryz.ntmps22
  go_wp2_with fail
  go_quiet (fail)
  go_wp2_with fail
  have hw3:((w.drewN nq).setCell ⟨b,1,none⟩ (.int .i64 ((k:Int)+1))).heap[b]? = some (.cells #[.slice (some ⟨bb,off,none⟩) l c,.int .i64 ((k:Int)+1)] 70 (0,0)):=by
   have hbk:(w.drewN nq).heap[b]? = some (.cells #[.slice (some ⟨bb,off,none⟩) l c,.int .i64 (k:Int)] 70 (0,0)):=HBK.out;exact heap_setCell_same (w.drewN nq) b 1 _ _ _ hbk
  have hz3:((w.drewN nq).setCell ⟨b,1,none⟩ (.int .i64 ((k:Int)+1))).cell? ⟨bb,off+k,none⟩=some (.int .i64 z):=hz' _;have hg3:w.grownBy ((w.drewN nq).setCell ⟨b,1,none⟩ (.int .i64 ((k:Int)+1))) (some b):=zRn (p:=⟨b,1,none⟩) (zRm (World.grownBy.refl w (some b)) nq) (.inl rfl) _;generalize (w.drewN nq).setCell ⟨b,1,none⟩ (.int .i64 ((k:Int)+1))=W at *;have d0:W.cell? ⟨b,0,none⟩=some (.slice (some ⟨bb,off,none⟩) l c):=cell_of_row _ _ 0 _ _ _ hw3;have d1:W.cell? ⟨b,1,none⟩=some (.int .i64 ((k:Int)+1)):=cell_of_row _ _ 1 _ _ _ hw3;have HW3:=oH hw3;have HG3:=oH hg3;clear hw3 hg3 hz' h0c h1c h1f
  have e1:IntKind.i64.wrap ((k:Int)+1-1)=(k:Int):=by rw [IntWalk.i64_in _ oMx];omega
  have e2:(k:Int)+1-1=(k:Int):=by omega
  have hi0:(0:Int)<=(k:Int):=by omega
  have hi1:(k:Int)<(l:Int):=by omega
  go_quiet ((go_at_call 47;exact zSt (Mod_any z n _ h1 h2 hz1 hz2)))
  clear e1 e2;go_wp2_with fail;go_ret
  obtain ⟨m1,m2⟩:=zQb z n h1;refine ⟨(modI z n).toNat,by rw [Int.toNat_of_nonneg m1];rfl,oMx,?_,zRm HG3.out _⟩;refine ⟨_,l,c,k+1,by rw [Int.natCast_succ];exact HW3.out,hl,hlt,fun _=>⟨bb,off,rfl,hne,?_,fun i hi=>?_⟩⟩
  ·have:=HG3.size;exact Nat.lt_of_lt_of_le hbb this
  obtain ⟨z',hz',hb1,hb2⟩:=HCELL.out i hi;exact ⟨z',(World.cell?_of_block (w:=w) (a:=⟨bb,off+i,none⟩) (HG3.block bb hbb (fun e=>Nat.ne_of_lt hne (by injection e)))).trans hz',hb1,hb2⟩
 have hd:decide ((l:Int)<=(k:Int))=true:=by simp;omega
 clear hc hbk
 go_enter Tryz.func22,Tryz.ntmps22
 go_wp2_with fail
 go_quiet (fail)
 go_wp2_with fail;go_ret
 exact ⟨0,rfl,oMx,HS.out,zRm (World.grownBy.refl _ _) _⟩
end Go.Proofs.YtafflnognagadaaGreatDoor
namespace Go.Proofs.YtafflnognagadaaGreatDoor
open Go.RowKit
def zBs (w:World) (A:oAx) (l:Nat):Prop:=0<l->∃ bb off,A=some ⟨bb,off,none⟩/\bb<w.heap.size/\∀ i,i<l->∃ z:Int,w.cell? ⟨bb,off+i,none⟩=some (.int .i64 z) /\ -9223372036854775808<=z/\z<=9223372036854775807
theorem Src.new {w:World} {A:oAx} {l c:Nat} (h:zBs w A l) (hl:l<=600):Src (w.alloc (.cells #[.slice A l c,.int .i64 0] 70)) w.heap.size:=by
 refine ⟨A,l,c,0,heap_alloc_new w _,hl,oLx,fun h0=>?_⟩;obtain ⟨bb,off,e,hlt,hc⟩:=h h0;refine ⟨bb,off,e,oMx,by simp;omega,fun i hi=>?_⟩;obtain ⟨z,hz,h1,h2⟩:=hc i hi;exact ⟨z,(World.cell?_alloc_lt w _ ⟨bb,off+i,none⟩ hlt).trans hz,h1,h2⟩
theorem zCn (A:oAx) (l c:Nat) (w:World) (h:zBs w A l) (hlc:l<=c) (hl:l<=9223372036854775807):Calls Tryz.prog 11 #[.slice A l c] w fun e w'=>e = .returned (.pointer (some ⟨w.heap.size,0,none⟩))/\Src w' w.heap.size/\Below w.heap.size w w':=by
 rcases Nat.lt_or_ge l 600 with h6|h6
 ·have HS:=oH (Src.new (c:=c) h (show l<=600 by omega));clear h
  go_enter Tryz.func11,Tryz.ntmps11
  go_wp2
  go_ret
  rw [show (min (l:Int) 600).toNat=l by omega];exact ⟨rfl,HS.out,bA⟩
 have h':zBs w A 600:=fun _=>by
  obtain ⟨bb,off,e,hlt,hc⟩:=h oMx;exact ⟨bb,off,e,hlt,fun i hi=>hc i oMx⟩
 have HS:=oH (Src.new (c:=c) h' (show 600<=600 by omega));clear h h'
 go_enter Tryz.func11,Tryz.ntmps11
 go_wp2
 go_ret
 rw [show (min (l:Int) 600).toNat=600 by omega];exact ⟨rfl,HS.out,bA⟩
def RetBig (w:World) (b d:Nat) (e:Ending) (w':World):Prop:=∃ z:Int,e = .returned (.string (str z))/\(Lib.decDigits z.natAbs).length<=d/\Src w' b/\w.grownBy w' (some b)
theorem zNa {a b c:World} {g:Nat} (h:a.grownBy b (some g)) (k:b.grownBy c (some g)):a.grownBy c (some g) :=
 ⟨k.os.trans h.os,k.tape.trans h.tape,k.output.trans h.output,Nat.le_trans h.size k.size,fun i hi hne=>(k.block i (Nat.lt_of_lt_of_le hi h.size) hne).trans (h.block i hi hne)⟩
theorem zHr (a b:List UInt8):(⟨a.toArray⟩:ByteArray)++⟨b.toArray⟩=⟨(a++b).toArray⟩:=by
 apply ByteArray.ext;simp
theorem conv_one (W:World) (x:Int) (c:UInt8) (hx:x=(c.toNat:Int)):(convert 94 9 (.slice (some ⟨W.heap.size,0,none⟩) 1 1)).run Tryz.prog (W.alloc (.cells #[.int .u8 x] 5)) = .ok (.string ⟨#[c]⟩) (W.alloc (.cells #[.int .u8 x] 5)):=by
 have h:=run_convert_bytes_back (P:=Tryz.prog) (W.alloc (.cells #[.int .u8 x] 5)) 94 9 5 ⟨W.heap.size,0,none⟩ 1 [c] Tryz.underlying94 Tryz.underlying5 Tryz.underlying9 (fun j hj=>by
  obtain rfl:j=0:=by simp at hj;omega
  rw [Lib.add_plain,World.cell?_alloc_new,hx];rfl)
 exact h
end Go.Proofs.YtafflnognagadaaGreatDoor
namespace Go.Proofs.YtafflnognagadaaGreatDoor
open Go.RowKit
def odds:List ByteArray:=[⟨#[]⟩,⟨#[45]⟩,⟨#[48]⟩,⟨#[45,48]⟩,⟨#[48,48]⟩,⟨#[43,49]⟩,⟨#[49,47,50]⟩,⟨#[48,55]⟩,⟨#[45,49,50]⟩,⟨#[32,49]⟩,⟨#[49,32]⟩,⟨#[57,120]⟩,⟨#[57,57,57,57,57,57,57,57,57,57,57,57,57,57,57,57,57,57,57,57]⟩]
end Go.Proofs.YtafflnognagadaaGreatDoor
namespace Go.Proofs.YtafflnognagadaaGreatDoor
open Go.RowKit
theorem str_pos1 {n:Nat} (h:n<10):str (n:Int)=⟨#[UInt8.ofNat (48+n)]⟩:=by unfold str;rw [zNx,Lib.decDigits_one h]
theorem str_1:str 1=⟨#[49]⟩:=str_pos1 (n:=1) dCx
theorem zMf {x:Int} (h:x.natAbs<1000000000):Fits x:=by
 have:=zKq (r:=x.natAbs) (k:=9) oMx (by simpa using h)
 unfold Fits;omega
end Go.Proofs.YtafflnognagadaaGreatDoor
namespace Go.Proofs.YtafflnognagadaaGreatDoor
open Go.RowKit
def Dig (d:Nat) (x:Int):Prop:=x.natAbs<10^d
end Go.Proofs.YtafflnognagadaaGreatDoor
namespace Go.Proofs.YtafflnognagadaaGreatDoor
open Go.ChangeShapes Go.WideShapes Go.ChangeAt Go.RowKit
theorem own:ownKnob Tryz.prog.godebug=none:=by kernel_rfl
theorem gPow:Tryz.prog.globalNamed "internal/strconv.uint64pow10" = some 3:=by kernel_rfl
theorem gPowType:(Tryz.prog.globals[3]?).map (·.type)=some 214:=by kernel_rfl
theorem cellsPow:Tryz.prog.cellsOf 214=20:=by kernel_rfl
theorem cellsU64:Tryz.prog.cellsOf 167=1:=by kernel_rfl
theorem zJh:Tryz.prog.cellsOf 3=1:=by kernel_rfl
def laidList:List (String × DataW Unit):=[("math/bits.deBruijn32tab",Rows.laid_math_bits_deBruijn32tab),("math/bits.deBruijn64tab",Rows.laid_math_bits_deBruijn64tab),("internal/strconv.uint64pow10",Rows.laid_internal_strconv_uint64pow10),("strconv.ErrRange",Rows.laid_strconv_ErrRange),("strconv.ErrSyntax",Rows.laid_strconv_ErrSyntax)]
theorem zOh:(laidList.all fun x=>x.2.handleName?.isNone)=true:=by kernel_rfl
theorem tab_of {W:World} (h:laidMetH Tryz.prog laidList W):Tab W:=by
 rw [MakeChecks.laidMetH_plain _ _ _ zOh] at h;exact Lib.tabIs_of_head (rest:=[("strconv.ErrRange",Rows.laid_strconv_ErrRange),("strconv.ErrSyntax",Rows.laid_strconv_ErrSyntax)]) gPow gPowType Tryz.underlying214 Tryz.underlying167 cellsU64 cellsPow h.tail.tail
theorem laid_met (os:Os) (args:Array Value):laidMetH Tryz.prog laidList ((World.laidAll Tryz.prog os laidList).forCall (fun _ _=>0) ⟨#[],args,[]⟩).memory:=by
 rw [MakeChecks.laidMetH_plain _ _ _ zOh];exact laidMet_laidAll _ (by kernel_rfl) (by kernel_rfl)
section
variable {H:Type} {enc:TypeId × Value->H}
theorem ints_in {W:World} {base:Nat} {v:Value} {d:DataW H} {p:List MemPlace} (hv:Value.okWide Tryz.prog W .any base 22 v)
  (h:DataW.Trod enc Tryz.prog W 0 (fun _=>true) true 22 v d p) :
  ∃ (A:oAx) (l c:Nat),v = .slice A l c/\zBs W A l/\l<=c/\l<=9223372036854775807 /\
   ∀ W',Below W.heap.size W W'->∀ sp:Nat->Bool,(∀ x∈p,sp x.block=true)->DataW.Trod enc Tryz.prog W' 0 sp true 22 v d p:=by
 obtain ⟨a0,len,cap,rfl⟩:=okWide_slice Tryz.underlying22 hv;obtain ⟨fuel,hf⟩:=h
 rcases open_ints Tryz.underlying22 Tryz.underlying3 zJh hf with ⟨hcs,hx⟩|⟨a,len',cap',zs,hcs,_,hl,hm,hz,hx,hcell,hwz⟩
 ·obtain ⟨rfl,rfl,rfl⟩:a0=none/\len=0/\cap=0:=by simpa [Value.cells] using hcs
  obtain ⟨rfl,rfl⟩:d = .nil/\p=[]:=by simpa using hx
  exact ⟨none,0,0,rfl,fun h=>absurd h dCx,lRx,dCx,fun W' _ sp _=>shut_slice_nil Tryz.underlying22⟩
 obtain ⟨rfl,rfl,rfl⟩:a0=some a/\len=len'/\cap=cap':=by simpa [Value.cells] using hcs
 obtain ⟨rfl,rfl⟩:d = .slice (lits .i64 (zs.take len)) (lits .i64 (zs.drop len))/\p=MemPlace.row a zs.length:=by simpa using hx
 have hzc:zs.length=cap:=by simpa using hz
 have hlt:∀ i,i<zs.length->a.block<W.heap.size:=fun i hi=>by
  have h1:=hcell i hi
  rcases Nat.lt_or_ge a.block W.heap.size with hl'|hg'
  ·exact hl'
  exfalso
  rw [<-block_add a i] at hg';unfold World.cell? at h1;rw [Array.getElem?_eq_none hg'] at h1
  simp at h1
 have hm':cap<=9223372036854775807:=hm;refine ⟨some a,len,cap,rfl,?_,hl,oMx,?_⟩
 ·intro h0
  obtain ⟨b,off,spot⟩:=a;have hs:=World.cell?_spot (hcell 0 oMx);have hspot:spot=none:=hs;subst hspot;refine ⟨b,off,rfl,hlt 0 oMx,fun i hi=>⟨zs.getD i 0,by have:=hcell i oMx;rwa [Lib.add_plain] at this,?_⟩⟩
  have hmem:zs.getD i 0∈zs:=by
   rw [List.getD_eq_getElem?_getD,List.getElem?_eq_getElem oMx];exact List.getElem_mem _
  have:=hwz _ hmem;rw [Lit.wf,show IntKind.i64.min = -9223372036854775808 by decide,show IntKind.i64.max=9223372036854775807 by decide] at this
  simpa using this
 intro W' hb sp hsp
 refine ⟨2,shut_ints 0 Tryz.underlying22 Tryz.underlying3 zJh oLx hl hm ?_ ?_ hwz⟩
 ·by_cases h0:zs.length=0
  ·rw [h0];split<;>omega
  have:=hsp (.cell a.block (a.off+0)) (MemPlace.mem_row.2 ⟨0,oMx,rfl⟩);have hsa:sp a.block=true:=this
  rw [if_pos hsa];exact hzc
 intro i hi
 rw [hb.cell (by rw [block_add];exact hlt i hi)];exact hcell i hi
theorem post_true {f:Func} {s:ChangeSpec} {W W':World} {args:Array Value} {ds:List (DataW H)} {before:List MemPlace}
  (hW:DataW.Whole enc Tryz.prog f.params.toList s.vars false W args.toList ds [] before) (hv:s.vars=[]) (hfr:(s.fn H (ds++[])).results=[.lit (.bool true)]) (hfa:(s.fn H (ds++[])).args=ds) (hfv:(s.fn H (ds++[])).vars=[])
  (hrt:f.resultTypes=#[4]) (hb:Below W.heap.size W W')
  (hargs:∀ sp:Nat->Bool,(∀ x∈before,sp x.block=true)->DataW.TrodAll enc Tryz.prog W' 0 sp true f.params.toList args.toList ds before) :
  s.post enc Tryz.prog f false true false false W args (.bool true) W':=by
 have hlt:∀ p∈before,p.block<W.heap.size:=fun p hp=>hW.lt p hp
 refine ⟨ds,[],before,[],before,[],hW,?_,?_,?_,World.keptBut_mono (fun p hp=>⟨hp,Or.inr (Or.inl hp)⟩) (hb.frame (· ∈ before)),fun h=>by cases h⟩
 ·rw [hrt,hfr];exact trodAll_cons_mk (shut_bool Tryz.underlying4 _) trodAll_mk0
 ·rw [hfa]
  exact hargs _ fun p hp=>by simpa using hlt p hp
 rw [hfv,hv]
 rfl
end
end Go.Proofs.YtafflnognagadaaGreatDoor
namespace Go.Proofs.YtafflnognagadaaGreatDoor
def sgR (q:Rat):Int:=sg q.num
end Go.Proofs.YtafflnognagadaaGreatDoor
namespace Go.Proofs.YtafflnognagadaaGreatDoor
def zKc:List UInt8->List UInt8 × List UInt8 × Bool
 | []=>([],[],false)
 | c::l=>if c=47 then ([],l,true) else (c::(zKc l).1,(zKc l).2.1,(zKc l).2.2)
theorem zNe (l:List UInt8):(Lib.index l [47] = -1/\zKc l=(l,[],false))\/∃ i:Nat,Lib.index l [47]=(i:Int)/\zKc l=(l.take i,l.drop (i+1),true):=by
 induction l with
 | nil=>exact .inl ⟨rfl,rfl⟩
 | cons c l ih =>
  by_cases hc:c=47
  ·subst hc;exact .inr ⟨0,by simp [Lib.index],by simp [zKc]⟩
  have h1:([47]:List UInt8).isPrefixOf (c::l)=false:=by
   have:(47==c)=false:=by simpa using Ne.symm hc
   simp [List.isPrefixOf,this]
  rcases ih with ⟨h2,h3⟩|⟨i,h2,h3⟩
  ·refine .inl ⟨?_,?_⟩
   ·unfold Lib.index;rw [h1,h2];rfl
   unfold zKc;rw [if_neg hc,h3]
  refine .inr ⟨i+1,?_,?_⟩
  ·unfold Lib.index;rw [h1,h2]
   have:((i:Int) == -1)=false:=by rw [beq_eq_false_iff_ne];omega
   simp [this]
  unfold zKc;rw [if_neg hc,h3];rfl
theorem zKi (l:List UInt8):Lib.cut l [47]=zKc l:=by
 rcases zNe l with ⟨h1,h2⟩|⟨i,h1,h2⟩
 ·unfold Lib.cut;rw [h1,h2];rfl
 unfold Lib.cut;rw [h1,h2,if_pos oMx]
 simp
theorem zKf {l:List UInt8} (h:47 ∉ l):zKc l=(l,[],false):=by
 induction l with
 | nil=>rfl
 | cons c l ih =>
  have h1:c≠47:=fun e=>h (by simp [e])
  have h2:47 ∉ l:=fun e=>h (by simp [e])
  unfold zKc;rw [if_neg h1,ih h2]
theorem zKg {a b:List UInt8} (h:47 ∉ a):zKc (a++47::b)=(a,b,true):=by
 induction a with
 | nil=>simp [zKc]
 | cons c a ih =>
  have h1:c≠47:=fun e=>h (by simp [e])
  have h2:47 ∉ a:=fun e=>h (by simp [e])
  rw [List.cons_append];unfold zKc;rw [if_neg h1,ih h2]
theorem zKd (l:List UInt8):((zKc l).2.2=true/\l=(zKc l).1++47::(zKc l).2.1)\/((zKc l).2.2=false/\l=(zKc l).1/\(zKc l).2.1=[]):=by
 induction l with
 | nil=>exact .inr ⟨rfl,rfl,rfl⟩
 | cons c l ih =>
  by_cases hc:c=47
  ·subst hc;exact .inl ⟨by simp [zKc],by simp [zKc]⟩
  unfold zKc;rw [if_neg hc]
  rcases ih with ⟨h1,h2⟩|⟨h1,h2,h3⟩
  ·refine .inl ⟨h1,?_⟩
   show c::l=(c::(zKc l).1)++47::(zKc l).2.1
   rw [List.cons_append,<-h2]
  refine .inr ⟨h1,?_,h3⟩
  show c::l=c::(zKc l).1
  rw [<-h2]
theorem zKe (l:List UInt8):(zKc l).1.length<=l.length/\(zKc l).2.1.length<=l.length:=by
 rcases zKd l with ⟨_,h⟩|⟨_,h,h2⟩
 ·have:=congrArg List.length h
  simp at this
  omega
 have:=congrArg List.length h;rw [h2];exact ⟨oMx,by simp⟩
theorem zVp {l:List UInt8} (h:zAw l):47 ∉ l:=fun hm=>by
 have:=h 47 hm;unfold zBu at this;have e:(47:UInt8).toNat=47:=rfl;omega
theorem zVq (x:Int):47 ∉ Lib.itoa x:=by
 unfold Lib.itoa
 split
 ·intro h
  rcases List.mem_cons.1 h with h|h
  ·cases h
  exact zVp (zKo _) h
 exact zVp (zKo _)
def zUg (q:Rat):List UInt8:=if q.den=1 then Lib.itoa q.num else Lib.itoa q.num++47::Lib.itoa (q.den:Int)
def zBc (q:Rat):Prop:=Fits q.num/\Fits (q.den:Int)
theorem zUk {q:Rat} (h:q.den=1):zUg q=Lib.itoa q.num:=if_pos h
theorem zUj {q:Rat} (h:q.den≠1):zUg q=Lib.itoa q.num++47::Lib.itoa (q.den:Int):=if_neg h
theorem zKj {q:Rat} (h:q.den=1):zKc (zUg q)=(Lib.itoa q.num,[],false):=by rw [zUk h,zKf (zVq _)]
theorem zKh {q:Rat} (h:q.den≠1):zKc (zUg q)=(Lib.itoa q.num,Lib.itoa (q.den:Int),true):=by rw [zUj h,zKg (zVq _)]
open Classical in
noncomputable def zYy (l:List UInt8):Bool:=decide (∃ q:Rat,l=zUg q/\zBc q)
open Classical in
theorem zZi {q:Rat} (h:zBc q):zYy (zUg q)=true:=by unfold zYy;exact decide_eq_true ⟨q,rfl,h⟩
open Classical in
theorem zZb {l:List UInt8} (h:zYy l=true):∃ q:Rat,l=zUg q/\zBc q:=by unfold zYy at h;exact of_decide_eq_true h
open Classical in
theorem zZe {l:List UInt8} (h:¬∃ q:Rat,l=zUg q/\zBc q):zYy l=false:=by unfold zYy;exact decide_eq_false h
theorem zZf {l:List UInt8} (h:(zKc l).2.2=false):zYy l=zYx l:=by
 rcases zKd l with ⟨h1,_⟩|⟨_,h2,_⟩
 ·rw [h] at h1;cases h1
 cases hv:zYx l
 ·apply zZe
  rintro ⟨q,rfl,hf⟩
  by_cases hd:q.den=1
  ·rw [zUk hd,zZl hf.1] at hv;cases hv
  rw [zKh hd] at h;cases h
 obtain ⟨x,hx,hf⟩:=zZk hv
 have:l=zUg (x:Rat):=by rw [zUk (Rat.den_intCast x),Rat.num_intCast];exact hx
 rw [this];exact zZi ⟨by rw [Rat.num_intCast];exact hf,by rw [Rat.den_intCast];unfold Fits;rw [show ((1:Nat):Int).natAbs=1 from rfl,Lib.decDigits_one dCx];simp⟩
theorem zZg {l:List UInt8} (h:(zKc l).2.2=true):zYy l=true↔∃ n d:Int,(zKc l).1=Lib.itoa n/\(zKc l).2.1=Lib.itoa d/\Fits n/\Fits d/\n≠0/\1<d/\Nat.gcd n.natAbs d.natAbs=1:=by
 constructor
 ·intro hv
  obtain ⟨q,rfl,hf⟩:=zZb hv
  by_cases hd:q.den=1
  ·rw [zKj hd] at h;cases h
  rw [zKh hd];have hp:=q.den_pos;refine ⟨q.num,q.den,rfl,rfl,hf.1,hf.2,?_,oMx,by rw [Int.natAbs_natCast];exact q.reduced⟩
  intro h0
  have:=q.reduced;rw [h0] at this
  simp [Nat.Coprime] at this
  exact hd this
 rintro ⟨n,d,h1,h2,hf,hg,hn,hd,hc⟩;obtain ⟨D,rfl⟩:∃ D:Nat,d=(D:Int):=⟨d.toNat,oMx⟩;rw [Int.natAbs_natCast] at hc
 have hl:l=zUg ⟨n,D,oMx,hc⟩:=by
  rw [zUj (by show D≠1;omega)]
  rcases zKd l with ⟨_,h3⟩|⟨h3,_⟩
  ·rw [h1,h2] at h3;exact h3
  rw [h] at h3;cases h3
 rw [hl];exact zZi ⟨hf,hg⟩
end Go.Proofs.YtafflnognagadaaGreatDoor
namespace Go.Proofs.YtafflnognagadaaGreatDoor
def DigR (d:Nat) (q:Rat):Prop:=Dig d q.num/\Dig d (q.den:Int)
end Go.Proofs.YtafflnognagadaaGreatDoor
namespace Go.Proofs.YtafflnognagadaaGreatDoor
def Sz (n:Nat) (q:Rat):Prop:=(limbs q.num.natAbs).length<=n/\(limbs q.den).length<=n
theorem zPj {n:Nat} (h:n<1000000000):(limbs n).length<=1:=zPb (by simpa using h)
end Go.Proofs.YtafflnognagadaaGreatDoor
namespace Go.Proofs.YtafflnognagadaaGreatDoor
end Go.Proofs.YtafflnognagadaaGreatDoor
namespace Go.Proofs.YtafflnognagadaaGreatDoor
open Go.RowKit
theorem zMx {w:World} (g i:Nat) (u:Value):w.grownBy (w.setCell ⟨g,i,none⟩ u) (some g):=zRn (p:=⟨g,i,none⟩) (World.grownBy.refl w (some g)) (.inl rfl) u
theorem zMy {a w:World} {g:Nat} (h:a.grownBy w (some g)) (i:Nat) (u:Value):a.grownBy (w.setCell ⟨g,i,none⟩ u) (some g):=zRn (p:=⟨g,i,none⟩) h (.inl rfl) u
theorem zBw.slice {w:World} {v:Value} {z:Int} (h:zBw w v z):∃ (nb:Bool) (A:oAx) (l c:Nat),v = .agg #[.bool nb,.slice A l c]:=by
 obtain ⟨_,rfl,A,c,rfl,_,_⟩:=h;exact ⟨_,A,_,c,rfl⟩
def IsFrac (w:World) (v:Value) (q:Rat):Prop:=∃ (na nb:Bool) (A A':oAx) (l c l' c':Nat),v = .agg #[.bool na,.slice A l c,.bool nb,.slice A' l' c']/\zBw w (.agg #[.bool na,.slice A l c]) q.num/\zBw w (.agg #[.bool nb,.slice A' l' c']) (q.den:Int)
def RetFrac (w:World) (q:Rat) (e:Ending) (w':World):Prop:=∃ v,e = .returned v/\IsFrac w' v q/\Below w.heap.size w w'
abbrev C2 (W:World) (g:Nat) (x0 x1:Value):Prop:=W.cell? ⟨g,0,none⟩=some x0/\W.cell? ⟨g,1,none⟩=some x1
abbrev C4 (W:World) (g:Nat) (x0 x1 x2 x3:Value):Prop:=W.cell? ⟨g,0,none⟩=some x0/\W.cell? ⟨g,1,none⟩=some x1/\W.cell? ⟨g,2,none⟩=some x2/\W.cell? ⟨g,3,none⟩=some x3
abbrev C44 (W:World) (g h:Nat) (x0 x1 x2 x3 y0 y1 y2 y3:Value):Prop:=(W.cell? ⟨g,0,none⟩=some x0/\W.cell? ⟨g,1,none⟩=some x1/\W.cell? ⟨g,2,none⟩=some x2/\W.cell? ⟨g,3,none⟩=some x3)/\W.cell? ⟨h,0,none⟩=some y0/\W.cell? ⟨h,1,none⟩=some y1/\W.cell? ⟨h,2,none⟩=some y2/\W.cell? ⟨h,3,none⟩=some y3
section
variable {W:World} {g h:Nat} {t t':TypeId} {x0 x1 x2 x3 y0 y1 y2 y3:Value}
end
end Go.Proofs.YtafflnognagadaaGreatDoor
namespace Go.Proofs.YtafflnognagadaaGreatDoor
open Go.RowKit
theorem zRg {n:Nat} (hn:n<9223372036854775808):zXh [n%1000000000,n/1000000000%1000000000,n/1000000000/1000000000]=limbs n:=by
 have hlow:Low [n%1000000000,n/1000000000%1000000000,n/1000000000/1000000000]:=Low.cons oMx (Low.cons oMx (Low.cons oMx Low.nil));rw [<-zPm hlow]
 congr 1
 simp only [zYg,zYm];omega
theorem zRf {w:World} {g n:Nat} (h:Blk w g 167 [.int .u64 ((n:Int)%1000000000),.int .u64 ((n:Int)/1000000000%1000000000),.int .u64 ((n:Int)/1000000000/1000000000)]) :
  zAe .u64 w (some ⟨g,0,none⟩) [n%1000000000,n/1000000000%1000000000,n/1000000000/1000000000]:=fun _=>⟨g,0,rfl,h.lt,fun i hi=>by
 rw [Nat.zero_add,h.cell]
 match i,hi with
 | 0,_=>rfl
 | 1,_=>rfl
 | 2,_=>rfl⟩
theorem LOf_any (n:Nat) (w:World) (hn:n<9223372036854775808):Calls Tryz.prog 133 #[.int .i64 (n:Int)] w (zFq w (n:Int)):=by
 have HTR:Hid (∀ W:World,Blk W (w.heap.size+1) 167 [.int .u64 ((n:Int)%1000000000),.int .u64 ((n:Int)/1000000000%1000000000),.int .u64 ((n:Int)/1000000000/1000000000)]->Calls Tryz.prog 141 #[.slice (some ⟨w.heap.size+1,0,none⟩) 3 3] W fun e w'=>e = .returned (.slice (some ⟨w.heap.size+1,0,none⟩) (limbs n).length 3)/\W=w'):=fun W hW=>by
  have:=zXo (some ⟨w.heap.size+1,0,none⟩) [n%1000000000,n/1000000000%1000000000,n/1000000000/1000000000] 3 W (zRf hW) sMx sMx;rw [zRg hn] at this;exact this
 have HCE:Hid (∀ W:World,Blk W (w.heap.size+1) 167 [.int .u64 ((n:Int)%1000000000),.int .u64 ((n:Int)/1000000000%1000000000),.int .u64 ((n:Int)/1000000000/1000000000)]->zBv W (.slice (some ⟨w.heap.size+1,0,none⟩) (limbs n).length 3) n):=fun W hW=>by
  have h1:=(zRf hW).take (limbs n).length;have h2:=zXl [n%1000000000,n/1000000000%1000000000,n/1000000000/1000000000];have h3:=zXi [n%1000000000,n/1000000000%1000000000,n/1000000000/1000000000];rw [zRg hn] at h2 h3;rw [<-h2] at h1;exact zBv.mk h3 h1
 have hl3:(limbs n).length<=3:=zPb oMx;have hd:decide ((n:Int)<0)=false:=decide_eq_false oMx
 go_enter Tryz.func133,Tryz.ntmps133
 go_wp2_with fail;have hk:=Blk.new (w.alloc (.cells #[.bool false,.slice none 0 0] 158)) 167 [.int .u64 ((n:Int)%1000000000),.int .u64 ((n:Int)/1000000000%1000000000),.int .u64 ((n:Int)/1000000000/1000000000)];have hr:=(Blk.new w 158 [.bool false,.slice none 0 0]).alloc (.cells #[.int .u64 ((n:Int)%1000000000),.int .u64 ((n:Int)/1000000000%1000000000),.int .u64 ((n:Int)/1000000000/1000000000)] 167);have hb:Below w.heap.size w ((w.alloc (.cells #[.bool false,.slice none 0 0] 158)).alloc (.cells #[.int .u64 ((n:Int)%1000000000),.int .u64 ((n:Int)/1000000000%1000000000),.int .u64 ((n:Int)/1000000000/1000000000)] 167)):=(bA).alloc sMx _;rw [World.size_alloc] at hk;generalize (w.alloc (.cells #[.bool false,.slice none 0 0] 158)).alloc (.cells #[.int .u64 ((n:Int)%1000000000),.int .u64 ((n:Int)/1000000000%1000000000),.int .u64 ((n:Int)/1000000000/1000000000)] 167)=W at *;have HK:=oH hk;have HR:=oH hr
 have HB:=oH hb;clear hk hr hb;refine (HTR.out W HK.out).mono ?_;rintro e w1 ⟨rfl,rfl⟩;go_wp2_with fail;refine (zRe false _ n W (HCE.out W HK.out) oMx).mono ?_
 intro e w2 hret
 obtain ⟨A3,c3,rfl,hl3',hc3,hb3⟩:=hret.num;have HC3:=oH hc3;have HR3:=oH (HR.below hb3);have HB3:=bTx2 HB hb3;have hr0:w2.cell? ⟨w.heap.size,0,none⟩=some (.bool false):=HR3.at_ rfl;have hr1:w2.cell? ⟨w.heap.size,1,none⟩=some (.slice none 0 0):=HR3.at_ rfl;have hf0:=HR3.fr 0;have hf1:=HR3.fr 1;clear hret hc3 hb3 HTR HCE hd;go_wp2_with fail;refine bodyPost_ret (v := .agg #[.bool (decide (sgn false n<0)),.slice A3 (limbs (sgn false n).natAbs).length c3]) (by simp [results,Tryz.results133,go_sem,hr0,hr1]) rfl ?_;exact Res.end_ ⟨HR3.out⟩ HB3.out lRx HC3.out hl3' rfl
theorem len_one:(limbs (1:Int).natAbs).length<=100:=Nat.le_trans (zPj (n:=1) dCx) dCx
theorem LOf_one (w:World):Calls Tryz.prog 133 #[.int .i64 1] w (zFq w 1):=LOf_any 1 w dCx
def wholeB (q:Rat):Bool:=decide (q.den=1)
end Go.Proofs.YtafflnognagadaaGreatDoor
namespace Go.Proofs.YtafflnognagadaaGreatDoor
open Go.RowKit
attribute [local go_sem ↓] Go.wp_at_zero Go.wp_at_succ
end Go.Proofs.YtafflnognagadaaGreatDoor
namespace Go.Proofs.YtafflnognagadaaGreatDoor
open Go.RowKit
end Go.Proofs.YtafflnognagadaaGreatDoor
namespace Go.Proofs.YtafflnognagadaaGreatDoor
open Go.RowKit
def Env (w:World):Prop:=Tab w/\∃ m:Int,w.cell? ⟨0,0,none⟩=some (.int .i64 m)
theorem Env.below {w w':World} (h:Env w) (hb:Below w.heap.size w w'):Env w':=by
 obtain ⟨h1,m,hm⟩:=h;refine ⟨h1.below hb,m,?_⟩;rw [hb.cell (p:=⟨0,0,none⟩)]
 ·exact hm
 show 0<w.heap.size
 rcases Nat.lt_or_ge 0 w.heap.size with h|h
 ·exact h
 unfold World.cell? at hm;rw [Array.getElem?_eq_none h] at hm
 simp at hm
def zUb (q:Rat):ByteArray:=⟨(zUg q).toArray⟩
instance (q:Rat):Decidable (zBc q):=inferInstanceAs (Decidable (_/\_))
def outR (q:Rat):ByteArray:=if zBc q then zUb q else ⟨#[]⟩
def outRE (q:Rat):Int:=if zBc q then 0 else 3
theorem zNt {x:Int} (h:Fits x):(Lib.itoa x).length<=401:=by have:=zNu x;unfold Fits at h;omega
theorem zUh {q:Rat} (h:zBc q):(zUg q).length<=803:=by
 have h1:=zNt h.1;have h2:=zNt h.2;unfold zUg
 split
 ·omega
 simp;omega
theorem zUd (q:Rat):(zUb q).size=(zUg q).length:=by unfold zUb;simp [ByteArray.size]
theorem zUc (q:Rat):(zUb q).data.toList=zUg q:=by unfold zUb;simp
theorem zUf {q:Rat} (h:q.den=1):zUb q=str q.num:=by unfold zUb str;rw [zUk h]
theorem zAs (l:List UInt8) (w:World) (hl:l.length<4294967281) (he:Env w) :
  Calls Tryz.prog 124 #[.string ⟨l.toArray⟩,.string ⟨#[47]⟩] w fun e w'=>e = .returned (.tuple #[.string ⟨(zKc l).1.toArray⟩,.string ⟨(zKc l).2.1.toArray⟩,.bool (zKc l).2.2])/\Below w.heap.size w w':=by
 obtain ⟨_,m,hm⟩:=he;have h:=Tryz.strings_Cut ⟨l.toArray⟩ ⟨#[47]⟩ m w (by simpa [ByteArray.size] using hl) hm;rw [show (⟨l.toArray⟩:ByteArray).data.toList=l by simp,show (⟨#[47]⟩:ByteArray).data.toList=[47] from rfl,zKi] at h;refine h.mono ?_;rintro e w' ⟨rfl,n,rfl⟩;exact ⟨rfl,below_drewN bRx _⟩
theorem zAu {q:Rat} (h:q.den=1) (hf:zBc q) (w:World) (he:Env w) :
  Calls Tryz.prog 124 #[.string (zUb q),.string ⟨#[47]⟩] w fun e w'=>e = .returned (.tuple #[.string (str q.num),.string ⟨#[]⟩,.bool false])/\Below w.heap.size w w':=by
 have:=zAs (zUg q) w (by have:=zUh hf;omega) he;rw [zKj h] at this;exact this
theorem zAt {q:Rat} (h:q.den≠1) (hf:zBc q) (w:World) (he:Env w) :
  Calls Tryz.prog 124 #[.string (zUb q),.string ⟨#[47]⟩] w fun e w'=>e = .returned (.tuple #[.string (str q.num),.string (str (q.den:Int)),.bool true])/\Below w.heap.size w w':=by
 have:=zAs (zUg q) w (by have:=zUh hf;omega) he;rw [zKh h] at this;exact this
theorem zCe (x:Int) (w:World) (hf:Fits x):Calls Tryz.prog 130 #[.string (str x)] w (zFq w x):=zFe x w (by unfold Fits at hf;omega)
theorem zRi:Fits 1:=zMf dCx
end Go.Proofs.YtafflnognagadaaGreatDoor
namespace Go.Proofs.YtafflnognagadaaGreatDoor
open Go.RowKit
end Go.Proofs.YtafflnognagadaaGreatDoor
namespace Go.Proofs.YtafflnognagadaaGreatDoor
open Go.RowKit
theorem zZa {l:List UInt8} (h:zYx (zKc l).1=false):zYy l=false:=by
 cases hk:(zKc l).2.2
 ·rw [zZf hk]
  rcases zKd l with ⟨h1,_⟩|⟨_,h2,_⟩
  ·rw [hk] at h1;cases h1
  rw [h2];exact h
 cases hv:zYy l
 ·rfl
 obtain ⟨n,d,h1,_,hf,_⟩:=(zZg hk).1 hv
 rw [h1,zZl hf] at h;cases h
theorem zZd {l:List UInt8} (h:zYx (zKc l).1=true) (hk:(zKc l).2.2=false):zYy l=true:=by
 rw [zZf hk]
 rcases zKd l with ⟨h1,_⟩|⟨_,h2,_⟩
 ·rw [hk] at h1;cases h1
 rw [h2];exact h
theorem zZj {l:List UInt8} (hk:(zKc l).2.2=true) (h:(zKc l).1=Lib.itoa 0):zYy l=false:=by
 cases hv:zYy l
 ·rfl
 obtain ⟨n,d,h1,_,_,_,hn,_⟩:=(zZg hk).1 hv;rw [h1] at h;exact absurd (zNs h) hn
theorem zYz {l:List UInt8} (hk:(zKc l).2.2=true) (h:zYx (zKc l).2.1=false):zYy l=false:=by
 cases hv:zYy l
 ·rfl
 obtain ⟨n,d,_,h2,_,hg,_⟩:=(zZg hk).1 hv
 rw [h2,zZl hg] at h;cases h
theorem zZh {l:List UInt8} {m:Int} (hk:(zKc l).2.2=true) (h:(zKc l).2.1=Lib.itoa m) (hm:m<=1):zYy l=false:=by
 cases hv:zYy l
 ·rfl
 obtain ⟨n,d,_,h2,_,_,_,hd,_⟩:=(zZg hk).1 hv;rw [h2] at h;have:=zNs h;omega
theorem zZc {l:List UInt8} {n m:Int} (hk:(zKc l).2.2=true) (h1:(zKc l).1=Lib.itoa n) (h2:(zKc l).2.1=Lib.itoa m) (fn:Fits n) (fm:Fits m) (hn:n≠0) (hm:1<m):zYy l=decide (n.natAbs.gcd m.natAbs=1):=by
 by_cases hg:n.natAbs.gcd m.natAbs=1
 ·rw [decide_eq_true hg];exact (zZg hk).2 ⟨n,m,h1,h2,fn,fm,hn,hm,hg⟩
 rw [decide_eq_false hg]
 cases hv:zYy l
 ·rfl
 obtain ⟨n',d',k1,k2,_,_,_,_,hc⟩:=(zZg hk).1 hv
 rw [k1] at h1;rw [k2] at h2
 rw [zNs h1,zNs h2] at hc;exact absurd hc hg
theorem gcd_sg (a b:Nat) (hb:0<b):(sg (((a.gcd b:Nat):Int)-1)==0)=decide (a.gcd b=1):=by
 have:=Nat.gcd_pos_of_pos_right a hb;unfold sg
 by_cases h:a.gcd b=1
 ·simp [h]
 rw [if_neg oMx,if_pos oMx]
 simp [h]
theorem zFb (l:List UInt8) (w:World) (hl:l.length<=4000000000) (henv:Env w) :
  Calls Tryz.prog 123 #[.string ⟨l.toArray⟩] w fun e w'=>e = .returned (.bool (zYy l))/\Below w.heap.size w w':=by
 have HC:=oH (zAs l w oMx henv);have HV1:=oH (fun W=>zGs (zKc l).1 W (by have:=(zKe l).1;omega));have HV2:=oH (fun W=>zGs (zKc l).2.1 W (by have:=(zKe l).2;omega));clear henv
 cases hv1:zYx (zKc l).1
 ·have E:=oH (zZa hv1);rw [hv1] at HV1;clear hv1 HV2;generalize (zKc l).1=p at *;generalize (zKc l).2.1=q at *;generalize (zKc l).2.2=k at *
  cases k
  ·have tok:True:=trivial
   go_enter Tryz.func123,Tryz.ntmps123
   go_wp2_with fail;refine (HC.out).mono ?_;rintro e w1 ⟨rfl,hb⟩;have HB:=oH hb;clear hb;go_wp2_with fail;refine (HV1.out w1).mono ?_;rintro e w2 ⟨rfl,hb⟩;replace HB:=bTx2 HB hb;clear hb;go_wp2_with fail;refine (HV1.out w2).mono ?_;rintro e w3 ⟨rfl,hb⟩;replace HB:=bTx2 HB hb;clear hb;go_wp2_with fail;go_ret
   exact ⟨by rw [E.out];rfl,HB.out⟩
  have tok:True:=trivial
  go_enter Tryz.func123,Tryz.ntmps123
  go_wp2_with fail;refine (HC.out).mono ?_;rintro e w1 ⟨rfl,hb⟩;have HB:=oH hb;clear hb;go_wp2_with fail;refine (HV1.out w1).mono ?_;rintro e w2 ⟨rfl,hb⟩;replace HB:=bTx2 HB hb;clear hb;go_wp2_with fail;go_ret
  exact ⟨by rw [E.out];rfl,HB.out⟩
 cases hk:(zKc l).2.2
 ·have E:=oH (zZd hv1 hk);rw [hk] at HC;rw [hv1] at HV1;clear hv1 hk HV2;generalize (zKc l).1=p at *;generalize (zKc l).2.1=q at *
  go_enter Tryz.func123,Tryz.ntmps123
  go_wp2_with fail;refine (HC.out).mono ?_;rintro e w1 ⟨rfl,hb⟩;have HB:=oH hb;clear hb;go_wp2_with fail;refine (HV1.out w1).mono ?_;rintro e w2 ⟨rfl,hb⟩;replace HB:=bTx2 HB hb;clear hb;go_wp2_with fail;refine (HV1.out w2).mono ?_;rintro e w3 ⟨rfl,hb⟩;replace HB:=bTx2 HB hb;clear hb;go_wp2_with fail;go_ret
  exact ⟨by rw [E.out];rfl,HB.out⟩
 obtain ⟨n,hn,fn⟩:=zZk hv1
 by_cases hn0:n=0
 ·subst hn0;have E:=oH (zZj hk hn);rw [hk] at HC;rw [hv1] at HV1;rw [hn,zOb] at HC HV1;clear hv1 hk hn HV2;generalize (zKc l).2.1=q at *
  go_enter Tryz.func123,Tryz.ntmps123
  go_wp2_with fail;refine (HC.out).mono ?_;rintro e w1 ⟨rfl,hb⟩;have HB:=oH hb;clear hb;go_wp2_with fail;refine (HV1.out w1).mono ?_;rintro e w2 ⟨rfl,hb⟩;replace HB:=bTx2 HB hb;clear hb;go_wp2_with fail;go_ret
  exact ⟨by rw [E.out];rfl,HB.out⟩
 have hq0:((⟨(Lib.itoa n).toArray⟩:ByteArray).toList==[48])=false:=by rw [Lib.toList_data,beq_eq_false_iff_ne];exact fun e=>hn0 (zNr.1 e)
 have hq0':(Lib.itoa n==[48])=false:=by rw [beq_eq_false_iff_ne];exact fun e=>hn0 (zNr.1 e)
 have HRN:=oH (fun W=>zCe n W fn);have lnn:=fn.len
 cases hv2:zYx (zKc l).2.1
 ·have E:=oH (zYz hk hv2);rw [hk] at HC;rw [hv1] at HV1;rw [hv2] at HV2;rw [hn] at HC HV1;clear hv1 hv2 hk hn;generalize (zKc l).2.1=q at *;generalize Lib.itoa n=p at *
  go_enter Tryz.func123,Tryz.ntmps123
  go_wp2_with fail;refine (HC.out).mono ?_;rintro e w1 ⟨rfl,hb⟩;have HB:=oH hb;clear hb;go_wp2_with fail;refine (HV1.out w1).mono ?_;rintro e w2 ⟨rfl,hb⟩;replace HB:=bTx2 HB hb;clear hb;go_wp2_with fail;refine (HV2.out w2).mono ?_;rintro e w3 ⟨rfl,hb⟩;replace HB:=bTx2 HB hb;clear hb;go_wp2_with fail;go_ret
  exact ⟨by rw [E.out];rfl,HB.out⟩
 obtain ⟨m,hm,fm⟩:=zZk hv2;have HCM:=oH (fun W=>zBk m 1 W fm zRi);rw [str_1] at HCM;have HRM:=oH (fun W=>zCe m W fm);have lmm:=fm.len;unfold str at HCM HRN HRM
 by_cases hm1:m<=1
 ·have E:=oH (zZh hk hm hm1)
  have hs:sg (m-1)<=0:=by unfold sg;split<;>(try split)<;>omega
  rw [hk] at HC;rw [hv1] at HV1;rw [hv2] at HV2;rw [hn,hm] at HC;rw [hn] at HV1;rw [hm] at HV2;clear hv1 hv2 hk hn hm HRN HRM;generalize Lib.itoa n=p at *;generalize Lib.itoa m=q at *
  go_enter Tryz.func123,Tryz.ntmps123
  go_wp2_with fail;refine (HC.out).mono ?_;rintro e w1 ⟨rfl,hb⟩;have HB:=oH hb;clear hb;go_wp2_with fail;refine (HV1.out w1).mono ?_;rintro e w2 ⟨rfl,hb⟩;replace HB:=bTx2 HB hb;clear hb;go_wp2_with fail;refine (HV2.out w2).mono ?_;rintro e w3 ⟨rfl,hb⟩;replace HB:=bTx2 HB hb;clear hb;go_wp2_with fail;refine (HCM.out w3).mono ?_;rintro e w4 ⟨rfl,hb⟩;replace HB:=bTx2 HB hb;clear hb;go_wp2_with fail;go_ret
  exact ⟨by rw [E.out];rfl,HB.out⟩
 have hmp:0<m.natAbs:=by omega
 have E:=oH ((zZc hk hn hm fn fm hn0 oMx).trans (gcd_sg n.natAbs m.natAbs hmp).symm)
 have hs:¬sg (m-1)<=0:=by unfold sg;rw [if_neg oMx,if_pos oMx];omega
 have lg:(limbs (((n.natAbs.gcd m.natAbs:Nat):Int)).natAbs).length<=45:=by rw [Int.natAbs_natCast];exact Nat.le_trans (zPd (Nat.gcd_le_right _ hmp)) lmm
 rw [hk] at HC;rw [hv1] at HV1;rw [hv2] at HV2;rw [hn,hm] at HC;rw [hn] at HV1;rw [hm] at HV2;have HGC:=oH (fun U V W (hU:zBw W U n) (hV:zBw W V m)=>Gcd_any U V n m W hU hV oMx oMx);clear hv1 hv2 hk hn hm;generalize Lib.itoa n=p at *;generalize Lib.itoa m=q at *;generalize ((n.natAbs.gcd m.natAbs:Nat):Int)=G at *
 go_enter Tryz.func123,Tryz.ntmps123
 go_wp2_with fail;refine (HC.out).mono ?_;rintro e w1 ⟨rfl,hb⟩;have HB:=oH hb;clear hb;go_wp2_with fail;refine (HV1.out w1).mono ?_;rintro e w2 ⟨rfl,hb⟩;replace HB:=bTx2 HB hb;clear hb;go_wp2_with fail;refine (HV2.out w2).mono ?_;rintro e w3 ⟨rfl,hb⟩;replace HB:=bTx2 HB hb;clear hb;go_wp2_with fail;refine (HCM.out w3).mono ?_;rintro e w4 ⟨rfl,hb⟩;replace HB:=bTx2 HB hb;clear hb;go_wp2_with fail;refine (HRN.out w4).mono ?_;rintro e w5 ⟨v5,rfl,hv,hb⟩;have HN:=oH hv;obtain ⟨x5,X5,y5,z5,rfl⟩:=hv.slice;replace HB:=bTx2 HB hb;clear hb hv;go_wp2_with fail;refine (HRM.out w5).mono ?_;rintro e w6 ⟨v6,rfl,hv,hb⟩;replace HN:=oH (HN.below hb);have HM:=oH hv;obtain ⟨x6,X6,y6,z6,rfl⟩:=hv.slice;replace HB:=bTx2 HB hb;clear hb hv;go_wp2_with fail;refine (HGC.out _ _ w6 HN.out HM.out).mono ?_;rintro e w7 ⟨v7,rfl,hv,hb⟩;clear HN HM;have HG:=oH hv;obtain ⟨x7,X7,y7,z7,rfl⟩:=hv.slice;replace HB:=bTx2 HB hb;clear hb hv
 go_wp2_with fail;refine (LOf_one w7).mono ?_;rintro e w8 ⟨v8,rfl,hv,hb⟩;replace HG:=oH (HG.below hb);have HO:=oH hv;obtain ⟨x8,X8,y8,z8,rfl⟩:=hv.slice;replace HB:=bTx2 HB hb;clear hb hv;go_wp2_with fail;refine (zAj _ _ G 1 w8 HG.out HO.out oMx (Nat.le_trans len_one dCx)).mono ?_;rintro e w9 ⟨rfl,hb⟩;clear HG HO;replace HB:=bTx2 HB hb;clear hb;go_wp2_with fail;go_ret
 exact ⟨by rw [E.out];rfl,HB.out⟩
theorem zFc (q:Rat) (w:World) (hf:zBc q) (henv:Env w):Calls Tryz.prog 123 #[.string (zUb q)] w fun e w'=>e = .returned (.bool true)/\Below w.heap.size w w':=by
 have:=zFb (zUg q) w (by have:=zUh hf;omega) henv;rw [zZi hf] at this;exact this
theorem zFa (q:Rat) (w:World) (h:q.den=1) (hf:zBc q) (henv:Env w):Calls Tryz.prog 117 #[.string (zUb q)] w fun e w'=>e = .returned (.tuple #[.string (str q.num),.string ⟨#[49]⟩,.bool true])/\Below w.heap.size w w':=by
 have HV:=oH (zFc q w hf henv);have HC:=oH (fun W hE=>zAu h hf W hE);have HE:=oH henv;clear henv hf h
 go_enter Tryz.func117,Tryz.ntmps117
 go_wp2_with fail;refine (HV.out).mono ?_;rintro e w1 ⟨rfl,hb⟩;replace HE:=oH (HE.below hb);have HB:=oH hb;clear hb;go_wp2_with fail;refine (HC.out w1 HE.out).mono ?_;rintro e w2 ⟨rfl,hb⟩;replace HE:=oH (HE.below hb);replace HB:=bTx2 HB hb;clear hb;go_wp2_with fail
 go_ret3
 exact ⟨rfl,HB.out⟩
theorem zEz (q:Rat) (w:World) (h:q.den≠1) (hf:zBc q) (henv:Env w):Calls Tryz.prog 117 #[.string (zUb q)] w fun e w'=>e = .returned (.tuple #[.string (str q.num),.string (str (q.den:Int)),.bool true])/\Below w.heap.size w w':=by
 have HV:=oH (zFc q w hf henv);have HC:=oH (fun W hE=>zAt h hf W hE);have HE:=oH henv;clear henv hf h
 go_enter Tryz.func117,Tryz.ntmps117
 go_wp2_with fail;refine (HV.out).mono ?_;rintro e w1 ⟨rfl,hb⟩;replace HE:=oH (HE.below hb);have HB:=oH hb;clear hb;go_wp2_with fail;refine (HC.out w1 HE.out).mono ?_;rintro e w2 ⟨rfl,hb⟩;replace HE:=oH (HE.below hb);replace HB:=bTx2 HB hb;clear hb;go_wp2_with fail
 go_ret3
 exact ⟨rfl,HB.out⟩
theorem zEy (q:Rat) (w:World) (hf:zBc q) (henv:Env w):Calls Tryz.prog 117 #[.string (zUb q)] w fun e w'=>e = .returned (.tuple #[.string (str q.num),.string (str (q.den:Int)),.bool true])/\Below w.heap.size w w':=by
 by_cases h:q.den=1
 ·have:=zFa q w h hf henv;rw [<-str_1] at this;rw [h];exact this
 exact zEz q w h hf henv
theorem zEx (l:List UInt8) (w:World) (hl:l.length<=4000000000) (henv:Env w) (h:zYy l=false):Calls Tryz.prog 117 #[.string ⟨l.toArray⟩] w fun e w'=>e = .returned (.tuple #[.string ⟨#[]⟩,.string ⟨#[]⟩,.bool false])/\Below w.heap.size w w':=by
 have HV:=oH (zFb l w hl henv);rw [h] at HV;clear h henv
 go_enter Tryz.func117,Tryz.ntmps117
 go_wp2_with fail;refine (HV.out).mono ?_;rintro e w1 ⟨rfl,hb⟩;have HB:=oH hb;clear hb;go_wp2_with fail
 go_ret3
 exact ⟨rfl,HB.out⟩
def digR (q:Rat):Nat:=max (Lib.nDigits q.num.natAbs) (Lib.nDigits q.den)
end Go.Proofs.YtafflnognagadaaGreatDoor
namespace Go.Proofs.YtafflnognagadaaGreatDoor
open Go.RowKit
def Strs (w:World) (A:oAx) (ss:List ByteArray):Prop:=ss≠[]->∃ b off,A=some ⟨b,off,none⟩/\b<w.heap.size/\∀ i,(h:i<ss.length)->w.cell? ⟨b,off+i,none⟩=some (.string ss[i])
theorem ba_list (s:ByteArray):(⟨s.data.toList.toArray⟩:ByteArray)=s:=by cases s;simp
theorem zHs (s:ByteArray):s.data.toList.length=s.size:=Array.length_toList
noncomputable def vR (s:ByteArray):Bool:=zYy s.data.toList
def RetIdx (w:World) (ss:List ByteArray) (e:Ending) (w':World):Prop:=∃ r:Int,e = .returned (.int .i64 r)/\decide (0<=r) = !ss.all vR/\Below w.heap.size w w'
end Go.Proofs.YtafflnognagadaaGreatDoor
