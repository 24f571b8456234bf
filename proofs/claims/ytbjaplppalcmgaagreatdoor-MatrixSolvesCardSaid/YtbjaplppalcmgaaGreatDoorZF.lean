import Derived.Test.YtbjaplppalcmgaaGreatDoorZE
import Derived.Test.YtbjaplppalcmgaaGreatDoorZD
import Derived.Test.YtbjaplppalcmgaaGreatDoorCards
import Derived.Test.YtbjaplppalcmgaaGreatDoorTie
import Derived.ProofKit
import Derived.OpenShut
import Derived.Deep.DeepWitnessRowRef
import Derived.Stop.LaidErr
import Derived.Lay
set_option maxHeartbeats 16000000
set_option maxRecDepth 100000
namespace Go.Proofs.YtbjaplppalcmgaaGreatDoor
open Go.RowKit
def zMc (c:UInt8):Bool:=decide (48<=c.toNat/\c.toNat<=57)
def zSx (m:List UInt8):Bool := !m.isEmpty&&decide (m.length<=400) && !(m.head? == some 48)&&m.all zMc
def xEt (l:List UInt8):Bool:=l==[48] || zSx (Lib.trimPrefix l [45])
def Fits (x:Int):Prop:=(Lib.decDigits x.natAbs).length<=400
theorem zMd (c:UInt8):zMc c=true↔zBn c:=by simp [zMc,zBn]
theorem zHu (m:List UInt8):m.all zMc=true↔zAn m:=by
 rw [List.all_eq_true];exact ⟨fun h c hc=>(zMd c).1 (h c hc),fun h c hc=>(zMd c).2 (h c hc)⟩
theorem zPe:Lib.itoa 0=[48]:=by unfold Lib.itoa;rw [if_neg oMx];exact Lib.decDigits_one dCx
theorem zPb (n:Nat):Lib.itoa (n:Int)=Lib.decDigits n:=by unfold Lib.itoa;rw [if_neg oMx];simp
theorem zOz (n:Nat) (h:0<n):Lib.itoa (-(n:Int))=45::Lib.decDigits n:=by unfold Lib.itoa;rw [if_pos oMx];simp
theorem xFh {x:Int} (h:Fits x):xEt (Lib.itoa x)=true:=by
 by_cases h0:x=0
 ·subst h0;rw [zPe];rfl
 unfold xEt;rw [(zPd x).2];unfold Fits at h;have h1:=zKl x.natAbs;have h2:=zKh (n:=x.natAbs) oMx;have h3:=(zHu _).2 (zKg x.natAbs);rw [zSx,h3]
 cases hd:Lib.decDigits x.natAbs with
 | nil=>exact absurd hd h1
 | cons a l =>
  rw [hd] at h h2
  simp at h2 h
  simp [h,h2]
theorem xFg {l:List UInt8} (h:xEt l=true):∃ x:Int,l=Lib.itoa x/\Fits x:=by
 unfold xEt at h;rw [Bool.or_eq_true] at h
 rcases h with h|h
 ·have:l=[48]:=by simpa using h
  exact ⟨0,by rw [this,zPe],by unfold Fits;rw [show (0:Int).natAbs=0 from rfl,Lib.decDigits_one dCx];simp⟩
 unfold zSx at h;simp only [Bool.and_eq_true,Bool.not_eq_true',decide_eq_true_eq] at h;obtain ⟨⟨⟨h1,h2⟩,h3⟩,h4⟩:=h;have hd:=(zHu _).1 h4
 have hne:Lib.trimPrefix l [45]≠[]:=by intro e;rw [e] at h1;simp at h1
 have hh:(Lib.trimPrefix l [45]).head? ≠ some 48:=by intro e;rw [e] at h3;simp at h3
 have he:=zKm hd hne hh;generalize hm:Lib.trimPrefix l [45]=m at *
 by_cases hp:Lib.hasPrefix l [45]=true
 ·have hl:l=45::m:=by
   rw [Lib.trimPrefix,if_pos hp] at hm
   cases l with
   | nil=>simp [Lib.hasPrefix] at hp
   | cons c l' =>
    simp [Lib.hasPrefix] at hp
    subst hp
    simp at hm
    rw [hm]
  have hpos:0<zKp m:=by
   rcases Nat.eq_zero_or_pos (zKp m) with e|e
   ·exfalso;rw [e,Lib.decDigits_one dCx] at he;apply hh;rw [<-he];rfl
   exact e
  exact ⟨-(zKp m:Int),by rw [zOz _ hpos,he,hl],by unfold Fits;rw [Int.natAbs_neg,Int.natAbs_natCast,he];exact h2⟩
 have hl:l=m:=by rw [Lib.trimPrefix,if_neg hp] at hm;exact hm
 exact ⟨(zKp m:Int),by rw [zPb,he,hl],by unfold Fits;rw [Int.natAbs_natCast,he];exact h2⟩
theorem zOw {x y:Int} (h:Lib.itoa x=Lib.itoa y):x=y:=by
 have hx:=zPd x;have hy:=zPd y;rw [h] at hx;have h1:decide (x<0)=decide (y<0):=hx.1.symm.trans hy.1;have h2:Lib.decDigits x.natAbs=Lib.decDigits y.natAbs:=hx.2.symm.trans hy.2
 have h3:x.natAbs=y.natAbs:=by rw [<-zKo x.natAbs,h2,zKo]
 have h4:(x<0↔y<0):=by simpa using h1
 omega
theorem zOv {x:Int}:Lib.itoa x=[48]↔x=0:=⟨fun h=>zOw (h.trans zPe.symm),fun h=>by rw [h,zPe]⟩
theorem zHi (l:List UInt8) (w:World) (hl:l.length<=140737488355328) :
  Calls Tryz.prog 106 #[.string ⟨l.toArray⟩] w fun e w'=>e = .returned (.bool (xEt l))/\Below w.heap.size w w':=by
 by_cases h0:l=[48]
 ·subst h0
  go_enter Tryz.func106,Tryz.ntmps106
  go_wp2_with fail;go_ret
  exact ⟨rfl,bRx⟩
 have hne:(l==[48])=false:=by simpa using h0
 have E:=oH (show xEt l=zSx (Lib.trimPrefix l [45]) by rw [xEt,hne,Bool.false_or]);have HTP:=oH (Tryz.strings_TrimPrefix ⟨l.toArray⟩ ⟨#[45]⟩ w);rw [show (⟨l.toArray⟩:ByteArray).data.toList=l by simp,show (⟨#[45]⟩:ByteArray).data.toList=[45] from rfl] at HTP
 have hml:(Lib.trimPrefix l [45]).length<=l.length:=by unfold Lib.trimPrefix;split<;>simp
 generalize Lib.trimPrefix l [45]=m at *
 cases m with
 | nil =>
  go_enter Tryz.func106,Tryz.ntmps106
  go_wp2_with fail;refine HTP.mono ?_;rintro e w' ⟨rfl,rfl⟩;go_wp2_with fail;go_ret
  exact ⟨by rw [E.out];rfl,bRx⟩
 | cons c r =>
  by_cases hlen:(c::r).length<=400
  ·obtain ⟨s,hs⟩:∃ s:ByteArray,s=⟨(c::r).toArray⟩:=⟨_,rfl⟩;rw [<-hs] at HTP
   have hsz:s.size=r.length+1:=by rw [hs];simp [ByteArray.size]
   have hsd:s.data.toList=c::r:=by rw [hs]
   have hse:s.toList.isEmpty=false:=by rw [Lib.toList_data,hsd];rfl
   have hse':¬s.toList=[]:=by rw [Lib.toList_data,hsd];simp
   have hs0:0<s.size:=by omega
   have hs4:¬400<s.size:=by simp at hlen;omega
   have hs4':decide (400<(s.size:Int))=false:=by simp at hlen ⊢;omega
   have hsc:s[0]=c:=by
    have:s.data.toList[0]'(by rw [hsd];simp)=c:=by simp [hsd]
    have h2:s.data[0]'hs0=c:=by simpa using this
    exact h2
   by_cases hc:c=48
   ·have hc':((s[0].toNat:Int)==48)=true:=by rw [hsc,hc];rfl
    have E2:=oH (show zSx (c::r)=false by simp [zSx,hc]);clear hs hsz hsd hsc
    go_enter Tryz.func106,Tryz.ntmps106
    go_wp2_with fail;refine HTP.mono ?_;rintro e w' ⟨rfl,rfl⟩;go_wp2_with fail;go_ret
    exact ⟨by rw [E.out,E2.out];rfl,bRx⟩
   have hc':((s[0].toNat:Int)==48)=false:=by
    rw [hsc,beq_eq_false_iff_ne]
    intro e
    apply hc
    apply UInt8.toNat_inj.1
    have:(48:UInt8).toNat=48:=rfl;omega
   have E2:=oH (show zSx (c::r)=s.data.toList.all zMc by rw [hsd,zSx];simp only [hlen];simp [hc])
   have hcv:=fun W=>Lib.run_convert_string_bytes (P:=Tryz.prog) W 9 157 5 s Tryz.underlying9 Tryz.underlying157 Tryz.underlying5
   have HL:=oH (show s.data.toList.length=s.size from Array.length_toList);clear hs hsz hsd hsc
   go_enter Tryz.func106,Tryz.ntmps106
   go_wp2_with fail;refine HTP.mono ?_;rintro e w' ⟨rfl,rfl⟩;go_wp2_with fail;clear hcv hc' hse hse' hs4'
   go_loop [25] (fun ix=>∃ k:Nat,k<=s.size/\ix = .int .i64 (k:Int)/\(s.data.toList.take k).all zMc=true) (fun ix=>s.size-(intOf ix).toNat)
   ·exact ⟨0,oLx,rfl,rfl⟩
   obtain ⟨k,hk,rfl,hall⟩:=hrel;have HALL:=oH hall;clear hall
   by_cases hlt:k<s.size
   ·have hcell:=Lib.bytesWorld_cell w' 5 s k hlt
    have hts:s.data.toList.take (k+1)=s.data.toList.take k++[s.data.toList.getD k 0]:=by
     rw [List.take_succ_eq_append_getElem (by rw [HL.out];exact hlt)]
     simp [List.getD_eq_getElem?_getD,HL.out,hlt]
    have HTS:=oH hts;clear hts;generalize hd:s.data.toList.getD k 0=d at *;have HD:=oH hd;clear hd;have hd256:d.toNat<256:=d.toNat_lt
    by_cases hdig:zMc d=true
    ·have hdd:=(zMd d).1 hdig;unfold zBn at hdd;obtain ⟨hd1,hd2⟩:=hdd;go_wp2_with fail
     go_round
     ·exact ⟨k+1,oMx,by go_num,by rw [HTS.out,List.all_append,HALL.out];simp [hdig]⟩
     simp [intOf];omega
    have hnd:¬(48<=d.toNat/\d.toNat<=57):=fun h=>hdig ((zMd d).2 h)
    have E3:=oH (show s.data.toList.all zMc=false by
     rw [<-Bool.not_eq_true,zHu]
     intro hh
     apply hdig
     rw [zMd]
     apply hh
     rw [<-HD.out,List.getD_eq_getElem?_getD,List.getElem?_eq_getElem (by rw [HL.out];exact hlt)]
     exact List.getElem_mem _)
    by_cases hd1:d.toNat<48
    ·go_wp2_with fail;go_ret
     exact ⟨by rw [E.out,E2.out,E3.out];rfl,Lib.bytesWorld_below _ _ _⟩
    have hd2:57<d.toNat:=by omega
    go_wp2_with fail;go_ret
    exact ⟨by rw [E.out,E2.out,E3.out];rfl,Lib.bytesWorld_below _ _ _⟩
   obtain rfl:k=s.size:=by omega
   have E3:=oH (show s.data.toList.all zMc=true by have:=HALL.out;rwa [<-HL.out,List.take_length] at this);go_wp2_with fail;go_ret
   exact ⟨by rw [E.out,E2.out,E3.out];rfl,Lib.bytesWorld_below _ _ _⟩
  simp only [List.length_cons] at hlen hml
  go_enter Tryz.func106,Tryz.ntmps106
  go_wp2_with fail;refine HTP.mono ?_;rintro e w' ⟨rfl,rfl⟩;go_wp2_with fail;go_ret
  exact ⟨by rw [E.out,zSx,List.length_cons];simp [hlen],bRx⟩
def str (x:Int):ByteArray:=⟨(Lib.itoa x).toArray⟩
instance (x:Int):Decidable (Fits x):=inferInstanceAs (Decidable (_<=_))
def outS (x:Int):ByteArray:=if Fits x then str x else ⟨#[]⟩
def outE (x:Int):Int:=if Fits x then 0 else 3
theorem zUh {x:Int} (h:Fits x):outS x=str x:=if_pos h
theorem zTz {x:Int} (h:Fits x):outE x=0:=if_pos h
theorem Fits.len {x:Int} (h:Fits x):(limbs x.natAbs).length<=45:=by
 apply zQb
 apply zQv
 unfold Fits at h;omega
theorem zVz (x:Int) (w:World) (hl:Fits x):Calls Tryz.prog 129 #[.string (str x)] w (zFw w x):=by
 have HRD:=oH (fun W=>zFf x W (by unfold Fits at hl;omega));unfold str
 go_enter Tryz.func129,Tryz.ntmps129
 go_wp2_with fail;have hr:=Res.new w;have hb0:Below w.heap.size w (w.alloc (.cells #[.bool false,.slice none 0 0] 62)):=bA;generalize w.alloc (.cells #[.bool false,.slice none 0 0] 62)=W0 at *;have HR:=oH hr;have HB0:=oH hb0;clear hr hb0;refine (HRD.out W0).mono ?_
 intro e w3 hret
 obtain ⟨A3,c3,rfl,hl3,hc3,hb3⟩:=hret.num;have HR3:=oH (HR.below hb3);have HC3:=oH hc3;have HB3:=bTx2 HB0 hb3;have hr0:=HR3.r0;have hr1:=HR3.r1;have hf0:=HR3.f 0;have hf1:=HR3.f 1;clear hret hc3 hb3 HRD;go_wp2_with fail;refine bodyPost_ret (v := .agg #[.bool (decide (x<0)),.slice A3 (limbs x.natAbs).length c3]) (by simp [results,Tryz.results129,go_sem,hr0,hr1]) rfl ?_;exact HR3.end_ HB3.out lRx HC3.out hl3 rfl
theorem zOy (x:Int):(Lib.itoa x).length<=(Lib.decDigits x.natAbs).length+1:=by
 unfold Lib.itoa
 by_cases h:x<0
 ·rw [if_pos h];simp
 rw [if_neg h,show x.toNat=x.natAbs by omega];omega
theorem zHj (x:Int) (w:World) (hf:Fits x):Calls Tryz.prog 106 #[.string (str x)] w fun e w'=>e = .returned (.bool true)/\Below w.heap.size w w':=by
 have:=zHi (Lib.itoa x) w (by have:=zOy x;unfold Fits at hf;omega);rw [xFh hf] at this;exact this
theorem zBi (x y:Int) (w:World) (hfx:Fits x) (hfy:Fits y):Calls Tryz.prog 107 #[.string (str x),.string (str y)] w fun e w'=>e = .returned (.int .i64 (sg (x-y)))/\Below w.heap.size w w':=by
 have HFX:=oH hfx;have HFY:=oH hfy;have hlx:=hfx.len;have hly:=hfy.len;clear hfx hfy
 go_enter Tryz.func107,Tryz.ntmps107
 go_wp2_with fail;refine (zHj x w HFX.out).mono ?_;rintro e w1 ⟨rfl,hb1⟩;have HB1:=oH hb1;clear hb1;go_wp2_with fail;refine (zHj y w1 HFY.out).mono ?_;rintro e w2 ⟨rfl,hb2⟩;have HB2:=bTx2 HB1 hb2;clear hb2;go_wp2_with fail;refine (zVz x w2 HFX.out).mono ?_;rintro e w3 ⟨v3,rfl,hv3,hb3⟩;have HV3:=oH hv3;have HB3:=bTx2 HB2 hb3;clear hv3 hb3;go_wp2_with fail;refine (zVz y w3 HFY.out).mono ?_;rintro e w4 ⟨v4,rfl,hv4,hb4⟩;have HV4:=oH hv4;have HV34:=oH (HV3.below hb4);have HB4:=bTx2 HB3 hb4;clear hv4 hb4;go_wp2_with fail;refine (zAg v3 v4 x y w4 HV34.out HV4.out oMx oMx).mono ?_;rintro e w5 ⟨rfl,hb5⟩;have HB5:=bTx2 HB4 hb5;clear hb5;go_wp2_with fail;go_ret
 exact ⟨rfl,HB5.out⟩
open Go.RowKit
def smallB (x:Int):Bool:=decide (x.natAbs<=4611686018427387904)
def smallV (x:Int):Int:=if x.natAbs<=4611686018427387904 then x else 0
def modI (x n:Int):Int:=(x.tmod n+n).tmod n
theorem zRs (x n:Int) (h:1<=n):0<=modI x n/\modI x n<n:=by
 unfold modI
 have h1:0<=x.tmod n+n:=by
  have:=Int.tmod_lt_of_pos (-x) (show 0<n by omega);rw [Int.neg_tmod] at this;omega
 exact ⟨Int.tmod_nonneg _ h1,Int.tmod_lt_of_pos _ oMx⟩
theorem Mod_any (x n:Int) (w:World) (h1:1<=n) (h2:n<=1000000) (_hx : -9223372036854775808<=x) (_hx':x<=9223372036854775807) :
  Calls Tryz.prog 25 #[.int .i64 x,.int .i64 n] w fun e w'=>e = .returned (.int .i64 (modI x n))/\w=w':=by
 have hn1:¬n<1:=by omega
 have hn0:(n==0)=false:=by rw [beq_eq_false_iff_ne];omega
 have b1 : -1000000<=x.tmod n:=by
  have:=Int.tmod_lt_of_pos (-x) (show 0<n by omega);rw [Int.neg_tmod] at this;omega
 have b2:x.tmod n<=1000000:=by
  have:=Int.tmod_lt_of_pos x (show 0<n by omega);omega
 have E:=oH (show (x.tmod n+n).tmod n=modI x n from rfl)
 have b3:0<=x.tmod n+n:=by
  have:=Int.tmod_lt_of_pos (-x) (show 0<n by omega);rw [Int.neg_tmod] at this;omega
 have E2:=oH (show (x.tmod n+n)%n=modI x n by unfold modI;rw [Int.tmod_eq_emod_of_nonneg b3])
 go_enter Tryz.func25,Tryz.ntmps25
 go_wp2
 go_ret
 refine ⟨?_,rfl⟩
 have E3:x.tmod n%n=modI x n:=by rw [<-E2.out,Int.add_emod_right]
 first|(rw [<-E.out];rfl)|(rw [<-E2.out];rfl)|(rw [<-E3];rfl)
def Src (w:World) (b:Nat):Prop:=∃ (A:oAx) (l c k:Nat),w.heap[b]? = some (.cells #[.slice A l c,.int .i64 (k:Int)] 52 (0,0))/\l<=600/\k<=l /\
 (0<l->∃ bb off,A=some ⟨bb,off,none⟩/\bb<b/\bb<w.heap.size/\∀ i,i<l->∃ z:Int,w.cell? ⟨bb,off+i,none⟩=some (.int .i64 z) /\ -9223372036854775808<=z/\z<=9223372036854775807)
theorem Src.lt {w:World} {b:Nat} (h:Src w b):b<w.heap.size:=by
 obtain ⟨A,l,c,k,hb,_⟩:=h
 rcases Nat.lt_or_ge b w.heap.size with hlt|hge
 ·exact hlt
 rw [Array.getElem?_eq_none hge] at hb;cases hb
theorem Src.below {w w':World} {b:Nat} (h:Src w b) (hb:Below w.heap.size w w'):Src w' b:=by
 have hlt:=h.lt;obtain ⟨A,l,c,k,hbk,hl,hk,hc⟩:=h;refine ⟨A,l,c,k,(hb.block b hlt).trans hbk,hl,hk,fun h0=>?_⟩;obtain ⟨bb,off,e,hne,hlt',hcell⟩:=hc h0;have:=hb.size
 exact ⟨bb,off,e,hne,oMx,fun i hi=>by
  obtain ⟨z,hz,h1,h2⟩:=hcell i hi
  exact ⟨z,(hb.cell (p:=⟨bb,off+i,none⟩) hlt').trans hz,h1,h2⟩⟩
theorem Src.above {w w':World} {b:Nat} (h:Src w b) (hs:w.heap.size<=w'.heap.size) (hk:∀ i,i<=b->w'.heap[i]? = w.heap[i]?):Src w' b:=by
 obtain ⟨A,l,c,k,hbk,hl,hk',hc⟩:=h;refine ⟨A,l,c,k,(hk b lRx).trans hbk,hl,hk',fun h0=>?_⟩;obtain ⟨bb,off,e,hne,hlt',hcell⟩:=hc h0
 exact ⟨bb,off,e,hne,oMx,fun i hi=>by
  obtain ⟨z,hz,h1,h2⟩:=hcell i hi
  exact ⟨z,(World.cell?_of_block (w:=w) (a:=⟨bb,off+i,none⟩) (hk bb (Nat.le_of_lt hne))).trans hz,h1,h2⟩⟩
def RetN (w:World) (b:Nat) (n:Int) (e:Ending) (w':World):Prop:=∃ r:Nat,e = .returned (.int .i64 (r:Int))/\(r:Int)<n/\Src w' b/\w.grownBy w' (some b)
theorem zCn (b:Nat) (n:Int) (w:World) (hs:Src w b) (h1:1<=n) (h2:n<=1000000):Calls Tryz.prog 8 #[.pointer (some ⟨b,0,none⟩),.int .i64 n] w (RetN w b n):=by
 have HS:=oH hs;obtain ⟨A,l,c,k,hbk,hl,hk,hc⟩:=hs;have h0c:w.cell? ⟨b,0,none⟩=some (.slice A l c):=cell_of_row _ _ 0 _ _ _ hbk;have h1c:w.cell? ⟨b,1,none⟩=some (.int .i64 (k:Int)):=cell_of_row _ _ 1 _ _ _ hbk;have h1f:w.frozen? ⟨b,1,none⟩=false:=frozen_of_row _ _ 1 _ _ hbk
 by_cases hlt:k<l
 ·obtain ⟨bb,off,rfl,hne,hbb,hcell⟩:=hc oMx;obtain ⟨z,hz,hz1,hz2⟩:=hcell k hlt
  have hz':∀ u,(w.setCell ⟨b,1,none⟩ u).cell? ⟨bb,off+k,none⟩=some (.int .i64 z):=fun u=>(cell_far u (by show bb≠b;exact Nat.ne_of_lt hne)).trans hz
  have HBK:=oH hbk;have HCELL:=oH hcell
  have hd:decide ((l:Int)<=(k:Int))=false:=by simp;omega
  clear hbk hcell hz hc
  go_enter Tryz.func8,Tryz.ntmps8
  go_wp2_with fail
  go_quiet (fail)
  go_wp2_with fail
  have hw3:((w.drewN nq).setCell ⟨b,1,none⟩ (.int .i64 ((k:Int)+1))).heap[b]? = some (.cells #[.slice (some ⟨bb,off,none⟩) l c,.int .i64 ((k:Int)+1)] 52 (0,0)):=by
   have hbk:(w.drewN nq).heap[b]? = some (.cells #[.slice (some ⟨bb,off,none⟩) l c,.int .i64 (k:Int)] 52 (0,0)):=HBK.out;exact heap_setCell_same (w.drewN nq) b 1 _ _ _ hbk
  have hz3:((w.drewN nq).setCell ⟨b,1,none⟩ (.int .i64 ((k:Int)+1))).cell? ⟨bb,off+k,none⟩=some (.int .i64 z):=hz' _;have hg3:w.grownBy ((w.drewN nq).setCell ⟨b,1,none⟩ (.int .i64 ((k:Int)+1))) (some b):=zTx (p:=⟨b,1,none⟩) (zTw (World.grownBy.refl w (some b)) nq) (.inl rfl) _;generalize (w.drewN nq).setCell ⟨b,1,none⟩ (.int .i64 ((k:Int)+1))=W at *;have d0:W.cell? ⟨b,0,none⟩=some (.slice (some ⟨bb,off,none⟩) l c):=cell_of_row _ _ 0 _ _ _ hw3;have d1:W.cell? ⟨b,1,none⟩=some (.int .i64 ((k:Int)+1)):=cell_of_row _ _ 1 _ _ _ hw3;have HW3:=oH hw3;have HG3:=oH hg3;clear hw3 hg3 hz' h0c h1c h1f
  have e1:IntKind.i64.wrap ((k:Int)+1-1)=(k:Int):=by rw [IntWalk.i64_in _ oMx];omega
  have e2:(k:Int)+1-1=(k:Int):=by omega
  have hi0:(0:Int)<=(k:Int):=by omega
  have hi1:(k:Int)<(l:Int):=by omega
  go_quiet ((go_at_call 25;exact zVp (Mod_any z n _ h1 h2 hz1 hz2)))
  clear e1 e2;go_wp2_with fail;go_ret
  obtain ⟨m1,m2⟩:=zRs z n h1;refine ⟨(modI z n).toNat,by rw [Int.toNat_of_nonneg m1];rfl,oMx,?_,zTw HG3.out _⟩;refine ⟨_,l,c,k+1,by rw [Int.natCast_succ];exact HW3.out,hl,hlt,fun _=>⟨bb,off,rfl,hne,?_,fun i hi=>?_⟩⟩
  ·have:=HG3.size;exact Nat.lt_of_lt_of_le hbb this
  obtain ⟨z',hz',hb1,hb2⟩:=HCELL.out i hi;exact ⟨z',(World.cell?_of_block (w:=w) (a:=⟨bb,off+i,none⟩) (HG3.block bb hbb (fun e=>Nat.ne_of_lt hne (by injection e)))).trans hz',hb1,hb2⟩
 have hd:decide ((l:Int)<=(k:Int))=true:=by simp;omega
 clear hc hbk
 go_enter Tryz.func8,Tryz.ntmps8
 go_wp2_with fail
 go_quiet (fail)
 go_wp2_with fail;go_ret
 exact ⟨0,rfl,oMx,HS.out,zTw (World.grownBy.refl _ _) _⟩
def Ints (w:World) (A:oAx) (l:Nat):Prop:=0<l->∃ bb off,A=some ⟨bb,off,none⟩/\bb<w.heap.size/\∀ i,i<l->∃ z:Int,w.cell? ⟨bb,off+i,none⟩=some (.int .i64 z) /\ -9223372036854775808<=z/\z<=9223372036854775807
theorem Src.new {w:World} {A:oAx} {l c:Nat} (h:Ints w A l) (hl:l<=600):Src (w.alloc (.cells #[.slice A l c,.int .i64 0] 52)) w.heap.size:=by
 refine ⟨A,l,c,0,heap_alloc_new w _,hl,oLx,fun h0=>?_⟩;obtain ⟨bb,off,e,hlt,hc⟩:=h h0;refine ⟨bb,off,e,oMx,by simp;omega,fun i hi=>?_⟩;obtain ⟨z,hz,h1,h2⟩:=hc i hi;exact ⟨z,(World.cell?_alloc_lt w _ ⟨bb,off+i,none⟩ hlt).trans hz,h1,h2⟩
theorem New_any (A:oAx) (l c:Nat) (w:World) (h:Ints w A l) (hlc:l<=c) (hl:l<=9223372036854775807):Calls Tryz.prog 7 #[.slice A l c] w fun e w'=>e = .returned (.pointer (some ⟨w.heap.size,0,none⟩))/\Src w' w.heap.size/\Below w.heap.size w w':=by
 rcases Nat.lt_or_ge l 600 with h6|h6
 ·have HS:=oH (Src.new (c:=c) h (show l<=600 by omega));clear h
  go_enter Tryz.func7,Tryz.ntmps7
  go_wp2
  go_ret
  rw [show (min (l:Int) 600).toNat=l by omega];exact ⟨rfl,HS.out,bA⟩
 have h':Ints w A 600:=fun _=>by
  obtain ⟨bb,off,e,hlt,hc⟩:=h oMx;exact ⟨bb,off,e,hlt,fun i hi=>hc i oMx⟩
 have HS:=oH (Src.new (c:=c) h' (show 600<=600 by omega));clear h h'
 go_enter Tryz.func7,Tryz.ntmps7
 go_wp2
 go_ret
 rw [show (min (l:Int) 600).toNat=600 by omega];exact ⟨rfl,HS.out,bA⟩
def RetBig (w:World) (b d:Nat) (e:Ending) (w':World):Prop:=∃ z:Int,e = .returned (.string (str z))/\(Lib.decDigits z.natAbs).length<=d/\Src w' b/\w.grownBy w' (some b)
theorem zOe {a b c:World} {g:Nat} (h:a.grownBy b (some g)) (k:b.grownBy c (some g)):a.grownBy c (some g) :=
 ⟨k.os.trans h.os,k.tape.trans h.tape,k.output.trans h.output,Nat.le_trans h.size k.size,fun i hi hne=>(k.block i (Nat.lt_of_lt_of_le hi h.size) hne).trans (h.block i hi hne)⟩
theorem zOb {a w:World} (h:Below a.heap.size a w) (row:Option Nat):a.grownBy w row:=⟨h.os,h.tape,h.output,h.size,fun i hi _=>h.block i hi⟩
theorem zIf (a b:List UInt8):(⟨a.toArray⟩:ByteArray)++⟨b.toArray⟩=⟨(a++b).toArray⟩:=by
 apply ByteArray.ext;simp
theorem xAq {w:World} {b:Nat} (h:Src w b) (o:Obj):Src (w.alloc o) b:=h.below (bA)
theorem str_zero:str 0=⟨#[48]⟩:=by unfold str;rw [zPe]
theorem zCh (b g n:Nat) (S:Nat->ByteArray) (w:World) (hs:Src w b) (hrow:∀ i,i<n->w.cell? ⟨g,i,none⟩=some (.string (S i))) (hgb:g≠b) (hg:g<w.heap.size) (hn1:1<=n) (hn2:n<=1000) :
  Calls Tryz.prog 61 #[.pointer (some ⟨b,0,none⟩),.slice (some ⟨g,0,none⟩) n n] w fun e w'=>∃ i,i<n/\e = .returned (.string (S i))/\Src w' b/\w.grownBy w' (some b):=by
 have HS:=oH hs;have HROW:=oH hrow;clear hs hrow
 go_enter Tryz.func61,Tryz.ntmps61
 go_wp2_with fail;refine (zCn b (n:Int) w HS.out oMx oMx).mono ?_;rintro e w1 ⟨r,rfl,hr,hs1,hg1⟩;have hcell:w1.cell? ⟨g,r,none⟩=some (.string (S r)):=(World.cell?_of_block (w:=w) (a:=⟨g,r,none⟩) (hg1.block g hg (fun e=>hgb (by injection e)))).trans (HROW.out r oMx);have HS1:=oH hs1;have HG1:=oH hg1
 have hrn:r<n:=by omega
 clear hs1 hg1;go_wp2_with fail;go_ret
 exact ⟨r,hrn,rfl,HS1.out,HG1.out⟩
def odds:List ByteArray:=[⟨#[]⟩,⟨#[45]⟩,⟨#[48]⟩,⟨#[45,48]⟩,⟨#[48,48]⟩,⟨#[43,49]⟩,⟨#[49,47,50]⟩,⟨#[48,55]⟩,⟨#[45,49,50]⟩,⟨#[32,49]⟩,⟨#[49,32]⟩,⟨#[57,120]⟩,⟨#[57,57,57,57,57,57,57,57,57,57,57,57,57,57,57,57,57,57,57,57]⟩]
theorem str_pos1 {n:Nat} (h:n<10):str (n:Int)=⟨#[UInt8.ofNat (48+n)]⟩:=by unfold str;rw [zPb,Lib.decDigits_one h]
theorem str_1:str 1=⟨#[49]⟩:=str_pos1 (n:=1) dCx
theorem zNe {x:Int} (h:x.natAbs<1000000000):Fits x:=by
 have:=zKk (r:=x.natAbs) (k:=9) oMx (by simpa using h)
 unfold Fits;omega
def Dig (d:Nat) (x:Int):Prop:=x.natAbs<10^d
theorem Dig.of_len {d:Nat} {x:Int} (h:(Lib.decDigits x.natAbs).length<=d):Dig d x:=by
 unfold Dig;have h1:=zKt (l:=Lib.decDigits x.natAbs) (zKg _);rw [zKo] at h1;exact Nat.lt_of_lt_of_le h1 (Nat.pow_le_pow_right dCx h)
theorem Dig.fits {d:Nat} {x:Int} (h:Dig d x) (hd1:1<=d) (hd:d<=400):Fits x:=by
 have:=zKk (r:=x.natAbs) (k:=d) hd1 h
 unfold Fits;omega
theorem Dig.mono {a b:Nat} {x:Int} (h:Dig a x) (hab:a<=b):Dig b x:=Nat.lt_of_lt_of_le h (Nat.pow_le_pow_right dCx hab)
theorem Dig.mul {a b c:Nat} {x y z:Int} (h:Dig a x) (k:Dig b y) (hz:x*y=z) (hc:a+b=c):Dig c z:=by
 subst hz;subst hc
 unfold Dig at *;rw [Int.natAbs_mul,Nat.pow_add];exact Nat.mul_lt_mul'' h k
theorem Dig.sub {a c:Nat} {x y z:Int} (h:Dig a x) (k:Dig a y) (hz:x-y=z) (hc:a+1=c):Dig c z:=by
 subst hz;subst hc
 unfold Dig at *;rw [Nat.pow_succ];omega
open Go.ChangeShapes Go.WideShapes Go.ChangeAt Go.RowKit
theorem own:ownKnob Tryz.prog.godebug=none:=by kernel_rfl
theorem gPow:Tryz.prog.globalNamed "internal/strconv.uint64pow10" = some 1:=by kernel_rfl
theorem gPowType:(Tryz.prog.globals[1]?).map (·.type)=some 197:=by kernel_rfl
theorem cellsPow:Tryz.prog.cellsOf 197=20:=by kernel_rfl
theorem cellsU64:Tryz.prog.cellsOf 126=1:=by kernel_rfl
theorem zJf:Tryz.prog.cellsOf 3=1:=by kernel_rfl
def laidList:List (String × DataW Unit):=[("math/bits.deBruijn32tab",Rows.laid_math_bits_deBruijn32tab),("math/bits.deBruijn64tab",Rows.laid_math_bits_deBruijn64tab),("internal/strconv.uint64pow10",Rows.laid_internal_strconv_uint64pow10),("strconv.ErrRange",Rows.laid_strconv_ErrRange),("strconv.ErrSyntax",Rows.laid_strconv_ErrSyntax)]
theorem zPh:(laidList.all fun x=>x.2.handleName?.isNone)=true:=by kernel_rfl
theorem tab_of {W:World} (h:laidMetH Tryz.prog laidList W):Tab W:=by
 rw [MakeChecks.laidMetH_plain _ _ _ zPh] at h;exact Lib.tabIs_of_head (rest:=[("strconv.ErrRange",Rows.laid_strconv_ErrRange),("strconv.ErrSyntax",Rows.laid_strconv_ErrSyntax)]) gPow gPowType Tryz.underlying197 Tryz.underlying126 cellsU64 cellsPow h.tail.tail
theorem laid_met (os:Os) (args:Array Value):laidMetH Tryz.prog laidList ((World.laidAll Tryz.prog os laidList).forCall (fun _ _=>0) ⟨#[],args,[]⟩).memory:=by
 rw [MakeChecks.laidMetH_plain _ _ _ zPh];exact laidMet_laidAll _ (by kernel_rfl) (by kernel_rfl)
section
variable {H:Type} {enc:TypeId × Value->H}
theorem ints_in {W:World} {base:Nat} {v:Value} {d:DataW H} {p:List MemPlace} (hv:Value.okWide Tryz.prog W .any base 22 v)
  (h:DataW.Trod enc Tryz.prog W 0 (fun _=>true) true 22 v d p) :
  ∃ (A:oAx) (l c:Nat),v = .slice A l c/\Ints W A l/\l<=c/\l<=9223372036854775807 /\
   ∀ W',Below W.heap.size W W'->∀ sp:Nat->Bool,(∀ x∈p,sp x.block=true)->DataW.Trod enc Tryz.prog W' 0 sp true 22 v d p:=by
 obtain ⟨a0,len,cap,rfl⟩:=okWide_slice Tryz.underlying22 hv;obtain ⟨fuel,hf⟩:=h
 rcases open_ints Tryz.underlying22 Tryz.underlying3 zJf hf with ⟨hcs,hx⟩|⟨a,len',cap',zs,hcs,_,hl,hm,hz,hx,hcell,hwz⟩
 ·obtain ⟨rfl,rfl,rfl⟩:a0=none/\len=0/\cap=0:=by simpa [Value.cells] using hcs
  obtain ⟨rfl,rfl⟩:d = .nil/\p=[]:=by simpa using hx
  exact ⟨none,0,0,rfl,fun h=>absurd h dCx,lRx,dCx,fun W' _ sp _=>shut_slice_nil Tryz.underlying22⟩
 obtain ⟨rfl,rfl,rfl⟩:a0=some a/\len=len'/\cap=cap':=by simpa [Value.cells] using hcs
 obtain ⟨rfl,rfl⟩:d = .slice (lits .i64 (zs.take len)) (lits .i64 (zs.drop len))/\p=MemPlace.row a zs.length:=by simpa using hx
 have hzc:zs.length=cap:=by simpa using hz
 have hlt:∀ i,i<zs.length->a.block<W.heap.size:=fun i hi=>by
  have h1:=hcell i hi
  rcases Nat.lt_or_ge a.block W.heap.size with hl'|hg'
  ·exact hl'
  exfalso
  rw [<-block_add a i] at hg';unfold World.cell? at h1;rw [Array.getElem?_eq_none hg'] at h1
  simp at h1
 have hm':cap<=9223372036854775807:=hm;refine ⟨some a,len,cap,rfl,?_,hl,oMx,?_⟩
 ·intro h0
  obtain ⟨b,off,spot⟩:=a;have hs:=World.cell?_spot (hcell 0 oMx);have hspot:spot=none:=hs;subst hspot;refine ⟨b,off,rfl,hlt 0 oMx,fun i hi=>⟨zs.getD i 0,by have:=hcell i oMx;rwa [Lib.add_plain] at this,?_⟩⟩
  have hmem:zs.getD i 0∈zs:=by
   rw [List.getD_eq_getElem?_getD,List.getElem?_eq_getElem oMx];exact List.getElem_mem _
  have:=hwz _ hmem;rw [Lit.wf,show IntKind.i64.min = -9223372036854775808 by decide,show IntKind.i64.max=9223372036854775807 by decide] at this
  simpa using this
 intro W' hb sp hsp
 refine ⟨2,shut_ints 0 Tryz.underlying22 Tryz.underlying3 zJf oLx hl hm ?_ ?_ hwz⟩
 ·by_cases h0:zs.length=0
  ·rw [h0];split<;>omega
  have:=hsp (.cell a.block (a.off+0)) (MemPlace.mem_row.2 ⟨0,oMx,rfl⟩);have hsa:sp a.block=true:=this
  rw [if_pos hsa];exact hzc
 intro i hi
 rw [hb.cell (by rw [block_add];exact hlt i hi)];exact hcell i hi
theorem post_true {f:Func} {s:ChangeSpec} {W W':World} {args:Array Value} {ds:List (DataW H)} {before:List MemPlace}
  (hW:DataW.Whole enc Tryz.prog f.params.toList s.vars false W args.toList ds [] before) (hv:s.vars=[]) (hfr:(s.fn H (ds++[])).results=[.lit (.bool true)]) (hfa:(s.fn H (ds++[])).args=ds) (hfv:(s.fn H (ds++[])).vars=[])
  (hrt:f.resultTypes=#[4]) (hb:Below W.heap.size W W')
  (hargs:∀ sp:Nat->Bool,(∀ x∈before,sp x.block=true)->DataW.TrodAll enc Tryz.prog W' 0 sp true f.params.toList args.toList ds before) :
  s.post enc Tryz.prog f false true false false W args (.bool true) W':=by
 have hlt:∀ p∈before,p.block<W.heap.size:=fun p hp=>hW.lt p hp
 refine ⟨ds,[],before,[],before,[],hW,?_,?_,?_,World.keptBut_mono (fun p hp=>⟨hp,Or.inr (Or.inl hp)⟩) (hb.frame (· ∈ before)),fun h=>by cases h⟩
 ·rw [hrt,hfr];exact trodAll_cons_mk (shut_bool Tryz.underlying4 _) trodAll_mk0
 ·rw [hfa]
  exact hargs _ fun p hp=>by simpa using hlt p hp
 rw [hfv,hv]
 rfl
end
theorem rat_mk {n:Int} {d:Nat} (hd:d≠0):(mkRat n d).num=n/((n.natAbs.gcd d:Nat):Int)/\(mkRat n d).den=d/n.natAbs.gcd d:=by
 rw [Rat.mkRat_def,dif_neg hd,Rat.normalize_eq];exact ⟨rfl,rfl⟩
theorem zVw {n d:Int} (hd:0<d):(Rat.divInt n d).num=n/((n.natAbs.gcd d.natAbs:Nat):Int)/\((Rat.divInt n d).den:Int)=d/((n.natAbs.gcd d.natAbs:Nat):Int):=by
 obtain ⟨D,rfl⟩:∃ D:Nat,d=(D:Int):=⟨d.toNat,oMx⟩;rw [Rat.divInt_ofNat,Int.natAbs_natCast];have h:=rat_mk (n:=n) (d:=D) oMx;exact ⟨h.1,by rw [h.2];exact Int.natCast_ediv _ _⟩
theorem zVv (n d:Int):Rat.divInt (-n) (-d)=Rat.divInt n d:=Rat.neg_divInt_neg n d
theorem zVx {n d:Int} (hd:d≠0):(Rat.divInt n d).num=(if d<0 then -(n.tdiv ((n.natAbs.gcd d.natAbs:Nat):Int)) else n.tdiv ((n.natAbs.gcd d.natAbs:Nat):Int))/\((Rat.divInt n d).den:Int)=(if d<0 then -(d.tdiv ((n.natAbs.gcd d.natAbs:Nat):Int)) else d.tdiv ((n.natAbs.gcd d.natAbs:Nat):Int)):=by
 have h1:((n.natAbs.gcd d.natAbs:Nat):Int) ∣ n:=Int.ofNat_dvd_left.2 (Nat.gcd_dvd_left _ _);have h2:((n.natAbs.gcd d.natAbs:Nat):Int) ∣ d:=Int.ofNat_dvd_left.2 (Nat.gcd_dvd_right _ _);rw [Int.tdiv_eq_ediv_of_dvd h1,Int.tdiv_eq_ediv_of_dvd h2]
 by_cases h:d<0
 ·rw [if_pos h,if_pos h,<-zVv];have:=zVw (n := -n) (d := -d) oMx;rw [Int.natAbs_neg,Int.natAbs_neg,Int.neg_ediv_of_dvd h1,Int.neg_ediv_of_dvd h2] at this;exact this
 rw [if_neg h,if_neg h];exact zVw oMx
theorem zVy (a b:Rat):Rat.divInt (a.num*b.den-b.num*a.den) ((a.den:Int)*b.den)=a-b:=by
 rw [Rat.sub_def',<-Rat.divInt_ofNat,Int.natCast_mul]
theorem zVu (a b:Rat):Rat.divInt (a.num*b.num) ((a.den:Int)*b.den)=a*b:=by
 rw [Rat.mul_def',<-Rat.divInt_ofNat,Int.natCast_mul]
theorem zVs (a b:Rat):Rat.divInt (a.num*b.den) ((a.den:Int)*b.num)=a/b:=by
 rw [Rat.div_def,Rat.inv_def,<-Rat.divInt_mul_divInt,Rat.num_divInt_den]
def sgR (q:Rat):Int:=sg q.num
def zJy:List UInt8->List UInt8 × List UInt8 × Bool
 | []=>([],[],false)
 | c::l=>if c=47 then ([],l,true) else (c::(zJy l).1,(zJy l).2.1,(zJy l).2.2)
theorem zOp (l:List UInt8):(Lib.index l [47] = -1/\zJy l=(l,[],false))\/∃ i:Nat,Lib.index l [47]=(i:Int)/\zJy l=(l.take i,l.drop (i+1),true):=by
 induction l with
 | nil=>exact .inl ⟨rfl,rfl⟩
 | cons c l ih =>
  by_cases hc:c=47
  ·subst hc;exact .inr ⟨0,by simp [Lib.index],by simp [zJy]⟩
  have h1:([47]:List UInt8).isPrefixOf (c::l)=false:=by
   have:(47==c)=false:=by simpa using Ne.symm hc
   simp [List.isPrefixOf,this]
  rcases ih with ⟨h2,h3⟩|⟨i,h2,h3⟩
  ·refine .inl ⟨?_,?_⟩
   ·unfold Lib.index;rw [h1,h2];rfl
   unfold zJy;rw [if_neg hc,h3]
  refine .inr ⟨i+1,?_,?_⟩
  ·unfold Lib.index;rw [h1,h2]
   have:((i:Int) == -1)=false:=by rw [beq_eq_false_iff_ne];omega
   simp [this]
  unfold zJy;rw [if_neg hc,h3];rfl
theorem zKe (l:List UInt8):Lib.cut l [47]=zJy l:=by
 rcases zOp l with ⟨h1,h2⟩|⟨i,h1,h2⟩
 ·unfold Lib.cut;rw [h1,h2];rfl
 unfold Lib.cut;rw [h1,h2,if_pos oMx]
 simp
theorem zKb {l:List UInt8} (h:47 ∉ l):zJy l=(l,[],false):=by
 induction l with
 | nil=>rfl
 | cons c l ih =>
  have h1:c≠47:=fun e=>h (by simp [e])
  have h2:47 ∉ l:=fun e=>h (by simp [e])
  unfold zJy;rw [if_neg h1,ih h2]
theorem zKc {a b:List UInt8} (h:47 ∉ a):zJy (a++47::b)=(a,b,true):=by
 induction a with
 | nil=>simp [zJy]
 | cons c a ih =>
  have h1:c≠47:=fun e=>h (by simp [e])
  have h2:47 ∉ a:=fun e=>h (by simp [e])
  rw [List.cons_append];unfold zJy;rw [if_neg h1,ih h2]
theorem zJz (l:List UInt8):((zJy l).2.2=true/\l=(zJy l).1++47::(zJy l).2.1)\/((zJy l).2.2=false/\l=(zJy l).1/\(zJy l).2.1=[]):=by
 induction l with
 | nil=>exact .inr ⟨rfl,rfl,rfl⟩
 | cons c l ih =>
  by_cases hc:c=47
  ·subst hc;exact .inl ⟨by simp [zJy],by simp [zJy]⟩
  unfold zJy;rw [if_neg hc]
  rcases ih with ⟨h1,h2⟩|⟨h1,h2,h3⟩
  ·refine .inl ⟨h1,?_⟩
   show c::l=(c::(zJy l).1)++47::(zJy l).2.1
   rw [List.cons_append,<-h2]
  refine .inr ⟨h1,?_,h3⟩
  show c::l=c::(zJy l).1
  rw [<-h2]
theorem zKa (l:List UInt8):(zJy l).1.length<=l.length/\(zJy l).2.1.length<=l.length:=by
 rcases zJz l with ⟨_,h⟩|⟨_,h,h2⟩
 ·have:=congrArg List.length h
  simp at this
  omega
 have:=congrArg List.length h;rw [h2];exact ⟨oMx,by simp⟩
theorem zZv {l:List UInt8} (h:zAn l):47 ∉ l:=fun hm=>by
 have:=h 47 hm;unfold zBn at this;have e:(47:UInt8).toNat=47:=rfl;omega
theorem zZw (x:Int):47 ∉ Lib.itoa x:=by
 unfold Lib.itoa
 split
 ·intro h
  rcases List.mem_cons.1 h with h|h
  ·cases h
  exact zZv (zKg _) h
 exact zZv (zKg _)
def zXu (q:Rat):List UInt8:=if q.den=1 then Lib.itoa q.num else Lib.itoa q.num++47::Lib.itoa (q.den:Int)
def zBd (q:Rat):Prop:=Fits q.num/\Fits (q.den:Int)
theorem zXz {q:Rat} (h:q.den=1):zXu q=Lib.itoa q.num:=if_pos h
theorem zXy {q:Rat} (h:q.den≠1):zXu q=Lib.itoa q.num++47::Lib.itoa (q.den:Int):=if_neg h
theorem zKf {q:Rat} (h:q.den=1):zJy (zXu q)=(Lib.itoa q.num,[],false):=by rw [zXz h,zKb (zZw _)]
theorem zKd {q:Rat} (h:q.den≠1):zJy (zXu q)=(Lib.itoa q.num,Lib.itoa (q.den:Int),true):=by rw [zXy h,zKc (zZw _)]
theorem zVt {p q:Rat} (h:p.num=q.num) (k:p.den=q.den):p=q:=Rat.ext h k
theorem zXv {p q:Rat} (h:zXu p=zXu q):p=q:=by
 by_cases hp:p.den=1
 ·by_cases hq:q.den=1
  ·rw [zXz hp,zXz hq] at h;exact zVt (zOw h) oMx
  have h1:=zKf hp;rw [h,zKd hq] at h1
  simp at h1
 by_cases hq:q.den=1
 ·have h1:=zKf hq;rw [<-h,zKd hp] at h1
  simp at h1
 have h1:=zKd hp;rw [h,zKd hq] at h1;simp only [Prod.mk.injEq] at h1;exact zVt (zOw h1.1.symm) (by have:=zOw h1.2.1;omega)
open Classical in
noncomputable def xEu (l:List UInt8):Bool:=decide (∃ q:Rat,l=zXu q/\zBd q)
open Classical in
theorem xFe {q:Rat} (h:zBd q):xEu (zXu q)=true:=by unfold xEu;exact decide_eq_true ⟨q,rfl,h⟩
open Classical in
theorem xEx {l:List UInt8} (h:xEu l=true):∃ q:Rat,l=zXu q/\zBd q:=by unfold xEu at h;exact of_decide_eq_true h
open Classical in
theorem xFa {l:List UInt8} (h:¬∃ q:Rat,l=zXu q/\zBd q):xEu l=false:=by unfold xEu;exact decide_eq_false h
theorem xFb {l:List UInt8} (h:(zJy l).2.2=false):xEu l=xEt l:=by
 rcases zJz l with ⟨h1,_⟩|⟨_,h2,_⟩
 ·rw [h] at h1;cases h1
 cases hv:xEt l
 ·apply xFa
  rintro ⟨q,rfl,hf⟩
  by_cases hd:q.den=1
  ·rw [zXz hd,xFh hf.1] at hv;cases hv
  rw [zKd hd] at h;cases h
 obtain ⟨x,hx,hf⟩:=xFg hv
 have:l=zXu (x:Rat):=by rw [zXz (Rat.den_intCast x),Rat.num_intCast];exact hx
 rw [this];exact xFe ⟨by rw [Rat.num_intCast];exact hf,by rw [Rat.den_intCast];unfold Fits;rw [show ((1:Nat):Int).natAbs=1 from rfl,Lib.decDigits_one dCx];simp⟩
theorem xFc {l:List UInt8} (h:(zJy l).2.2=true):xEu l=true↔∃ n d:Int,(zJy l).1=Lib.itoa n/\(zJy l).2.1=Lib.itoa d/\Fits n/\Fits d/\n≠0/\1<d/\Nat.gcd n.natAbs d.natAbs=1:=by
 constructor
 ·intro hv
  obtain ⟨q,rfl,hf⟩:=xEx hv
  by_cases hd:q.den=1
  ·rw [zKf hd] at h;cases h
  rw [zKd hd];have hp:=q.den_pos;refine ⟨q.num,q.den,rfl,rfl,hf.1,hf.2,?_,oMx,by rw [Int.natAbs_natCast];exact q.reduced⟩
  intro h0
  have:=q.reduced;rw [h0] at this
  simp [Nat.Coprime] at this
  exact hd this
 rintro ⟨n,d,h1,h2,hf,hg,hn,hd,hc⟩;obtain ⟨D,rfl⟩:∃ D:Nat,d=(D:Int):=⟨d.toNat,oMx⟩;rw [Int.natAbs_natCast] at hc
 have hl:l=zXu ⟨n,D,oMx,hc⟩:=by
  rw [zXy (by show D≠1;omega)]
  rcases zJz l with ⟨_,h3⟩|⟨h3,_⟩
  ·rw [h1,h2] at h3;exact h3
  rw [h] at h3;cases h3
 rw [hl];exact xFe ⟨hf,hg⟩
def zAl (d:Nat) (q:Rat):Prop:=Dig d q.num/\Dig d (q.den:Int)
theorem zAl.mono {a b:Nat} {q:Rat} (h:zAl a q) (hab:a<=b):zAl b q:=⟨h.1.mono hab,h.2.mono hab⟩
theorem zAl.fits {d:Nat} {q:Rat} (h:zAl d q) (hd1:1<=d) (hd:d<=400):zBd q:=⟨h.1.fits hd1 hd,h.2.fits hd1 hd⟩
theorem xCt (n:Int) (g:Nat):(n.tdiv (g:Int)).natAbs<=n.natAbs:=by
 rw [Int.natAbs_tdiv];exact Nat.div_le_self _ _
theorem zMl {n d:Int} (hd:d≠0):(Rat.divInt n d).num.natAbs<=n.natAbs/\(Rat.divInt n d).den<=d.natAbs:=by
 have h:=zVx (n:=n) hd;have h1:=xCt n (n.natAbs.gcd d.natAbs);have h2:=xCt d (n.natAbs.gcd d.natAbs);generalize n.tdiv ((n.natAbs.gcd d.natAbs:Nat):Int)=a at *;generalize d.tdiv ((n.natAbs.gcd d.natAbs:Nat):Int)=b at *;obtain ⟨e1,e2⟩:=h
 by_cases hs:d<0
 ·rw [if_pos hs] at e1 e2;rw [e1];omega
 rw [if_neg hs] at e1 e2;rw [e1];omega
theorem zAl.of_divInt {k:Nat} {n d:Int} (hd:d≠0) (h:Dig k n) (h':Dig k d):zAl k (Rat.divInt n d):=by
 have:=zMl (n:=n) hd;unfold zAl Dig at *;exact ⟨oMx,by rw [Int.natAbs_natCast];omega⟩
theorem zLp (q:Rat):(q.den:Int)≠0:=by have:=q.den_pos;omega
theorem zAl.sub {a b c:Nat} {x y z:Rat} (h:zAl a x) (k:zAl b y) (hz:x-y=z) (hc:a+b+1=c):zAl c z:=by
 subst hz;rw [<-zVy];refine zAl.of_divInt (Int.mul_ne_zero (zLp x) (zLp y)) (Dig.sub (a:=a+b) (h.1.mul k.2 rfl rfl) (k.1.mul h.2 rfl (Nat.add_comm _ _)) rfl hc) (Dig.mono (a:=a+b) (h.2.mul k.2 rfl rfl) oMx)
theorem zAl.mul {a b c:Nat} {x y z:Rat} (h:zAl a x) (k:zAl b y) (hz:x*y=z) (hc:a+b=c):zAl c z:=by
 subst hz;rw [<-zVu];exact zAl.of_divInt (Int.mul_ne_zero (zLp x) (zLp y)) (h.1.mul k.1 rfl hc) (h.2.mul k.2 rfl hc)
theorem zSy {q:Rat} (h:q≠0):q.num≠0:=fun e=>h (Rat.num_eq_zero.1 e)
theorem zAl.div {a b c:Nat} {x y z:Rat} (h:zAl a x) (k:zAl b y) (hy:y≠0) (hz:x/y=z) (hc:a+b=c):zAl c z:=by
 subst hz;rw [<-zVs];exact zAl.of_divInt (Int.mul_ne_zero (zLp x) (zSy hy)) (h.1.mul k.2 rfl hc) (h.2.mul k.1 rfl hc)
theorem zAl.ofInt {d:Nat} {n:Int} (h:Dig d n) (hd:1<=d):zAl d (n:Rat):=by
 refine ⟨by simpa using h,?_⟩
 show Dig d _
 unfold Dig;have:(10:Nat)^1<=10^d:=Nat.pow_le_pow_right dCx hd
 simp
 omega
def Sz (n:Nat) (q:Rat):Prop:=(limbs q.num.natAbs).length<=n/\(limbs q.den).length<=n
theorem Sz.mono {a b:Nat} {q:Rat} (h:Sz a q) (hab:a<=b):Sz b q:=⟨Nat.le_trans h.1 hab,Nat.le_trans h.2 hab⟩
theorem zBd.sz {q:Rat} (h:zBd q):Sz 45 q:=⟨h.1.len,by have:=h.2.len;rwa [Int.natAbs_natCast] at this⟩
theorem Sz.divInt {k:Nat} {n d:Int} (hd:d≠0) (h:(limbs n.natAbs).length<=k) (h':(limbs d.natAbs).length<=k):Sz k (Rat.divInt n d):=by
 have:=zMl (n:=n) hd;exact ⟨Nat.le_trans (zQd this.1) h,Nat.le_trans (zQd this.2) h'⟩
theorem zPm {x y:Int} {a b:Nat} (h:(limbs x.natAbs).length<=a) (k:(limbs y.natAbs).length<=b):(limbs (x*y).natAbs).length<=a+b:=by
 rw [Int.natAbs_mul];exact Nat.le_trans (zQe _ _) (Nat.add_le_add h k)
theorem len_add {x y:Int} {a:Nat} (h:(limbs x.natAbs).length<=a) (k:(limbs y.natAbs).length<=a):(limbs (x+y).natAbs).length<=a+1:=by
 have h1:=zQd (Int.natAbs_add_le x y);have h2:=zQa x.natAbs y.natAbs;omega
theorem zQk {n:Nat} (h:n<1000000000):(limbs n).length<=1:=zQb (by simpa using h)
theorem Sz.ofNat {n:Nat} (h:n<1000000000):Sz 1 ((n:Int):Rat):=⟨by rw [Rat.num_intCast,Int.natAbs_natCast];exact zQk h,by rw [Rat.den_intCast];exact zQk dCx⟩
theorem Sz.zero:Sz 1 0:=Sz.ofNat (n:=0) dCx
end Go.Proofs.YtbjaplppalcmgaaGreatDoor
