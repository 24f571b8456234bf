import Derived.Test.YtfjjcoggoomlbaaGreatDoorZE
import Derived.Test.YtfjjcoggoomlbaaGreatDoorZD
set_option maxHeartbeats 16000000
set_option maxRecDepth 100000
namespace Go.Proofs.YtfjjcoggoomlbaaGreatDoor
open Go.RowKit
def zMd (c:UInt8):Bool:=decide (48≤c.toNat∧c.toNat≤57)
def zTh (m:List UInt8):Bool := !m.isEmpty&&decide (m.length≤400) && !(m.head? == some 48)&&m.all zMd
def xFm (l:List UInt8):Bool:=l==[48] || zTh (Lib.trimPrefix l [45])
def Fits (x:Int):Prop:=(Lib.decDigits x.natAbs).length≤400
theorem zMe (c:UInt8):zMd c=true↔zCb c:=by simp [zMd,zCb]
theorem zHs (m:List UInt8):m.all zMd=true↔zAw m:=by
 rw [List.all_eq_true];exact ⟨fun h c hc=>(zMe c).1 (h c hc),fun h c hc=>(zMe c).2 (h c hc)⟩
theorem zOv:Lib.itoa 0=[48]:=by unfold Lib.itoa;rw [if_neg (by omega)];exact Lib.decDigits_one (by decide)
theorem zOs (n:Nat):Lib.itoa (n:Int)=Lib.decDigits n:=by unfold Lib.itoa;rw [if_neg (by omega)];simp
theorem zOq (n:Nat) (h:0<n):Lib.itoa (-(n:Int))=45::Lib.decDigits n:=by unfold Lib.itoa;rw [if_pos (by omega)];simp
theorem xGa {x:Int} (h:Fits x):xFm (Lib.itoa x)=true:=by
 by_cases h0:x=0
 ·subst h0;rw [zOv];rfl
 ·unfold xFm
  rw [(zOu x).2]
  unfold Fits at h
  have h1:=zKi x.natAbs
  have h2:=zKe (n:=x.natAbs) (by omega)
  have h3:=(zHs _).2 (zKd x.natAbs)
  rw [zTh,h3]
  cases hd:Lib.decDigits x.natAbs with
  | nil=>exact absurd hd h1
  | cons a l =>
   rw [hd] at h h2
   simp at h2 h
   simp [h,h2]
theorem xFz {l:List UInt8} (h:xFm l=true):∃ x:Int,l=Lib.itoa x∧Fits x:=by
 unfold xFm at h
 rw [Bool.or_eq_true] at h
 rcases h with h|h
 ·have:l=[48]:=by simpa using h
  exact ⟨0,by rw [this,zOv],by unfold Fits;rw [show (0:Int).natAbs=0 from rfl,Lib.decDigits_one (by decide)];simp⟩
 ·unfold zTh at h
  simp only [Bool.and_eq_true,Bool.not_eq_true',decide_eq_true_eq] at h
  obtain ⟨⟨⟨h1,h2⟩,h3⟩,h4⟩:=h
  have hd:=(zHs _).1 h4
  have hne:Lib.trimPrefix l [45]≠[]:=by intro e;rw [e] at h1;simp at h1
  have hh:(Lib.trimPrefix l [45]).head? ≠ some 48:=by intro e;rw [e] at h3;simp at h3
  have he:=zKj hd hne hh
  generalize hm:Lib.trimPrefix l [45]=m at *
  by_cases hp:Lib.hasPrefix l [45]=true
  ·have hl:l=45::m:=by
    rw [Lib.trimPrefix,if_pos hp] at hm
    cases l with
    | nil=>simp [Lib.hasPrefix] at hp
    | cons c l' =>
     simp [Lib.hasPrefix] at hp
     subst hp
     simp at hm
     rw [hm]
   have hpos:0<zKm m:=by
    rcases Nat.eq_zero_or_pos (zKm m) with e|e
    ·exfalso;rw [e,Lib.decDigits_one (by decide)] at he;apply hh;rw [←he];rfl
    ·exact e
   exact ⟨-(zKm m:Int),by rw [zOq _ hpos,he,hl],by unfold Fits;rw [Int.natAbs_neg,Int.natAbs_natCast,he];exact h2⟩
  ·have hl:l=m:=by rw [Lib.trimPrefix,if_neg hp] at hm;exact hm
   exact ⟨(zKm m:Int),by rw [zOs,he,hl],by unfold Fits;rw [Int.natAbs_natCast,he];exact h2⟩
theorem zOn {x y:Int} (h:Lib.itoa x=Lib.itoa y):x=y:=by
 have hx:=zOu x
 have hy:=zOu y
 rw [h] at hx
 have h1:decide (x<0)=decide (y<0):=hx.1.symm.trans hy.1
 have h2:Lib.decDigits x.natAbs=Lib.decDigits y.natAbs:=hx.2.symm.trans hy.2
 have h3:x.natAbs=y.natAbs:=by rw [←zKl x.natAbs,h2,zKl]
 have h4:(x<0↔y<0):=by simpa using h1
 omega
theorem zOm {x:Int}:Lib.itoa x=[48]↔x=0:=⟨fun h=>zOn (h.trans zOv.symm),fun h=>by rw [h,zOv]⟩
theorem zHg (l:List UInt8) (w:World) (hl:l.length≤140737488355328) :
  Calls Tryz.prog 146 #[.string ⟨l.toArray⟩] w fun e w'=>e = .returned (.bool (xFm l))∧Below w.heap.size w w':=by
 by_cases h0:l=[48]
 ·subst h0
  go_enter Tryz.func146,Tryz.ntmps146
  go_wp2_with fail
  go_ret
  exact ⟨rfl,Below.refl _ _⟩
 ·have hne:(l==[48])=false:=by simpa using h0
  have E:=oH (show xFm l=zTh (Lib.trimPrefix l [45]) by rw [xFm,hne,Bool.false_or])
  have HTP:=oH (Tryz.strings_TrimPrefix ⟨l.toArray⟩ ⟨#[45]⟩ w)
  rw [show (⟨l.toArray⟩:ByteArray).data.toList=l by simp,show (⟨#[45]⟩:ByteArray).data.toList=[45] from rfl] at HTP
  have hml:(Lib.trimPrefix l [45]).length≤l.length:=by unfold Lib.trimPrefix;split<;>simp
  generalize Lib.trimPrefix l [45]=m at *
  cases m with
  | nil =>
   go_enter Tryz.func146,Tryz.ntmps146
   go_wp2_with fail
   refine HTP.out.mono ?_
   rintro e w' ⟨rfl,rfl⟩
   go_wp2_with fail
   go_ret
   exact ⟨by rw [E.out];rfl,Below.refl _ _⟩
  | cons c r =>
   by_cases hlen:(c::r).length≤400
   ·obtain ⟨s,hs⟩:∃ s:ByteArray,s=⟨(c::r).toArray⟩:=⟨_,rfl⟩
    rw [←hs] at HTP
    have hsz:s.size=r.length+1:=by rw [hs];simp [ByteArray.size]
    have hsd:s.data.toList=c::r:=by rw [hs]
    have hse:s.toList.isEmpty=false:=by rw [Lib.toList_data,hsd];rfl
    have hse':¬s.toList=[]:=by rw [Lib.toList_data,hsd];simp
    have hs0:0<s.size:=by omega
    have hs4:¬400<s.size:=by simp at hlen;omega
    have hs4':decide (400<(s.size:Int))=false:=by simp at hlen ⊢;omega
    have hsc:s[0]=c:=by
     have:s.data.toList[0]'(by rw [hsd];simp)=c:=by simp [hsd]
     have h2:s.data[0]'hs0=c:=by simpa using this
     exact h2
    by_cases hc:c=48
    ·have hc':((s[0].toNat:Int)==48)=true:=by rw [hsc,hc];rfl
     have E2:=oH (show zTh (c::r)=false by simp [zTh,hc])
     clear hs hsz hsd hsc
     go_enter Tryz.func146,Tryz.ntmps146
     go_wp2_with fail
     refine HTP.out.mono ?_
     rintro e w' ⟨rfl,rfl⟩
     go_wp2_with fail
     go_ret
     exact ⟨by rw [E.out,E2.out];rfl,Below.refl _ _⟩
    ·have hc':((s[0].toNat:Int)==48)=false:=by
      rw [hsc,beq_eq_false_iff_ne]
      intro e
      apply hc
      apply UInt8.toNat_inj.1
      have:(48:UInt8).toNat=48:=rfl
      omega
     have E2:=oH (show zTh (c::r)=s.data.toList.all zMd by rw [hsd,zTh];simp only [hlen];simp [hc])
     have hcv:=fun W=>Lib.run_convert_string_bytes (P:=Tryz.prog) W 9 181 5 s Tryz.underlying9 Tryz.underlying181 Tryz.underlying5
     have HL:=oH (show s.data.toList.length=s.size from Array.length_toList)
     clear hs hsz hsd hsc
     go_enter Tryz.func146,Tryz.ntmps146
     go_wp2_with fail
     refine HTP.out.mono ?_
     rintro e w' ⟨rfl,rfl⟩
     go_wp2_with fail
     clear hcv hc' hse hse' hs4'
     go_loop [25] (fun ix=>∃ k:Nat,k≤s.size∧ix = .int .i64 (k:Int)∧(s.data.toList.take k).all zMd=true) (fun ix=>s.size-(intOf ix).toNat)
     case atStart=>exact ⟨0,Nat.zero_le _,rfl,rfl⟩
     case round =>
      obtain ⟨k,hk,rfl,hall⟩:=hrel
      have HALL:=oH hall
      clear hall
      by_cases hlt:k<s.size
      ·have hcell:=Lib.bytesWorld_cell w' 5 s k hlt
       have hts:s.data.toList.take (k+1)=s.data.toList.take k++[s.data.toList.getD k 0]:=by
        rw [List.take_succ_eq_append_getElem (by rw [HL.out];exact hlt)]
        simp [List.getD_eq_getElem?_getD,HL.out,hlt]
       have HTS:=oH hts
       clear hts
       generalize hd:s.data.toList.getD k 0=d at *
       have HD:=oH hd
       clear hd
       have hd256:d.toNat<256:=d.toNat_lt
       by_cases hdig:zMd d=true
       ·have hdd:=(zMe d).1 hdig
        unfold zCb at hdd
        obtain ⟨hd1,hd2⟩:=hdd
        go_wp2_with fail
        go_round
        case rel=>exact ⟨k+1,by omega,by go_num,by rw [HTS.out,List.all_append,HALL.out];simp [hdig]⟩
        case measure=>simp [intOf];omega
       ·have hnd:¬(48≤d.toNat∧d.toNat≤57):=fun h=>hdig ((zMe d).2 h)
        have E3:=oH (show s.data.toList.all zMd=false by
         rw [←Bool.not_eq_true,zHs]
         intro hh
         apply hdig
         rw [zMe]
         apply hh
         rw [←HD.out,List.getD_eq_getElem?_getD,List.getElem?_eq_getElem (by rw [HL.out];exact hlt)]
         exact List.getElem_mem _)
        by_cases hd1:d.toNat<48
        ·go_wp2_with fail
         go_ret
         exact ⟨by rw [E.out,E2.out,E3.out];rfl,Lib.bytesWorld_below _ _ _⟩
        ·have hd2:57<d.toNat:=by omega
         go_wp2_with fail
         go_ret
         exact ⟨by rw [E.out,E2.out,E3.out];rfl,Lib.bytesWorld_below _ _ _⟩
      ·obtain rfl:k=s.size:=by omega
       have E3:=oH (show s.data.toList.all zMd=true by have:=HALL.out;rwa [←HL.out,List.take_length] at this)
       go_wp2_with fail
       go_ret
       exact ⟨by rw [E.out,E2.out,E3.out];rfl,Lib.bytesWorld_below _ _ _⟩
   ·simp only [List.length_cons] at hlen hml
    go_enter Tryz.func146,Tryz.ntmps146
    go_wp2_with fail
    refine HTP.out.mono ?_
    rintro e w' ⟨rfl,rfl⟩
    go_wp2_with fail
    go_ret
    exact ⟨by rw [E.out,zTh,List.length_cons];simp [hlen],Below.refl _ _⟩
def str (x:Int):ByteArray:=⟨(Lib.itoa x).toArray⟩
instance (x:Int):Decidable (Fits x):=inferInstanceAs (Decidable (_≤_))
def outS (x:Int):ByteArray:=if Fits x then str x else ⟨#[]⟩
def outE (x:Int):Int:=if Fits x then 0 else 3
theorem zUq {x:Int} (h:Fits x):outS x=str x:=if_pos h
theorem zUk {x:Int} (h:Fits x):outE x=0:=if_pos h
theorem Fits.len {x:Int} (h:Fits x):(limbs x.natAbs).length≤45:=by
 apply zQj
 apply zRb
 unfold Fits at h
 omega
theorem zWu (x:Int) (w:World) (hl:Fits x):Calls Tryz.prog 182 #[.string (str x)] w (zFt w x):=by
 have HRD:=oH (fun W=>zFf x W (by unfold Fits at hl;omega))
 unfold str
 go_enter Tryz.func182,Tryz.ntmps182
 go_wp2_with fail
 have hr:=Res.new w
 have hb0:Below w.heap.size w (w.alloc (.cells #[.bool false,.slice none 0 0] 83)):=bA
 generalize w.alloc (.cells #[.bool false,.slice none 0 0] 83)=W0 at *
 have HR:=oH hr
 have HB0:=oH hb0
 clear hr hb0
 refine (HRD.out W0).mono ?_
 intro e w3 hret
 obtain ⟨A3,c3,rfl,hl3,hc3,hb3⟩:=hret.num
 have HR3:=oH (HR.out.below hb3)
 have HC3:=oH hc3
 have HB3:=oH (HB0.out.trans (hb3.mono HB0.out.size))
 have hr0:=HR3.out.r0
 have hr1:=HR3.out.r1
 have hf0:=HR3.out.f 0
 have hf1:=HR3.out.f 1
 clear hret hc3 hb3 HRD
 go_wp2_with fail
 refine bodyPost_ret (v := .agg #[.bool (decide (x<0)),.slice A3 (limbs x.natAbs).length c3]) (by simp [results,Tryz.results182,go_sem,hr0,hr1]) rfl ?_
 exact HR3.out.end_ HB3.out (Nat.le_refl _) HC3.out hl3 rfl
theorem zOp (x:Int):(Lib.itoa x).length≤(Lib.decDigits x.natAbs).length+1:=by
 unfold Lib.itoa
 by_cases h:x<0
 ·rw [if_pos h];simp
 ·rw [if_neg h,show x.toNat=x.natAbs by omega];omega
theorem zHh (x:Int) (w:World) (hf:Fits x):Calls Tryz.prog 146 #[.string (str x)] w fun e w'=>e = .returned (.bool true)∧Below w.heap.size w w':=by
 have:=zHg (Lib.itoa x) w (by have:=zOp x;unfold Fits at hf;omega)
 rw [xGa hf] at this
 exact this
theorem zBx (x y:Int) (w:World) (hfx:Fits x) (hfy:Fits y):Calls Tryz.prog 147 #[.string (str x),.string (str y)] w fun e w'=>e = .returned (.int .i64 (sg (x-y)))∧Below w.heap.size w w':=by
 have HFX:=oH hfx
 have HFY:=oH hfy
 have hlx:=hfx.len
 have hly:=hfy.len
 clear hfx hfy
 go_enter Tryz.func147,Tryz.ntmps147
 go_wp2_with fail
 refine (zHh x w HFX.out).mono ?_
 rintro e w1 ⟨rfl,hb1⟩
 have HB1:=oH hb1
 clear hb1
 go_wp2_with fail
 refine (zHh y w1 HFY.out).mono ?_
 rintro e w2 ⟨rfl,hb2⟩
 have HB2:=oH (HB1.out.trans (hb2.mono HB1.out.size))
 clear hb2
 go_wp2_with fail
 refine (zWu x w2 HFX.out).mono ?_
 rintro e w3 ⟨v3,rfl,hv3,hb3⟩
 have HV3:=oH hv3
 have HB3:=oH (HB2.out.trans (hb3.mono HB2.out.size))
 clear hv3 hb3
 go_wp2_with fail
 refine (zWu y w3 HFY.out).mono ?_
 rintro e w4 ⟨v4,rfl,hv4,hb4⟩
 have HV4:=oH hv4
 have HV34:=oH (HV3.out.below hb4)
 have HB4:=oH (HB3.out.trans (hb4.mono HB3.out.size))
 clear hv4 hb4
 go_wp2_with fail
 refine (zAj v3 v4 x y w4 HV34.out HV4.out (by omega) (by omega)).mono ?_
 rintro e w5 ⟨rfl,hb5⟩
 have HB5:=oH (HB4.out.trans (hb5.mono HB4.out.size))
 clear hb5
 go_wp2_with fail
 go_ret
 exact ⟨rfl,HB5.out⟩
open Go.RowKit
def smallB (x:Int):Bool:=decide (x.natAbs≤4611686018427387904)
def smallV (x:Int):Int:=if x.natAbs≤4611686018427387904 then x else 0
end Go.Proofs.YtfjjcoggoomlbaaGreatDoor
