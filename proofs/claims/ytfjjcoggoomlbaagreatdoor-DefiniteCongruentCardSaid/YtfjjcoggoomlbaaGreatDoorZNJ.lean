import Derived.Test.YtfjjcoggoomlbaaGreatDoorZNI
import Derived.Test.YtfjjcoggoomlbaaGreatDoorZNG
set_option maxHeartbeats 16000000
set_option maxRecDepth 100000
set_option linter.unusedVariables false
set_option linter.unusedSimpArgs false
set_option linter.unusedSectionVars false
namespace Go.Proofs.YtfjjcoggoomlbaaGreatDoor
open Go.RowKit
theorem zSr (w:World) (A:Option Addr):zCw w A []:=⟨fun h=>absurd rfl h,fun r hr=>(by cases hr)⟩
theorem zSq:zBo [] 0:=⟨by decide,by decide,fun r hr=>(by cases hr),fun r hr=>(by cases hr),fun _=>rfl⟩
theorem zDg (A:Option Addr) (c:Nat) (w:World):Calls Tryz.prog 52 #[.slice A 0 c] w fun e w'=>∃ dv:zDe,e = .returned (.agg #[.bool dv.nb,.slice dv.ad dv.l dv.c,.slice none 0 0])∧zCf w' dv.val 1∧Below w.heap.size w w':=by
 go_enter Tryz.func52,Tryz.ntmps52
 go_wp2_with fail
 refine (zCn _).mono ?_
 rintro e w2 ⟨v2,rfl,hv2,hb2⟩
 have HB2:=oH (((Below.refl w.heap.size w).alloc (Nat.le_refl _) (.cells #[.bool false,.slice none 0 0,.slice none 0 0] 86)).trans (hb2.mono (by simp)))
 have HR2:=oH ((Blk.new w 86 [.bool false,.slice none 0 0,.slice none 0 0]).below hb2)
 obtain ⟨na,A1,l1,c1,rfl⟩:=hv2.slice
 have hbl:Below w2.heap.size w2 (w2.alloc (.cells #[.bool na,.slice A1 l1 c1,.slice none 0 0] 86)):=bA
 have HV2:=oH (hv2.below hbl)
 have HX:=oH (Blk.new w2 86 [.bool na,.slice A1 l1 c1,.slice none 0 0])
 have HBb:=oH (HB2.out.trans (hbl.mono HB2.out.size))
 have HRb:=oH (HR2.out.below hbl)
 clear hv2 hb2 hbl HB2 HR2
 go_wp2_with fail
 generalize w2.alloc (.cells #[.bool na,.slice A1 l1 c1,.slice none 0 0] 86)=wb at *
 generalize w2.heap.size=x at *
 go_loopw [4,6,7,9,21] (fun v _ _ _ iv wr=>v = .slice none 0 0∧iv = .int .i64 0∧wr=wb) (fun _ _ _ _ _ _=>0)
 case atStart=>exact ⟨rfl,rfl,rfl⟩
 case round =>
  obtain ⟨rfl,rfl,rfl⟩:=hrel
  go_wp2_with fail
  go_loopw [47] (fun iv wq=>iv = .int .i64 0∧wq=wr) (fun _ _=>0)
  case atStart=>exact ⟨rfl,rfl⟩
  case round =>
   rename_i wq
   obtain ⟨rfl,rfl⟩:=hrel
   have k0:=HX.out.at_ (i:=0) rfl
   have k1:=HX.out.at_ (i:=1) rfl
   have k2:=HX.out.at_ (i:=2) rfl
   have e0:=HRb.out.at_ (i:=0) rfl
   have e1:=HRb.out.at_ (i:=1) rfl
   have e2:=HRb.out.at_ (i:=2) rfl
   have f0:=HRb.out.fr 0
   have f1:=HRb.out.fr 1
   have f2:=HRb.out.fr 2
   go_wp2_with fail
   refine bodyPost_ret (v := .agg #[.bool na,.slice A1 l1 c1,.slice none 0 0]) (by simp [results,Tryz.results52,go_sem,e0,e1,e2]) rfl ?_
   refine ⟨⟨na,A1,l1,c1⟩,rfl,?_,((HBb.out.setCell (p:=⟨w.heap.size,0,none⟩) (Nat.le_refl _) _).setCell (p:=⟨w.heap.size,1,none⟩) (Nat.le_refl _) _).setCell (p:=⟨w.heap.size,2,none⟩) (Nat.le_refl _) _⟩
   exact HV2.out.box HRb.out xDu (zNx (zNx (zNw w.heap.size 0 _) 1 _) 2 _)
theorem zMk (dv:zDe) (A:Option Addr) (c:Nat) (w:World) (hd:zCf w dv.val 1) (htab:Tab w) :
  Calls Tryz.prog 153 #[.agg #[.bool dv.nb,.slice dv.ad dv.l dv.c,.slice A 0 c]] w fun e w'=>e = .returned (.int .i64 (Lib.nDigits 1:Nat))∧Below w.heap.size w w':=by
 have hbl:Below w.heap.size w (w.alloc (.cells #[.bool dv.nb,.slice dv.ad dv.l dv.c,.slice A 0 c] 86)):=bA
 have hk:=Blk.new w 86 [.bool dv.nb,.slice dv.ad dv.l dv.c,.slice A 0 c]
 have HK:=oH hk
 have HDG:=oH (zAv (.agg #[.bool dv.nb,.slice dv.ad dv.l dv.c]) 1 _ (hd.below hbl) (by have h9:=zCk;unfold LL at h9;omega) (htab.below hbl))
 have HB:=oH hbl
 have c0:=hk.at_ (i:=0) rfl
 have c1:=hk.at_ (i:=1) rfl
 generalize hnd:Lib.nDigits (1:Int).natAbs=nd at *
 have HND:=oH (show Lib.nDigits 1=nd from hnd)
 clear hd htab hbl hk hnd
 go_enter Tryz.func153,Tryz.ntmps153
 go_wp2_with fail
 refine HDG.out.mono ?_
 rintro e w2 ⟨rfl,hb2⟩
 have HB2:=oH (HB.out.trans (hb2.mono HB.out.size))
 have c2:=(HK.out.below hb2).at_ (i:=2) rfl
 clear hb2 c0 c1
 go_wp2_with fail
 go_loopw [3,14] (fun v iv wr=>v = .int .i64 (nd:Int)∧iv = .int .i64 0∧wr=w2) (fun _ _ _=>0)
 case atStart=>exact ⟨rfl,rfl,rfl⟩
 case round =>
  obtain ⟨rfl,rfl,rfl⟩:=hrel
  go_wp2_with fail
  go_ret
  exact ⟨by rw [HND.out];rfl,HB2.out⟩
theorem zBw (A:Option Addr) (c:Nat) (w:World) (henv:Env w):Calls Tryz.prog 87 #[.slice A 0 c] w fun e w'=>e = .returned (.bool false)∧Below w.heap.size w w':=by
 have HE:=oH henv
 clear henv
 go_enter Tryz.func87,Tryz.ntmps87
 go_wp2_with fail
 refine (zDg A c w).mono ?_
 rintro e w2 ⟨dv,rfl,hd,hb2⟩
 have HB2:=oH hb2
 have HDG:=oH (zMk dv none 0 w2 hd (HE.out.below hb2).tab)
 have hz:(0:Int)*((Lib.nDigits 1:Nat):Int)=0:=Int.zero_mul _
 generalize ((Lib.nDigits 1:Nat):Int)=nd at *
 clear hd hb2
 go_wp2_with fail
 refine HDG.out.mono ?_
 rintro e w3 ⟨rfl,hb3⟩
 have HB3:=oH (HB2.out.trans (hb3.mono HB2.out.size))
 clear hb3
 go_wp2_with fail
 go_ret
 exact ⟨rfl,HB3.out⟩
theorem zAn (A:Option Addr) (c:Nat) (w:World) (henv:Env w):Calls Tryz.prog 50 #[.slice A 0 c] w fun e w'=>e = .returned (.int .i64 0)∧Below w.heap.size w w':=by
 have HSH:=oH (show Calls Tryz.prog 65 #[.slice A 0 c] w _ from zGl A [] c 0 w (zSr w A) zSq henv)
 have HSY:=oH (fun W=>zGw A [] c 0 (fun _ _=>0) W (zSr W A) ⟨rfl,fun r hr=>(by cases hr),fun i k hi=>absurd hi (by simp),fun i k hi=>absurd hi (by omega)⟩ (by decide))
 have HE:=oH henv
 clear henv
 go_enter Tryz.func50,Tryz.ntmps50
 go_wp2_with fail
 refine HSH.out.mono ?_
 rintro e w1 ⟨rfl,hb1⟩
 have HB:=oH hb1
 clear hb1 HSH
 go_wp2_with fail
 refine (HSY.out w1 (HE.out.below HB.out)).mono ?_
 rintro e w2 ⟨bb,rfl,hbb,hb2⟩
 obtain rfl:bb=true:=hbb.2 (fun i k hi=>absurd hi (by omega))
 replace HB:=oH (HB.out.trans (hb2.mono HB.out.size))
 clear hb2 hbb HSY
 go_wp2_with fail
 refine (zBw A c w2 (HE.out.below HB.out)).mono ?_
 rintro e w3 ⟨rfl,hb3⟩
 have HB3:=oH (HB.out.trans (hb3.mono HB.out.size))
 clear hb3 HB
 go_wp2_with fail
 go_ret
 exact ⟨rfl,HB3.out⟩
theorem zFj (A:Option Addr) (c:Nat) (w:World):Calls Tryz.prog 135 #[.slice A 0 c,.int .i64 0] w fun e w'=>∃ v:zDe,e = .returned (.agg #[.slice none 0 0,.slice none 0 0,.bool v.nb,.slice v.ad v.l v.c,.bool false])∧Below w.heap.size w w':=by
 go_enter Tryz.func135,Tryz.ntmps135
 go_wp2_with fail
 refine (zCn _).mono ?_
 rintro e w2 ⟨v2,rfl,hv2,hb2⟩
 have HB2:=oH (((Below.refl w.heap.size w).alloc (Nat.le_refl _) (.cells #[.slice none 0 0,.slice none 0 0,.bool false,.slice none 0 0,.bool false] 152)).trans (hb2.mono (by simp)))
 have HR2:=oH ((Blk.new w 152 [.slice none 0 0,.slice none 0 0,.bool false,.slice none 0 0,.bool false]).below hb2)
 obtain ⟨na,A1,l1,c1,rfl⟩:=hv2.slice
 have hbl:Below w2.heap.size w2 (w2.alloc (.cells #[.slice none 0 0,.slice none 0 0,.bool na,.slice A1 l1 c1,.bool false] 152)):=bA
 have HX:=oH (Blk.new w2 152 [.slice none 0 0,.slice none 0 0,.bool na,.slice A1 l1 c1,.bool false])
 have HBb:=oH (HB2.out.trans (hbl.mono HB2.out.size))
 have HRb:=oH (HR2.out.below hbl)
 clear hv2 hb2 hbl HB2 HR2
 go_wp2_with fail
 generalize w2.alloc (.cells #[.slice none 0 0,.slice none 0 0,.bool na,.slice A1 l1 c1,.bool false] 152)=wb at *
 generalize w2.heap.size=x at *
 go_loopw [13] (fun iv wr=>iv = .int .i64 0∧wr=wb) (fun _ _=>0)
 case atStart=>exact ⟨rfl,rfl⟩
 case round =>
  obtain ⟨rfl,rfl⟩:=hrel
  go_wp2_with fail
  go_loopw [8] (fun iv wq=>iv = .int .i64 0∧wq=wr) (fun _ _=>0)
  case atStart=>exact ⟨rfl,rfl⟩
  case round =>
   rename_i wq
   obtain ⟨rfl,rfl⟩:=hrel
   have k0:=HX.out.at_ (i:=0) rfl
   have k1:=HX.out.at_ (i:=1) rfl
   have k2:=HX.out.at_ (i:=2) rfl
   have k3:=HX.out.at_ (i:=3) rfl
   have k4:=HX.out.at_ (i:=4) rfl
   have e0:=HRb.out.at_ (i:=0) rfl
   have e1:=HRb.out.at_ (i:=1) rfl
   have e2:=HRb.out.at_ (i:=2) rfl
   have e3:=HRb.out.at_ (i:=3) rfl
   have e4:=HRb.out.at_ (i:=4) rfl
   have f0:=HRb.out.fr 0
   have f1:=HRb.out.fr 1
   have f2:=HRb.out.fr 2
   have f3:=HRb.out.fr 3
   have f4:=HRb.out.fr 4
   go_wp2_with fail
   refine bodyPost_ret (v := .agg #[.slice none 0 0,.slice none 0 0,.bool na,.slice A1 l1 c1,.bool false]) (by simp [results,Tryz.results135,go_sem,e0,e1,e2,e3,e4]) rfl ?_
   exact ⟨⟨na,A1,l1,c1⟩,rfl,((((HBb.out.setCell (p:=⟨w.heap.size,0,none⟩) (Nat.le_refl _) _).setCell (p:=⟨w.heap.size,1,none⟩) (Nat.le_refl _) _).setCell (p:=⟨w.heap.size,2,none⟩) (Nat.le_refl _) _).setCell (p:=⟨w.heap.size,3,none⟩) (Nat.le_refl _) _).setCell (p:=⟨w.heap.size,4,none⟩) (Nat.le_refl _) _⟩
theorem zJj (Ab:Option Addr) (cb:Nat) (w:World):Calls Tryz.prog 88 #[.slice Ab 0 cb] w fun e w'=>∃ A c,e = .returned (.slice A 0 c)∧Below w.heap.size w w':=by
 refine (show Calls Tryz.prog 88 #[.slice Ab 0 cb] w (RetCol w []) from zAi Ab [] cb w (fun h=>absurd rfl h) (by decide)).mono ?_
 rintro e w' ⟨v,rs,rfl,hm,ho,hb⟩
 have hl:rs.length=0:=by simpa using hm
 obtain ⟨A,c,rfl, -⟩:=zUs ho.o
 exact ⟨A,c,by rw [hl],hb⟩
theorem zGr (A Ab:Option Addr) (c cb:Nat) (w:World) (henv:Env w):Calls Tryz.prog 63 #[.slice A 0 c,.slice Ab 0 cb] w fun e w'=>∃ A' c',e = .returned (.tuple #[.slice A' 0 c',.int .i64 0])∧w'.ownsRow w.heap.size 39 1 (.slice A' 0 c') 0 []∧Below w.heap.size w w':=by
 have HSQ:=oH (show Calls Tryz.prog 133 #[.slice A 0 c] w _ from xBb A [] c w (zSr w A) zSq henv)
 have HE:=oH henv
 have HNU:=oH (fun W (hW:Below w.heap.size w W)=>(show Calls Tryz.prog 134 #[.slice Ab 0 cb] W _ from zTo Ab [] cb W (fun h=>absurd rfl h) (by decide) (fun s hs=>(by cases hs)) (henv.below hW)))
 clear henv
 go_enter Tryz.func63,Tryz.ntmps63
 go_wp2_with fail
 refine HSQ.out.mono ?_
 rintro e w1 ⟨rfl,hb1⟩
 have HB1:=oH hb1
 clear hb1 HSQ
 go_wp2_with fail
 refine (HNU.out w1 HB1.out).mono ?_
 rintro e w2 ⟨rfl,hb2⟩
 have HB2:=oH (HB1.out.trans (hb2.mono HB1.out.size))
 clear hb2 HNU HB1
 go_wp2_with fail
 refine (zBw A c w2 (HE.out.below HB2.out)).mono ?_
 rintro e w3 ⟨rfl,hb3⟩
 have HB3:=oH (HB2.out.trans (hb3.mono HB2.out.size))
 clear hb3 HB2
 go_wp2_with fail
 refine (zJj Ab cb w3).mono ?_
 rintro e w4 ⟨A4,c4,rfl,hb4⟩
 have HB4:=oH (HB3.out.trans (hb4.mono HB3.out.size))
 clear hb4 HB3
 go_wp2_with fail
 refine (zBw A4 c4 w4 (HE.out.below HB4.out)).mono ?_
 rintro e w5 ⟨rfl,hb5⟩
 have HB5:=oH (HB4.out.trans (hb5.mono HB4.out.size))
 clear hb5 HB4
 go_wp2_with fail
 refine (zDg A c w5).mono ?_
 rintro e w6 ⟨d6,rfl, -,hb6⟩
 have HB6:=oH (HB5.out.trans (hb6.mono HB5.out.size))
 clear hb6 HB5
 go_wp2_with fail
 refine (zJj Ab cb w6).mono ?_
 rintro e w7 ⟨A7,c7,rfl,hb7⟩
 have HB7:=oH (HB6.out.trans (hb7.mono HB6.out.size))
 clear hb7 HB6
 go_wp2_with fail
 refine (zDg A7 c7 w7).mono ?_
 rintro e w8 ⟨d8,rfl, -,hb8⟩
 have HB8:=oH (HB7.out.trans (hb8.mono HB7.out.size))
 clear hb8 HB7
 have hb9:Below w8.heap.size w8 (w8.alloc (.cells #[.bool d6.nb,.slice d6.ad d6.l d6.c,.slice none 0 0] 86)):=bA
 have hb10:Below w8.heap.size w8 ((w8.alloc (.cells #[.bool d6.nb,.slice d6.ad d6.l d6.c,.slice none 0 0] 86)).alloc (.cells #[.bool d8.nb,.slice d8.ad d8.l d8.c,.slice none 0 0] 86)):=hb9.alloc hb9.size _
 have HX:=oH ((Blk.new w8 86 [.bool d6.nb,.slice d6.ad d6.l d6.c,.slice none 0 0]).alloc (.cells #[.bool d8.nb,.slice d8.ad d8.l d8.c,.slice none 0 0] 86))
 have HB10:=oH (HB8.out.trans (hb10.mono HB8.out.size))
 clear hb9 hb10 HB8
 go_upto_region 11 with (fail)
 generalize ((w8.alloc (.cells #[.bool d6.nb,.slice d6.ad d6.l d6.c,.slice none 0 0] 86)).alloc (.cells #[.bool d8.nb,.slice d8.ad d8.l d8.c,.slice none 0 0] 86))=W at *
 generalize w8.heap.size=x at *
 have c2:=HX.out.at_ (i:=2) rfl
 go_wp2_with fail
 go_loopw [45] (fun iv wr=>iv = .int .i64 0∧wr=W) (fun _ _=>0)
 case atStart=>exact ⟨rfl,rfl⟩
 case round =>
  obtain ⟨rfl,rfl⟩:=hrel
  go_wp2_with fail
  refine (zFj none 0 wr).mono ?_
  rintro e w11 ⟨v,rfl,hb11⟩
  have HB11:=oH (HB10.out.trans (hb11.mono HB10.out.size))
  have hb12:Below w11.heap.size w11 (w11.alloc (.cells #[.slice none 0 0,.slice none 0 0,.bool v.nb,.slice v.ad v.l v.c,.bool false] 152)):=bA
  have HY:=oH (Blk.new w11 152 [.slice none 0 0,.slice none 0 0,.bool v.nb,.slice v.ad v.l v.c,.bool false])
  have HB12:=oH (HB11.out.trans (hb12.mono HB11.out.size))
  clear hb11 hb12 HB11 c2
  go_upto_region 17 with (fail)
  generalize (w11.alloc (.cells #[.slice none 0 0,.slice none 0 0,.bool v.nb,.slice v.ad v.l v.c,.bool false] 152))=W2 at *
  generalize w11.heap.size=y at *
  have c0:=HY.out.at_ (i:=0) rfl
  have c1:=HY.out.at_ (i:=1) rfl
  go_wp2_with fail
  go_loopw [11,81] (fun ov iv wq=>ov = .slice none 0 0∧iv = .int .i64 0∧wq=W2) (fun _ _ _=>0)
  case atStart=>exact ⟨rfl,rfl,rfl⟩
  case round =>
   obtain ⟨rfl,rfl,rfl⟩:=hrel
   have HTX:=oH (show Calls Tryz.prog 92 #[.slice none 0 0] wr (zGb wr []) from zHa none [] [] 0 wr (fun i h=>absurd h (by simp)) ⟨rfl,fun i h=>absurd h (by simp)⟩ (by decide) (fun q hq=>(by cases hq)) (HE.out.below HB12.out))
   clear c0 c1
   go_wp2_with fail
   refine HTX.out.mono ?_
   rintro e w13 (⟨At,ct, -,rfl, -,hb13,how⟩|⟨⟨q,hq, -⟩, -⟩)
   ·have HB13:=oH (HB12.out.trans (hb13.mono HB12.out.size))
    have HOX:=oH (zUu how HB12.out.size)
    clear hb13 how
    go_wp2_with fail
    go_ret2
    exact ⟨At,ct,rfl,HOX.out,HB13.out⟩
   ·cases hq
theorem zAt (A:Option Addr) (c:Nat) (M:Nat→Nat→Rat) (w:World) (henv:Env w):Calls Tryz.prog 12 #[.slice A 0 c] w (zAq 0 M w):=by
 generalize hQ:zAq 0 M w=Q
 replace hQ:=oH hQ
 have HBG:=oH (fun W (hW:Below w.heap.size w W)=>zAn A c W (henv.below hW))
 have HID:=oH (fun W (hW:Below w.heap.size w W)=>(show Calls Tryz.prog 51 #[.int .i64 0] W _ from zBy 0 W (by decide) (henv.below hW)))
 have hb0:Below w.heap.size w (w.alloc (.cells #[.slice A 0 c] 27)):=bA
 have hb1:Below w.heap.size w ((w.alloc (.cells #[.slice A 0 c] 27)).alloc (.cells #[.slice none 0 0,.slice none 0 0] 31)):=hb0.alloc hb0.size _
 have HA:=oH ((Blk.new w 27 [.slice A 0 c]).alloc (.cells #[.slice none 0 0,.slice none 0 0] 31))
 have HR:=oH (Blk.new' (w:=w.alloc (.cells #[.slice A 0 c] 27)) (g:=w.heap.size+1) (by simp) 31 [.slice none 0 0,.slice none 0 0])
 have HB0:=oH hb1
 have hsz0:((w.alloc (.cells #[.slice A 0 c] 27)).alloc (.cells #[.slice none 0 0,.slice none 0 0] 31)).heap.size=w.heap.size+2:=by simp
 clear henv hb0 hb1
 go_enter Tryz.func12,Tryz.ntmps12
 go_upto_region 1 with (fail)
 generalize ((w.alloc (.cells #[.slice A 0 c] 27)).alloc (.cells #[.slice none 0 0,.slice none 0 0] 31))=W0 at *
 generalize hs0e:w.heap.size=s0 at *
 have HS0:=oH hs0e
 clear hs0e
 have c0:=HA.out.at_ (i:=0) rfl
 go_wp2_with fail
 refine (HBG.out W0 HB0.out).mono ?_
 rintro e w1 ⟨rfl,hb1⟩
 have HB1:=oH hb1
 have c1:=(HA.out.below hb1).at_ (i:=0) rfl
 clear c0 hb1
 go_upto_region 5 with (fail)
 have HF5:=oH (Blk.new w1 31 [.slice none 0 0,.slice none 0 0])
 have HB5:=oH (HB1.out.alloc HB1.out.size (.cells #[.slice none 0 0,.slice none 0 0] 31))
 have hfb:=HB1.out.size
 clear c1
 generalize (w1.alloc (.cells #[.slice none 0 0,.slice none 0 0] 31))=X at *
 generalize w1.heap.size=fb at *
 have c1:=(HA.out.below HB5.out).at_ (i:=0) rfl
 go_wp2_with fail
 refine (HID.out X (HB0.out.trans (HB5.out.mono (by omega)))).mono ?_
 rintro e w2 ⟨U,rs,rfl,hmf,htp,hot,hb2⟩
 have HB2:=oH (HB5.out.trans (hb2.mono HB5.out.size))
 have HG2:=oH ((show zBu X.heap.size 0 0 idn U rs w2 from ⟨hmf,by have:=htp.o;rw [hmf.len] at this;exact this,hot⟩).mono HB5.out.size)
 have HF2:=oH (HF5.out.below hb2)
 have e0:=HF2.out.at_ (i:=0) rfl
 have f0:=HF2.out.fr 0
 clear hmf htp hot hb2 c1 HF5 HB1 HID HBG
 go_upto_region 6 with (fail)
 have HF3:=oH (show Blk (w2.setCell ⟨fb,0,none⟩ (.slice (some ⟨U,0,none⟩) 0 0)) fb 31 [.slice (some ⟨U,0,none⟩) 0 0,.slice none 0 0] from HF2.out.set 0 _)
 have HG3:=oH (HG2.out.far HF2.out.ty (by decide) (by decide) 0 (.slice (some ⟨U,0,none⟩) 0 0))
 have HB3:=oH (HB2.out.setCell (p:=⟨fb,0,none⟩) hfb (.slice (some ⟨U,0,none⟩) 0 0))
 clear e0 f0 HF2 HG2 HB2
 generalize (w2.setCell ⟨fb,0,none⟩ (.slice (some ⟨U,0,none⟩) 0 0))=X2 at *
 have c2:=(HA.out.below HB3.out).at_ (i:=0) rfl
 go_wp2_with fail
 refine (zDg A c X2).mono ?_
 rintro e w3 ⟨dv,rfl,hdv,hb3⟩
 have hBs:=HB3.out.size
 have HB4:=oH (HB3.out.trans (hb3.mono hBs))
 have hb4:Below w3.heap.size w3 (w3.alloc (.cells #[.bool dv.nb,.slice dv.ad dv.l dv.c,.slice none 0 0] 86)):=bA
 have hb5:Below w3.heap.size w3 ((w3.alloc (.cells #[.bool dv.nb,.slice dv.ad dv.l dv.c,.slice none 0 0] 86)).alloc (.cells #[.int .i64 0] 32)):=hb4.alloc hb4.size _
 have hb6:Below w3.heap.size w3 (((w3.alloc (.cells #[.bool dv.nb,.slice dv.ad dv.l dv.c,.slice none 0 0] 86)).alloc (.cells #[.int .i64 0] 32)).alloc (.cells #[.func (.func 53) #[] #[.pointer (some ⟨w3.heap.size+1,0,none⟩)]] 90)):=hb5.alloc hb5.size _
 have HT:=oH (((Blk.new w3 86 [.bool dv.nb,.slice dv.ad dv.l dv.c,.slice none 0 0]).alloc (.cells #[.int .i64 0] 32)).alloc (.cells #[.func (.func 53) #[] #[.pointer (some ⟨w3.heap.size+1,0,none⟩)]] 90))
 have HQ:=oH ((Blk.new' (w:=w3.alloc (.cells #[.bool dv.nb,.slice dv.ad dv.l dv.c,.slice none 0 0] 86)) (g:=w3.heap.size+1) (by simp) 32 [.int .i64 0]).alloc (.cells #[.func (.func 53) #[] #[.pointer (some ⟨w3.heap.size+1,0,none⟩)]] 90))
 have HP:=oH (Blk.new' (w:=((w3.alloc (.cells #[.bool dv.nb,.slice dv.ad dv.l dv.c,.slice none 0 0] 86)).alloc (.cells #[.int .i64 0] 32))) (g:=w3.heap.size+2) (by simp) 90 [.func (.func 53) #[] #[.pointer (some ⟨w3.heap.size+1,0,none⟩)]])
 have HB6:=oH (HB4.out.trans (hb6.mono HB4.out.size))
 have HDN:=oH (hdv.below hb6)
 have HF6:=oH ((HF3.out.below hb3).below hb6)
 have HG6:=oH ((HG3.out.below hb3).below hb6)
 clear c2 hdv hb3 hb4 hb5 hb6 HF3 HG3 HB3 HB4 HB5
 go_upto_region 9 with (fail)
 generalize (((w3.alloc (.cells #[.bool dv.nb,.slice dv.ad dv.l dv.c,.slice none 0 0] 86)).alloc (.cells #[.int .i64 0] 32)).alloc (.cells #[.func (.func 53) #[] #[.pointer (some ⟨w3.heap.size+1,0,none⟩)]] 90))=X5 at *
 generalize w3.heap.size+2=pb at *
 generalize w3.heap.size+1=qb at *
 generalize w3.heap.size=tb at *
 have c0:=HT.out.at_ (i:=0) rfl
 have c1:=HT.out.at_ (i:=1) rfl
 have c2:=HT.out.at_ (i:=2) rfl
 go_wp2_with fail
 clear c0 c1 c2
 refine (zPl 56 _ (fun args W=>zMw Tryz.func56 (by kernel_rfl) rfl args W) dv X5).mono ?_
 rintro e w9 ⟨rfl,hb9⟩
 have HB7:=oH (HB6.out.trans (hb9.mono HB6.out.size))
 have HB9:=oH (HB0.out.trans (HB7.out.mono (by omega)))
 have HR9:=oH (HR.out.below HB7.out)
 have c0:=(HA.out.below HB7.out).at_ (i:=0) rfl
 have e0:=HR9.out.at_ (i:=0) rfl
 have e1:=HR9.out.at_ (i:=1) rfl
 have f0:=HR9.out.fr 0
 have f1:=HR9.out.fr 1
 have c1:=(HQ.out.below hb9).at_ (i:=0) rfl
 have c2:=(HF6.out.below hb9).at_ (i:=0) rfl
 have c3:=(HF6.out.below hb9).at_ (i:=1) rfl
 have HG9:=oH (HG6.out.below hb9)
 have HBF:=oH ((HB9.out.setCell (p:=⟨s0+1,0,none⟩) (by show s0≤s0+1;omega) (.slice (some ⟨U,0,none⟩) 0 0)).setCell (p:=⟨s0+1,1,none⟩) (by show s0≤s0+1;omega) (.slice none 0 0))
 have HRF:=oH (show Blk ((w9.setCell ⟨s0+1,0,none⟩ (.slice (some ⟨U,0,none⟩) 0 0)).setCell ⟨s0+1,1,none⟩ (.slice none 0 0)) (s0+1) 31 [.slice (some ⟨U,0,none⟩) 0 0,.slice none 0 0] from (HR9.out.set 0 _).set 1 _)
 have hty:=HR9.out.ty
 have HGF:=oH ((((HG9.out.far hty (by decide) (by decide) 0 (.slice (some ⟨U,0,none⟩) 0 0)).far (hty.set (s0+1) 0 (.slice (some ⟨U,0,none⟩) 0 0)) (by decide) (by decide) 1 (.slice none 0 0))).mono (show s0≤W0.heap.size by omega))
 clear hty hb9
 go_wp2_with fail
 have r0:=HRF.out.at_ (i:=0) rfl
 have r1:=HRF.out.at_ (i:=1) rfl
 refine bodyPost_ret (v := .tuple #[.agg #[.slice (some ⟨U,0,none⟩) 0 0,.slice none 0 0],.int .i64 0]) ?_ rfl ?_
 ·simp [results,Tryz.results12,go_sem,r0,r1]
 ·rw [←hQ.out]
  exact ⟨0,⟨Nat.le_refl _,fun t ht=>absurd ht (by omega),fun h=>absurd h (by omega)⟩,by rw [HS0.out];exact HBF.out,.inr ⟨rfl,U,.slice none 0 0,rs,rfl,by rw [HS0.out];exact HGF.out.congr (fun i k hi=>absurd hi (by omega)),World.ownsRow_nil _ _ _ _⟩⟩
theorem zVy (A:Option Addr) (c:Nat) (W:World):Calls Tryz.prog 59 #[.slice A 0 c] W fun e w'=>e = .returned (.int .i64 0)∧Below W.heap.size W w':=by
 go_enter Tryz.func59,Tryz.ntmps59
 go_wp2_with fail
 refine (zDg A c W).mono ?_
 rintro e w1 ⟨dv,rfl, -,hb1⟩
 have HB1:=oH hb1
 clear hb1
 go_wp2_with fail
 refine (zPl 128 _ (fun args W=>zMw Tryz.func128 (by kernel_rfl) rfl args W) dv w1).mono ?_
 rintro e w2 ⟨rfl,hb2⟩
 have HB2:=oH (HB1.out.trans (hb2.mono HB1.out.size))
 clear hb2
 go_wp2_with fail
 go_ret
 exact ⟨rfl,HB2.out⟩
theorem zHm (A:Option Addr) (c:Nat) (w:World) (henv:Env w):Calls Tryz.prog 13 #[.slice A 0 c] w fun e w'=>e = .returned (.tuple #[.slice none 0 0,.int .i64 12])∧Below w.heap.size w w':=by
 have HBG:=oH (zAn A c w henv)
 have HPO:=oH (fun W=>zVy A c W)
 clear henv
 go_enter Tryz.func13,Tryz.ntmps13
 go_wp2_with fail
 refine HBG.out.mono ?_
 rintro e w1 ⟨rfl,hb1⟩
 have HB1:=oH hb1
 clear hb1
 go_wp2_with fail
 refine (HPO.out w1).mono ?_
 rintro e w2 ⟨rfl,hb2⟩
 have HB2:=oH (HB1.out.trans (hb2.mono HB1.out.size))
 clear hb2
 go_wp2_with fail
 go_ret2
 exact ⟨rfl,HB2.out⟩
def xGy:ByteArray:=⟨#[48]⟩
def zWx (k n:Nat):List Value:=List.replicate k (.string xGy)++List.replicate (n-k) (.string ⟨#[]⟩)
theorem zWz {k n:Nat} (h:k≤n):(zWx k n).length=n:=by simp [zWx];omega
theorem zXa {k m n:Nat} (h:k+m≤n):splice (zWx k n) k (List.replicate m (.string xGy))=zWx (k+m) n:=by
 unfold splice zWx
 rw [List.take_append_of_le_length (by simp),List.take_of_length_le (by simp),List.length_replicate,List.drop_append,List.drop_eq_nil_of_le (by simp),List.nil_append,List.length_replicate,List.drop_replicate,←List.append_assoc,List.replicate_append_replicate]
 congr 2
 omega
theorem zWy {k n i:Nat} (h:i<k):(zWx k n)[i]? = some (.string xGy):=by
 unfold zWx
 rw [List.getElem?_append_left (by simp;exact h)]
 simp [h]
theorem zXb {w:World} {g n:Nat} (h:Blk w g 39 (zWx n n)):zGu w (some ⟨g,0,none⟩) (List.replicate n xGy):=fun _=>⟨g,0,rfl,h.lt,fun i hi=>by
 rw [Nat.zero_add,h.cell,zWy (by simpa using hi)]
 simp⟩
theorem Tryz.infoRatEZ:(Tryz.prog.info? 39).map (fun i=>(i.zero,i.size,i.bytes))=some (some (.string ⟨#[]⟩),1,16):=by kernel_rfl
theorem Tryz.sizeRatZ:(Tryz.prog.info? 39).map (·.size)=some 1:=by kernel_rfl
theorem zRh (n:Nat):madeCells (Value.string ⟨#[]⟩).cells n=(zWx 0 n).toArray:=by
 have h:=toList_madeCells_one (.string ⟨#[]⟩) n
 have h2:(madeCells (Value.string ⟨#[]⟩).cells n).toList=(zWx 0 n).toArray.toList:=by
  show (madeCells #[Value.string ⟨#[]⟩] n).toList=_
  rw [h];simp [zWx]
 exact Array.toList_inj.1 h2
theorem zZf (n:Nat) (hn:n≤1000000) (w:World):(Instr.makeSlice 29 (.int .i64 (n:Int)) (.int .i64 (n:Int))).run Tryz.prog w = .ok (.slice (some ⟨w.heap.size,0,none⟩) n n) (w.alloc (.cells (zWx 0 n).toArray 39)):=by
 obtain ⟨i0,hi,hz0,hz1,hz2⟩:=info_parts Tryz.infoRatEZ
 have hr:=run_make (P:=Tryz.prog) w 29 39 i0 (.string ⟨#[]⟩) Tryz.underlying29 hi hz0 .i64 .i64 n n (by omega) (Int.le_refl _) (by rw [hz2];omega) (by omega)
 simp only [Int.toNat_natCast,hz1,Nat.mul_one,zRh] at hr
 exact hr
theorem zUg (m:Nat):∀ u∈List.replicate m (Value.string xGy),u.oneCell'=true:=by intro u hu;rw [(List.mem_replicate.1 hu).2];rfl
theorem rep_posZ {W:World} {g k m n:Nat} {t:TypeId} (hk:Blk W g t (zWx k n)) (hmk:m≤k):0<(List.replicate m (Value.string xGy)).length→(some ⟨g,k,none⟩:Option Addr)=some ⟨g,k,none⟩∧∃ ad:Addr,(some ⟨g,0,none⟩:Option Addr)=some ad∧∀ j v,(List.replicate m (Value.string xGy))[j]? = some v→W.cell? (ad.add j)=some v:=fun _=>⟨rfl,_,rfl,fun j v hj=>by
 have hjm:j<m:=by
  rcases Nat.lt_or_ge j m with h|h
  ·exact h
  ·rw [List.getElem?_eq_none (by simpa using h)] at hj;cases hj
 have hv:v = .string xGy:=by
  rw [List.getElem?_replicate,if_pos hjm] at hj
  injection hj with hj
  exact hj.symm
 subst hv
 rw [Lib.add_plain,Nat.zero_add]
 exact hk.at_ (zWy (by omega))⟩
theorem zFk (gx n:Nat) (w:World) (hx:w.cell? ⟨gx,0,none⟩=some (.string xGy)) (hgx:gx<w.heap.size) (hn:n≤1000000) :
  Calls Tryz.prog 64 #[.slice (some ⟨gx,0,none⟩) 1 1,.int .i64 (n:Int)] w fun e w'=>∃ A,e = .returned (.slice A n n)∧zGu w' A (List.replicate n xGy)∧Below w.heap.size w w':=by
 have HM:=oH (fun W=>Tryz.bits_Mul 1 n (by decide) (by omega) W)
 rw [show 1*n/18446744073709551616=0 by omega,show 1*n%18446744073709551616=n by omega] at HM
 have hmk:=zZf n hn
 have hd:decide ((n:Int)<0)=false:=decide_eq_false (by omega)
 have HX:=oH hx
 clear hx
 go_enter Tryz.func64,Tryz.ntmps64
 go_wp2_with fail
 refine (HM.out w).mono ?_
 rintro e w' ⟨rfl,rfl⟩
 clear HM hd
 go_upto_region 7 with (fail)
 clear hmk
 have hk:=Blk.new w' 39 (zWx 0 n)
 have hb0:Below w'.heap.size w' (w'.alloc (.cells (zWx 0 n).toArray 39)):=bA
 have hx1:=(hb0.cell (p:=⟨gx,0,none⟩) hgx).trans HX.out
 generalize w'.alloc (.cells (zWx 0 n).toArray 39)=W at *
 have HK:=oH hk
 have HB:=oH hb0
 have HX1:=oH hx1
 clear hk hb0 hx1
 obtain ⟨g,hg⟩:∃ g,w'.heap.size=g:=⟨_,rfl⟩
 have HG:Hid (w'.heap.size≤g):=oH (by omega)
 have HG2:=oH hg
 rw [hg] at HK ⊢
 clear hg
 by_cases h0:n=0
 ·subst h0
  go_wp2_with (refine wpList_copy_splice (o:=⟨some 33,_,_,_,_,_⟩) rfl (.tmp 31) (.tmp 32) 29 29 rfl 39 Tryz.underlying29 Tryz.sizeRatZ _ _ _ _ _ _ rfl rfl g 0 (zWx 0 0) 39 HK.out [] rfl (fun h=>absurd h (by decide)) (by simp) (by simp) w'.heap.size w' HB.out HG.out ?_)
  intro w2 hk2 hb2
  have HB2:=oH hb2
  clear hk2 hb2
  go_wp2_with fail
  go_loopw [8] (fun kv wr=>kv = .int .i64 0∧Below w'.heap.size w' wr) (fun _ _=>0)
  case atStart=>exact ⟨rfl,HB2.out⟩
  case round =>
   obtain ⟨rfl,hb⟩:=hrel
   have HB3:=oH hb
   clear hb
   go_wp2_with fail
   go_ret
   exact ⟨_,rfl,fun h=>absurd rfl h,HB3.out⟩
 ·go_wp2_with (refine wpList_copy_splice (o:=⟨some 33,_,_,_,_,_⟩) rfl (.tmp 31) (.tmp 32) 29 29 rfl 39 Tryz.underlying29 Tryz.sizeRatZ _ _ _ _ _ _ rfl rfl g 0 (zWx 0 n) 39 HK.out (List.replicate 1 (.string xGy)) (by show 1=min 1 n;omega) (fun _=>⟨rfl,_,rfl,fun j v hj=>by match j,hj with|0,hj=>simp at hj;subst hj;exact HX1.out⟩) (by rw [zWz (Nat.zero_le _)];simp;omega) (zUg 1) w'.heap.size w' HB.out HG.out ?_)
  intro w2 hk2 hb2
  have hk3:Blk w2 g 39 (zWx 1 n):=by
   have e:splice (zWx 0 n) 0 [Value.string xGy]=zWx (0+1) n:=zXa (k:=0) (m:=1) (by omega)
   have h2:=hk2.out
   rw [e] at h2
   exact h2
  have HK2:=oH hk3
  have HB2:=oH hb2
  clear hk2 hb2 hk3 HK HB HX1
  go_wp2_with fail
  go_loopw [8] (fun kv wr=>∃ k:Nat,kv = .int .i64 (k:Int)∧1≤k∧k≤n∧Blk wr g 39 (zWx k n)∧Below w'.heap.size w' wr) (fun kv _=>n-(intOf kv).toNat)
  case atStart=>exact ⟨1,rfl,by omega,by omega,HK2.out,HB2.out⟩
  case round =>
   clear HK2 HB2
   obtain ⟨k,rfl,hk1,hkn,hkb,hb⟩:=hrel
   have HK:=oH hkb
   have HB:=oH hb
   clear hkb hb
   by_cases hlt:k<n
   ·have i1:(0:Int)≤(k:Int):=by omega
    have i2:(k:Int)≤(n:Int):=by omega
    obtain ⟨m,hm⟩:∃ m,min k (n-k)=m:=⟨_,rfl⟩
    have hm1:1≤m:=by omega
    have hm2:k+m≤n:=by omega
    have hnk:¬n=k:=by omega
    have hwm:IntKind.i64.wrap ((k:Int)+(m:Int))=(k:Int)+(m:Int):=IntWalk.i64_in _ (by omega)
    have hmk':m≤k:=by omega
    have HKB:=oH HK.out.drew
    have HKD:=oH (show wr.drew.heap[g]? = some (.cells (zWx k n).toArray 39 (0,0)) from HK.out)
    have HBD:=oH HB.out.drew
    have HLEN:Hid ((List.replicate m (Value.string xGy)).length=Nat.min k (n-k)):=oH (by rw [List.length_replicate,←hm])
    have HFIT:Hid (k+(List.replicate m (Value.string xGy)).length≤(zWx k n).length):=oH (by rw [zWz (by omega),List.length_replicate];exact hm2)
    clear hm
    go_wp2_with fail
    go_region_law (refine step_copy_splice rfl (.tmp 41) (.tmp 44) 29 29 rfl 39 Tryz.underlying29 Tryz.sizeRatZ (some ⟨g,k,none⟩) (some ⟨g,0,none⟩) (n-k) (n-k) k n (by go_simp) (by go_simp) g k (zWx k n) 39 HKD.out (List.replicate m (.string xGy)) HLEN.out (rep_posZ HKB.out hmk') HFIT.out (zUg m) w'.heap.size w' HBD.out HG.out ?_;intro w3 hk3 hb3;have HK3:=oH hk3;have HB3:=oH hb3;clear hk3 hb3)
    have HK4:Hid (Blk w3 g 39 (zWx (k+m) n)):=oH (by
     have h2:=HK3.out.out
     rw [zXa hm2] at h2
     exact h2)
    go_frame
    go_roundw
    case rel=>(repeat apply Exists.intro);exact ⟨⟨k+m,by go_num,by omega,hm2,HK4.out,HB3.out⟩,rfl⟩
    case measure=>simp [intOf];omega
   ·obtain rfl:k=n:=by omega
    have HS:=oH (zXb HK.out)
    go_wp2_with fail
    go_ret
    exact ⟨_,rfl,HS.out,HB.out⟩
section
variable {P:Program} {w:World}
theorem zZa (base:Nat) (t ty e:TypeId) (i:TypeInfo) (size:Nat) (ht:P.underlying t=some (.slice e)) (hi:P.info? e=some i) (v:Value) (n:Nat) (xs:List Value) (hown:w.ownsRow base e size v n xs) (A:Option Addr) (c:Nat) :
  (Builtin.append_ #[t,t] ty #[v,.slice A 0 c]).run P w = .ok v w:=by
 rcases A with _|a
 ·rcases hown.2 with ⟨rfl,rfl⟩|⟨g,cap,cur,rfl,_,_,hnc,_⟩
  ·simp [Builtin.append_,run_underlying ht,sizeOf,typeInfo,hi,Builtin.lenOf,Builtin.firstCells]
  ·simp [Builtin.append_,run_underlying ht,sizeOf,typeInfo,hi,Builtin.lenOf,Builtin.firstCells,hnc,storeCells]
 ·rcases hown.2 with ⟨rfl,rfl⟩|⟨g,cap,cur,rfl,_,_,hnc,_⟩
  ·simp [Builtin.append_,run_underlying ht,sizeOf,typeInfo,hi,Builtin.lenOf,Builtin.firstCells,loadCells,loadCellsFrom]
  ·simp [Builtin.append_,run_underlying ht,sizeOf,typeInfo,hi,Builtin.lenOf,Builtin.firstCells,hnc,storeCells,loadCells,loadCellsFrom]
theorem xGq {ops:Array Oper} {rest:List Oper} {o:Oper} {a:Act} {Q:Exit→Act→World→Prop} (hgd:o.guard=none) (s x:Operand) (t:TypeId)
  (ho:o.op = .call { callee := .builtin .append,args:=#[s,x],argTypes:=#[t,t] })
  (base:Nat) (e:TypeId) (i:TypeInfo) (size:Nat) (ht:P.underlying t=some (.slice e)) (hi:P.info? e=some i)
  (v:Value) (n:Nat) (xs:List Value) (hs:a.eval s=v) (hown:w.ownsRow base e size v n xs) (A:Option Addr) (c:Nat) (hx:a.eval x = .slice A 0 c)
  (h:wpList P ops Q rest (a.put o.dst v) w):wpList P ops Q (o::rest) a w:=by
 refine wpList_plain hgd fun K hK=>?_
 have hrun:=zZa (P:=P) (w:=w) base t o.type e i size ht hi v n xs hown A c
 unfold Oper.wp
 simp [execOp,ho,resolve,invoke,builtin,hs,hx,hrun,Result.andThen]
 exact hK _ _ h
end
theorem mat_rowE {w:World} {A:Option Addr} {rs:List zGi} {m n:Nat} {M:Nat→Nat→Rat} (h:zCw w A rs) (hm:zCv rs m n M) (hn:0<n) {i:Nat} (hi:i<rs.length):∃ b off b2 o2:Nat,A=some ⟨b,off,none⟩∧b<w.heap.size∧rs[i].ad=some ⟨b2,o2,none⟩∧b2<w.heap.size∧w.cell? ⟨b,off+i,none⟩=some (.slice (some ⟨b2,o2,none⟩) n rs[i].cp)∧∀ k,k<n→w.cell? ⟨b2,o2+k,none⟩=some (.string (zYd (M i k))):=by
 obtain ⟨b,off,e,hb,hc1⟩:=h.some (by intro e;subst e;simp at hi)
 have hr:=hm.rowAt hi
 obtain ⟨b2,o2,e2,hb2,hc2⟩:=h.i _ (List.getElem_mem hi) (by intro e;rw [e] at hr;simp at hr;omega)
 refine ⟨b,off,b2,o2,e,hb,e2,hb2,?_,fun k hk=>?_⟩
 ·rw [hc1 i hi,hr,e2]
 ·rw [hc2 k (by omega),hm.cel i k hi (by omega)]
def zJq (k:Nat) (rs:List zGi):List zGi:=rs.map fun r=>⟨r.ad,r.cp,r.ss.take k⟩
theorem zJs (k:Nat) (rs:List zGi):(zJq k rs).length=rs.length:=by simp [zJq]
theorem zJr {k:Nat} {rs:List zGi} {i:Nat} (h:i<rs.length):(zJq k rs)[i]'(by rw [zJs];exact h)=⟨rs[i].ad,rs[i].cp,rs[i].ss.take k⟩:=by simp [zJq]
theorem zGu.take {w:World} {A:Option Addr} {ss:List ByteArray} (h:zGu w A ss) (k:Nat):zGu w A (ss.take k):=fun hne=>by
 obtain ⟨b,off,e,hb,hc⟩:=h (by intro e;rw [e] at hne;simp at hne)
 refine ⟨b,off,e,hb,fun i hi=>?_⟩
 have hi':i<ss.length:=by have h9:=hi;rw [List.length_take] at h9;omega
 rw [List.getElem_take]
 exact hc i hi'
theorem cut_mat {w:World} {A A6:Option Addr} {rs:List zGi} {n k c6 B:Nat} {M:Nat→Nat→Rat} (h:zCw w A rs) (hm:zCv rs n n M) (hk:k≤n) (ho:w.ownsRow B 29 1 (.slice A6 k c6) k (zXw ((zJq k rs).take k))):MxIn w A6 k k M:=by
 have hl:=hm.len
 have hcl:((zJq k rs).take k).length=k:=by rw [List.length_take,zJs];omega
 refine ⟨(zJq k rs).take k,⟨zUt ho,fun r hr=>?_⟩,⟨hcl,fun r hr=>?_,fun i j hi hj=>?_,fun i j hi hj=>hm.fit i j (by omega) (by omega)⟩⟩
 ·obtain ⟨r0,hr0,rfl⟩:=List.mem_map.1 (List.mem_of_mem_take hr)
  exact (h.i r0 hr0).take k
 ·obtain ⟨r0,hr0,rfl⟩:=List.mem_map.1 (List.mem_of_mem_take hr)
  show (r0.ss.take k).length=k
  rw [List.length_take,hm.row r0 hr0]
  omega
 ·have hi':i<rs.length:=by omega
  have e:((zJq k rs).take k)[i]=⟨rs[i].ad,rs[i].cp,rs[i].ss.take k⟩:=by rw [List.getElem_take];exact zJr hi'
  have hjl:j<(rs[i].ss.take k).length:=by
   have:((zJq k rs).take k)[i].ss=rs[i].ss.take k:=by rw [e]
   rw [←this];exact hj
  have hj':j<rs[i].ss.length:=by rw [List.length_take] at hjl;omega
  simp only [e,List.getElem_take]
  exact hm.cel i j hi' hj'
def negC (M:Nat→Nat→Rat) (k i:Nat):Rat := -(M i k)
theorem zSp {n k:Nat} {M:Nat→Nat→Rat} (ht:zHb n n M) (hk:k<n):SmallV k (negC M k):=fun i hi=>by
 obtain ⟨z,hz,h3⟩:=ht i k (by omega) hk
 unfold negC
 rw [hz,←Rat.intCast_neg]
 refine ⟨?_,?_⟩
 ·rw [Rat.num_intCast];omega
 ·rw [Rat.den_intCast];decide
def zHk (n:Nat) (M:Nat→Nat→Rat) (w:World) (e:Ending) (w':World):Prop:=∃ k,zDm n M k∧Below w.heap.size w w' ∧
 ((k=n∧e = .returned (.tuple #[.slice none 0 0,.int .i64 12])) ∨
  (k<n∧∃ (x:Nat→Rat) (A':Option Addr) (c':Nat),(∀ i,i<k→xCf k (fun j=>M i j*x j) = -(M i k))∧(∀ i,i<n→zBq (xGk k x i))∧e = .returned (.tuple #[.slice A' n c',.int .i64 0])∧zHi w' A' n (xGk k x)))
theorem lead_sol {A6 A7:Option Addr} {c6 c7 n k B:Nat} {M:Nat→Nat→Rat} {w:World} (hA:MxIn w A6 k k M) (hb:w.ownsRow B 39 1 (.slice A7 k c7) k (sv ((List.range k).map fun t=>zYd (-(M t k))))) (hk:k<n) (hn:n≤4) (ht:zHb n n M) (hp:∀ t,t<k→0<dD M t) (henv:Env w) :
  Calls Tryz.prog 63 #[.slice A6 k c6,.slice A7 k c7] w fun e w'=>∃ (x:Nat→Rat) (A:Option Addr) (c:Nat),e = .returned (.tuple #[.slice A k c,.int .i64 0])∧(∀ i,i<k→xCf k (fun j=>M i j*x j) = -(M i k))∧(∀ i,i<k→zBq (x i))∧w'.ownsRow w.heap.size 39 1 (.slice A k c) k (sv ((List.range k).map fun t=>zYd (x t)))∧Below w.heap.size w w':=by
 rcases Nat.eq_zero_or_pos k with h0|h0
 ·subst h0
  refine (zGr A6 A7 c6 c7 w henv).mono ?_
  rintro e w' ⟨A',c',rfl,ho,hbl⟩
  exact ⟨fun _=>0,A',c',rfl,fun i hi=>absurd hi (by omega),fun i hi=>absurd hi (by omega),ho,hbl⟩
 ·have htk:zHb k k M:=fun i j hi hj=>ht i j (by omega) (by omega)
  have hsm:=zSp ht hk
  have hv:zHi w A7 k (negC M k):=by
   have hl:((List.range k).map fun t=>zYd (-(M t k))).length=k:=by simp
   obtain ⟨A',c',e1, -,h1, -⟩:=zVg (show w.ownsRow B 39 1 (.slice A7 k c7) ((List.range k).map fun t=>zYd (-(M t k))).length (sv ((List.range k).map fun t=>zYd (-(M t k)))) by rw [hl];exact hb)
   injection e1 with e1
   rw [e1]
   exact ⟨_,h1,⟨hl,fun j hj=>by simp [negC],fun j hj=>(hsm j hj).fits⟩⟩
  have hdet:det k M≠0:=by
   have hd:∀ t,t<k→dD M t≠0:=fun t ht=>by have:=hp t ht;grind
   rw [zLw hd]
   exact zWd hd
  refine (mxSolO hA hv h0 (by omega) htk hsm henv).mono ?_
  rintro e w' ⟨r,hr,hh⟩
  have hrk:r=k:=(rk_det htk.int hr).2 hdet
  rcases hh with ⟨h1, -⟩|⟨-,x,hx,hf,A,c,rfl,ho,hbl⟩
  ·omega
  ·exact ⟨x,A,c,rfl,hx,hf,ho,hbl⟩
theorem wit_list (k m:Nat) (x:Nat→Rat):sv ((List.range k).map fun t=>zYd (x t))++[.string ⟨#[49]⟩]++List.replicate m (.string xGy)=sv ((List.range (k+1+m)).map fun t=>zYd (xGk k x t)):=by
 have e1:(List.range k).map (fun t=>zYd (xGk k x t))=(List.range k).map fun t=>zYd (x t):=List.map_congr_left fun t ht=>by
  unfold xGk;rw [if_pos (List.mem_range.1 ht)]
 rw [List.range_add,List.range_succ,List.map_append,List.map_append,e1,xCv,xCv]
 congr 1
 ·congr 1
  show _=[Value.string (zYd (xGk k x k))]
  unfold xGk
  rw [if_neg (Nat.lt_irrefl k),if_pos rfl,zYj]
 ·rw [List.map_map]
  apply List.ext_getElem?
  intro j
  by_cases hj:j<m
  ·rw [List.getElem?_replicate,if_pos hj,xCw (by simpa using hj)]
   simp only [List.getElem_map,List.getElem_range,Function.comp]
   unfold xGk
   rw [if_neg (by omega),if_neg (by omega),zYn]
   rfl
  ·rw [List.getElem?_eq_none (by simpa using hj),List.getElem?_eq_none (by rw [xCx];simpa using hj)]
theorem xGl {W:World} {v:Value} {B k m n:Nat} {x:Nat→Rat} (ho:W.ownsRow B 39 1 v (k+1+m) (sv ((List.range k).map fun t=>zYd (x t))++[.string ⟨#[49]⟩]++List.replicate m (.string xGy))) (hn:k+1+m=n) (hf:∀ t,t<k→zBq (x t)):∃ A' c',v = .slice A' n c'∧zHi W A' n (xGk k x)∧∀ t,t<n→zBq (xGk k x t):=by
 rw [wit_list,hn] at ho
 have hl:((List.range n).map fun t=>zYd (xGk k x t)).length=n:=by simp
 have hfw:∀ t,t<n→zBq (xGk k x t):=fun t _=>by
  unfold xGk
  split
  ·exact hf t (by assumption)
  ·split
   ·exact xAr (z:=1) (by decide)
   ·exact xAr (z:=0) (by decide)
 obtain ⟨A',c',e, -,h1, -⟩:=zVg (show W.ownsRow B 39 1 v ((List.range n).map fun t=>zYd (xGk k x t)).length (sv ((List.range n).map fun t=>zYd (xGk k x t))) by rw [hl];exact ho)
 rw [hl] at e
 exact ⟨A',c',e,⟨_,h1,⟨hl,fun j hj=>by simp,hfw⟩⟩,hfw⟩
theorem zer_one (m:Nat):∀ u∈List.replicate m (Value.string xGy),u.oneCell'=true:=fun u hu=>by
 rw [(List.mem_replicate.1 hu).2]
 rfl
theorem zHl (A:Option Addr) (c n:Nat) (rs:List zGi) (M:Nat→Nat→Rat) (w:World) (h:zCw w A rs) (hmf:zCv rs n n M) (hcp:∀ r∈rs,r.ss.length≤r.cp) (hn1:1≤n) (hn:n≤4) (hs:SymM n M) (hl:¬600<zOb rs n) (hth:∀ k,zDm n M k→k<n→zHb n n M) (henv:Env w) :
  Calls Tryz.prog 13 #[.slice A n c] w (zHk n M w):=by
 obtain ⟨i0,hi,hz0,hz1,hz2⟩:=info_parts Tryz.infoRats
 obtain ⟨j0,hj,hy0,hy1,hy2⟩:=info_parts Tryz.infoRat
 generalize hQ:zHk n M w=Q
 replace hQ:=oH hQ
 have HBG:=oH (zAo A rs c n M w h hmf hn1 (by omega) hs hl henv)
 have HPO:=oH (fun W (hW:Below w.heap.size w W)=>zVx A c n rs M W (h.below hW) hmf hn1 (by omega) hl (henv.below hW))
 have HTH:=oH hth
 have HM:=oH h
 have HF:=oH hmf
 have HCP:=oH hcp
 have HE:=oH henv
 clear h hmf hcp hs hl hth henv
 go_enter Tryz.func13,Tryz.ntmps13
 go_wp2_with fail
 refine HBG.out.mono ?_
 rintro e w1 ⟨rfl,hb1⟩
 have HB1:=oH hb1
 clear hb1 HBG
 go_wp2_with fail
 refine (HPO.out w1 HB1.out).mono ?_
 rintro e w2 ⟨k,hk,rfl,hb2⟩
 have HPK:=oH hk
 have hkn:=hk.1
 have HB2:=oH (HB1.out.trans (hb2.mono HB1.out.size))
 clear hb2 hk HPO HB1
 by_cases hlt:k<n
 ·have hne:((k:Int)==(n:Int))=false:=by simp only [beq_eq_false_iff_ne,ne_eq];omega
  have HT:=oH (HTH.out k HPK.out hlt)
  go_wp2_with fail
  go_loopw [6,7,23] (fun pv rv iv wr=>∃ i:Nat,iv = .int .i64 (i:Int)∧i≤k∧wr.ownsRow w2.heap.size 29 1 pv i (zXw ((zJq k rs).take i))∧wr.ownsRow w2.heap.size 39 1 rv i (sv ((List.range i).map fun t=>zYd (-(M t k))))∧Below w2.heap.size w2 wr) (fun _ _ iv _=>k-(intOf iv).toNat)
  case atStart=>exact ⟨0,rfl,Nat.zero_le _,World.ownsRow_nil _ _ _ _,World.ownsRow_nil _ _ _ _,Below.refl _ _⟩
  case round =>
   obtain ⟨i,rfl,hik,hop,hor,hbr⟩:=hrel
   obtain ⟨wi,rfl⟩:∃ w':World,w'=wr:=⟨_,rfl⟩
   have HOP:=oH hop
   have HOR:=oH hor
   have HBR:=oH hbr
   have hszr:=hbr.size
   clear hop hor hbr
   by_cases hlt2:i<k
   ·have hir:i<rs.length:=by have:=HF.out.len;omega
    have hBi:=HB2.out.trans (HBR.out.mono HB2.out.size)
    obtain ⟨b,off,b2,o2,rfl,hb,ead,hb2,d0,hc⟩:=mat_rowE HM.out HF.out (by omega) hir
    have d1:=hc k hlt
    have c0:=(hBi.cell (p:=⟨b,off+i,none⟩) hb).trans d0
    have hcpi:rs[i].ss.length≤rs[i].cp:=HCP.out _ (List.getElem_mem hir)
    have hrl:=HF.out.rowAt hir
    have hfq:=HF.out.fit i k (by omega) hlt
    have HRD:=oH (fun W hE=>zBj (M i k) W hfq hE)
    have HBI:=oH hBi
    have hnf:zBq (-(M i k)):=((zSp HT.out hlt) i hlt2).fits
    have HNF:=oH hnf
    have hsz:=hfq.sz
    have ECT:=oH (show zXw ((zJq k rs).take (i+1))=zXw ((zJq k rs).take i)++[.slice (some ⟨b2,o2,none⟩) k rs[i].cp] by
     rw [List.take_succ_eq_append_getElem (by rw [zJs];exact hir),zJr hir]
     unfold zXw
     rw [List.map_append]
     congr 1
     show [Value.slice rs[i].ad (rs[i].ss.take k).length rs[i].cp]=_
     rw [ead,List.length_take,hrl,Nat.min_eq_left (by omega)])
    have hcp0:¬rs[i].cp=0:=by omega
    have hkc:(k:Int)≤(rs[i].cp:Int):=by omega
    generalize rs[i].cp=cp at *
    obtain ⟨q,hq⟩:∃ q,M i k=q:=⟨_,rfl⟩
    have HQ9:=oH hq
    rw [hq] at HRD hsz d1 HNF
    have i1:(0:Int)≤(i:Int):=by omega
    have i2:(i:Int)<(n:Int):=by omega
    have i3:(i:Int)<(k:Int):=by omega
    have k1:(0:Int)≤(k:Int):=by omega
    have k2:(k:Int)<(n:Int):=by omega
    generalize zYd q=s1 at *
    clear hBi ead hc hcpi hrl hfq hq hnf
    go_wp2_with (at_builtin;refine wpList_append_own _ rfl _ _ 27 rfl w2.heap.size 29 i0 (.slice none 0 0) 1 24 Tryz.underlying27 hi hz0 hz1 hz2 rfl (by decide) _ _ _ rfl (HOP.out.alloc _) ⟨wi.heap.size,0,none⟩ 1 1 [_] rfl rfl zUe xAm (by unfold maxLen;omega) (by omega) (by simp;omega) ?_)
    intro v3 w3 hown3 hgrow3 _
    have HOP3:=oH (show w3.ownsRow w2.heap.size 29 1 v3 (i+1) (zXw ((zJq k rs).take (i+1))) by rw [ECT.out];exact hown3)
    have HOR3:=oH ((HOR.out.alloc (.cells #[.slice (some ⟨b2,o2,none⟩) k cp] 29)).kept hgrow3 (zVa (HOR.out.alloc (.cells #[.slice (some ⟨b2,o2,none⟩) k cp] 29)) (HOP.out.alloc (.cells #[.slice (some ⟨b2,o2,none⟩) k cp] 29)) (by decide)))
    have HB3:=oH ((HBR.out.alloc hszr (.cells #[.slice (some ⟨b2,o2,none⟩) k cp] 29)).grown hgrow3 (by simp;omega) (fun g hg=>(HOP.out.lt g hg).1))
    have hB3:=HB2.out.trans (HB3.out.mono HB2.out.size)
    have c2:=(hB3.cell (p:=⟨b,off+i,none⟩) hb).trans d0
    have c3:=(hB3.cell (p:=⟨b2,o2+k,none⟩) hb2).trans d1
    have HBW3:=oH hB3
    have hsz3:=HB3.out.size
    clear hown3 hgrow3 hB3 c0 d0 d1
    go_wp2_with fail
    refine (HRD.out w3 (HE.out.below HBW3.out)).mono ?_
    rintro e w4 ⟨v4,rfl,hv4,hb4⟩
    have HV4:=oH hv4
    have HB4:=oH (HB3.out.trans (hb4.mono hsz3))
    have HOP4:=oH (zUv HOP3.out hb4)
    have HOR4:=oH (zUv HOR3.out hb4)
    clear hv4 hb4 c2 c3
    go_wp2_with fail
    refine (FNeg_any _ q w4 HV4.out (hsz.mono (by omega))).mono ?_
    rintro e w5 ⟨v5,rfl,hv5,hb5⟩
    have HV5:=oH hv5
    have HB5:=oH (HB4.out.trans (hb5.mono HB4.out.size))
    have HOP5:=oH (zUv HOP4.out hb5)
    have HOR5:=oH (zUv HOR4.out hb5)
    clear hv5 hb5
    go_wp2_with fail
    refine (zBi _ (-q) w5 HV5.out HNF.out (HE.out.below (HB2.out.trans (HB5.out.mono HB2.out.size)))).mono ?_
    rintro e w6 ⟨rfl,hb6⟩
    have HB6:=oH (HB5.out.trans (hb6.mono HB5.out.size))
    have HOP6:=oH (zUv HOP5.out hb6)
    have HOR6:=oH (zUv HOR5.out hb6)
    have hsz6:=HB6.out.size
    obtain ⟨sq,hsq⟩:∃ s,zYd (-q)=s:=⟨_,rfl⟩
    rw [hsq]
    have HSQ:=oH hsq
    clear hb6 hsq
    go_wp2_with (at_builtin;refine wpList_append_own _ rfl _ _ 29 rfl w2.heap.size 39 j0 (.string ⟨#[]⟩) 1 16 Tryz.underlying29 hj hy0 hy1 hy2 rfl (by decide) _ _ _ rfl (HOR6.out.alloc _) ⟨w6.heap.size,0,none⟩ 1 1 [_] rfl rfl zUe zUf (by unfold maxLen;omega) (by omega) (by simp;omega) ?_)
    intro v7 w7 hown7 hgrow7 _
    have HOR7:=oH hown7
    have HOP7:=oH ((HOP6.out.alloc (.cells #[.string sq] 39)).kept hgrow7 (zVa (HOP6.out.alloc (.cells #[.string sq] 39)) (HOR6.out.alloc (.cells #[.string sq] 39)) (by decide)))
    have HB7:=oH ((HB6.out.alloc hsz6 (.cells #[.string sq] 39)).grown hgrow7 (by simp;omega) (fun g hg=>(HOR6.out.lt g hg).1))
    clear hown7 hgrow7
    go_wp2_with fail
    go_roundw
    case rel=>exact ⟨i+1,by go_num,by omega,HOP7.out,by rw [List.range_succ,List.map_append,xCv];show World.ownsRow _ _ _ _ _ _ (_++[Value.string (zYd (-(M i k)))]);rw [HQ9.out,HSQ.out];exact HOR7.out,HB7.out⟩
    case measure=>simp [intOf];omega
   ·have hike:i=k:=by omega
    subst hike
    obtain ⟨A6,c6,rfl, -⟩:=zUs HOP.out
    obtain ⟨A7,c7,rfl, -⟩:=zUs HOR.out
    have hBi:=HB2.out.trans (HBR.out.mono HB2.out.size)
    have HSO:=oH (lead_sol (c6:=c6) (cut_mat (HM.out.below hBi) HF.out hkn HOP.out) HOR.out hlt hn HT.out HPK.out.2.1 (HE.out.below hBi))
    have HBI:=oH hBi
    clear hBi
    go_wp2_with fail
    refine HSO.out.mono ?_
    rintro e w9 ⟨x,A9,c9,rfl,hx,hfx,ho9,hb9⟩
    have HX:=oH hx
    have HFX:=oH hfx
    have HO9:=oH ho9
    have HB9:=oH (HBI.out.trans (hb9.mono HBI.out.size))
    have hsz9:=hb9.size
    clear hx hfx ho9 hb9 HSO HOP HOR
    go_wp2_with (at_builtin;refine wpList_append_own _ rfl _ _ 29 rfl wi.heap.size 39 j0 (.string ⟨#[]⟩) 1 16 Tryz.underlying29 hj hy0 hy1 hy2 rfl (by decide) _ _ _ rfl (HO9.out.alloc _) ⟨w9.heap.size,0,none⟩ 1 1 [_] rfl rfl zUe zUf (by unfold maxLen;omega) (by omega) (by simp;omega) ?_)
    intro v10 w10 hown10 hgrow10 _
    have HO10:=oH hown10
    have HB10:=oH ((HB9.out.alloc HB9.out.size (.cells #[.string ⟨#[49]⟩] 39)).grown hgrow10 (by have:=HBI.out.size;simp;omega) (fun g hg=>Nat.le_trans HBI.out.size (HO9.out.lt g hg).1))
    have hsz10:=hgrow10.size
    simp at hsz10
    clear hown10 hgrow10
    obtain ⟨m,hm⟩:∃ m,n-i-1=m:=⟨_,rfl⟩
    have hm1:(n:Int)-(i:Int)-1=(m:Int):=by omega
    have hw1:IntKind.i64.wrap ((n:Int)-(i:Int))=(n:Int)-(i:Int):=IntWalk.i64_in _ (by omega)
    have hw2:IntKind.i64.wrap ((n:Int)-(i:Int)-1)=(m:Int):=by rw [hm1];exact IntWalk.i64_in _ (by omega)
    have hbl:Below w10.heap.size w10 (w10.alloc (.cells #[.string ⟨#[48]⟩] 39)):=bA
    have HRP:=oH (zFk w10.heap.size m (w10.alloc (.cells #[.string ⟨#[48]⟩] 39)) ((Blk.new w10 39 [.string ⟨#[48]⟩]).at_ (i:=0) rfl) (by simp) (by omega))
    have HO10':=oH (zUv HO10.out hbl)
    have HB10':=oH (HB10.out.trans (hbl.mono HB10.out.size))
    clear hbl
    go_wp2_with fail
    refine HRP.out.mono ?_
    rintro e w11 ⟨A11,rfl,hst,hb11⟩
    have HO11:=oH (zUv HO10'.out hb11)
    have HB11:=oH (HB10'.out.trans (hb11.mono HB10'.out.size))
    have HST:=oH hst
    have hsz11:wi.heap.size≤w11.heap.size:=by have:=hb11.size;simp at this;omega
    clear hb11 hst HRP hw1 hw2 hm1
    rcases Nat.eq_zero_or_pos m with h0|h0
    ·subst h0
     go_wp2_with (at_builtin;refine xGq rfl _ _ 29 rfl wi.heap.size 39 j0 1 Tryz.underlying29 hj _ _ _ rfl HO11.out A11 0 rfl ?_)
     obtain ⟨AF,cF,rfl,hvc,hfw⟩:=xGl (k:=i) (x:=x) (m:=0) (n:=n) (by rw [List.replicate_zero,List.append_nil];exact HO11.out) (by omega) HFX.out
     have HVC:=oH hvc
     have HFW:=oH hfw
     clear hvc hfw
     go_wp2_with fail
     rw [←hQ.out]
     exact ⟨i,HPK.out,HB11.out,.inr ⟨hlt,x,AF,cF,HX.out,HFW.out,rfl,HVC.out⟩⟩
    ·obtain ⟨bz,oz,rfl,hbz,hcz⟩:=HST.out (by intro e9;have:=congrArg List.length e9;simp at this;omega)
     have HNW:=oH (show ∀ (j:Nat) (u:Value),(List.replicate m (Value.string xGy))[j]? = some u→w11.cell? ((⟨bz,oz,none⟩:Addr).add j)=some u from fun j u hj=>by
      have hjm:j<m:=by
       rcases Nat.lt_or_ge j m with h|h
       ·exact h
       ·rw [List.getElem?_eq_none (by simpa using h)] at hj;cases hj
      have hu:u = .string xGy:=by
       rw [List.getElem?_replicate,if_pos hjm] at hj
       injection hj with hj
       exact hj.symm
      subst hu
      have h9:=hcz j (by simpa using hjm)
      rw [List.getElem_replicate] at h9
      rw [Lib.add_plain]
      exact h9)
     clear hcz
     go_wp2_with (at_builtin;(refine wpList_append_own _ rfl _ _ 29 rfl wi.heap.size 39 j0 (.string ⟨#[]⟩) 1 16 Tryz.underlying29 hj hy0 hy1 hy2 rfl (by decide) _ _ _ rfl HO11.out ⟨bz,oz,none⟩ m m (List.replicate m (.string xGy)) rfl (by simp) HNW.out (zer_one m) (by unfold maxLen;omega) (by omega) hsz11 ?_))
     intro v12 w12 hown12 hgrow12 _
     obtain ⟨AF,cF,rfl,hvc,hfw⟩:=xGl (k:=i) (x:=x) (m:=m) (n:=n) (by rw [List.append_assoc];exact hown12) (by omega) HFX.out
     have HVC:=oH hvc
     have HFW:=oH hfw
     have HB12:=oH (HB11.out.grown hgrow12 (by have:=HBI.out.size;omega) (fun g hg=>Nat.le_trans HBI.out.size (HO11.out.lt g hg).1))
     clear hvc hfw hown12 hgrow12
     go_wp2_with fail
     rw [←hQ.out]
     exact ⟨i,HPK.out,HB12.out,.inr ⟨hlt,x,AF,cF,HX.out,HFW.out,rfl,HVC.out⟩⟩
 ·have hke:k=n:=by omega
  have hke':((k:Int)==(n:Int))=true:=by simp only [beq_iff_eq];omega
  go_wp2_with fail
  rw [←hQ.out]
  exact ⟨k,HPK.out,HB2.out,.inl ⟨hke,rfl⟩⟩
end Go.Proofs.YtfjjcoggoomlbaaGreatDoor
