import Derived.Test.YtfjjcoggoomlbaaGreatDoorZNL
import Derived.Test.YtfjjcoggoomlbaaGreatDoorZNK
set_option maxHeartbeats 16000000
set_option maxRecDepth 100000
set_option linter.unusedVariables false
set_option linter.unusedSimpArgs false
set_option linter.unusedSectionVars false
namespace Go.Proofs.YtfjjcoggoomlbaaGreatDoor
open Go.RowKit
theorem DefiniteDecides_any (A:Option Addr) (l cp:Nat) (w:World) (h:Ints w A l) (hlc:l≤cp) (hl:l≤9223372036854775807) (henv:Env w) :
  Calls Tryz.prog 3 #[.slice A l cp] w fun e w'=>e = .returned (.bool true)∧Below w.heap.size w w':=by
 have HE:=oH henv
 have HI:=oH h
 clear henv h
 go_enter Tryz.func3,Tryz.ntmps3
 go_wp2_with fail
 refine (zDc A l cp w HI.out hlc hl).mono ?_
 rintro e w0 ⟨rfl,hs,hb⟩
 obtain ⟨b,hbe⟩:∃ b,w.heap.size=b:=⟨_,rfl⟩
 have hsz2:w.heap.size≤b:=by omega
 have HS:Hid (Src w0 b):=by rw [←hbe];exact oH hs
 have HB:=oH hb
 clear hs hb HI
 rw [hbe]
 have HUP:=oH (fun (W W':World) (hW:Below w.heap.size w W) (hg:W.grownBy W' (some b))=>xBc hW hsz2 hg)
 clear hbe hsz2
 go_wp2_with fail
 refine (zDa b 5 w0 HS.out (by decide) (by decide)).mono ?_
 rintro e w1 ⟨n,rfl,hn,hs,hg⟩
 replace HB:=oH (HUP.out _ _ HB.out hg)
 have hnu:n≤4:=by omega
 clear hn
 replace HS:=oH hs
 clear hs hg
 go_wp2_with fail
 refine (MSymK b n w1 HS.out (by omega)).mono ?_
 rintro e w2 ⟨A1,c1,M1,rfl,hm,hd,hs,hg⟩
 replace HB:=oH (HUP.out _ _ HB.out hg)
 have O1:=oH hm
 have K1:=oH hd
 obtain ⟨B1,hB1⟩:∃ B,w1.heap.size=B:=⟨_,rfl⟩
 rw [hB1] at O1
 have hb1:b<B1:=by have:=HS.out.lt;omega
 clear hm hd hB1
 replace HS:=oH hs
 clear hs hg
 go_wp2_with fail
 refine (zDa b 2 w2 HS.out (by decide) (by decide)).mono ?_
 rintro e w3 ⟨r,rfl,hr,hs,hg⟩
 replace O1:=oH (O1.out.grown hg hb1)
 replace HB:=oH (HUP.out _ _ HB.out hg)
 replace HS:=oH hs
 clear hs hg
 rcases Nat.decEq r 1 with hr1|hr1
 have hr2:((r:Int)==1)=false:=by simp;omega
 obtain ⟨M,hM⟩:∃ M,M1=M:=⟨_,rfl⟩
 rw [hM] at O1 K1
 have OA:=oH O1.out.r
 have KA:=K1
 clear hr hr1 O1 K1 hM
 rotate_left
 subst hr1
 clear hr
 go_wp2_with fail
 refine (MPosK b n _ HS.out (by omega)).mono ?_
 rintro e wc ⟨A2,c2,M,rfl,hm,⟨hd, -⟩,hs,hg⟩
 replace HB:=oH (HUP.out _ _ HB.out hg)
 have OA:=oH hm.r
 have KA:=oH hd
 clear hm hd hs hg O1 K1
 rotate_left
 all_goals
  clear HS HUP
  go_wp2_with fail
  refine (decM OA.out KA.out (by omega) (HE.out.below HB.out)).mono ?_
  rintro e wd ⟨k,hk,hb,hh⟩
  have HK:=oH hk
  replace OA:=oH (OA.out.below hb)
  replace HB:=oH (HB.out.trans (hb.mono HB.out.size))
  rcases hh with ⟨hlt,rfl⟩|⟨hkn,U,Dv,rsL,rfl,hg,ho⟩
  ·have hbl:Below wd.heap.size wd (wd.alloc (.cells #[.slice none 0 0,.slice none 0 0] 31)):=bA
   replace OA:=oH (OA.out.below hbl)
   replace HB:=oH (HB.out.trans (hbl.mono HB.out.size))
   clear hb hk hbl
   go_upto_region 7 with (fail)
   generalize wd.alloc (.cells #[.slice none 0 0,.slice none 0 0] 31)=we at *
   generalize wd.heap.size=fx at *
   go_wp2_with fail
   refine (witM OA.out KA.out (by omega) (HE.out.below HB.out)).mono ?_
   rintro e wf ⟨k2,hk2,hb,hh⟩
   obtain rfl:k=k2:=HK.out.same hk2
   rcases hh with ⟨h9, -⟩|⟨-,x,Aw,cw,hx,hfx,rfl,hv⟩
   ·exact absurd h9 (by omega)
   replace OA:=oH (OA.out.below hb)
   replace HB:=oH (HB.out.trans (hb.mono HB.out.size))
   have HV:=oH hv
   have HX:=oH hx
   have HDN:=oH (fun t (ht:t<k)=>(show dD M t≠0 from by have:=HK.out.2.1 t ht;grind))
   have HFQ:=oH (KA.out.fitD (by omega) hlt HK.out.2.1)
   have HFM:=oH (zNf HDN.out hlt HX.out)
   have HSG:=oH (zZw.2 (show dD M k≤0 from by have:=HK.out.2.2 hlt;grind))
   have HFC:=oH (fun c=>frmM (c:=c) (cb:=cw) OA.out HV.out (by omega) (by omega) HFM.out HFQ.out (HE.out.below HB.out))
   have HSC:=oH (fun W=>zEc (dD M k) W HFQ.out)
   have hsg:=HSG.out
   generalize sgR (dD M k)=sg0 at *
   generalize zYd (dD M k)=sd at *
   clear hk2 hb hx hfx hv
   go_wp2_with fail
   refine (HFC.out _).mono ?_
   rintro e wg ⟨rfl,hb⟩
   replace HV:=oH (HV.out.below hb)
   replace HB:=oH (HB.out.trans (hb.mono HB.out.size))
   obtain ⟨bw,ow,eA⟩:=HV.out.addr (by omega)
   subst eA
   clear hb HFC
   go_wp2_with fail
   go_loopw [12,58] (fun sv iv wr=>∃ (i:Nat) (sb:Bool),sv = .bool sb∧iv = .int .i64 (i:Int)∧i≤n∧(sb=true↔∃ j,j<i∧xGk k x j≠0)∧Below wg.heap.size wg wr) (fun _ iv _=>n-(intOf iv).toNat)
   case atStart=>exact ⟨0,false,rfl,rfl,Nat.zero_le _,⟨fun h=>(by cases h),fun ⟨j,hj,_⟩=>absurd hj (by omega)⟩,Below.refl _ _⟩
   case round =>
    obtain ⟨i,sb,rfl,rfl,hin,hsb,hbr⟩:=hrel
    obtain ⟨wh,rfl⟩:∃ w':World,w'=wr:=⟨_,rfl⟩
    have HBR:=oH hbr
    clear hbr
    by_cases hlt2:i<n
    ·have cz:=(HV.out.below HBR.out).at_ hlt2
     have h0:=rstr_is0 (xGk k x i)
     have i1:(0:Int)≤(i:Int):=by omega
     have i2:(i:Int)<(n:Int):=by omega
     have HN:=oH (show ∀ tb:Bool,(tb=true↔xGk k x i≠0)→((sb || tb)=true↔∃ j,j<i+1∧xGk k x j≠0) from fun tb htb=>by
      rw [Bool.or_eq_true,hsb,htb]
      constructor
      ·rintro (⟨j,hj,h⟩|h)
       ·exact ⟨j,by omega,h⟩
       ·exact ⟨i,by omega,h⟩
      ·rintro ⟨j,hj,h⟩
       rcases Nat.lt_or_ge j i with h1|h1
       ·exact .inl ⟨j,h1,h⟩
       ·rw [show j=i by omega] at h;exact .inr h)
     obtain ⟨y,hy⟩:∃ y,xGk k x i=y:=⟨_,rfl⟩
     rw [hy] at cz h0 HN
     clear hsb
     by_cases hy0:y=0
     ·rw [show decide (y=0)=true by simpa using hy0] at h0
      have HN2:=oH (HN.out false ⟨fun h=>(by cases h),fun h=>absurd hy0 h⟩)
      generalize zYd y=sy at *
      clear hy hy0 HN
      cases sb
      ·go_wp2_with fail
       go_roundw
       case rel=>exact ⟨i+1,false,rfl,by go_num,by omega,HN2.out,HBR.out⟩
       case measure=>simp [intOf];omega
      ·go_wp2_with fail
       go_roundw
       case rel=>exact ⟨i+1,true,rfl,by go_num,by omega,HN2.out,HBR.out⟩
       case measure=>simp [intOf];omega
     ·rw [show decide (y=0)=false by simpa using hy0] at h0
      have HN2:=oH (HN.out true ⟨fun _=>hy0,fun _=>rfl⟩)
      generalize zYd y=sy at *
      clear hy hy0 HN
      cases sb
      ·go_wp2_with fail
       go_roundw
       case rel=>exact ⟨i+1,true,rfl,by go_num,by omega,HN2.out,HBR.out⟩
       case measure=>simp [intOf];omega
      ·go_wp2_with fail
       go_roundw
       case rel=>exact ⟨i+1,true,rfl,by go_num,by omega,HN2.out,HBR.out⟩
       case measure=>simp [intOf];omega
    ·have hsb1:sb=true:=hsb.2 ⟨k,by omega,by unfold xGk;rw [if_neg (Nat.lt_irrefl k),if_pos rfl];decide⟩
     subst hsb1
     have hnn:((n:Int)==(n:Int))=true:=by simp
     have HBZ:=oH (HB.out.trans (HBR.out.mono HB.out.size))
     clear hsb
     go_wp2_with fail
     refine (HSC.out wh).mono ?_
     rintro e wi ⟨rfl,hb⟩
     have HBY:=oH (HBZ.out.trans (hb.mono HBZ.out.size))
     clear hb
     go_wp2_with fail
     refine (Sane4 _ (HE.out.below HBY.out)).mono ?_
     rintro e wz ⟨rfl,hb⟩
     have HBX:=oH (HBY.out.trans (hb.mono HBY.out.size))
     clear hb
     go_wp2_with fail
     go_ret
     exact ⟨rfl,HBX.out⟩
  ·subst hkn
   obtain ⟨AD,cD,rfl, -⟩:=zUs ho
   have hbl:Below wd.heap.size wd (wd.alloc (.cells #[.slice (some ⟨U,0,none⟩) k k,.slice AD k cD] 31)):=bA
   have HX:=oH (Blk.new wd 31 [.slice (some ⟨U,0,none⟩) k k,.slice AD k cD])
   have HG:=oH (hg.below hbl)
   have HO:=oH (zUv ho hbl)
   replace OA:=oH (OA.out.below hbl)
   replace HB:=oH (HB.out.trans (hbl.mono HB.out.size))
   clear hb hk hbl hg ho
   go_upto_region 7 with (fail)
   generalize wd.alloc (.cells #[.slice (some ⟨U,0,none⟩) k k,.slice AD k cD] 31)=we at *
   generalize wd.heap.size=fx at *
   go_wp2_with fail
   refine (witM OA.out KA.out (by omega) (HE.out.below HB.out)).mono ?_
   rintro e wf ⟨k2,hk2,hb,hh⟩
   obtain rfl:k=k2:=HK.out.same hk2
   rcases hh with ⟨-,rfl⟩|⟨h9, -⟩
   rotate_left
   ·exact absurd h9 (by omega)
   replace OA:=oH (OA.out.below hb)
   replace HB:=oH (HB.out.trans (hb.mono HB.out.size))
   replace HX:=oH (HX.out.below hb)
   replace HG:=oH (HG.out.below hb)
   replace HO:=oH (zUv HO.out hb)
   have c0:=HX.out.at_ (i:=0) rfl
   have c1:=HX.out.at_ (i:=1) rfl
   clear hk2 hb
   go_wp2_with fail
   refine (chkM OA.out KA.out (by omega) HK.out.2.1 HG.out HO.out (HE.out.below HB.out)).mono ?_
   rintro e wg ⟨rfl,hb⟩
   replace HB:=oH (HB.out.trans (hb.mono HB.out.size))
   clear hb c0 c1
   go_wp2_with fail
   refine (Sane4 _ (HE.out.below HB.out)).mono ?_
   rintro e wz ⟨rfl,hb⟩
   have HBX:=oH (HB.out.trans (hb.mono HB.out.size))
   clear hb
   go_wp2_with fail
   go_ret
   exact ⟨rfl,HBX.out⟩
end Go.Proofs.YtfjjcoggoomlbaaGreatDoor
