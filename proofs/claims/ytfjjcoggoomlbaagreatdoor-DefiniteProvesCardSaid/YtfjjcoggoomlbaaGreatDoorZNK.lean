import Derived.Test.YtfjjcoggoomlbaaGreatDoorZNJ
set_option maxHeartbeats 16000000
set_option maxRecDepth 100000
set_option linter.unusedVariables false
set_option linter.unusedSimpArgs false
set_option linter.unusedSectionVars false
namespace Go.Proofs.YtfjjcoggoomlbaaGreatDoor
open Go.RowKit
def M22 (i k:Nat):Rat:=(xFe 2 1 1 2 i k:Rat)
def W22 (i k:Nat):Rat:=(xFe 1 2 2 1 i k:Rat)
theorem zRx:∀ t,t<2->0<dD M22 t:=fun t ht=>by
 have h:t=0\/t=1:=by omega
 rcases h with rfl|rfl<;>decide +kernel
theorem zRy:SymM 2 M22:=fun i k hi hk=>by
 have h:i=0\/i=1:=by omega
 have h2:k=0\/k=1:=by omega
 rcases h with rfl|rfl<;>rcases h2 with rfl|rfl<;>rfl
theorem w22_sym:SymM 2 W22:=fun i k hi hk=>by
 have h:i=0\/i=1:=by omega
 have h2:k=0\/k=1:=by omega
 rcases h with rfl|rfl<;>rcases h2 with rfl|rfl<;>rfl
theorem m22_k:zDm 2 M22 2:=⟨lRx,zRx,fun h=>absurd h dCx⟩
theorem w22_k:zDm 2 W22 1:=⟨dCx,fun t ht=>by
 obtain rfl:t=0:=by omega
 decide +kernel,fun _=>by decide +kernel⟩
theorem w22_thin:zHe 2 2 W22:=fun i k hi hk=>by
 have h:i=0\/i=1:=by omega
 have h2:k=0\/k=1:=by omega
 rcases h with rfl|rfl<;>rcases h2 with rfl|rfl
 ·exact ⟨1,rfl,dCx⟩
 ·exact ⟨2,rfl,dCx⟩
 ·exact ⟨2,rfl,dCx⟩
 exact ⟨1,rfl,dCx⟩
theorem m22_d0:dD M22 0=((2:Int):Rat):=by decide +kernel
theorem m22_d1:dD M22 1=Rat.divInt 3 2:=by decide +kernel
theorem m22_l:lL M22 1 0=Rat.divInt 1 2:=by decide +kernel
theorem w22_d1:dD W22 1 = -3:=by decide +kernel
theorem t_32:zYy (Rat.divInt 3 2)=⟨#[51,47,50]⟩:=zZc (n:=3) (d:=2) (by decide +kernel) (by decide +kernel) dCx (zPe (n:=3) dCx) (zPe (n:=2) dCx)
theorem f_32:zBt (Rat.divInt 3 2):=zNp (by decide +kernel) (by decide +kernel)
theorem f_12:zBt (Rat.divInt 1 2):=zNp (by decide +kernel) (by decide +kernel)
theorem zRw:∀ t,t<2->zBt (dD M22 t):=fun t ht=>by
 have h:t=0\/t=1:=by omega
 rcases h with rfl|rfl
 ·rw [m22_d0];exact xBt dCx
 rw [m22_d1];exact f_32
theorem t_m3:zYy (-3)=⟨#[45,51]⟩:=by
 have h:zYy (((-3:Int)):Rat)=str (-3):=zZa _
 have h2:((-3:Int):Rat) = -3:=by decide +kernel
 rw [<-h2,h]
 decide +kernel
theorem same_yes (A B:oAx) (xs:List ByteArray) (c d:Nat) (w:World) (h:zGw w A xs) (h2:zGw w B xs) (hl:xs.length<=1000):Calls Tryz.prog 29 #[.slice A xs.length c,.slice B xs.length d] w fun e w'=>e = .returned (.bool true)/\Below w.heap.size w w':=by
 have:=zGl A B xs xs c d w h h2 hl hl;rw [decide_eq_true rfl] at this;exact this
theorem xAh (A B:oAx) (x y:ByteArray) (c d:Nat) (w:World) (h:zGw w A [x,y]) (h2:zGw w B [x,y]):Calls Tryz.prog 29 #[.slice A 2 c,.slice B 2 d] w fun e w'=>e = .returned (.bool true)/\Below w.heap.size w w':=same_yes A B [x,y] c d w h h2 (by decide:2<=1000)
theorem two_ex (w:World):Calls Tryz.prog 75 #[] w fun e w'=>∃ (g:Nat) (A0 A1:oAx),e = .returned (.slice (some ⟨g,0,none⟩) 2 2)/\zCz w' (some ⟨g,0,none⟩) (zYo A0 A1 2 2 2 1 1 2)/\Below w.heap.size w w':=by
 go_enter Tryz.func75,Tryz.ntmps75
 go_wp2_with fail;go_ret
 exact ⟨_,_,_,rfl,zRr w 2 1 1 2,zRq w _ _ _ _ _ _⟩
theorem dec_ex (g c:Nat) (A0 A1:oAx) (w:World) (h:zCz w (some ⟨g,0,none⟩) (zYo A0 A1 2 2 2 1 1 2)) (henv:Env w):Calls Tryz.prog 12 #[.slice (some ⟨g,0,none⟩) 2 c] w fun e w'=>∃ U AD cD rs,e = .returned (.tuple #[.agg #[.slice (some ⟨U,0,none⟩) 2 2,.slice AD 2 cD],.int .i64 0])/\zBz w.heap.size 2 2 (lK M22 2) U rs w'/\w'.ownsRow w.heap.size 39 1 (.slice AD 2 cD) 2 (dTx M22 2)/\Below w.heap.size w w':=by
 have hm:zCy (zYo A0 A1 2 2 2 1 1 2) 2 2 M22:=zYq dCx dCx dCx dCx;refine (zAu (some ⟨g,0,none⟩) c 2 _ M22 w h hm dCx dCx zRy (zYp dCx dCx dCx dCx) henv (fun k hk _=>zRw k hk) (fun k i hki hi _=>?_)).mono ?_
 ·obtain rfl:k=0:=by omega
  obtain rfl:i=1:=by omega
  rw [m22_l];exact f_12
 rintro e w' ⟨k,hk,hb,hh⟩;obtain rfl:k=2:=hk.same m22_k
 rcases hh with ⟨h1, -⟩|⟨-,U,Dv,rs,rfl,hg,ho⟩
 ·omega
 obtain ⟨AD,cD,rfl, -⟩:=zVk ho;exact ⟨U,AD,cD,rs,rfl,hg,ho,hb⟩
theorem vec2 {ss:List ByteArray} {y:Nat->Rat} (h:zHn ss 2 y):ss=[zYy (y 0),zYy (y 1)]:=by
 have hl:=h.len
 match ss,hl with
 | [a,b],_ =>
  have h0:=h.cel 0 sMx;have h1:=h.cel 1 sMx
  simp at h0 h1
  rw [h0,h1]
theorem wit_ex (A0 A1:oAx) (g c:Nat) (w:World) (h:zCz w (some ⟨g,0,none⟩) (zYo A0 A1 2 2 1 2 2 1)) (henv:Env w):Calls Tryz.prog 13 #[.slice (some ⟨g,0,none⟩) 2 c] w fun e w'=>∃ (A':oAx) (c':Nat) (y:Nat->Rat),e = .returned (.tuple #[.slice A' 2 c',.int .i64 0])/\zGw w' A' [⟨#[45,50]⟩,⟨#[49]⟩]/\zHn [⟨#[45,50]⟩,⟨#[49]⟩] 2 y/\form 2 W22 y = -3/\Below w.heap.size w w':=by
 have hm:zCy (zYo A0 A1 2 2 1 2 2 1) 2 2 W22:=zYq dCx dCx dCx dCx;refine (zHp (some ⟨g,0,none⟩) c 2 _ W22 w h hm (fun r hr=>?_) dCx dCx w22_sym (zYp dCx dCx dCx dCx) (fun _ _ _=>w22_thin) henv).mono ?_
 ·have h9:r=⟨A0,2,[⟨#[UInt8.ofNat (48+1)]⟩,⟨#[UInt8.ofNat (48+2)]⟩]⟩\/r=⟨A1,2,[⟨#[UInt8.ofNat (48+2)]⟩,⟨#[UInt8.ofNat (48+1)]⟩]⟩:=by simpa [zYo] using hr
  rcases h9 with rfl|rfl<;>exact lRx
 rintro e w' ⟨k,hk,hb,hh⟩;obtain rfl:k=1:=hk.same w22_k
 rcases hh with ⟨h1, -⟩|⟨-,x,A',c',hx,hf,rfl,ss,hs,hv⟩
 ·omega
 have hx0:=hx 0 dCx
 have e0:W22 0 0=1:=by decide +kernel
 have e1:W22 0 1=2:=by decide +kernel
 have hx1:x 0 = -2:=by
  have h9:(0:Rat)+W22 0 0*x 0 = -(W22 0 1):=hx0;rw [e0,e1] at h9
  grind
 have hw0:xHh 1 x 0 = -2:=by unfold xHh;rw [if_pos dCx,hx1]
 have hw1:xHh 1 x 1=1:=by unfold xHh;rw [if_neg dCx,if_pos rfl]
 have hss:ss=[⟨#[45,50]⟩,⟨#[49]⟩]:=by rw [vec2 hv,hw0,hw1,t_m2,zZe]
 subst hss;refine ⟨A',c',_,rfl,hs,hv,?_,hb⟩;rw [zNt (A:=W22) (x:=x) (k:=1) (n:=2) (fun t ht=>?_) dCx hx,w22_d1]
 obtain rfl:t=0:=by omega
 decide +kernel
theorem Sane4 (w:World) (henv:Env w):Calls Tryz.prog 15 #[] w fun e w'=>e = .returned (.bool true)/\Below w.heap.size w w':=by
 have HE:=oH henv;clear henv
 go_enter Tryz.func15,Tryz.ntmps15
 go_wp2_with fail;refine (two_ex w).mono ?_;rintro e w1 ⟨g,A0,A1,rfl,hm1,hb1⟩;have HM1:=oH hm1;have HB1:=oH hb1;clear hm1 hb1;go_wp2_with fail;refine (dec_ex g 2 A0 A1 w1 HM1.out (HE.below HB1.out)).mono ?_;rintro e w2 ⟨U,AD,cD,rs,rfl,hg,ho,hb2⟩;have hbl:Below w2.heap.size w2 (w2.alloc (.cells #[.slice (some ⟨U,0,none⟩) 2 2,.slice AD 2 cD] 31)):=bA;have HX:=oH (Blk.new w2 31 [.slice (some ⟨U,0,none⟩) 2 2,.slice AD 2 cD]);have HG2:=oH (hg.below hbl);have HO2:=oH (zVn ho hbl);have HB2:=oH ((HB1.trans (hb2.mono HB1.size)).trans (hbl.mono (HB1.trans (hb2.mono HB1.size)).size));clear hg ho hb2 hbl HM1 HB1;go_upto_region 2 with (fail);generalize (w2.alloc (.cells #[.slice (some ⟨U,0,none⟩) 2 2,.slice AD 2 cD] 31))=w3 at *;generalize w2.heap.size=fx at *;have hbl:=zRq w3 (.string ⟨#[49]⟩) (.string ⟨#[50]⟩) (.string ⟨#[50]⟩) (.string ⟨#[49]⟩) (.slice (some ⟨w3.heap.size,0,none⟩) 2 2) (.slice (some ⟨w3.heap.size+1,0,none⟩) 2 2)
 have HMW:=oH (zRr w3 1 2 2 1);have HBL:=oH hbl;have HWE:=oH (wit_ex _ _ _ 2 _ HMW.out (HE.below (HB2.trans (hbl.mono HB2.size))));clear hbl HMW;go_wp2_with fail;refine HWE.mono ?_;rintro e w4 ⟨AW,cW,y,rfl,hsw,hvw,hfw,hb4⟩;have HB34:=bTx2 HBL hb4;have HB4:=bTx2 HB2 HB34;have HSW4:=oH hsw;have HVW:=oH hvw;have HFW:=oH hfw;clear hsw hvw hfw hb4 HBL HWE;have hbl:=zRq w4 (.string ⟨#[49]⟩) (.string ⟨#[50]⟩) (.string ⟨#[50]⟩) (.string ⟨#[49]⟩) (.slice (some ⟨w4.heap.size,0,none⟩) 2 2) (.slice (some ⟨w4.heap.size+1,0,none⟩) 2 2);have HBL:=oH hbl;have HFO:=oH (zBu _ AW 2 cW 2 _ _ W22 y _ (zRr w4 1 2 2 1) (zYq dCx dCx dCx dCx) dCx dCx (HSW4.below hbl) HVW.out (HE.below (HB4.trans (hbl.mono HB4.size))));rw [HFW.out,zVg (show zBt (-3) from xBt (z := -3) dCx),zVe (show zBt (-3) from xBt (z := -3) dCx),t_m3] at HFO;clear hbl;go_wp2_with fail;refine HFO.mono ?_;rintro e wz ⟨rfl,hb5⟩;have hb35:=HB34.trans ((HBL.trans (hb5.mono HBL.size)).mono HB34.size)
 have HB5:=bTx2 HB2 hb35;have HX5:=oH (HX.below hb35);have HG5:=oH (HG2.below hb35);have HO5:=oH (zVn HO2.out hb35);have HW5:=oH ((HSW4.below HBL.out).below hb5);have HE5:=oH (HE.below HB5.out)
 have HD5:=oH (show zGw wz AD [⟨#[50]⟩,⟨#[51,47,50]⟩] from by
  have e9:dTx M22 2=sv [⟨#[50]⟩,⟨#[51,47,50]⟩]:=by
   show sv [zYy (dD M22 0),zYy (dD M22 1)]=_
   rw [m22_d0,m22_d1,t_32,show zYy ((2:Int):Rat)=⟨#[50]⟩ from t_d (n:=2) dCx]
  have h9:=HO5.out;rw [e9] at h9;obtain ⟨A',c',e1, -,h1, -⟩:=zVy (show wz.ownsRow _ 39 1 (.slice AD 2 cD) [(⟨#[50]⟩:ByteArray),⟨#[51,47,50]⟩].length (sv [⟨#[50]⟩,⟨#[51,47,50]⟩]) from h9);injection e1 with e1;rw [e1]
  exact h1)
 have hl1:1<rs.length:=by have:=HG5.mf.len;omega
 obtain ⟨g1,eg1,cu1,hc1, -, -⟩:=HG5.rows hl1;have cg1:=(hc1 0 dCx).2;rw [show lK M22 2 1 0=Rat.divInt 1 2 by unfold lK;rw [if_pos dCx];exact m22_l,t_12] at cg1;generalize (rs[1]'hl1).cp=c1 at *;have KB:=oH (fun W' (hW:Below wz.heap.size wz W')=>(show W'.cell? ⟨fx,0,none⟩=some (.slice (some ⟨U,0,none⟩) 2 2)/\W'.cell? ⟨fx,1,none⟩=some (.slice AD 2 cD)/\W'.cell? ⟨U,1,none⟩=some (.slice (some ⟨g1,0,none⟩) 2 c1)/\W'.cell? ⟨g1,0,none⟩=some (.string ⟨#[49,47,50]⟩) from ⟨(HX5.below hW).at_ (i:=0) rfl,(HX5.below hW).at_ (i:=1) rfl,kP hW cu1,kP hW cg1⟩));have HWz:=oH (show Below wz.heap.size wz wz.drew from bRx.drew);have KSz:=oH (KB.out _ HWz.out);clear hb5 hb35 HX HG2 HO2 HB2 HB34 HB4 HSW4 HBL HFO eg1 cu1 hc1 cg1 HVW HFW;go_wp2_with fail;refine wp_region_held_drew (S:=(fun w'=>w'.cell? ⟨fx,0,none⟩=some (.slice (some ⟨U,0,none⟩) 2 2)/\w'.cell? ⟨fx,1,none⟩=some (.slice AD 2 cD)/\w'.cell? ⟨U,1,none⟩=some (.slice (some ⟨g1,0,none⟩) 2 c1)/\w'.cell? ⟨g1,0,none⟩=some (.string ⟨#[49,47,50]⟩))) (by kernel_rfl) (by exact KSz.out) (fun hHeld=>?_)
 refine tkH 0 ?_;refine tkH 1 ?_;refine tkH 2 ?_;refine tkG 3 ?_;refine tkG 4 ?_;refine tkG 5 ?_;refine tkG 6 ?_;refine tkH 7 ?_;refine tkH 8 ?_;refine tkG 9 ?_;refine tkG 10 ?_;refine tkG 11 ?_;refine tkG 12 ?_;refine tkG 13 ?_;refine tkG 14 ?_;refine tkG 15 ?_;refine tkH 16 ?_;refine tkH 17 ?_;refine tkG 18 ?_;refine tkG 19 ?_
 try simp only [Act.put,tkA,tkB,tkC]
 refine tkS 20 fun K hK=>?_
 go_simp
 have HWm:=oH (show Below wz.heap.size wz (wz.alloc (.cells #[.string ⟨#[50]⟩,.string ⟨#[51,47,50]⟩] 39)).drew from bA.drew);have KSm:=oH (KB.out _ HWm.out);have HSD:=oH (HD5.below HWm.out);have HSL:=oH (show zGw (wz.alloc (.cells #[.string ⟨#[50]⟩,.string ⟨#[51,47,50]⟩] 39)).drew (some ⟨wz.heap.size,0,none⟩) [⟨#[50]⟩,⟨#[51,47,50]⟩] from (zGw.two (Blk.new wz 39 [.string ⟨#[50]⟩,.string ⟨#[51,47,50]⟩])).below bRx.drew)
 refine hK.out _ _ ?_ (fun hHeld=>?_)
 ·exact kSx
 clear hK K
 try simp only [Act.put,tkA,tkB,tkC]
 refine tkS 21 fun K hK=>?_
 go_simp
 (go_at_call 29;(with_reducible refine (xAh AD (some ⟨wz.heap.size,0,none⟩) ⟨#[50]⟩ ⟨#[51,47,50]⟩ cD 2 _ HSD.out HSL.out).mono ?_);rintro e wa ⟨rfl,hb⟩;have hw:=HWm.out.trans (hb.mono HWm.out.size);have HWa:=oH hw;have KSa:=oH (KB.out wa hw);clear hb hw)
 go_wp2_with fail;refine hK.out _ _ ?_ (fun hHeld=>?_)
 ·exact kSx
 clear hK K
 try simp only [Act.put,tkA,tkB,tkC]
 refine tkH 22 ?_;refine tkH 23 ?_;refine tkG 25 ?_
 try simp only [Act.put,tkA,tkB,tkC]
 refine tkS 24 fun K hK=>?_
 go_simp
 (go_at_call 75;(with_reducible refine (two_ex _).mono ?_);rintro e wb ⟨gt,A0,A1,rfl,hmt,hb⟩;have HMT:=oH hmt;clear hmt;have hw:=HWa.out.trans (hb.mono HWa.out.size);have HWb:=oH hw;have KSb:=oH (KB.out wb hw);clear hb hw)
 go_wp2_with fail;refine hK.out _ _ ?_ (fun hHeld=>?_)
 ·exact kSx
 clear hK K
 try simp only [Act.put,tkA,tkB,tkC]
 refine tkS 26 fun K hK=>?_
 go_simp
 (go_at_call 14;(with_reducible refine (zAq _ AD 2 cD 2 U _ _ _ M22 _ HMT.out (zYq dCx dCx dCx dCx) dCx zRy zRx zRw (HG5.out.below HWb.out) (zVn HO5.out HWb.out) (HE5.out.below HWb.out)).mono ?_);rintro e wc ⟨rfl,hb⟩;have hw:=HWb.out.trans (hb.mono HWb.out.size);have HWc:=oH hw;have KSc:=oH (KB.out wc hw);clear hb hw)
 go_wp2_with fail;refine hK.out _ _ ?_ (fun hHeld=>?_)
 ·exact kSx
 clear hK K
 try simp only [Act.put,tkA,tkB,tkC]
 refine tkH 27 ?_;refine tkH 28 ?_;refine tkG 29 ?_;refine tkG 30 ?_;refine tkH 31 ?_;refine tkH 32 ?_;refine tkG 33 ?_
 try simp only [Act.put,tkA,tkB,tkC]
 refine tkS 34 fun K hK=>?_
 go_simp
 have HWn:=oH (HWc.alloc HWc.size (.cells #[.string ⟨#[45,50]⟩,.string ⟨#[49]⟩] 39));have KSn:=oH (KB.out _ HWn.out);have HSW:=oH (HW5.below HWn.out);have HSM:=oH (zGw.two (Blk.new wc 39 [.string ⟨#[45,50]⟩,.string ⟨#[49]⟩]))
 refine hK.out _ _ ?_ (fun hHeld=>?_)
 ·exact kSx
 clear hK K
 try simp only [Act.put,tkA,tkB,tkC]
 refine tkS 35 fun K hK=>?_
 go_simp
 (go_at_call 29;(with_reducible refine (xAh AW (some ⟨wc.heap.size,0,none⟩) ⟨#[45,50]⟩ ⟨#[49]⟩ cW 2 _ HSW.out HSM.out).mono ?_);rintro e wd ⟨rfl,hb⟩;have hw:=HWn.out.trans (hb.mono HWn.out.size);have HWd:=oH hw;have KSd:=oH (KB.out wd hw);clear hb hw)
 go_wp2_with fail;refine hK.out _ _ ?_ (fun hHeld=>?_)
 ·exact kSx
 clear hK K
 try simp only [Act.put,tkA,tkB,tkC]
 refine tkH 36 ?_;refine tkH 37 ?_;refine tkG 38 ?_;refine tkG 39 ?_;refine tkH 40 ?_
 try simp only [Act.put,List.setIfInBounds_toArray,List.set_cons_zero,List.set_cons_succ,List.getElem_toArray,List.getElem_cons_succ,List.getElem_cons_zero,List.getElem?_toArray,List.getElem?_cons_succ,List.getElem?_cons_zero,Option.getD_some]
 refine tkH 41 ?_
 try simp only [Act.put,List.setIfInBounds_toArray,List.set_cons_zero,List.set_cons_succ,List.getElem_toArray,List.getElem_cons_succ,List.getElem_cons_zero,List.getElem?_toArray,List.getElem?_cons_succ,List.getElem?_cons_zero,Option.getD_some]
 refine tkG 42 ?_
 try simp only [Act.put,List.setIfInBounds_toArray,List.set_cons_zero,List.set_cons_succ,List.getElem_toArray,List.getElem_cons_succ,List.getElem_cons_zero,List.getElem?_toArray,List.getElem?_cons_succ,List.getElem?_cons_zero,Option.getD_some]
 refine tkG 43 ?_
 try simp only [Act.put,List.setIfInBounds_toArray,List.set_cons_zero,List.set_cons_succ,List.getElem_toArray,List.getElem_cons_succ,List.getElem_cons_zero,List.getElem?_toArray,List.getElem?_cons_succ,List.getElem?_cons_zero,Option.getD_some]
 refine tkH 44 ?_
 try simp only [Act.put,List.setIfInBounds_toArray,List.set_cons_zero,List.set_cons_succ,List.getElem_toArray,List.getElem_cons_succ,List.getElem_cons_zero,List.getElem?_toArray,List.getElem?_cons_succ,List.getElem?_cons_zero,Option.getD_some]
 refine tkH 45 ?_
 try simp only [Act.put,List.setIfInBounds_toArray,List.set_cons_zero,List.set_cons_succ,List.getElem_toArray,List.getElem_cons_succ,List.getElem_cons_zero,List.getElem?_toArray,List.getElem?_cons_succ,List.getElem?_cons_zero,Option.getD_some]
 refine wpAnyH_done (by kernel_rfl) ?_ _;go_wp2_with fail;go_ret
 exact ⟨by first|rfl|(simp;done),HB5.trans (HWd.mono HB5.size)⟩
end Go.Proofs.YtfjjcoggoomlbaaGreatDoor
