import Derived.Test.YtfjjcoggoomlbaaGreatDoorZNO
import Derived.Test.YtfjjcoggoomlbaaGreatDoorZNK
set_option maxHeartbeats 16000000
set_option maxRecDepth 100000
set_option linter.unusedVariables false
set_option linter.unusedSimpArgs false
set_option linter.unusedSectionVars false
namespace Go.Proofs.YtfjjcoggoomlbaaGreatDoor
open Go.RowKit
theorem DefiniteCongruent_any (A:Option Addr) (l cp:Nat) (w:World) (h:Ints w A l) (hlc:l≤cp) (hl:l≤9223372036854775807) (henv:Env w) :
  Calls Tryz.prog 4 #[.slice A l cp] w fun e w'=>e = .returned (.bool true)∧Below w.heap.size w w':=by
 have HE:=oH henv
 have HI:=oH h
 clear henv h
 go_enter Tryz.func4,Tryz.ntmps4
 go_wp2_with fail
 refine (zDc A l cp w HI.out hlc hl).mono ?_
 rintro e w0 ⟨rfl,hs,hb⟩
 obtain ⟨b,hbe⟩:∃ b,w.heap.size=b:=⟨_,rfl⟩
 have hsz2:w.heap.size≤b:=by omega
 have HS:Hid (Src w0 b):=by rw [←hbe];exact oH hs
 have HB:=oH hb
 clear hs hb HI
 rw [hbe]
 have HUP:=oH (fun (W W':World) (hW:Below w.heap.size w W) (hg:W.grownBy W' (some b))=>xBc hW hsz2 hg)
 clear hbe hsz2
 go_wp2_with fail
 refine (zDa b 4 w0 HS.out (by decide) (by decide)).mono ?_
 rintro e w1 ⟨n',rfl,hn,hs,hg⟩
 replace HB:=oH (HUP.out _ _ HB.out hg)
 obtain ⟨n,hn2⟩:∃ n:Nat,1+n'=n:=⟨_,rfl⟩
 have hnl:1≤n:=by omega
 have hnu:n≤4:=by omega
 have hne:(1:Int)+(n':Int)=(n:Int):=by omega
 clear hn hn2
 replace HS:=oH hs
 clear hs hg
 go_wp2_with fail
 refine (zCt b n w1 HS.out (by omega) (by omega)).mono ?_
 rintro e w2 ⟨Aa,ca,P,rfl,hm,⟨M,hth,rfl⟩,hs,hg⟩
 replace HB:=oH (HUP.out _ _ HB.out hg)
 have Oa:=oH hm
 have Ta:=oH hth
 clear hm hth
 obtain ⟨Ba,hBa⟩:∃ B,w1.heap.size=B:=⟨_,rfl⟩
 rw [hBa] at Oa
 have hba:b<Ba:=by have:=HS.out.lt;omega
 clear hBa
 replace HS:=oH hs
 clear hs hg
 go_wp2_with fail
 refine (permC b n w2 HS.out (by omega) (by omega)).mono ?_
 rintro e w3 ⟨gp,cq,ps,rfl,hpm,ho,hs,hg⟩
 replace Oa:=oH (Oa.out.grown hg hba)
 replace HB:=oH (HUP.out _ _ HB.out hg)
 have Op:=oH ho
 have Hp:=oH hpm
 clear ho hpm
 obtain ⟨Bp,hBp⟩:∃ B,w2.heap.size=B:=⟨_,rfl⟩
 rw [hBp] at Op
 have hbp:b<Bp:=by have:=HS.out.lt;omega
 clear hBp
 replace HS:=oH hs
 clear hs hg
 obtain ⟨rsa,hma,hfa, -⟩:=Oa.out.r
 obtain ⟨i0,hi,hz0,hz1,hz2⟩:=info_parts Tryz.infoRats
 obtain ⟨j0,hj,hy0,hy1,hy2⟩:=info_parts Tryz.infoRat
 obtain ⟨ba,oa, -, -, -,ea, -⟩:=mat_el hma hfa (i:=0) (k:=0) (by omega) (by omega)
 subst ea
 have Ma:=oH hma
 have Fa:=oH hfa
 have hpl:ps.length=n:=by rw [Hp.out.length_eq,List.length_range]
 have Hlow:=oH (fun i (hi:i<n)=>nth_low Hp.out hi)
 obtain ⟨wb,rfl⟩:∃ w':World,w'=w3:=⟨_,rfl⟩
 clear hma hfa
 go_wp2_with fail
 go_loopw [7,38] (fun v kv wr=>∃ (qs:List zGi),kv = .int .i64 (qs.length:Int)∧qs.length≤n∧MatOwn wb.heap.size wr v qs∧(∀ j,(hj:j<qs.length)→qs[j].ss.length=n∧∀ i,(hi:i<qs[j].ss.length)→qs[j].ss[i]=zYd (zVs n M (nth ps j) (nth ps i)))∧Below wb.heap.size wb wr) (fun _ kv _=>n-(intOf kv).toNat)
 case atStart=>exact ⟨[],rfl,Nat.zero_le _,MatOwn.zero _ _,fun j hj=>(by simp at hj),Below.refl _ _⟩
 case round =>
  obtain ⟨qs,rfl,hqn,hown,hq,hbw⟩:=hrel
  obtain ⟨wk,rfl⟩:∃ w':World,w'=wr:=⟨_,rfl⟩
  obtain ⟨AV,cV,rfl, -⟩:=zUs hown.o
  have HOWN:=oH hown
  have HQQ:=oH hq
  have HBW:=oH hbw
  have hsz:=hbw.size
  clear hown hq hbw
  by_cases hlt:qs.length<n
  ·have pc:=Op.out.at_ hpl hlt HBW.out
   have y1:(0:Int)≤(qs.length:Int):=by omega
   have y2:(qs.length:Int)<(n:Int):=by omega
   go_wp2_with fail
   clear pc
   go_loopw [10,44] (fun v iv wr=>∃ (ss:List ByteArray),iv = .int .i64 (ss.length:Int)∧ss.length≤n∧(∀ i,(hi:i<ss.length)→ss[i]=zYd (zVs n M (nth ps qs.length) (nth ps i)))∧wr.ownsRow wk.heap.size 39 1 v ss.length (sv ss)∧Below wk.heap.size wk wr) (fun _ iv _=>n-(intOf iv).toNat)
   case atStart=>exact ⟨[],rfl,Nat.zero_le _,fun i hi=>(by simp at hi),World.ownsRow_nil _ _ _ _,Below.refl _ _⟩
   case round =>
    obtain ⟨ss,rfl,hsm,hss,hown,hbq⟩:=hrel
    obtain ⟨wq,rfl⟩:∃ w':World,w'=wr:=⟨_,rfl⟩
    have HSS:=oH hss
    have HO:=oH hown
    have HBQ:=oH hbq
    have hszq:=hbq.size
    by_cases hlt2:ss.length<n
    ·have hbx:=HBW.out.trans (hbq.mono hsz)
     have pc:=Op.out.at_ hpl hlt2 hbx
     have l1:=Hlow.out _ hlt
     have l2:=Hlow.out _ hlt2
     obtain ⟨b1,off,b2,o2,cp2,e9,hb1,hb2,hc,hc2⟩:=mat_el Ma.out Fa.out l1 l2
     injection e9 with e9
     injection e9 with e91 e92
     subst e91 e92
     have k0:=(hbx.cell (p:=⟨ba,oa+nth ps qs.length,none⟩) hb1).trans hc
     have k1:=(hbx.cell (p:=⟨b2,o2+nth ps ss.length,none⟩) hb2).trans hc2
     have HTN:=oH (fun i (hi:i<(ss++[zYd (zVs n M (nth ps qs.length) (nth ps ss.length))]).length)=>(show (ss++[zYd (zVs n M (nth ps qs.length) (nth ps ss.length))])[i]=zYd (zVs n M (nth ps qs.length) (nth ps i)) by
      rw [List.getElem_append]
      split
      ·exact HSS.out i _
      ·rename_i hh
       simp only [List.length_append,List.length_singleton] at hi
       obtain rfl:i=ss.length:=by omega
       simp))
     generalize zYd (zVs n M (nth ps qs.length) (nth ps ss.length))=s at *
     have x1:(0:Int)≤(nth ps qs.length:Int):=by omega
     have x2:(nth ps qs.length:Int)<(n:Int):=by omega
     have x3:(0:Int)≤(nth ps ss.length:Int):=by omega
     have x4:(nth ps ss.length:Int)<(n:Int):=by omega
     have x5:(0:Int)≤(ss.length:Int):=by omega
     have x6:(ss.length:Int)<(n:Int):=by omega
     clear hss hown hbq hbx hc hc2
     go_wp2_with (at_builtin;refine wpList_append_own _ rfl _ _ 29 rfl wk.heap.size 39 j0 (.string ⟨#[]⟩) 1 16 Tryz.underlying29 hj hy0 hy1 hy2 rfl (by decide) _ _ _ rfl (HO.out.alloc _) ⟨wq.heap.size,0,none⟩ 1 1 [_] rfl rfl zUe zUf (by unfold maxLen;omega) (by omega) (by simp;omega) ?_)
     intro v4 w4 hown4 hgrow4 _
     obtain ⟨ho4,hk4,hs4,hg4⟩:=xAu HO.out hszq hown4 hgrow4
     have HO4:=oH ho4
     have HB4:=oH (show Below wk.heap.size wk w4 from HBQ.out.trans ⟨hgrow4.os.trans rfl,hgrow4.tape.trans rfl,hgrow4.output.trans rfl,hs4,hk4⟩)
     clear hown4 hgrow4 ho4 hk4 hs4 hg4
     go_wp2_with fail
     go_roundw
     case rel=>exact ⟨ss++[s],by simp only [List.length_append,List.length_singleton];go_num,by simp;omega,HTN.out,HO4.out,HB4.out⟩
     case measure=>simp [intOf];omega
    ·have HSL:=oH (show ss.length=n by omega)
     obtain ⟨A5,c5,rfl, -⟩:=zUs hown
     have HNEW:=oH (zUu hown hsz)
     have HMO:=oH (HOWN.out.below hbq)
     have HB5:=oH (HBW.out.trans (hbq.mono hsz))
     have hsz5:=HB5.out.size
     clear hss hown hbq HO HBQ
     go_wp2_with (at_builtin;refine wpList_append_own _ rfl _ _ 27 rfl wb.heap.size 29 i0 (.slice none 0 0) 1 24 Tryz.underlying27 hi hz0 hz1 hz2 rfl (by decide) _ _ _ rfl (HMO.out.o.alloc _) ⟨wq.heap.size,0,none⟩ 1 1 [_] rfl rfl zUe xAm (by unfold maxLen;omega) (by omega) (by simp;omega) ?_)
     intro v' w6 hown6 hgrow6 _
     have hlt2:∀ k,(Value.slice AV qs.length cV).ownBlock=some k→wb.heap.size≤k:=fun k hk=>(HMO.out.o.lt k hk).1
     have HB6:=oH (zIc HB5.out hsz5 hgrow6 hlt2)
     have HM6:=oH ((HMO.out.below (bA)).push (r:=⟨A5,c5,ss⟩) (zUv HNEW.out (bA)) hown6 hgrow6)
     clear hown6 hgrow6 hlt2
     go_wp2_with fail
     go_roundw
     case rel=>exact ⟨qs++[⟨A5,c5,ss⟩],by simp only [List.length_append,List.length_singleton];go_num,by simp;omega,HM6.out,fun j hj=>(by
      by_cases e:j<qs.length
      ·simp only [List.getElem_append_left e]
       exact HQQ.out j e
      ·simp only [List.length_append,List.length_singleton] at hj
       obtain rfl:j=qs.length:=by omega
       simp only [List.getElem_append_right (Nat.le_refl _),Nat.sub_self,List.getElem_singleton]
       exact ⟨HSL.out,fun i hi=>HSS.out i hi⟩),HB6.out⟩
     case measure=>simp [intOf];omega
  ·have hql:qs.length=n:=by omega
   have Tb:=oH (xDq Ta.out Hlow.out)
   have Fb:=oH (show zCv qs n n (zVs n fun a t=>M (nth ps a) t) from by
    have hin:=nth_inj Hp.out
    have hB:=zVt Tb.out hnu
    refine ⟨hql,fun r hr=>?_,fun j i hj hi=>?_,fun i k hi hk=>((hB i k hi hk).dig (d:=2) (by decide) (by decide)).fits (by decide) (by decide)⟩
    ·obtain ⟨j,hj,rfl⟩:=List.getElem_of_mem hr
     exact (HQQ.out j hj).1
    ·rw [(HQQ.out j hj).2 i hi,zVu hin j i (by omega) (by have:=(HQQ.out j hj).1;omega)])
   have Kb:=oH (zOx Tb.out hnu)
   have Pb:=oH (fun k hk=>zVv (k:=k) Tb.out hnu hk)
   have Ka:=oH (zOx Ta.out hnu)
   have Pa:=oH (fun k hk=>zVv (k:=k) Ta.out hnu hk)
   have Ob:=oH (show MatOwn wb.heap.size wk (.slice AV n cV) qs by rw [←hql];exact HOWN.out)
   have Oa':=oH (Oa.out.below HBW.out)
   have HSk:=oH (HS.out.below HBW.out)
   have HBk:=oH (HB.out.trans (HBW.out.mono HB.out.size))
   have hbb:b<wb.heap.size:=HS.out.lt
   generalize (zVs n fun a t=>M (nth ps a) t)=Q at *
   generalize zVs n M=P at *
   rw [hql]
   clear HOWN HQQ HBW Op Oa HS HB Ma Fa Hlow Hp Ta Tb hpl hql
   go_wp2_with fail
   refine (zDi b wk HSk.out).mono ?_
   rintro e wp ⟨q,rfl,hq, -,hg⟩
   have OA:=oH (Oa'.out.grown hg hba).r
   have OB:=oH ((Ob.out.grown hg hbb).mxR Fb.out)
   have HB:=oH (HUP.out _ _ HBk.out hg)
   have hq2:=hq.2
   have hq0:q≠0:=by have:=hq.2;grind
   have Dq:=oH hq.1
   have Fq:=oH (hq.1.fits (by decide) (by decide))
   have Dc:=oH (show ∀ i k,i<n→k<n→zAu 4 (P i k*q) from fun i k hi hk=>((Ka.out.bnd i k hi hk).dig (d:=2) (by decide) (by decide)).mul hq.1 rfl rfl)
   clear Oa' Ob Fb HBk HSk HUP hg hq
   go_wp2_with fail
   refine (sclM OA.out (by omega) (by omega) Fq.out (fun i k hi hk=>(Dc.out i k hi hk).fits (by decide) (by decide))).mono ?_
   rintro e wc ⟨Ac,cc,rfl,hm,hb⟩
   have OC:=oH hm
   replace OA:=oH (OA.out.below hb)
   replace OB:=oH (OB.out.below hb)
   replace HB:=oH (HB.out.trans (hb.mono HB.out.size))
   clear hm hb
   go_wp2_with fail
   refine (posY (k0:=2) OB.out (by omega) (by omega) Kb.out.sym (by decide) (by decide) (fun i k hi hk=>(Kb.out.bnd i k hi hk).dig (by decide) (by decide)) Pb.out (HE.out.below HB.out)).mono ?_
   rintro e wd ⟨rfl,hb⟩
   replace OA:=oH (OA.out.below hb)
   replace OC:=oH (OC.out.below hb)
   replace HB:=oH (HB.out.trans (hb.mono HB.out.size))
   clear hb OB Kb Pb
   go_wp2_with fail
   refine (decG (k0:=2) OA.out (by omega) (by omega) Ka.out.sym (by decide) (by decide) (fun i k hi hk=>(Ka.out.bnd i k hi hk).dig (by decide) (by decide)) Pa.out (HE.out.below HB.out) (fun k hkn hp=>Ka.out.fitD hnu hkn fun t ht=>hp t (by omega)) (fun k i hki hi hp=>Ka.out.fitL hnu (by omega) hi hp)).mono ?_
   rintro e we ⟨U,gD,cD,rs1,rfl,hk,hg,ho,hb⟩
   have hbl:Below we.heap.size we (we.alloc (.cells #[.slice (some ⟨U,0,none⟩) n n,.slice (some ⟨gD,0,none⟩) n cD] 31)):=bA
   have HX:=oH (Blk.new we 31 [.slice (some ⟨U,0,none⟩) n n,.slice (some ⟨gD,0,none⟩) n cD])
   have HK:=oH hk
   have HG:=oH (hg.below hbl)
   have HO:=oH (zUv ho hbl)
   have hb':=hb.trans (hbl.mono hb.size)
   replace OC:=oH (OC.out.below hb')
   replace HB:=oH (HB.out.trans (hb'.mono HB.out.size))
   have Dd:=oH (show ∀ t,t<n→zAu 9 (dD P t) from fun t ht=>dD_dig (fun s hs=>by have:=hk.2.1 s (by omega);grind) ht Ka.out.bnd (zLq _ (by omega)) (zLq _ (by omega)))
   have Fl:=oH (show ∀ k i,k<n→i<n→zBq (lL P i k) from fun k i hk' hi=>Ka.out.fitL hnu hk' hi fun t ht=>hk.2.1 t (by omega))
   clear hk hg ho hb hb' hbl OA
   go_upto_region 21 with (fail)
   generalize we.alloc (.cells #[.slice (some ⟨U,0,none⟩) n n,.slice (some ⟨gD,0,none⟩) n cD] 31)=wf at *
   generalize we.heap.size=fx at *
   go_wp2_with fail
   refine (decG (k0:=4) OC.out (by omega) (by omega) (fun i k hi hk=>by rw [Ka.out.sym i k hi hk]) (by decide) (by decide) Dc.out (fun k hk=>?_) (HE.out.below HB.out) (fun k hkn _=>?_) (fun k i hki hi _=>?_)).mono ?_
   ·refine Pa.out k ⟨hk.1,fun t ht=>?_,fun h1 h2=>hk.2.2 h1 ?_⟩
    ·have:=HK.out.2.1 t (by have:=hk.1;omega)
     exact this
    ·rw [zKb hq0]
     exact Rat.mul_pos h2 hq2
   ·rw [zKb hq0]
    exact ((Dd.out k hkn).mul Dq.out rfl rfl).fits (by decide) (by decide)
   ·rw [lL_mul hq0]
    exact Fl.out k i (by omega) hi
   rintro e wg ⟨V,gE,cE,rs2,rfl, -,hg,ho,hb⟩
   rw [lK_mul hq0] at hg
   rw [dTx_mul hq0] at ho
   have hbl:Below wg.heap.size wg (wg.alloc (.cells #[.slice (some ⟨V,0,none⟩) n n,.slice (some ⟨gE,0,none⟩) n cE] 31)):=bA
   have HY:=oH (Blk.new wg 31 [.slice (some ⟨V,0,none⟩) n n,.slice (some ⟨gE,0,none⟩) n cE])
   have HH:=oH (hg.below hbl)
   have HP:=oH (zUv ho hbl)
   have hb':=hb.trans (hbl.mono hb.size)
   replace HX:=oH (HX.out.below hb')
   replace HG:=oH (HG.out.below hb')
   replace HO:=oH (zUv HO.out hb')
   replace HB:=oH (HB.out.trans (hb'.mono HB.out.size))
   clear hg ho hb hb' hbl OC Dc Ka Pa HK Fl
   go_upto_region 22 with (fail)
   generalize wg.alloc (.cells #[.slice (some ⟨V,0,none⟩) n n,.slice (some ⟨gE,0,none⟩) n cE] 31)=wh at *
   generalize wg.heap.size=fy at *
   have a0:=HX.out.at_ (i:=0) rfl
   have a1:=HX.out.at_ (i:=1) rfl
   have b0:=HY.out.at_ (i:=0) rfl
   have b1:=HY.out.at_ (i:=1) rfl
   have hnn:((n:Int) != (n:Int))=false:=by simp
   go_wp2_with fail
   refine (equL HG.out HH.out (by omega) (by omega)).mono ?_
   rintro e wi ⟨rfl,hb⟩
   replace HX:=oH (HX.out.below hb)
   replace HY:=oH (HY.out.below hb)
   replace HO:=oH (zUv HO.out hb)
   replace HP:=oH (zUv HP.out hb)
   replace HB:=oH (HB.out.trans (hb.mono HB.out.size))
   clear hb a0 a1 b0 b1 HG HH hnn
   have a1:=HX.out.at_ (i:=1) rfl
   go_wp2_with fail
   clear a1
   go_loopw [130] (fun iv wr=>∃ i:Nat,iv = .int .i64 (i:Int)∧i≤n∧Below wi.heap.size wi wr) (fun iv _=>n-(intOf iv).toNat)
   case atStart=>exact ⟨0,rfl,Nat.zero_le _,Below.refl _ _⟩
   case round =>
    obtain ⟨i,rfl,hin,hbr⟩:=hrel
    obtain ⟨wj,rfl⟩:∃ w':World,w'=wr:=⟨_,rfl⟩
    have HBR:=oH hbr
    by_cases hlt:i<n
    ·have a1:=(HX.out.below hbr).at_ (i:=1) rfl
     have HY2:=oH (HY.out.below hbr)
     have d1:=dTx_at (zUv HO.out hbr) hlt
     have d2:wj.cell? ⟨gE,i,none⟩=some (.string (zYd (dD P i*q))):=by
      rw [World.ownsRow.cellAt (zUv HP.out hbr) i (by omega)]
      unfold sv
      rw [List.map_map,List.getElem?_map,List.getElem?_range hlt]
      rfl
     have hc2:=World.block_lt_of_cell? _ _ d2
     have MC:=oH (zSc (dD P i) q wj ((Dd.out i hlt).fits (by decide) (by decide)) Fq.out (((Dd.out i hlt).mul Dq.out rfl rfl).fits (by decide) (by decide)))
     generalize zYd (dD P i*q)=s3 at *
     generalize zYd (dD P i)=s1 at *
     generalize zYd q=s2 at *
     have x1:(0:Int)≤(i:Int):=by omega
     have x2:(i:Int)<(n:Int):=by omega
     clear hbr
     go_wp2_with fail
     refine MC.out.mono ?_
     rintro e wl ⟨rfl,hb⟩
     have b1:=(HY2.out.below hb).at_ (i:=1) rfl
     have d3:=(hb.cell hc2).trans d2
     have HBR2:=oH (HBR.out.trans (hb.mono HBR.out.size))
     clear hb d1 d2 a1 MC HBR
     go_wp2_with fail
     go_roundw
     case rel=>exact ⟨i+1,by go_num,by omega,HBR2.out⟩
     case measure=>simp [intOf];omega
    ·replace HB:=oH (HB.out.trans (hbr.mono HB.out.size))
     have a1:=(HX.out.below hbr).at_ (i:=1) rfl
     clear hbr
     go_wp2_with fail
     refine (Sane4 _ (HE.out.below HB.out)).mono ?_
     rintro e wz ⟨rfl,hb⟩
     have HBX:=oH (HB.out.trans (hb.mono HB.out.size))
     clear hb
     go_wp2_with fail
     go_ret
     exact ⟨rfl,HBX.out⟩
end Go.Proofs.YtfjjcoggoomlbaaGreatDoor
