import Derived.Test.YtfjjcoggoomlbaaGreatDoorZNR
import Derived.Test.YtfjjcoggoomlbaaGreatDoorZNK
set_option maxHeartbeats 16000000
set_option maxRecDepth 100000
set_option linter.unusedVariables false
set_option linter.unusedSimpArgs false
set_option linter.unusedSectionVars false
namespace Go.Proofs.YtfjjcoggoomlbaaGreatDoor
open Go.RowKit
theorem DefiniteSums_any (A:Option Addr) (l cp:Nat) (w:World) (h:Ints w A l) (hlc:l≤cp) (hl:l≤9223372036854775807) (henv:Env w) :
  Calls Tryz.prog 5 #[.slice A l cp] w fun e w'=>e = .returned (.bool true)∧Below w.heap.size w w':=by
 have HE:=oH henv
 have HI:=oH h
 clear henv h
 go_enter Tryz.func5,Tryz.ntmps5
 go_wp2_with fail
 refine (New_any A l cp w HI.out hlc hl).mono ?_
 rintro e w0 ⟨rfl,hs,hb⟩
 obtain ⟨b,hbe⟩:∃ b,w.heap.size=b:=⟨_,rfl⟩
 have hsz2:w.heap.size≤b:=by omega
 have HS:Hid (Src w0 b):=by rw [←hbe];exact oH hs
 have HB:=oH hb
 clear hs hb HI
 rw [hbe]
 have HUP:=oH (fun (W W':World) (hW:Below w.heap.size w W) (hg:W.grownBy W' (some b))=>srcBelow hW hsz2 hg)
 clear hbe hsz2
 go_wp2_with fail
 refine (N_any b 4 w0 HS.out dCx dCx).mono ?_
 rintro e w1 ⟨n',rfl,hn,hs,hg⟩
 replace HB:=oH (HUP.out _ _ HB.out hg)
 obtain ⟨n,hn2⟩:∃ n:Nat,1+n'=n:=⟨_,rfl⟩
 have hnl:1≤n:=by omega
 have hnu:n≤4:=by omega
 have hne:(1:Int)+(n':Int)=(n:Int):=by omega
 clear hn hn2
 replace HS:=oH hs
 clear hs hg
 go_wp2_with fail
 refine (MPosK b n w1 HS.out oMx).mono ?_
 rintro e w2 ⟨Aa,ca,M,rfl,hm,⟨hk,hp⟩,hs,hg⟩
 replace HB:=oH (HUP.out _ _ HB.out hg)
 have Oa:=oH hm
 have Ka:=oH hk
 have Pa:=oH (zVs hp)
 clear hm hk hp
 obtain ⟨Ba,hBa⟩:∃ B,w1.heap.size=B:=⟨_,rfl⟩
 rw [hBa] at Oa
 have hba:b<Ba:=by have:=HS.lt;omega
 clear hBa
 replace HS:=oH hs
 clear hs hg
 go_wp2_with fail
 refine (MPosK b n w2 HS.out oMx).mono ?_
 rintro e w3 ⟨Ac,cc,N,rfl,hm,⟨hk,hp⟩,hs,hg⟩
 replace Oa:=oH (Oa.grown hg hba)
 replace HB:=oH (HUP.out _ _ HB.out hg)
 have Oc:=oH hm
 have Kc:=oH hk
 have Pc:=oH (zVs hp)
 clear hm hk hp
 obtain ⟨Bc,hBc⟩:∃ B,w2.heap.size=B:=⟨_,rfl⟩
 rw [hBc] at Oc
 have hbc:b<Bc:=by have:=HS.lt;omega
 clear hBc
 replace HS:=oH hs
 clear hs hg
 obtain ⟨rsa,hta,hfa,hcpa⟩:=Oa.out
 have hca:n≤ca:=by
  obtain ⟨A',c',e,hc⟩:=zUr hta.o
  rw [hfa.len] at e
  injection e with e1 e2 e3
  have:=hfa.len
  omega
 obtain ⟨i0,hi,hz0,hz1,hz2⟩:=info_parts Tryz.infoRats
 have HMA:=oH (hta.read' hfa.len)
 have HF:=oH hfa
 have HCP:=oH hcpa
 have OA:=oH Oa.r
 have OC:=oH Oc.r
 clear hta hfa hcpa Oa Oc hba hbc HS HUP
 obtain ⟨wb,rfl⟩:∃ w':World,w'=w3:=⟨_,rfl⟩
 have DC:=oH (show ∀ i k,i<n→k<n→zAt 2 (M i k+N i k) from fun i k hi hk=>((Ka.bnd i k hi hk).add (Kc.bnd i k hi hk) rfl).dig dCx dCx)
 go_wp2_with fail
 refine (addM OA.out OC.out oMx oMx (fun i k hi hk=>(DC.out i k hi hk).fits dCx dCx)).mono ?_
 rintro e w5 ⟨A5,c5,rfl,hm5,hb⟩
 have O5:=oH hm5
 replace OA:=oH (OA.below hb)
 replace HMA:=oH (HMA.below hb)
 replace HB:=oH (HB.trans (hb.mono HB.size))
 clear hm5 hb OC
 go_wp2_with fail
 refine (posY (k0:=2) O5.out oMx oMx (fun i k hi hk=>by rw [Ka.sym i k hi hk,Kc.sym i k hi hk]) dCx dCx DC.out (fun k hk=>pos_sum (IsB.intM Ka.bnd) (IsB.intM Kc.bnd) Ka.sym Kc.sym Pa.out Pc.out hk) (HE.below HB.out)).mono ?_
 rintro e w6 ⟨rfl,hb⟩
 replace OA:=oH (OA.below hb)
 replace HMA:=oH (HMA.below hb)
 replace HB:=oH (HB.trans (hb.mono HB.size))
 clear hb O5 DC Kc Pc
 obtain ⟨m,hm⟩:∃ m,n=m+1:=⟨n-1,oMx⟩
 have hsub:IntKind.i64.wrap ((n:Int)-1)=(m:Int):=by rw [show (n:Int)-1=(m:Int) by omega];exact IntWalk.i64_in _ oMx
 have hca0:¬ca=0:=by omega
 have m0:(0:Int)≤(m:Int):=by omega
 have m1:(m:Int)≤(ca:Int):=by omega
 have hmn:m<n:=by omega
 clear hm
 go_wp2_with fail
 go_loopw [11,50] (fun v iv wr=>∃ i:Nat,iv = .int .i64 (i:Int)∧i≤m∧wr.ownsRow w6.heap.size 29 1 v i (zYc ((zJl m rsa).take i))∧Below w6.heap.size w6 wr) (fun _ iv _=>m-(intOf iv).toNat)
 case atStart=>exact ⟨0,rfl,oLx,World.ownsRow_nil _ _ _ _,bRx⟩
 case round =>
  obtain ⟨i,rfl,hik,hop,hbr⟩:=hrel
  obtain ⟨wi,rfl⟩:∃ w':World,w'=wr:=⟨_,rfl⟩
  obtain ⟨A6,c6,rfl, -⟩:=zUr hop
  have HOP:=oH hop
  have HBR:=oH hbr
  have hszr:=hbr.size
  clear hop hbr
  by_cases hlt2:i<m
  ·have hir:i<rsa.length:=by have:=HF.len;omega
   obtain ⟨b,off,b2,o2,rfl,hb,ead,hb2,d0, -⟩:=zRu (HMA.below HBR.out) HF.out oMx hir
   have hcpi:rsa[i].ss.length≤rsa[i].cp:=HCP.out _ (List.getElem_mem hir)
   have hrl:=HF.rowAt hir
   have ECT:=oH (show zYc ((zJl m rsa).take (i+1))=zYc ((zJl m rsa).take i)++[.slice (some ⟨b2,o2,none⟩) m rsa[i].cp] by
    rw [List.take_succ_eq_append_getElem (by rw [zJn];exact hir),zJm hir]
    unfold zYc
    rw [List.map_append]
    congr 1
    show [Value.slice rsa[i].ad (rsa[i].ss.take m).length rsa[i].cp]=_
    rw [ead,List.length_take,hrl,Nat.min_eq_left oMx])
   have hcp0:¬rsa[i].cp=0:=by omega
   have hkc:(m:Int)≤(rsa[i].cp:Int):=by omega
   generalize rsa[i].cp=cp at *
   have i1:(0:Int)≤(i:Int):=by omega
   have i3:(i:Int)<(m:Int):=by omega
   clear ead hcpi hrl
   go_wp2_with (at_builtin;refine wpList_append_own _ rfl _ _ 27 rfl w6.heap.size 29 i0 (.slice none 0 0) 1 24 Tryz.underlying27 hi hz0 hz1 hz2 rfl dCx _ _ _ rfl (HOP.alloc _) ⟨wi.heap.size,0,none⟩ 1 1 [_] rfl rfl zUd xAu (by unfold maxLen;omega) oMx (by simp;omega) ?_)
   intro v3 w3 hown3 hgrow3 _
   have HOP3:=oH (show w3.ownsRow w6.heap.size 29 1 v3 (i+1) (zYc ((zJl m rsa).take (i+1))) by rw [ECT.out];exact hown3)
   have HB3:=oH ((HBR.alloc hszr (.cells #[.slice (some ⟨b2,o2,none⟩) m cp] 29)).grown hgrow3 (by simp;omega) (fun g hg=>(HOP.lt g hg).1))
   clear hown3 hgrow3 d0
   go_wp2_with fail
   go_roundw
   case rel=>exact ⟨i+1,by go_num,oMx,HOP3.out,HB3.out⟩
   case measure=>simp [intOf];omega
  ·obtain rfl:i=m:=by omega
   have hbr:=HBR.out
   have OL:=oH (zJt (HMA.below hbr) HF.out oMx HOP.out)
   replace OA:=oH (OA.below hbr)
   replace HB:=oH (HB.trans (hbr.mono HB.size))
   have KL:=oH (show ∀ j k,j<i→k<i→zAt 2 (M j k) from fun j k hj hk=>(Ka.bnd j k oMx oMx).dig dCx dCx)
   clear hbr HMA HF HCP HOP HBR
   go_wp2_with fail
   refine (posW (k0:=2) OL.out oMx (fun j k hj hk=>Ka.sym j k oMx oMx) dCx dCx KL.out (fun k hk=>zVt Pa.out oMx hk) (HE.below HB.out)).mono ?_
   rintro e w8 ⟨rfl,hb⟩
   replace OA:=oH (OA.below hb)
   replace HB:=oH (HB.trans (hb.mono HB.size))
   clear hb OL KL
   go_wp2_with fail
   refine (decG (k0:=2) OA.out oMx oMx Ka.sym dCx dCx (fun i k hi hk=>(Ka.bnd i k hi hk).dig dCx dCx) (fun k hk=>zVt Pa.out (Nat.le_refl n) hk) (HE.below HB.out) (fun k hkn hp=>Ka.fitD oMx hkn fun t ht=>hp t oMx) (fun k i hki hi hp=>Ka.fitL oMx oMx hi hp)).mono ?_
   rintro e we ⟨U,gD,cD,rs1,rfl, -, -,ho,hb⟩
   have hbl:Below we.heap.size we (we.alloc (.cells #[.slice (some ⟨U,0,none⟩) n n,.slice (some ⟨gD,0,none⟩) n cD] 31)):=bA
   have HX:=oH (Blk.new we 31 [.slice (some ⟨U,0,none⟩) n n,.slice (some ⟨gD,0,none⟩) n cD])
   have HO:=oH (zUu ho hbl)
   have hb':=hb.trans (hbl.mono hb.size)
   replace OA:=oH (OA.below hb')
   replace HB:=oH (HB.trans (hb'.mono HB.size))
   clear ho hb hb' hbl
   go_upto_region 14 with (fail)
   generalize we.alloc (.cells #[.slice (some ⟨U,0,none⟩) n n,.slice (some ⟨gD,0,none⟩) n cD] 31)=wf at *
   generalize we.heap.size=fx at *
   go_wp2_with fail
   refine (detY OA.out Ka.out Pa.out oMx oMx).mono ?_
   rintro e wg ⟨rfl,hb⟩
   replace HX:=oH (HX.below hb)
   replace HO:=oH (zUu HO.out hb)
   replace HB:=oH (HB.trans (hb.mono HB.size))
   have FT:=oH (fun k (hk:k≤n)=>prod_fit Ka.out Pa.out oMx hk)
   have FD:=oH (fun t (ht:t<n)=>Ka.fitD oMx ht fun s hs=>Pa.out s oMx)
   have a1:=HX.at_ (i:=1) rfl
   clear hb OA Ka Pa hsub hca hca0 m0 m1
   go_wp2_with fail
   clear a1
   go_loopw [20,80] (fun pv iv wr=>∃ i:Nat,iv = .int .i64 (i:Int)∧i≤n∧pv = .string (zYj (zWb i (dD M)))∧Below wg.heap.size wg wr) (fun _ iv _=>n-(intOf iv).toNat)
   case atStart=>exact ⟨0,rfl,oLx,by rw [show zWb 0 (dD M)=1 from rfl,zYo],bRx⟩
   case round =>
    obtain ⟨j,rfl,hin,rfl,hbr⟩:=hrel
    obtain ⟨wj,rfl⟩:∃ w':World,w'=wr:=⟨_,rfl⟩
    have HBR:=oH hbr
    by_cases hlt:j<n
    ·have d1:=dTx_at (zUu HO.out hbr) hlt
     have MC:=oH (show Calls Tryz.prog 23 #[.string (zYj (zWb j (dD M))),.string (zYj (dD M j))] wj fun e w'=>e = .returned (.tuple #[.string (zYj (zWb (j+1) (dD M))),.int .i64 0])∧Below wj.heap.size wj w' from zSb (zWb j (dD M)) (dD M j) wj (FT.out j oMx) (FD.out j hlt) (FT.out (j+1) oMx))
     obtain ⟨s3,hs3⟩:∃ s,zYj (zWb (j+1) (dD M))=s:=⟨_,rfl⟩
     rw [hs3] at MC
     have HS3:=oH hs3
     generalize zYj (zWb j (dD M))=s1 at *
     generalize zYj (dD M j)=s2 at *
     have x1:(0:Int)≤(j:Int):=by omega
     have x2:(j:Int)<(n:Int):=by omega
     clear hbr hs3
     go_wp2_with fail
     refine MC.mono ?_
     rintro e wl ⟨rfl,hb⟩
     have HBR2:=oH (HBR.trans (hb.mono HBR.size))
     clear hb d1 MC HBR
     go_wp2_with fail
     go_roundw
     case rel=>exact ⟨j+1,by go_num,oMx,by rw [HS3.out],HBR2.out⟩
     case measure=>simp [intOf];omega
    ·obtain rfl:j=n:=by omega
     replace HB:=oH (HB.trans (hbr.mono HB.size))
     clear hbr FT FD
     generalize zYj (zWb j (dD M))=s3 at *
     go_wp2_with fail
     refine (Sane4 _ (HE.below HB.out)).mono ?_
     rintro e wz ⟨rfl,hb⟩
     have HBX:=oH (HB.trans (hb.mono HB.size))
     clear hb
     go_wp2_with fail
     go_ret
     exact ⟨rfl,HBX.out⟩
end Go.Proofs.YtfjjcoggoomlbaaGreatDoor
