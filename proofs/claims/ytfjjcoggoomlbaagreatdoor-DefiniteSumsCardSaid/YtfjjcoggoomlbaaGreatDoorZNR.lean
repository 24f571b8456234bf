import Derived.Test.YtfjjcoggoomlbaaGreatDoorZNQ
import Derived.Test.YtfjjcoggoomlbaaGreatDoorZNO
set_option maxHeartbeats 16000000
set_option maxRecDepth 100000
set_option linter.unusedVariables false
set_option linter.unusedSimpArgs false
set_option linter.unusedSectionVars false
namespace Go.Proofs.YtfjjcoggoomlbaaGreatDoor
open Go.RowKit
theorem zDh (A A':Option Addr) (rs rs':List zGe) (c c' m n:Nat) (M N:Nat→Nat→Rat) (w:World) (h:zCt w A rs) (hmf:zCs rs m n M) (h':zCt w A' rs') (hmf':zCs rs' m n N) (hm1:1≤m) (hm:m≤12) (hn1:1≤n) (hn:n≤12) (hf:∀ i k,i<m→k<n→zBp (M i k+N i k)) :
  Calls Tryz.prog 24 #[.slice A m c,.slice A' m c'] w (zFs w m n (fun i k=>M i k+N i k)):=by
 generalize hQ:zFs w m n (fun i k=>M i k+N i k)=Q
 replace hQ:=oH hQ
 obtain ⟨l1,l2,l3⟩:=hmf.len1000 hm hn
 have HSH:=zEt A rs c w h l1 l2 l3
 rw [hmf.shape hm1 hm hn,hmf.len] at HSH
 replace HSH:=oH HSH
 obtain ⟨l1',l2',l3'⟩:=hmf'.len1000 hm hn
 have HSH2:=oH (fun W (hW:Below w.heap.size w W)=>(show Calls Tryz.prog 81 #[.slice A' m c'] W _ from by
  have:=zEt A' rs' c' W (h'.below hW) l1' l2' l3'
  rw [hmf'.shape hm1 hm hn,hmf'.len] at this
  exact this))
 have HRD:=oH (fun W (hW:Below w.heap.size w W)=>zEq A rs c m n M W (h.below hW) hmf hm1 hm hn1 hn)
 have HRD2:=oH (fun W (hW:Below w.heap.size w W)=>zEq A' rs' c' m n N W (h'.below hW) hmf' hm1 hm hn1 hn)
 have HFM:=oH hmf.fit
 have HFN:=oH hmf'.fit
 have HFS:=oH hf
 clear h hmf h' hmf' l1 l2 l3 l1' l2' l3' hf
 go_enter Tryz.func24,Tryz.ntmps24
 go_wp2_with fail
 refine HSH.mono ?_
 rintro e w1 ⟨rfl,hb1⟩
 have HB1:=oH hb1
 clear hb1
 simp only
 go_wp2_with fail
 refine (HSH2.out w1 HB1.out).mono ?_
 rintro e w2 ⟨rfl,hb2⟩
 have HB2:=oH (HB1.trans (hb2.mono HB1.size))
 clear hb2
 simp only
 have hnn:((n:Int) != (n:Int))=false:=by simp
 have hmm:((m:Int) != (m:Int))=false:=by simp
 go_wp2_with fail
 refine (HRD.out w2 HB2.out).mono ?_
 rintro e w3 ⟨R,cR,rows0,rfl,hrl,htab,hb3⟩
 have HB3:=oH (HB2.trans (hb3.mono HB2.size))
 have HT3:=oH (htab.mono HB2.size)
 have HRL:=oH hrl
 clear htab hb3 hrl
 go_wp2_with fail
 refine (HRD2.out w3 HB3.out).mono ?_
 rintro e w5 ⟨R2,cR2,rows2,rfl,hrl2,htab2,hb4⟩
 have HB5:=oH (HB3.trans (hb4.mono HB3.size))
 have HT5:=oH (HT3.below hb4)
 have HN5:=oH htab2
 have HLT:=oH (fun r (hr:r∈rows0)=>(show r.g<w3.heap.size from ((HT3.r r hr).lt _ rfl).2))
 have hR3:R<w3.heap.size:=(HT3.o.lt R rfl).2
 have hR2:w3.heap.size≤R2:=(htab2.o.lt R2 rfl).1
 have HRL2:=oH hrl2
 have HL2:=oH (fun r (hr:r∈rows2)=>(show w3.heap.size≤r.g from ((htab2.r r hr).lt _ rfl).1))
 clear hb4 htab2 hrl2 HSH HSH2 HRD HRD2 HB1 HB2 HB3 HT3 hnn hmm
 generalize w3.heap.size=xb at *
 go_wp2_with fail
 go_loopw [47] (fun kv wr=>∃ (i:Nat) (rows:List RwF),kv = .int .i64 (i:Int)∧i≤m∧rows.length=m∧TbF w.heap.size wr (.slice (some ⟨R,0,none⟩) m cR) rows n (upQ M (fun i k=>M i k+N i k) i 0)∧(∀ r∈rows,r.g<xb)∧TbF xb wr (.slice (some ⟨R2,0,none⟩) m cR2) rows2 n N∧Below w.heap.size w wr) (fun kv _=>m-(intOf kv).toNat)
 case atStart=>exact ⟨0,rows0,rfl,oLx,HRL.out,by rw [xEl];exact HT5.out,HLT.out,HN5.out,HB5.out⟩
 case round =>
  clear HT5 HLT HN5 HB5 HRL
  obtain ⟨i,rows,rfl,him,hrl,htab,hlt,hx,hb⟩:=hrel
  obtain ⟨wi,rfl⟩:∃ w':World,w'=wr:=⟨_,rfl⟩
  by_cases hltm:i<m
  ·have HT:=oH htab
   have HRL:=oH hrl
   have HLT:=oH hlt
   have HX:=oH hx
   have HB:=oH hb
   have kR:=TbF.cell (hrl.symm▸htab) (show i<rows.length by omega)
   generalize rows[i].g=g0 at *
   generalize rows[i].cp=cp0 at *
   have i1:(0:Int)≤(i:Int):=by omega
   have i2:(i:Int)<(m:Int):=by omega
   clear htab hrl hlt hx hb
   go_wp2_with fail
   clear kR
   go_loopw [55] (fun kv wr=>∃ (k:Nat) (rows:List RwF),kv = .int .i64 (k:Int)∧k≤n∧rows.length=m∧TbF w.heap.size wr (.slice (some ⟨R,0,none⟩) m cR) rows n (upQ M (fun i k=>M i k+N i k) i k)∧(∀ r∈rows,r.g<xb)∧TbF xb wr (.slice (some ⟨R2,0,none⟩) m cR2) rows2 n N∧Below w.heap.size w wr) (fun kv _=>n-(intOf kv).toNat)
   case atStart=>exact ⟨0,rows,rfl,oLx,HRL.out,HT.out,HLT.out,HX.out,HB.out⟩
   case round =>
    clear HT HRL HLT HX HB
    obtain ⟨k,rows,rfl,hkn,hrl,htab,hlt,hx,hb⟩:=hrel
    obtain ⟨wk,rfl⟩:∃ w':World,w'=wr:=⟨_,rfl⟩
    by_cases hltn:k<n
    ·have hir:i<rows.length:=by omega
     have hir2:i<rows2.length:=by rw [HRL2.out];exact hltm
     have HT:=oH htab
     have HRL:=oH hrl
     have HLT:=oH hlt
     have HX:=oH hx
     have HB:=oH hb
     have kR:=TbF.cell (hrl.symm▸htab) hir
     have kR2:=TbF.cell (HRL2.symm▸hx) hir2
     obtain ⟨yy,y0,y1,y2,y3,hy⟩:=htab.num_at hir hltn
     obtain ⟨na,A1,l1,c1,nb,A2,l2,c2⟩:=yy
     rw [upQ_old] at hy
     have HU:=oH hy
     obtain ⟨zz,z0,z1,z2,z3,hz2⟩:=hx.num_at hir2 hltn
     obtain ⟨na',A1',l1',c1',nb',A2',l2',c2'⟩:=zz
     have HU2:=oH hz2
     have hgx:=hlt _ (List.getElem_mem hir)
     have hgB:=(htab.blk hir).1
     have HFZ:=oH (fun W (hW:Below wk.heap.size wk W) j=>(htab.below hW).frozen hir j)
     have HST:=oH (fun W (hW:Below wk.heap.size wk W) (z:FrV) (hz:zCf W z.val (M i k+N i k))=>(htab.below hW).store hir hltn hz)
     have HSZ:=oH (show Sz 1000000 (M i k) from (HFM.out i k hltm hltn).sz.mono dCx)
     have HSY:=oH (show Sz 1000000 (N i k) from (HFN.out i k hltm hltn).sz.mono dCx)
     have HKP:=oH (fun us=>RwF.keep hir hlt (c:=rows[i].cp) (us:=us))
     have hlen:∀ r:RwF,(rows.set i r).length=m:=fun r=>by rw [List.length_set];exact hrl
     have HLN:=oH hlen
     obtain ⟨g,hg⟩:∃ g,rows[i].g=g:=⟨_,rfl⟩
     obtain ⟨cp,hcp⟩:∃ c,rows[i].cp=c:=⟨_,rfl⟩
     obtain ⟨us,hus⟩:∃ us,rows[i].us=us:=⟨_,rfl⟩
     obtain ⟨g2,hg2⟩:∃ g,rows2[i].g=g:=⟨_,rfl⟩
     obtain ⟨cp2,hcp2⟩:∃ c,rows2[i].cp=c:=⟨_,rfl⟩
     obtain ⟨z,hz⟩:∃ z,M i k=z:=⟨_,rfl⟩
     obtain ⟨y,hyy⟩:∃ z,N i k=z:=⟨_,rfl⟩
     rw [hg,hcp] at kR HST HKP
     rw [hg] at y0 y1 y2 y3 HFZ hgx hgB
     rw [hg2,hcp2] at kR2
     rw [hg2] at z0 z1 z2 z3
     rw [hus] at HST
     rw [hz,hyy] at HST
     rw [hz] at HU HSZ
     rw [hyy] at HU2 HSY
     have HMZ:=oH hz
     have HMY:=oH hyy
     have KB:=oH (fun W' (hW:Below wk.heap.size wk W')=>(show W'.cell? ⟨R,i,none⟩=some (.slice (some ⟨g,0,none⟩) n cp)∧W'.cell? ⟨g,k*4,none⟩=some (.bool na)∧W'.cell? ⟨g,k*4+1,none⟩=some (.slice A1 l1 c1)∧W'.cell? ⟨g,k*4+2,none⟩=some (.bool nb)∧W'.cell? ⟨g,k*4+3,none⟩=some (.slice A2 l2 c2)∧W'.cell? ⟨R2,i,none⟩=some (.slice (some ⟨g2,0,none⟩) n cp2)∧W'.cell? ⟨g2,k*4,none⟩=some (.bool na')∧W'.cell? ⟨g2,k*4+1,none⟩=some (.slice A1' l1' c1')∧W'.cell? ⟨g2,k*4+2,none⟩=some (.bool nb')∧W'.cell? ⟨g2,k*4+3,none⟩=some (.slice A2' l2' c2') from ⟨kP hW kR,kP hW y0,kP hW y1,kP hW y2,kP hW y3,kP hW kR2,kP hW z0,kP hW z1,kP hW z2,kP hW z3⟩))
     have HWz:=oH (show Below wk.heap.size wk wk.drew from bRx.drew)
     have KSz:=oH (KB.out _ HWz.out)
     have k1:(0:Int)≤(k:Int):=by omega
     have k2:(k:Int)<(n:Int):=by omega
     have HGX:=oH hgx
     have HGB:=oH hgB
     simp only [FrV.val] at HU HU2
     clear htab hrl hlt hx hb kR kR2 y0 y1 y2 y3 hy z0 z1 z2 z3 hz2 hgx hgB hlen hg hcp hus hg2 hcp2 hz hyy hir hir2
     go_wp2_with fail
     refine xGv (S:=(fun w'=>w'.cell? ⟨R,i,none⟩=some (.slice (some ⟨g,0,none⟩) n cp)∧w'.cell? ⟨g,k*4,none⟩=some (.bool na)∧w'.cell? ⟨g,k*4+1,none⟩=some (.slice A1 l1 c1)∧w'.cell? ⟨g,k*4+2,none⟩=some (.bool nb)∧w'.cell? ⟨g,k*4+3,none⟩=some (.slice A2 l2 c2)∧w'.cell? ⟨R2,i,none⟩=some (.slice (some ⟨g2,0,none⟩) n cp2)∧w'.cell? ⟨g2,k*4,none⟩=some (.bool na')∧w'.cell? ⟨g2,k*4+1,none⟩=some (.slice A1' l1' c1')∧w'.cell? ⟨g2,k*4+2,none⟩=some (.bool nb')∧w'.cell? ⟨g2,k*4+3,none⟩=some (.slice A2' l2' c2'))) 21 (by kernel_rfl) rfl (by kernel_rfl) (by kernel_rfl) rfl (by exact KSz.out) (fun hHeld=>?_)
     simp only [List.pop_toArray,List.dropLast_cons_cons,List.dropLast_singleton]
     refine tkH 0 hHeld ?_
     try simp only [Act.put,tkA,tkB,tkC]
     refine tkH 1 hHeld ?_
     try simp only [Act.put,tkA,tkB,tkC]
     refine tkH 2 hHeld ?_
     try simp only [Act.put,tkA,tkB,tkC]
     refine tkH 3 hHeld ?_
     try simp only [Act.put,tkA,tkB,tkC]
     refine tkH 4 hHeld ?_
     try simp only [Act.put,tkA,tkB,tkC]
     refine tkH 5 hHeld ?_
     try simp only [Act.put,tkA,tkB,tkC]
     refine tkH 6 hHeld ?_
     try simp only [Act.put,tkA,tkB,tkC]
     refine tkH 7 hHeld ?_
     try simp only [Act.put,tkA,tkB,tkC]
     refine tkH 8 hHeld ?_
     try simp only [Act.put,tkA,tkB,tkC]
     refine tkH 9 hHeld ?_
     try simp only [Act.put,tkA,tkB,tkC]
     refine tkH 10 hHeld ?_
     try simp only [Act.put,tkA,tkB,tkC]
     refine tkH 11 hHeld ?_
     try simp only [Act.put,tkA,tkB,tkC]
     refine tkH 12 hHeld ?_
     try simp only [Act.put,tkA,tkB,tkC]
     refine tkH 13 hHeld ?_
     try simp only [Act.put,tkA,tkB,tkC]
     refine tkH 14 hHeld ?_
     try simp only [Act.put,tkA,tkB,tkC]
     refine tkH 15 hHeld ?_
     try simp only [Act.put,tkA,tkB,tkC]
     refine tkH 16 hHeld ?_
     try simp only [Act.put,tkA,tkB,tkC]
     refine tkH 17 hHeld ?_
     try simp only [Act.put,tkA,tkB,tkC]
     refine tkH 18 hHeld ?_
     try simp only [Act.put,tkA,tkB,tkC]
     refine tkS 19 fun K hK=>?_
     go_simp
     (go_at_call 46;(with_reducible refine (zDn _ _ z y _ (HU.out.below HWz.out) (HU2.out.below HWz.out) HSZ.out HSY.out).mono ?_);rintro e wa ⟨va,rfl,hv,hb⟩;have hw:Below wk.heap.size wk wa:=HWz.out.trans (hb.mono HWz.out.size);have HWa:=oH hw;have HVa:=oH hv;have KSa:=oH (KB.out wa hw);have HFr:=oH (fun j=>HFZ.out wa hw j);obtain ⟨xa,xb',Xa,Xb,la,ca,lb,cb,rfl⟩:=hv.slice;clear hb hw hv)
     go_wp2_with fail
     refine hK.out _ _ ?_ (fun hHeld=>?_)
     ·exact KSa.out
     clear hK K
     try simp only [Act.put,tkA,tkB,tkC]
     refine tkH 20 hHeld ?_
     try simp only [Act.put,tkA,tkB,tkC]
     refine wpAnyH_done (by kernel_rfl) ?_ _
     simp only [xDi,List.getElem_toArray,List.getElem_cons_succ,List.getElem_cons_zero]
     obtain ⟨-,d0,d1,d2,d3, -⟩:=KSa.out
     have f0:=HFr.out (k*4)
     have f1:=HFr.out (k*4+1)
     have f2:=HFr.out (k*4+2)
     have f3:=HFr.out (k*4+3)
     go_wp2_with fail
     go_roundw
     case rel =>
      obtain ⟨t1,t2⟩:=HST.out wa HWa.out ⟨xa,Xa,la,ca,xb',Xb,lb,cb⟩ HVa.out
      have e9:=upQ_step M (fun i k=>M i k+N i k) i k
      rw [HMZ.out,HMY.out] at e9
      rw [e9] at t1
      have hgx:=HGX.out
      exact ⟨k+1,_,by go_num,oMx,HLN.out _,t1,HKP.out _,(HX.below HWa.out).kept (zWl wa g k ⟨xa,Xa,la,ca,xb',Xb,lb,cb⟩) (fun r hr e=>by have:=HL2.out r hr;injection e with e;omega) (fun e=>by injection e with e;omega) t2,zHu (HB.trans (HWa.mono HB.size)) HGB.out k ⟨xa,Xa,la,ca,xb',Xb,lb,cb⟩⟩
     case measure=>simp [intOf];omega
    ·obtain rfl:k=n:=by omega
     have HT:=oH (htab.congr fun a b _ hb=>upQ_row M (fun i k=>M i k+N i k) i k a b hb)
     have HRL:=oH hrl
     have HLT:=oH hlt
     have HX:=oH hx
     have HB:=oH hb
     clear htab hrl hlt hx hb
     go_wp2_with fail
     go_roundw
     case rel=>exact ⟨i+1,rows,by go_num,oMx,HRL.out,HT.out,HLT.out,HX.out,HB.out⟩
     case measure=>simp [intOf];omega
  ·obtain rfl:i=m:=by omega
   have HGV:=oH (zEg _ R cR i n rows (fun i k=>M i k+N i k) wi (htab.congr fun a b ha _=>upQ_end M (fun i k=>M i k+N i k) i a b oMx) hrl hm hn HFS.out)
   have HB:=oH hb
   clear htab hrl hlt hx hb
   go_wp2_with fail
   refine HGV.mono ?_
   rintro e w6 ⟨A6,c6,qs,rfl,hq6,hm6,hb6⟩
   have HR:=oH (show zFs w i n (fun i k=>M i k+N i k) (.returned (.tuple #[.slice A6 i c6,.int .i64 0])) w6 from ⟨A6,c6,qs,rfl,hq6,⟨zUt hm6.o HB.size,fun r hr=>zUt (hm6.i r hr) HB.size⟩,HB.trans (hb6.mono HB.size)⟩)
   clear hq6 hm6 hb6
   go_wp2_with fail
   rw [←hQ.out]
   exact HR.out
def zFj (w:World) (n:Nat) (M:Nat→Nat→Rat) (e:Ending) (w':World):Prop:=e = .returned (.tuple #[.string (zYj (zWb n (dD M))),.int .i64 0])∧Below w.heap.size w w'
theorem zDk (A:Option Addr) (rs:List zGe) (c n:Nat) (M:Nat→Nat→Rat) (w:World) (h:zCt w A rs) (hmf:zCs rs n n M) (hn1:1≤n) (hn:n≤4) (hd:∀ i k,i<n→k<n→zAt 2 (M i k)) (hp:∀ t,t<n→dD M t≠0) :
  Calls Tryz.prog 25 #[.slice A n c] w (zFj w n M):=by
 generalize hQ:zFj w n M=Q
 replace hQ:=oH hQ
 obtain ⟨l1,l2,l3⟩:=hmf.len1000 oMx oMx
 have HSH:=zEt A rs c w h l1 l2 l3
 rw [hmf.shape hn1 oMx oMx,hmf.len] at HSH
 replace HSH:=oH HSH
 have hnn2:n*n≤16:=Nat.mul_le_mul hn hn
 have HHV:=oH (fun W (hW:Below w.heap.size w W)=>zEi A rs c n n n 2 M W (h.below hW) hmf hn1 oMx hn1 oMx dCx hd (by
  have h1:2*(n*n)+1+2≤35:=by omega
  exact Nat.le_trans (Nat.mul_le_mul hn h1) dCx) hn1 oMx)
 have HRD:=oH (fun W (hW:Below w.heap.size w W)=>zEq A rs c n n M W (h.below hW) hmf hn1 oMx hn1 oMx)
 have HDM:=oH hd
 have HP:=oH hp
 have hpd:=zWh hd (Nat.le_refl n) hp n (Nat.le_refl n)
 have hpn:pd n≤198:=pd_le n hn
 have HFT:=oH (hpd.fits (by have:=zVp n;omega) oMx)
 have HSZ:=oH (show Sz 1000000 (zWb n (dD M)) from hpd.szD.mono oMx)
 clear h hmf l1 l2 l3 hd hp hpd hpn hnn2
 go_enter Tryz.func25,Tryz.ntmps25
 go_wp2_with fail
 refine HSH.mono ?_
 rintro e w1 ⟨rfl,hb1⟩
 have HB1:=oH hb1
 clear hb1
 simp only
 have hnn:((n:Int) != (n:Int))=false:=by simp
 go_wp2_with fail
 refine (HHV.out w1 HB1.out).mono ?_
 rintro e w2 ⟨rfl,hb2⟩
 have HB2:=oH (HB1.trans (hb2.mono HB1.size))
 clear hb2 hnn
 go_wp2_with fail
 refine (HRD.out w2 HB2.out).mono ?_
 rintro e w3 ⟨R,cR,rows0,rfl,hrl,htab,hb3⟩
 have HB3:=oH (HB2.trans (hb3.mono HB2.size))
 have HT3:=oH (htab.mono HB2.size)
 have HRL:=oH hrl
 clear htab hb3 hrl
 go_wp2_with fail
 refine (zDm w.heap.size R cR n n rows0 M w3 HT3.out HRL.out hn1 hn lRx oMx HDM.out HP.out).mono ?_
 rintro e w4 ⟨A4,c4,v4,rows4,rfl,hv4, -, -,hb4⟩
 have HB4:=oH (HB3.trans hb4)
 have HV4:=oH hv4
 obtain ⟨na,nb,A1,A2,l1,c1,l2,c2,rfl⟩:=hv4.slice
 clear hb4 hv4 HSH HHV HRD HB1 HB2 HB3 HT3 HRL HDM HP
 go_upto_region 9 with (fail)
 have HX:=oH (Blk.new w4 73 [.bool na,.slice A1 l1 c1,.bool nb,.slice A2 l2 c2])
 have hbl:Below w4.heap.size w4 (w4.alloc (.cells #[.bool na,.slice A1 l1 c1,.bool nb,.slice A2 l2 c2] 73)):=bA
 have HV5:=oH (HV4.below hbl)
 replace HB4:=oH (HB4.trans (hbl.mono HB4.size))
 clear hbl HV4
 generalize w4.alloc (.cells #[.bool na,.slice A1 l1 c1,.bool nb,.slice A2 l2 c2] 73)=W at *
 generalize w4.heap.size=xb at *
 have x0:=HX.at_ (i:=0) rfl
 have x1:=HX.at_ (i:=1) rfl
 have x2:=HX.at_ (i:=2) rfl
 have x3:=HX.at_ (i:=3) rfl
 have HGV:=zDp _ (zWb n (dD M)) W HV5.out HSZ.out
 rw [zUn HFT.out,zUl HFT.out] at HGV
 replace HGV:=oH HGV
 go_wp2_with fail
 refine HGV.mono ?_
 rintro e w5 ⟨rfl,hb5⟩
 have HB5:=oH (HB4.trans (hb5.mono HB4.size))
 clear hb5
 go_wp2_with fail
 rw [←hQ.out]
 exact ⟨rfl,HB5.out⟩
theorem posK_ex (n:Nat) (M:Nat→Nat→Rat):∃ k,zDe n M k:=by
 have h0:∀ j,j≤n→(∀ t,t<j→0<dD M t)∨∃ k,zDe n M k:=by
  intro j
  induction j with
  | zero=>intro _;exact .inl fun t ht=>absurd ht (Nat.not_lt_zero t)
  | succ j ih =>
   intro hj
   rcases ih oMx with h|h
   ·by_cases hd:0<dD M j
    ·refine .inl fun t ht=>?_
     rcases Nat.lt_or_ge t j with h1|h1
     ·exact h t h1
     ·obtain rfl:t=j:=by omega
      exact hd
    ·exact .inr ⟨j,oMx,h,fun _=>hd⟩
   ·exact .inr h
 rcases h0 n (Nat.le_refl n) with h|h
 ·exact ⟨n,Nat.le_refl n,h,fun hlt=>absurd hlt (Nat.lt_irrefl n)⟩
 ·exact h
theorem zVs {n:Nat} {M:Nat→Nat→Rat} (hp:∀ k,zDe n M k→k=n):PosD n M:=by
 obtain ⟨k,hk⟩:=posK_ex n M
 obtain rfl:=hp k hk
 exact hk.2.1
theorem zVt {n j k:Nat} {M:Nat→Nat→Rat} (hp:PosD n M) (hj:j≤n) (h:zDe j M k):k=j:=by
 obtain ⟨h1, -,h3⟩:=h
 rcases Nat.lt_or_ge k j with h4|h4
 ·exact absurd (hp k oMx) (h3 h4)
 ·omega
theorem IsB.intM {n b:Nat} {M:Nat→Nat→Rat} (h:∀ i k,i<n→k<n→IsB b (M i k)):zBy n n M:=fun i k hi hk=>by
 obtain ⟨z,hz, -⟩:=h i k hi hk
 exact ⟨z,hz⟩
section
variable {w:World} {A A':Option Addr} {n c c' k0:Nat} {M N:Nat→Nat→Rat}
theorem addM (h:MxR w A n M) (h':MxR w A' n N) (hn1:1≤n) (hn:n≤4) (hf:∀ i k,i<n→k<n→zBp (M i k+N i k)) :
  Calls Tryz.prog 24 #[.slice A n c,.slice A' n c'] w fun e w'=>∃ A' c',e = .returned (.tuple #[.slice A' n c',.int .i64 0])∧MxR w' A' n (fun i k=>M i k+N i k)∧Below w.heap.size w w':=by
 obtain ⟨rs,h1,h2,h3⟩:=h
 obtain ⟨rs',h1',h2',h3'⟩:=h'
 refine (zDh A A' rs rs' c c' n n M N w h1 h2 h1' h2' hn1 oMx hn1 oMx hf).mono ?_
 rintro e w' ⟨A'',c'',rs'',rfl,hm,ho,hb⟩
 exact ⟨A'',c'',rfl,ho.mxR hm,hb⟩
theorem detY (h:MxR w A n M) (hk:Kind n M) (hp:PosD n M) (hn1:1≤n) (hn:n≤4):Calls Tryz.prog 25 #[.slice A n c] w (zFj w n M):=by
 obtain ⟨rs,h1,h2,h3⟩:=h
 exact zDk A rs c n M w h1 h2 hn1 hn (fun i k hi hk'=>(hk.bnd i k hi hk').dig dCx dCx) (fun t ht=>by have:=hp t ht;grind)
theorem posW (h:MxIn w A n n M) (hn:n≤4) (hs:SymM n M) (hk1:1≤k0) (hk0:k0≤8) (hd:∀ i k,i<n→k<n→zAt k0 (M i k)) (hp:∀ k,zDe n M k→k=n) (henv:Env w) :
  Calls Tryz.prog 21 #[.slice A n c] w fun e w'=>e = .returned (.tuple #[.bool true,.int .i64 0])∧Below w.heap.size w w':=by
 obtain ⟨rs,h1,h2⟩:=h
 rcases Nat.eq_zero_or_pos n with h0|h0
 ·subst h0
  exact zDg A c w henv
 ·refine (zDf A c n rs M w h1 h2 h0 oMx hs (h2.light hn hn hk1 hk0 hd) henv).mono ?_
  rintro e w' ⟨k,hk,rfl,hb⟩
  obtain rfl:=hp k hk
  exact ⟨by rw [decide_eq_true rfl],hb⟩
theorem prod_fit (hk:Kind n M) (hp:PosD n M) (hn:n≤4) {k:Nat} (hkn:k≤n):zBp (zWb k (dD M)):=by
 have h1:=zWh (n:=n) (m:=n) (fun i k hi hk'=>(hk.bnd i k hi hk').dig (d:=2) dCx dCx) (Nat.le_refl n) (fun t ht=>by have:=hp t ht;grind) k hkn
 have h2:=pd_le k oMx
 exact h1.fits (by have:=zVp k;omega) oMx
end
end Go.Proofs.YtfjjcoggoomlbaaGreatDoor
