import Derived.Test.YtfjjcoggoomlbaaGreatDoorZMK
set_option maxHeartbeats 16000000
set_option maxRecDepth 100000
set_option linter.unusedVariables false
set_option linter.unusedSimpArgs false
set_option linter.unusedSectionVars false
namespace Go.Proofs.YtfjjcoggoomlbaaGreatDoor
open Go.RowKit
def zGw (s:ByteArray):Prop:=∃ z:Int,s=zYj (z:Rat)∧z.natAbs≤3
theorem zRj {rs:List zGe} {m n:Nat} (hl:rs.length=m) (hr:∀ r∈rs,r.ss.length=n) (ht:∀ r∈rs,∀ s∈r.ss,∃ q,s=zYj q∧zBp q):zCs rs m n (zRn rs):=by
 have key:∀ i k,(hi:i<rs.length)→(hk:k<rs[i].ss.length)→rs[i].ss[k]=zYj (zRn rs i k)∧zBp (zRn rs i k):=fun i k hi hk=>by
  obtain ⟨q,e,hf⟩:=ht _ (List.getElem_mem hi) _ (List.getElem_mem hk)
  rw [zRo hi hk,e,xEs hf]
  exact ⟨rfl,hf⟩
 refine ⟨hl,hr,fun i k hi hk=>(key i k hi hk).1,fun i k hi hk=>?_⟩
 have hi':i<rs.length:=by omega
 exact (key i k hi' (by rw [hr _ (List.getElem_mem hi')];exact hk)).2
theorem xDr {s:ByteArray} (h:zGw s):∃ q,s=zYj q∧zBp q:=by
 obtain ⟨z,e,hz⟩:=h
 exact ⟨z,e,(zAt.ofInt (d:=1) (by unfold Dig;omega) dCx).fits dCx dCx⟩
theorem thin_q {rs:List zGe} {m n:Nat} (hl:rs.length=m) (hr:∀ r∈rs,r.ss.length=n) (ht:∀ r∈rs,∀ s∈r.ss,zGw s):∀ i k,i<m→k<n→∃ z:Int,zRn rs i k=z∧z.natAbs≤3:=fun i k hi hk=>by
 have hi':i<rs.length:=by omega
 have hk':k<rs[i].ss.length:=by rw [hr _ (List.getElem_mem hi')];exact hk
 obtain ⟨z,e,hz⟩:=ht _ (List.getElem_mem hi') _ (List.getElem_mem hk')
 refine ⟨z,?_,hz⟩
 rw [zRo hi' hk',e,xEs ((zAt.ofInt (d:=1) (by unfold Dig;omega) dCx).fits dCx dCx)]
def xDs:List Int:=[0,0,1,2, -1,3]
theorem xDt (i:Nat):(xDs.getD i 0).natAbs≤3:=by
 by_cases h:i<xDs.length
 ·have:∀ s∈xDs,s.natAbs≤3:=by decide
  rw [List.getD_eq_getElem?_getD,List.getElem?_eq_getElem h]
  exact this _ (List.getElem_mem h)
 ·rw [List.getD_eq_getElem?_getD,List.getElem?_eq_none oMx]
  decide
def zGa (w:World) (b m n:Nat) (e:Ending) (w':World):Prop:=∃ (v:Value) (rs:List zGe),e = .returned v∧rs.length=m∧(∀ r∈rs,r.ss.length=n∧∀ s∈r.ss,zGw s)∧zCu w.heap.size w' v rs∧Src w' b∧w.grownBy w' (some b)
theorem Thin_any (b m n:Nat) (w:World) (hs:Src w b) (hm:m≤1000) (hn:n≤1000) (hn1:1≤n∨m=0):Calls Tryz.prog 32 #[.pointer (some ⟨b,0,none⟩),.int .i64 (m:Int),.int .i64 (n:Int)] w (zGa w b m n):=by
 obtain ⟨i0,hi,hz0,hz1,hz2⟩:=info_parts Tryz.infoRats
 obtain ⟨j0,hj,hy0,hy1,hy2⟩:=info_parts Tryz.infoRat
 have HPK:=oH (fun (W:World) (g:Nat) (hW:Blk W g 3 (xDs.map (Value.int .i64))) (hS:Src W b) (hg:g≠b)=>Pick_any b g 6 (fun i=>xDs.getD i 0) W hS (fun i hi=>by
  rw [hW.cell,List.getElem?_map,List.getD_eq_getElem?_getD,List.getElem?_eq_getElem (show i<xDs.length from hi)];rfl) hg hW.lt oMx oMx)
 generalize hQ:zGa w b m n=Q
 replace hQ:=oH hQ
 have HS:=oH hs
 have hbw:=hs.lt
 clear hs
 go_enter Tryz.func32,Tryz.ntmps32
 go_wp2_with fail
 go_loopw [7,8] (fun v iv wr=>∃ (rs:List zGe),iv = .int .i64 (rs.length:Int)∧rs.length≤m∧(∀ r∈rs,r.ss.length=n∧∀ s∈r.ss,zGw s)∧zCu w.heap.size wr v rs∧Src wr b∧w.grownBy wr (some b)) (fun _ iv _=>m-(intOf iv).toNat)
 case atStart=>exact ⟨[],rfl,oLx,fun r hr=>(by simp at hr),zCu.zero _ _,HS.out,⟨rfl,rfl,rfl,lRx,fun _ _ _=>rfl⟩⟩
 case round =>
  obtain ⟨rs,rfl,hrm,hrt,hown,hsr,hgr⟩:=hrel
  obtain ⟨wk,rfl⟩:∃ wk:World,wk=wr:=⟨_,rfl⟩
  obtain ⟨AV,cV,rfl, -⟩:=zUr hown.o
  have HRT:=oH hrt
  have HOWN:=oH hown
  have HSR:=oH hsr
  have HGR:=oH hgr
  have hsz:=hgr.size
  clear hrt hown hsr hgr
  by_cases hlt:rs.length<m
  ·have hn2:1≤n:=by omega
   go_upto_region 5 with (fail)
   go_cut [22] (fun c wc=>∃ bb:Bool,c = .bool bb∧(bb=true→0<rs.length)∧zCu w.heap.size wc (.slice AV rs.length cV) rs∧Src wc b∧w.grownBy wc (some b))
   case first =>
    by_cases h0:0<rs.length
    ·have hx:(0:Int)<(rs.length:Int):=by omega
     go_wp2_with fail
     refine (N_any b 4 wk HSR.out dCx dCx).mono ?_
     rintro e w2 ⟨r,rfl,hr,hs2,hg2⟩
     have HS2:=oH hs2
     have HG2:=oH (zNw HGR.out hg2)
     have HM2:=oH (HOWN.grown hg2 hbw)
     clear hs2 hg2
     obtain ⟨bb,hbb⟩:∃ bb:Bool,((r:Int)==3)=bb:=⟨_,rfl⟩
     go_wp2_with fail
     go_meet
     exact ⟨_,rfl,fun _=>h0,HM2.out,HS2.out,HG2.out⟩
    ·have hx:¬(0:Int)<(rs.length:Int):=by omega
     go_wp2_with fail
     go_meet
     exact ⟨false,rfl,fun e=>(by cases e),HOWN.out,HSR.out,HGR.out⟩
   case rest =>
    obtain ⟨bb,rfl,hb0,hown,hsr,hgr⟩:=hcut
    obtain ⟨wd,rfl⟩:∃ wd:World,wd=wc:=⟨_,rfl⟩
    clear HOWN HSR HGR
    have HOWN:=oH hown
    have HSR:=oH hsr
    have HGR:=oH hgr
    have hszd:=hgr.size
    clear hown hsr hgr
    cases bb
    ·clear hb0
     go_wp2_with fail
     go_loopw [9,10] (fun v kv wr=>∃ (ss:List ByteArray),kv = .int .i64 (ss.length:Int)∧ss.length≤n∧(∀ s∈ss,zGw s)∧wr.ownsRow wd.heap.size 39 1 v ss.length (sv ss)∧Src wr b∧wd.grownBy wr (some b)) (fun _ kv _=>n-(intOf kv).toNat)
     case atStart=>exact ⟨[],rfl,oLx,by simp,World.ownsRow_nil _ _ _ _,HSR.out,World.grownBy.refl _ _⟩
     case round =>
      obtain ⟨ss,rfl,hsn,hst,hown,hsr,hgr⟩:=hrel
      obtain ⟨wq,rfl⟩:∃ wq:World,wq=wr:=⟨_,rfl⟩
      have HST:=oH hst
      have HO:=oH hown
      have HSQ:=oH hsr
      have HGQ:=oH hgr
      have hszq:=hgr.size
      have hbd:=hsr.lt
      by_cases hlt2:ss.length<n
      ·clear hst hown hsr hgr
       have hbl:Below wq.heap.size wq (wq.alloc (.cells #[.int .i64 0,.int .i64 0,.int .i64 1,.int .i64 2,.int .i64 (-1),.int .i64 3] 3)):=bA
       have HPP:=oH (HPK.out (wq.alloc (.cells #[.int .i64 0,.int .i64 0,.int .i64 1,.int .i64 2,.int .i64 (-1),.int .i64 3] 3)) wq.heap.size (Blk.new wq 3 (xDs.map (Value.int .i64))) (HSQ.below hbl) oMx)
       have HO1:=oH (zUu HO.out hbl)
       have HG1:=oH (zNt HGQ.out hbl)
       clear hbl
       go_wp2_with fail
       refine HPP.mono ?_
       rintro e w2 ⟨i,hi6,rfl,hs2,hg2⟩
       have hz3:=xDt i
       have HS2:=oH hs2
       have HG2:=oH (zNw HG1.out hg2)
       have HO2:=oH (zUy HO1.out hg2 oMx)
       generalize xDs.getD i 0=z at *
       clear hs2 hg2
       go_wp2_with fail
       refine (zEc z w2 oMx oMx).mono ?_
       rintro e w3 ⟨rfl,hb3⟩
       have HS3:=oH (HS2.below hb3)
       have HG3:=oH (zNt HG2.out hb3)
       have HO3:=oH (zUu HO2.out hb3)
       have hsz3:wd.heap.size≤w3.heap.size:=HG3.size
       have HZT:=oH (show zGw (str z) from ⟨z,(zYl z).symm,hz3⟩)
       generalize str z=sz at *
       clear hb3
       go_wp2_with (at_builtin;refine wpList_append_own _ rfl _ _ 29 rfl wd.heap.size 39 j0 (.string ⟨#[]⟩) 1 16 Tryz.underlying29 hj hy0 hy1 hy2 rfl dCx _ _ _ rfl (HO3.alloc _) ⟨w3.heap.size,0,none⟩ 1 1 [_] rfl rfl zUd zUe (by unfold maxLen;omega) oMx (by simp;omega) ?_)
       intro v4 w4 hown4 hgrow4 _
       obtain ⟨ho4,hk4,hs4,hg4⟩:=xBc HO3.out hsz3 hown4 hgrow4
       have HO4:=oH ho4
       have HS4:=oH (HS3.above hs4 (fun i hi=>hk4 i oMx))
       have HG4:=oH (hg4 wd (some b) lRx HG3.out)
       clear hown4 hgrow4 ho4 hk4 hs4 hg4
       go_wp2_with fail
       go_roundw
       case rel=>exact ⟨ss++[sz],by simp only [List.length_append,List.length_singleton];go_num,by simp;omega,fun x hx=>(List.mem_append.1 hx).elim (HST.out x) (fun h=>by rw [List.mem_singleton.1 h];exact HZT.out),HO4.out,HS4.out,HG4.out⟩
       case measure=>simp [intOf];omega
      ·have HSL:=oH (show ss.length=n by omega)
       obtain ⟨A5,c5,rfl, -⟩:=zUr hown
       have HNEW:=oH (zUt hown hszd)
       have HMO:=oH (HOWN.grown hgr hbw)
       have HG5:=oH (zNw HGR.out hgr)
       have HS5:=oH hsr
       have hsz5:=HG5.size
       obtain ⟨w5,rfl⟩:∃ w5:World,w5=wq:=⟨_,rfl⟩
       clear hst hown hsr hgr HO HSQ HGQ
       go_wp2_with (at_builtin;refine wpList_append_own _ rfl _ _ 27 rfl w.heap.size 29 i0 (.slice none 0 0) 1 24 Tryz.underlying27 hi hz0 hz1 hz2 rfl dCx _ _ _ rfl (HMO.o.alloc _) ⟨w5.heap.size,0,none⟩ 1 1 [_] rfl rfl zUd xAu (by unfold maxLen;omega) oMx (by simp;omega) ?_)
       intro v' w6 hown6 hgrow6 _
       have hlt2:∀ k,(Value.slice AV rs.length cV).ownBlock=some k→w.heap.size≤k:=fun k hk=>(HMO.o.lt k hk).1
       have hbel:Below w.heap.size w5 w6:=zHt bRx hsz5 hgrow6 hlt2
       have HM6:=oH ((HMO.below (bA)).push (r:=⟨A5,c5,ss⟩) (zUu HNEW.out (bA)) (hown6) hgrow6)
       have HS6:=oH (HS5.above hbel.size (fun i hi=>hbel.block i oMx))
       have HG6:=oH (show w.grownBy w6 (some b) from ⟨hbel.os.trans HG5.os,hbel.tape.trans HG5.tape,hbel.output.trans HG5.output,Nat.le_trans HG5.size hbel.size,fun k hk hne=>(hbel.block k hk).trans (HG5.block k hk hne)⟩)
       clear hown6 hgrow6 hbel hlt2
       go_wp2_with fail
       go_roundw
       case rel=>exact ⟨rs++[⟨A5,c5,ss⟩],by simp only [List.length_append,List.length_singleton];go_num,by simp;omega,fun r hr=>(List.mem_append.1 hr).elim (HRT.out r) (fun h=>by rw [List.mem_singleton.1 h];exact ⟨HSL.out,HST.out⟩),HM6.out,HS6.out,HG6.out⟩
       case measure=>simp [intOf];omega
    ·have h0:=hb0 rfl
     clear hb0
     go_wp2_with fail
     refine (N_any b (rs.length:Int) wd HSR.out oMx oMx).mono ?_
     rintro e w2 ⟨j,rfl,hjr,hs2,hg2⟩
     have HS2:=oH hs2
     have HG2:=oH (zNw HGR.out hg2)
     have HM2:=oH (HOWN.grown hg2 hbw)
     have hj':j<rs.length:=by omega
     have hsz2:=HG2.size
     obtain ⟨gV,rfl⟩:=zUq HM2.o h0
     have hTP:=HM2.topM
     obtain ⟨cj, -⟩:=hTP.top hj'
     have hlj:=(HRT.out _ (List.getElem_mem hj')).1
     have HST:=oH (HRT.out _ (List.getElem_mem hj')).2
     obtain ⟨b1,o1,e1, -, -⟩:=(hTP.i _ (List.getElem_mem hj')).s (by intro e;rw [e] at hlj;simp at hlj;omega)
     have HSI:=oH (xCg (by rw [←e1];exact (hTP.i _ (List.getElem_mem hj')).s))
     have HLS:=oH (show (sv rs[j].ss).length=n*1 by rw [xDc];omega)
     have HSL:=oH hlj
     rw [e1,hlj] at cj
     have j1:(0:Int)≤(j:Int):=by omega
     clear hs2 hg2 hTP hlj e1
     generalize rs[j].cp=cpj at *
     generalize rs[j].ss=ss at *
     go_wp2_with (at_builtin;refine wpList_append_own _ rfl _ _ 29 rfl w2.heap.size 39 j0 (.string ⟨#[]⟩) 1 16 Tryz.underlying29 hj hy0 hy1 hy2 rfl dCx _ _ _ rfl (World.ownsRow_nil _ _ _ _) ⟨b1,o1,none⟩ n cpj (sv ss) rfl HLS.out HSI.out sv_one (by unfold maxLen;omega) oMx lRx ?_)
     intro vR w5 hown5 hgrow5 _
     have hb5:Below w2.heap.size w2 w5:=zHy hgrow5
     obtain ⟨A5,c5,rfl, -⟩:=zUr hown5
     have HNEW:=oH (show w5.ownsRow w.heap.size 39 1 (.slice A5 ss.length c5) ss.length (sv ss) by rw [HSL.out];exact zUt hown5 hsz2)
     have HMO:=oH (HM2.below hb5)
     have HS5:=oH (HS2.below hb5)
     have HG5:=oH (zNt HG2.out hb5)
     have hsz5:=HG5.size
     clear hown5 hgrow5 hb5 cj
     go_wp2_with (at_builtin;refine wpList_append_own _ rfl _ _ 27 rfl w.heap.size 29 i0 (.slice none 0 0) 1 24 Tryz.underlying27 hi hz0 hz1 hz2 rfl dCx _ _ _ rfl (HMO.o.alloc _) ⟨w5.heap.size,0,none⟩ 1 1 [_] rfl rfl zUd xAu (by unfold maxLen;omega) oMx (by simp;omega) ?_)
     intro v' w6 hown6 hgrow6 _
     have hlt2:∀ k,(Value.slice (some ⟨gV,0,none⟩) rs.length cV).ownBlock=some k→w.heap.size≤k:=fun k hk=>(HMO.o.lt k hk).1
     have hbel:Below w.heap.size w5 w6:=zHt bRx hsz5 hgrow6 hlt2
     have HM6:=oH ((HMO.below (bA)).push (r:=⟨A5,c5,ss⟩) (zUu HNEW.out (bA)) (by rw [HSL.out];exact hown6) hgrow6)
     have HS6:=oH (HS5.above hbel.size (fun i hi=>hbel.block i oMx))
     have HG6:=oH (show w.grownBy w6 (some b) from ⟨hbel.os.trans HG5.os,hbel.tape.trans HG5.tape,hbel.output.trans HG5.output,Nat.le_trans HG5.size hbel.size,fun k hk hne=>(hbel.block k hk).trans (HG5.block k hk hne)⟩)
     clear hown6 hgrow6 hbel hlt2
     go_wp2_with fail
     go_roundw
     case rel=>exact ⟨rs++[⟨A5,c5,ss⟩],by simp only [List.length_append,List.length_singleton];go_num,by simp;omega,fun r hr=>(List.mem_append.1 hr).elim (HRT.out r) (fun h=>by rw [List.mem_singleton.1 h];exact ⟨HSL.out,HST.out⟩),HM6.out,HS6.out,HG6.out⟩
     case measure=>simp [intOf];omega
  ·have hlm:rs.length=m:=by omega
   have HLM:=oH hlm
   have HR:=oH (show zGa w b m n (.returned (.slice AV rs.length cV)) wk from ⟨_,rs,rfl,hlm,HRT.out,HOWN.out,HSR.out,HGR.out⟩)
   clear hlm
   go_wp2_with fail
   rw [←hQ.out]
   exact HR.out
end Go.Proofs.YtfjjcoggoomlbaaGreatDoor
