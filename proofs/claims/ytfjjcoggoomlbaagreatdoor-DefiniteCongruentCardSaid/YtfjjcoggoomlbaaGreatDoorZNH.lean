import Derived.Test.YtfjjcoggoomlbaaGreatDoorZNE
import Derived.Test.YtfjjcoggoomlbaaGreatDoorZNC
set_option maxHeartbeats 16000000
set_option maxRecDepth 100000
set_option linter.unusedVariables false
set_option linter.unusedSimpArgs false
set_option linter.unusedSectionVars false
namespace Go.Proofs.YtfjjcoggoomlbaaGreatDoor
open Go.RowKit
structure zCx (B:Nat) (w:World) (V:Value) (rs:List zGi):Prop extends MatOwn B w V rs where
 dis:∀ j k,(hj:j<rs.length)→(hk:k<rs.length)→j<k→∀ g,rs[k].ad=some ⟨g,0,none⟩→rs[j].ad≠some ⟨g,0,none⟩
section
variable {B b:Nat} {w w6:World} {V V2:Value} {rs:List zGi} {r:zGi}
theorem zCx.zero (B:Nat) (w:World):zCx B w (.slice none 0 0) []:=⟨MatOwn.zero B w,fun j k hj=>absurd hj (by simp)⟩
theorem zCx.below (h:zCx B w V rs) (hb:Below w.heap.size w w6):zCx B w6 V rs:=⟨h.toMatOwn.below hb,h.dis⟩
theorem zCx.grown (h:zCx B w V rs) (hg:w.grownBy w6 (some b)) (hb:b<B):zCx B w6 V rs:=⟨h.toMatOwn.grown hg hb,h.dis⟩
theorem zCx.push (h:zCx B w V rs) (hf:∀ r'∈rs,∀ g,r.ad=some ⟨g,0,none⟩→r'.ad≠some ⟨g,0,none⟩) (hr:w.ownsRow B 39 1 (.slice r.ad r.ss.length r.cp) r.ss.length (sv r.ss)) (ho:w6.ownsRow B 29 1 V2 (rs.length+1) (zXw rs++[.slice r.ad r.ss.length r.cp])) (hg:w.grownBy w6 V.ownBlock):zCx B w6 V2 (rs++[r]):=by
 refine ⟨h.toMatOwn.push hr ho hg,fun j k hj hk hjk g e=>?_⟩
 have hk':k<rs.length+1:=by simpa using hk
 have hj':j<rs.length:=by omega
 rw [List.getElem_append_left hj']
 rcases Nat.lt_or_ge k rs.length with h1|h1
 ·rw [List.getElem_append_left h1] at e
  exact h.dis j k hj' h1 hjk g e
 ·rw [List.getElem_append_right h1] at e
  simp at e
  exact hf _ (List.getElem_mem hj') g e
theorem zCx.fresh {w5:World} {A:Option Addr} {n c k:Nat} {vs:List Value} (h:zCx B w V rs) (hn:w5.ownsRow w.heap.size 39 1 (.slice A n c) k vs):∀ r'∈rs,∀ g,A=some ⟨g,0,none⟩→r'.ad≠some ⟨g,0,none⟩:=fun r' hr g e e2=>by
 subst e
 have h1:=(hn.lt g rfl).1
 have h2:=((h.i r' hr).lt g (by rw [e2];rfl)).2
 omega
end
def zGe (w:World) (b m n:Nat) (e:Ending) (w':World):Prop:=∃ (v:Value) (rs:List zGi),e = .returned v∧rs.length=m∧(∀ r∈rs,r.ss.length=n∧∀ s∈r.ss,zHc s)∧zCx w.heap.size w' v rs∧Src w' b∧w.grownBy w' (some b)
theorem zCx.grid {B c n U:Nat} {w:World} {rs:List zGi} (h:zCx B w (.slice (some ⟨U,0,none⟩) n c) rs) (hl:rs.length=n) (hn:1≤n) (hr:∀ r∈rs,r.ss.length=n∧∀ s∈r.ss,zHc s):zBu B n c (zRp rs) U rs w:=by
 have ad:∀ j,(hj:j<rs.length)→∃ g,rs[j].ad=some ⟨g,0,none⟩:=fun j hj=>by
  have h1:=h.i _ (List.getElem_mem hj)
  exact zUr h1 (by have:=(hr _ (List.getElem_mem hj)).1;omega)
 refine ⟨zRl hl (fun r hr'=>(hr r hr').1) fun r hr' s hs=>xDr ((hr r hr').2 s hs),by have:=h.o;rw [hl] at this;exact this,⟨fun j hj _=>?_,fun j k hj hk hjk _ e=>?_⟩⟩
 ·obtain ⟨g,e⟩:=ad j hj
  refine ⟨g,e,?_⟩
  rw [←e]
  exact h.i _ (List.getElem_mem hj)
 ·obtain ⟨g,e2⟩:=ad k hk
  exact h.dis j k hj hk hjk g e2 (by rw [e,e2])
theorem zHd (b m n:Nat) (w:World) (hs:Src w b) (hm:m≤1000) (hn:n≤1000) (hn1:1≤n∨m=0):Calls Tryz.prog 32 #[.pointer (some ⟨b,0,none⟩),.int .i64 (m:Int),.int .i64 (n:Int)] w (zGe w b m n):=by
 obtain ⟨i0,hi,hz0,hz1,hz2⟩:=info_parts Tryz.infoRats
 obtain ⟨j0,hj,hy0,hy1,hy2⟩:=info_parts Tryz.infoRat
 have HPK:=oH (fun (W:World) (g:Nat) (hW:Blk W g 3 (xDs.map (Value.int .i64))) (hS:Src W b) (hg:g≠b)=>zDj b g 6 (fun i=>xDs.getD i 0) W hS (fun i hi=>by
  rw [hW.cell,List.getElem?_map,List.getD_eq_getElem?_getD,List.getElem?_eq_getElem (show i<xDs.length from hi)];rfl) hg hW.lt (by omega) (by omega))
 generalize hQ:zGe w b m n=Q
 replace hQ:=oH hQ
 have HS:=oH hs
 have hbw:=hs.lt
 clear hs
 go_enter Tryz.func32,Tryz.ntmps32
 go_wp2_with fail
 go_loopw [7,8] (fun v iv wr=>∃ (rs:List zGi),iv = .int .i64 (rs.length:Int)∧rs.length≤m∧(∀ r∈rs,r.ss.length=n∧∀ s∈r.ss,zHc s)∧zCx w.heap.size wr v rs∧Src wr b∧w.grownBy wr (some b)) (fun _ iv _=>m-(intOf iv).toNat)
 case atStart=>exact ⟨[],rfl,Nat.zero_le _,fun r hr=>(by simp at hr),zCx.zero _ _,HS.out,⟨rfl,rfl,rfl,Nat.le_refl _,fun _ _ _=>rfl⟩⟩
 case round =>
  obtain ⟨rs,rfl,hrm,hrt,hown,hsr,hgr⟩:=hrel
  obtain ⟨wk,rfl⟩:∃ wk:World,wk=wr:=⟨_,rfl⟩
  obtain ⟨AV,cV,rfl, -⟩:=zUs hown.o
  have HRT:=oH hrt
  have HOWN:=oH hown
  have HSR:=oH hsr
  have HGR:=oH hgr
  have hsz:=hgr.size
  clear hrt hown hsr hgr
  by_cases hlt:rs.length<m
  ·have hn2:1≤n:=by omega
   go_upto_region 5 with (fail)
   go_cut [22] (fun c wc=>∃ bb:Bool,c = .bool bb∧(bb=true→0<rs.length)∧zCx w.heap.size wc (.slice AV rs.length cV) rs∧Src wc b∧w.grownBy wc (some b))
   case first =>
    by_cases h0:0<rs.length
    ·have hx:(0:Int)<(rs.length:Int):=by omega
     go_wp2_with fail
     refine (zDa b 4 wk HSR.out (by decide) (by decide)).mono ?_
     rintro e w2 ⟨r,rfl,hr,hs2,hg2⟩
     have HS2:=oH hs2
     have HG2:=oH (zNy HGR.out hg2)
     have HM2:=oH (HOWN.out.grown hg2 hbw)
     clear hs2 hg2
     obtain ⟨bb,hbb⟩:∃ bb:Bool,((r:Int)==3)=bb:=⟨_,rfl⟩
     go_wp2_with fail
     go_meet
     exact ⟨_,rfl,fun _=>h0,HM2.out,HS2.out,HG2.out⟩
    ·have hx:¬(0:Int)<(rs.length:Int):=by omega
     go_wp2_with fail
     go_meet
     exact ⟨false,rfl,fun e=>(by cases e),HOWN.out,HSR.out,HGR.out⟩
   case rest =>
    obtain ⟨bb,rfl,hb0,hown,hsr,hgr⟩:=hcut
    obtain ⟨wd,rfl⟩:∃ wd:World,wd=wc:=⟨_,rfl⟩
    clear HOWN HSR HGR
    have HOWN:=oH hown
    have HSR:=oH hsr
    have HGR:=oH hgr
    have hszd:=hgr.size
    clear hown hsr hgr
    cases bb
    ·clear hb0
     go_wp2_with fail
     go_loopw [9,10] (fun v kv wr=>∃ (ss:List ByteArray),kv = .int .i64 (ss.length:Int)∧ss.length≤n∧(∀ s∈ss,zHc s)∧wr.ownsRow wd.heap.size 39 1 v ss.length (sv ss)∧Src wr b∧wd.grownBy wr (some b)) (fun _ kv _=>n-(intOf kv).toNat)
     case atStart=>exact ⟨[],rfl,Nat.zero_le _,by simp,World.ownsRow_nil _ _ _ _,HSR.out,World.grownBy.refl _ _⟩
     case round =>
      obtain ⟨ss,rfl,hsn,hst,hown,hsr,hgr⟩:=hrel
      obtain ⟨wq,rfl⟩:∃ wq:World,wq=wr:=⟨_,rfl⟩
      have HST:=oH hst
      have HO:=oH hown
      have HSQ:=oH hsr
      have HGQ:=oH hgr
      have hszq:=hgr.size
      have hbd:=hsr.lt
      by_cases hlt2:ss.length<n
      ·clear hst hown hsr hgr
       have hbl:Below wq.heap.size wq (wq.alloc (.cells #[.int .i64 0,.int .i64 0,.int .i64 1,.int .i64 2,.int .i64 (-1),.int .i64 3] 3)):=bA
       have HPP:=oH (HPK.out (wq.alloc (.cells #[.int .i64 0,.int .i64 0,.int .i64 1,.int .i64 2,.int .i64 (-1),.int .i64 3] 3)) wq.heap.size (Blk.new wq 3 (xDs.map (Value.int .i64))) (HSQ.out.below hbl) (by omega))
       have HO1:=oH (zUv HO.out hbl)
       have HG1:=oH (zNt HGQ.out hbl)
       clear hbl
       go_wp2_with fail
       refine HPP.out.mono ?_
       rintro e w2 ⟨i,hi6,rfl,hs2,hg2⟩
       have hz3:=xDt i
       have HS2:=oH hs2
       have HG2:=oH (zNy HG1.out hg2)
       have HO2:=oH (zUz HO1.out hg2 (by omega))
       generalize xDs.getD i 0=z at *
       clear hs2 hg2
       go_wp2_with fail
       refine (zEg z w2 (by omega) (by omega)).mono ?_
       rintro e w3 ⟨rfl,hb3⟩
       have HS3:=oH (HS2.out.below hb3)
       have HG3:=oH (zNt HG2.out hb3)
       have HO3:=oH (zUv HO2.out hb3)
       have hsz3:wd.heap.size≤w3.heap.size:=HG3.out.size
       have HZT:=oH (show zHc (str z) from ⟨z,(zYf z).symm,hz3⟩)
       generalize str z=sz at *
       clear hb3
       go_wp2_with (at_builtin;refine wpList_append_own _ rfl _ _ 29 rfl wd.heap.size 39 j0 (.string ⟨#[]⟩) 1 16 Tryz.underlying29 hj hy0 hy1 hy2 rfl (by decide) _ _ _ rfl (HO3.out.alloc _) ⟨w3.heap.size,0,none⟩ 1 1 [_] rfl rfl zUe zUf (by unfold maxLen;omega) (by omega) (by simp;omega) ?_)
       intro v4 w4 hown4 hgrow4 _
       obtain ⟨ho4,hk4,hs4,hg4⟩:=xAu HO3.out hsz3 hown4 hgrow4
       have HO4:=oH ho4
       have HS4:=oH (HS3.out.above hs4 (fun i hi=>hk4 i (by omega)))
       have HG4:=oH (hg4 wd (some b) (Nat.le_refl _) HG3.out)
       clear hown4 hgrow4 ho4 hk4 hs4 hg4
       go_wp2_with fail
       go_roundw
       case rel=>exact ⟨ss++[sz],by simp only [List.length_append,List.length_singleton];go_num,by simp;omega,fun x hx=>(List.mem_append.1 hx).elim (HST.out x) (fun h=>by rw [List.mem_singleton.1 h];exact HZT.out),HO4.out,HS4.out,HG4.out⟩
       case measure=>simp [intOf];omega
      ·have HSL:=oH (show ss.length=n by omega)
       obtain ⟨A5,c5,rfl, -⟩:=zUs hown
       have HFR:=oH (HOWN.out.fresh hown)
       have HNEW:=oH (zUu hown hszd)
       have HMO:=oH (HOWN.out.grown hgr hbw)
       have HG5:=oH (zNy HGR.out hgr)
       have HS5:=oH hsr
       have hsz5:=HG5.out.size
       obtain ⟨w5,rfl⟩:∃ w5:World,w5=wq:=⟨_,rfl⟩
       clear hst hown hsr hgr HO HSQ HGQ
       go_wp2_with (at_builtin;refine wpList_append_own _ rfl _ _ 27 rfl w.heap.size 29 i0 (.slice none 0 0) 1 24 Tryz.underlying27 hi hz0 hz1 hz2 rfl (by decide) _ _ _ rfl (HMO.out.o.alloc _) ⟨w5.heap.size,0,none⟩ 1 1 [_] rfl rfl zUe xAm (by unfold maxLen;omega) (by omega) (by simp;omega) ?_)
       intro v' w6 hown6 hgrow6 _
       have hlt2:∀ k,(Value.slice AV rs.length cV).ownBlock=some k→w.heap.size≤k:=fun k hk=>(HMO.out.o.lt k hk).1
       have hbel:Below w.heap.size w5 w6:=zIc (Below.refl _ _) hsz5 hgrow6 hlt2
       have HM6:=oH ((HMO.out.below (bA)).push (r:=⟨A5,c5,ss⟩) HFR.out (zUv HNEW.out (bA)) (hown6) hgrow6)
       have HS6:=oH (HS5.out.above hbel.size (fun i hi=>hbel.block i (by omega)))
       have HG6:=oH (show w.grownBy w6 (some b) from ⟨hbel.os.trans HG5.out.os,hbel.tape.trans HG5.out.tape,hbel.output.trans HG5.out.output,Nat.le_trans HG5.out.size hbel.size,fun k hk hne=>(hbel.block k hk).trans (HG5.out.block k hk hne)⟩)
       clear hown6 hgrow6 hbel hlt2
       go_wp2_with fail
       go_roundw
       case rel=>exact ⟨rs++[⟨A5,c5,ss⟩],by simp only [List.length_append,List.length_singleton];go_num,by simp;omega,fun r hr=>(List.mem_append.1 hr).elim (HRT.out r) (fun h=>by rw [List.mem_singleton.1 h];exact ⟨HSL.out,HST.out⟩),HM6.out,HS6.out,HG6.out⟩
       case measure=>simp [intOf];omega
    ·have h0:=hb0 rfl
     clear hb0
     go_wp2_with fail
     refine (zDa b (rs.length:Int) wd HSR.out (by omega) (by omega)).mono ?_
     rintro e w2 ⟨j,rfl,hjr,hs2,hg2⟩
     have HS2:=oH hs2
     have HG2:=oH (zNy HGR.out hg2)
     have HM2:=oH (HOWN.out.grown hg2 hbw)
     have hj':j<rs.length:=by omega
     have hsz2:=HG2.out.size
     obtain ⟨gV,rfl⟩:=zUr HM2.out.o h0
     have hTP:=HM2.out.toMatOwn.topM
     obtain ⟨cj, -⟩:=hTP.top hj'
     have hlj:=(HRT.out _ (List.getElem_mem hj')).1
     have HST:=oH (HRT.out _ (List.getElem_mem hj')).2
     obtain ⟨b1,o1,e1, -, -⟩:=(hTP.i _ (List.getElem_mem hj')).s (by intro e;rw [e] at hlj;simp at hlj;omega)
     have HSI:=oH (xCb (by rw [←e1];exact (hTP.i _ (List.getElem_mem hj')).s))
     have HLS:=oH (show (sv rs[j].ss).length=n*1 by rw [xCx];omega)
     have HSL:=oH hlj
     rw [e1,hlj] at cj
     have j1:(0:Int)≤(j:Int):=by omega
     clear hs2 hg2 hTP hlj e1
     generalize rs[j].cp=cpj at *
     generalize rs[j].ss=ss at *
     go_wp2_with (at_builtin;refine wpList_append_own _ rfl _ _ 29 rfl w2.heap.size 39 j0 (.string ⟨#[]⟩) 1 16 Tryz.underlying29 hj hy0 hy1 hy2 rfl (by decide) _ _ _ rfl (World.ownsRow_nil _ _ _ _) ⟨b1,o1,none⟩ n cpj (sv ss) rfl HLS.out HSI.out sv_one (by unfold maxLen;omega) (by omega) (Nat.le_refl _) ?_)
     intro vR w5 hown5 hgrow5 _
     have hb5:Below w2.heap.size w2 w5:=zIg hgrow5
     obtain ⟨A5,c5,rfl, -⟩:=zUs hown5
     have HFR:=oH (HM2.out.fresh hown5)
     have HNEW:=oH (show w5.ownsRow w.heap.size 39 1 (.slice A5 ss.length c5) ss.length (sv ss) by rw [HSL.out];exact zUu hown5 hsz2)
     have HMO:=oH (HM2.out.below hb5)
     have HS5:=oH (HS2.out.below hb5)
     have HG5:=oH (zNt HG2.out hb5)
     have hsz5:=HG5.out.size
     clear hown5 hgrow5 hb5 cj
     go_wp2_with (at_builtin;refine wpList_append_own _ rfl _ _ 27 rfl w.heap.size 29 i0 (.slice none 0 0) 1 24 Tryz.underlying27 hi hz0 hz1 hz2 rfl (by decide) _ _ _ rfl (HMO.out.o.alloc _) ⟨w5.heap.size,0,none⟩ 1 1 [_] rfl rfl zUe xAm (by unfold maxLen;omega) (by omega) (by simp;omega) ?_)
     intro v' w6 hown6 hgrow6 _
     have hlt2:∀ k,(Value.slice (some ⟨gV,0,none⟩) rs.length cV).ownBlock=some k→w.heap.size≤k:=fun k hk=>(HMO.out.o.lt k hk).1
     have hbel:Below w.heap.size w5 w6:=zIc (Below.refl _ _) hsz5 hgrow6 hlt2
     have HM6:=oH ((HMO.out.below (bA)).push (r:=⟨A5,c5,ss⟩) HFR.out (zUv HNEW.out (bA)) (by rw [HSL.out];exact hown6) hgrow6)
     have HS6:=oH (HS5.out.above hbel.size (fun i hi=>hbel.block i (by omega)))
     have HG6:=oH (show w.grownBy w6 (some b) from ⟨hbel.os.trans HG5.out.os,hbel.tape.trans HG5.out.tape,hbel.output.trans HG5.out.output,Nat.le_trans HG5.out.size hbel.size,fun k hk hne=>(hbel.block k hk).trans (HG5.out.block k hk hne)⟩)
     clear hown6 hgrow6 hbel hlt2
     go_wp2_with fail
     go_roundw
     case rel=>exact ⟨rs++[⟨A5,c5,ss⟩],by simp only [List.length_append,List.length_singleton];go_num,by simp;omega,fun r hr=>(List.mem_append.1 hr).elim (HRT.out r) (fun h=>by rw [List.mem_singleton.1 h];exact ⟨HSL.out,HST.out⟩),HM6.out,HS6.out,HG6.out⟩
     case measure=>simp [intOf];omega
  ·have hlm:rs.length=m:=by omega
   have HLM:=oH hlm
   have HR:=oH (show zGe w b m n (.returned (.slice AV rs.length cV)) wk from ⟨_,rs,rfl,hlm,HRT.out,HOWN.out,HSR.out,HGR.out⟩)
   clear hlm
   go_wp2_with fail
   rw [←hQ.out]
   exact HR.out
theorem src_far {W:World} {b g j:Nat} {u:Value} (h:Src W b) (hg:b<g):Src (W.setCell ⟨g,j,none⟩ u) b:=h.above (by simp) fun i hi=>Below.heap_setCell W ⟨g,j,none⟩ u i (by show i≠g;omega)
theorem grow_far {w W:World} {b g j:Nat} {u:Value} (h:w.grownBy W (some b)) (hg:w.heap.size≤g):w.grownBy (W.setCell ⟨g,j,none⟩ u) (some b):=⟨h.os,h.tape,h.output,by simpa using h.size,fun k hk hne=>(Below.heap_setCell W ⟨g,j,none⟩ u k (by show k≠g;omega)).trans (h.block k hk hne)⟩
theorem zBu.cap {B n c:Nat} {M:Nat→Nat→Rat} {U:Nat} {rs:List zGi} {W:World} (h:zBu B n c M U rs W):∀ r∈rs,r.ss.length≤r.cp:=fun r hr=>by
 obtain ⟨i,hi,rfl⟩:=List.getElem_of_mem hr
 obtain ⟨g,e,h1⟩:=h.ot.own i hi (by have:=h.mf.len;omega)
 obtain ⟨A',c',e2,h2⟩:=zUs h1
 injection e2 with _ _ e2
 omega
theorem zBu.lo {B n c:Nat} {M:Nat→Nat→Rat} {U:Nat} {rs:List zGi} {W:World} (h:zBu B n c M U rs W) {i:Nat} (hi:i<rs.length) {g:Nat} (hg:rs[i].ad=some ⟨g,0,none⟩):B≤g:=by
 obtain ⟨g',e,h1⟩:=h.ot.own i hi (by have:=h.mf.len;omega)
 rw [hg] at e
 injection e with e
 injection e with e
 subst e
 exact (zVi h1 rfl).2
theorem zBu.apart {B n c:Nat} {M:Nat→Nat→Rat} {U:Nat} {rs:List zGi} {W:World} (h:zBu B n c M U rs W) {i k g g':Nat} (hi:i<rs.length) (hk:k<rs.length) (hki:k<i) (e:rs[i].ad=some ⟨g,0,none⟩) (e':rs[k].ad=some ⟨g',0,none⟩):g≠g':=by
 rintro rfl
 exact h.ot.dis k i hk hi hki (by have:=h.mf.len;omega) (by rw [e,e'])
def sQ (M:Nat→Nat→Rat) (i k:Nat):Nat→Nat→Rat:=fun a b=>if b<a∧(a<i∨a=i∧b<k) then M b a else M a b
theorem sQ_start (M:Nat→Nat→Rat):sQ M 0 0=M:=by
 funext a b
 unfold sQ
 rw [if_neg (by omega)]
theorem sQ_row (M:Nat→Nat→Rat) (i:Nat):sQ M i i=sQ M (i+1) 0:=by
 funext a b
 unfold sQ
 by_cases h:b<a∧(a<i∨a=i∧b<i)
 ·rw [if_pos h,if_pos (by omega)]
 ·rw [if_neg h,if_neg (by omega)]
theorem sQ_step (M:Nat→Nat→Rat) (i k:Nat) (hk:k<i):(fun a b=>if a=i∧b=k then M k i else sQ M i k a b)=sQ M i (k+1):=by
 funext a b
 unfold sQ
 by_cases h:a=i∧b=k
 ·obtain ⟨rfl,rfl⟩:=h
  rw [if_pos ⟨rfl,rfl⟩,if_pos (by omega)]
 ·rw [if_neg h]
  by_cases h2:b<a∧(a<i∨a=i∧b<k)
  ·rw [if_pos h2,if_pos (by omega)]
  ·rw [if_neg h2,if_neg (by omega)]
theorem sQ_up (M:Nat→Nat→Rat) {i k a b:Nat} (h:a≤b):sQ M i k a b=M a b:=by
 unfold sQ
 rw [if_neg (by omega)]
theorem sQ_sym (M:Nat→Nat→Rat) (n k:Nat):SymM n (sQ M n k):=fun a b ha hb=>by
 rcases Nat.lt_trichotomy a b with h|h|h
 ·rw [sQ_up M (by omega:a≤b)]
  unfold sQ
  rw [if_pos ⟨h,.inl hb⟩]
 ·rw [h]
 ·rw [sQ_up M (by omega:b≤a)]
  unfold sQ
  rw [if_pos ⟨h,.inl ha⟩]
theorem sQ_thin {M:Nat→Nat→Rat} {n i k:Nat} (h:zHb n n M):zHb n n (sQ M i k):=fun a b ha hb=>by
 unfold sQ
 split
 ·exact h b a hb ha
 ·exact h a b ha hb
def zFo (w:World) (b n:Nat) (P:(Nat→Nat→Rat)→Prop) (e:Ending) (w':World):Prop:=∃ U c rs M,e = .returned (.slice (some ⟨U,0,none⟩) n c)∧zBu w.heap.size n c M U rs w'∧P M∧Src w' b∧w.grownBy w' (some b)
theorem MSym_any (b n:Nat) (w:World) (hs:Src w b) (hn1:1≤n) (hn:n≤12):Calls Tryz.prog 10 #[.pointer (some ⟨b,0,none⟩),.int .i64 (n:Int)] w (zFo w b n (fun M=>zHb n n M∧SymM n M)):=by
 generalize hQ:zFo w b n (fun M=>zHb n n M∧SymM n M)=Q
 replace hQ:=oH hQ
 have HS:=oH hs
 have hbw:=hs.lt
 clear hs
 go_enter Tryz.func10,Tryz.ntmps10
 go_wp2_with fail
 refine (zHd b n n w HS.out (by omega) (by omega) (.inl hn1)).mono ?_
 rintro e w1 ⟨v,rs0,rfl,hl,hr,hmo,hs1,hg1⟩
 obtain ⟨A0,c,rfl, -⟩:=zUs hmo.o
 obtain ⟨U,rfl⟩:=zUr hmo.o (by omega)
 rw [hl] at hmo
 have hgd:=hmo.grid hl hn1 hr
 have hth:zHb n n (zRp rs0):=thin_q hl (fun r h=>(hr r h).1) (fun r h=>(hr r h).2)
 generalize zRp rs0=M at *
 rw [hl]
 have HG0:=oH (show zBu w.heap.size n c (sQ M 0 0) U rs0 w1 by rw [sQ_start];exact hgd)
 have HTH:=oH hth
 have HS1:=oH hs1
 have HG1:=oH hg1
 clear hl hr hmo hs1 hg1 hgd hth
 go_wp2_with fail
 go_loopw [14] (fun iv wr=>∃ (i:Nat) (ri:List zGi),iv = .int .i64 (i:Int)∧i≤n∧zBu w.heap.size n c (sQ M i 0) U ri wr∧Src wr b∧w.grownBy wr (some b)) (fun iv _=>n-(intOf iv).toNat)
 case atStart=>exact ⟨0,rs0,rfl,Nat.zero_le _,HG0.out,HS1.out,HG1.out⟩
 case round =>
  clear HG0 HS1 HG1
  obtain ⟨i,ri,rfl,hi,hgd,hsr,hgr⟩:=hrel
  obtain ⟨wi,rfl⟩:∃ w':World,w'=wr:=⟨_,rfl⟩
  have HGI:=oH hgd
  have HSI:=oH hsr
  have HGR:=oH hgr
  clear hgd hsr hgr
  by_cases hlt:i<n
  ·go_wp2_with fail
   go_loopw [7] (fun kv wk=>∃ (k:Nat) (rk:List zGi),kv = .int .i64 (k:Int)∧k≤i∧zBu w.heap.size n c (sQ M i k) U rk wk∧Src wk b∧w.grownBy wk (some b)) (fun kv _=>i-(intOf kv).toNat)
   case atStart=>exact ⟨0,ri,rfl,Nat.zero_le _,HGI.out,HSI.out,HGR.out⟩
   case round =>
    clear HGI HSI HGR
    obtain ⟨k,rk,rfl,hk,hgd,hsr,hgr⟩:=hrel
    obtain ⟨wk,rfl⟩:∃ w':World,w'=wr:=⟨_,rfl⟩
    by_cases hlt2:k<i
    ·have hlen:=hgd.mf.len
     have hir:i<rk.length:=by omega
     have hkr:k<rk.length:=by omega
     obtain ⟨gi,ei,c1,hci, -, -⟩:=hgd.rows hir
     obtain ⟨gk,ek,c2,hck, -, -⟩:=hgd.rows hkr
     have hne:=hgd.apart hir hkr hlt2 ei ek
     have hlo:=hgd.lo hir ei
     have c3:=(hck i hlt).2
     rw [sQ_up M (by omega:k≤i)] at c3
     obtain ⟨c4,c5⟩:=hci k (by omega)
     have hfq:zBq (M k i):=by
      have:=hgd.mf.fit k i (by omega) hlt
      rwa [sQ_up M (by omega:k≤i)] at this
     have HPU:=oH (hgd.put hir (by omega:k<n) ei hfq).1
     have HSP:=oH (src_far (j:=k) (u := .string (zYd (M k i))) hsr (by omega:b<gi))
     have HGP:=oH (grow_far (j:=k) (u := .string (zYd (M k i))) hgr hlo)
     rw [sQ_step M i k hlt2] at HPU
     have i1:(0:Int)≤(i:Int):=by omega
     have i2:(i:Int)<(n:Int):=by omega
     have k1:(0:Int)≤(k:Int):=by omega
     have k2:(k:Int)<(n:Int):=by omega
     have k3:(k:Int)<(i:Int):=by omega
     generalize M k i=q at *
     generalize zYd (sQ M i k i k)=s0 at *
     generalize rk[i].cp=ci at *
     generalize rk[k].cp=ck at *
     have KSz:=oH (show wk.drew.cell? ⟨U,i,none⟩=some (.slice (some ⟨gi,0,none⟩) n ci)∧wk.drew.cell? ⟨U,k,none⟩=some (.slice (some ⟨gk,0,none⟩) n ck)∧wk.drew.cell? ⟨gk,i,none⟩=some (.string (zYd q)) from ⟨c1,c2,c3⟩)
     clear hgd hsr hgr hci hck hne hfq hlen hkr ei ek
     go_wp2_with fail
     refine xGu (S:=(fun w'=>w'.cell? ⟨U,i,none⟩=some (.slice (some ⟨gi,0,none⟩) n ci)∧w'.cell? ⟨U,k,none⟩=some (.slice (some ⟨gk,0,none⟩) n ck)∧w'.cell? ⟨gk,i,none⟩=some (.string (zYd q)))) 13 (by kernel_rfl) rfl (by kernel_rfl) (by kernel_rfl) rfl (by exact KSz.out) (fun hHeld=>?_)
     simp only [List.pop_toArray,List.dropLast_cons_cons,List.dropLast_singleton]
     refine tkH 0 hHeld ?_
     try simp only [Act.put,tkA,tkB,tkC]
     refine tkH 1 hHeld ?_
     try simp only [Act.put,tkA,tkB,tkC]
     refine tkH 2 hHeld ?_
     try simp only [Act.put,tkA,tkB,tkC]
     refine tkH 3 hHeld ?_
     try simp only [Act.put,tkA,tkB,tkC]
     refine tkH 4 hHeld ?_
     try simp only [Act.put,tkA,tkB,tkC]
     refine tkH 5 hHeld ?_
     try simp only [Act.put,tkA,tkB,tkC]
     refine tkH 6 hHeld ?_
     try simp only [Act.put,tkA,tkB,tkC]
     refine tkH 7 hHeld ?_
     try simp only [Act.put,tkA,tkB,tkC]
     refine tkH 8 hHeld ?_
     try simp only [Act.put,tkA,tkB,tkC]
     refine tkH 9 hHeld ?_
     try simp only [Act.put,tkA,tkB,tkC]
     refine tkH 10 hHeld ?_
     try simp only [Act.put,tkA,tkB,tkC]
     refine tkH 11 hHeld ?_
     try simp only [Act.put,tkA,tkB,tkC]
     refine tkH 12 hHeld ?_
     try simp only [Act.put,tkA,tkB,tkC]
     refine wpAnyH_done (by kernel_rfl) ?_ _
     simp only [xDh,List.getElem_toArray,List.getElem_cons_succ,List.getElem_cons_zero]
     go_wp2_with fail
     go_roundw
     case rel=>exact ⟨k+1,_,by go_num,by omega,HPU.out.below (Below.refl _ _).drew,HSP.out.below (Below.refl _ _).drew,zNt HGP.out (Below.refl _ _).drew⟩
     case measure=>simp [intOf];omega
    ·have hke:k=i:=by omega
     have HGN:=oH (show zBu w.heap.size n c (sQ M (i+1) 0) U rk wk by rw [hke,sQ_row] at hgd;exact hgd)
     have HSN:=oH hsr
     have HGR:=oH hgr
     clear hgd hsr hgr hke
     go_wp2_with fail
     go_roundw
     case rel=>exact ⟨i+1,rk,by go_num,by omega,HGN.out,HSN.out,HGR.out⟩
     case measure=>simp [intOf];omega
  ·have hin:i=n:=by omega
   have HGF:=oH (show zBu w.heap.size n c (sQ M n 0) U ri wi by have:=HGI.out;rw [hin] at this;exact this)
   have HR:=oH (show zFo w b n (fun M=>zHb n n M∧SymM n M) (.returned (.slice (some ⟨U,0,none⟩) n c)) wi from ⟨U,c,ri,_,rfl,HGF.out,⟨sQ_thin HTH.out,sQ_sym M n 0⟩,HSI.out,HGR.out⟩)
   clear hin
   go_wp2_with fail
   rw [←hQ.out]
   exact HR.out
def zVs (n:Nat) (M:Nat→Nat→Rat):Nat→Nat→Rat:=fun i k=>idn i k+xCf n fun j=>M i j*M k j
theorem zXk {w:World} {g:Nat} {u v:FrV} (h:Blk w g 73 u.four):Blk ((((w.setCell ⟨g,0,none⟩ (.bool v.na)).setCell ⟨g,1,none⟩ (.slice v.A v.l v.c)).setCell ⟨g,2,none⟩ (.bool v.nb)).setCell ⟨g,3,none⟩ (.slice v.A' v.l' v.c')) g 73 v.four:=(((h.set 0 _).set 1 _).set 2 _).set 3 _
theorem zHe.read' {B n c:Nat} {w:World} {A:Option Addr} {rs:List zGi} (h:zHe B w (.slice A n c) rs) (hl:rs.length=n):zCw w A rs:=by
 subst hl
 exact h.read
theorem posM_sym (n m:Nat) (M:Nat→Nat→Rat):SymM m (zVs n M):=fun i k _ _=>by
 unfold zVs
 rw [show idn i k=idn k i by unfold idn;by_cases h:i=k; · subst h;rfl
                             · rw [if_neg h,if_neg (Ne.symm h)]]
 congr 1
 exact xCh fun j _=>Rat.mul_comm _ _
theorem IsB.add {a b c:Nat} {x y:Rat} (h:IsB a x) (k:IsB b y) (hc:a+b=c):IsB c (x+y):=by
 obtain ⟨p,rfl,hp⟩:=h
 obtain ⟨q,rfl,hq⟩:=k
 refine ⟨p+q,by rw [Rat.intCast_add],?_⟩
 omega
theorem sumR_B {b:Nat}:∀ {n:Nat} {f:Nat→Rat},(∀ i,i<n→IsB b (f i))→IsB (n*b) (xCf n f)
 | 0,_,_=>⟨0,rfl,by omega⟩
 | n+1,f,h=>(sumR_B (n:=n) fun i hi=>h i (by omega)).add (h n (by omega)) (by rw [Nat.succ_mul])
theorem zVt {n:Nat} {M:Nat→Nat→Rat} (h:zHb n n M) (hn:n≤4):∀ i k,i<n→k<n→IsB 39 (zVs n M i k):=fun i k hi hk =>
 ((idn_B i k).add (sumR_B (b:=9) fun j hj=>(show IsB 3 (M i j) from h i j hi hj).mul (show IsB 3 (M k j) from h k j hk hj) rfl) rfl).mono (by omega)
def MxC (B:Nat) (w:World) (A:Option Addr) (n c:Nat) (M:Nat→Nat→Rat):Prop:=∃ rs,zHe B w (.slice A n c) rs∧zCv rs n n M∧∀ r∈rs,r.ss.length≤r.cp
def zFw (w:World) (b n:Nat) (P:(Nat→Nat→Rat)→Prop) (e:Ending) (w':World):Prop:=∃ A c M,e = .returned (.slice A n c)∧MxC w.heap.size w' A n c M∧P M∧Src w' b∧w.grownBy w' (some b)
theorem zFo.pos {w w':World} {b n:Nat} {P:(Nat→Nat→Rat)→Prop} {e:Ending} (h:zFo w b n P e w'):zFw w b n P e w':=by
 obtain ⟨U,c,rs,M,rfl,h1,h2,h3,h4⟩:=h
 exact ⟨_,c,M,rfl,⟨rs,h1.topM,h1.mf,h1.cap⟩,h2,h3,h4⟩
theorem zCt (b n:Nat) (w:World) (hs:Src w b) (hn1:1≤n) (hn:n≤4):Calls Tryz.prog 11 #[.pointer (some ⟨b,0,none⟩),.int .i64 (n:Int)] w (zFw w b n (fun P=>∃ M,zHb n n M∧P=zVs n M)):=by
 obtain ⟨i0,hi,hz0,hz1,hz2⟩:=info_parts Tryz.infoRats
 obtain ⟨j0,hj,hy0,hy1,hy2⟩:=info_parts Tryz.infoRat
 generalize hQ:zFw w b n (fun P=>∃ M,zHb n n M∧P=zVs n M)=Q
 replace hQ:=oH hQ
 have HS:=oH hs
 have hbw:=hs.lt
 clear hs
 go_enter Tryz.func11,Tryz.ntmps11
 go_wp2_with fail
 refine (mxThin b n n w HS.out (by omega) (by omega) (.inl hn1)).mono ?_
 rintro e w1 ⟨A,c,M,rfl,⟨rs0,ht0,hm0⟩,hth,hs1,hg1⟩
 have hM:=ht0.read' hm0.len
 have HM:=oH hM
 have HF:=oH hm0
 have HTH:=oH hth
 have HS1:=oH hs1
 have HG1:=oH hg1
 have hsz1:=hg1.size
 have HFP:=oH (fun i k (hi:i<n) (hk:k<n)=>(show zBq (zVs n M i k) from ((zVt hth hn i k hi hk).dig (d:=2) (by decide) (by decide)).fits (by decide) (by decide)))
 have HFM:=oH hm0.fit
 clear ht0 hm0 hth hs1 hg1 hM
 go_wp2_with fail
 go_loopw [6,20] (fun v iv wr=>∃ (i:Nat) (rs:List zGi),iv = .int .i64 (i:Int)∧i≤n∧rs.length=i∧(∀ a,(ha:a<rs.length)→rs[a].ss=(List.range n).map fun t=>zYd (zVs n M a t))∧MatOwn w1.heap.size wr v rs∧Below w1.heap.size w1 wr) (fun _ iv _=>n-(intOf iv).toNat)
 case atStart=>exact ⟨0,[],rfl,Nat.zero_le _,rfl,fun a ha=>absurd ha (by simp),MatOwn.zero _ _,Below.refl _ _⟩
 case round =>
  obtain ⟨i,rs,rfl,hin,hrl,hrs,hown,hbr⟩:=hrel
  obtain ⟨wi,rfl⟩:∃ w':World,w'=wr:=⟨_,rfl⟩
  have hrl':=hrl.symm
  subst hrl'
  obtain ⟨AV,cV,rfl, -⟩:=zUs hown.o
  have HRS:=oH hrs
  have HOWN:=oH hown
  have HBI:=oH hbr
  have hszi:=hbr.size
  clear hrs hown hbr
  by_cases hlt:rs.length<n
  ·go_wp2_with fail
   go_loopw [8,25] (fun v kv wr=>∃ k:Nat,kv = .int .i64 (k:Int)∧k≤n∧wr.ownsRow wi.heap.size 39 1 v k (sv ((List.range k).map fun t=>zYd (zVs n M rs.length t)))∧Below wi.heap.size wi wr) (fun _ kv _=>n-(intOf kv).toNat)
   case atStart=>exact ⟨0,rfl,Nat.zero_le _,World.ownsRow_nil _ _ _ _,Below.refl _ _⟩
   case round =>
    obtain ⟨k,rfl,hkn,hown,hbk⟩:=hrel
    obtain ⟨wk,rfl⟩:∃ w':World,w'=wr:=⟨_,rfl⟩
    have HO:=oH hown
    have HBK:=oH hbk
    have hszk:=hbk.size
    clear hown hbk
    by_cases hlt2:k<n
    ·go_wp2_with fail
     refine (zDv 0 _ (by decide) (by decide)).mono ?_
     rintro e w5 ⟨v5,rfl,hv5,hb5⟩
     obtain ⟨x0,x4,x1,x5,x2,x3,x6,x7,rfl⟩:=hv5.slice
     have hba:Below w5.heap.size w5 (w5.alloc (.cells #[.bool x0,.slice x1 x2 x3,.bool x4,.slice x5 x6 x7] 73)):=bA
     have HB6:=oH (hb5.trans (hba.mono hb5.size))
     have HK6:=oH (show Blk (w5.alloc (.cells #[.bool x0,.slice x1 x2 x3,.bool x4,.slice x5 x6 x7] 73)) w5.heap.size 73 (FrV.four ⟨x0,x1,x2,x3,x4,x5,x6,x7⟩) from Blk.new w5 _ _)
     have HS6:=oH (show zCg (w5.alloc (.cells #[.bool x0,.slice x1 x2 x3,.bool x4,.slice x5 x6 x7] 73)) (FrV.val ⟨x0,x1,x2,x3,x4,x5,x6,x7⟩) 0 from hv5.below hba)
     have hg5:=hb5.size
     clear hv5 hb5 hba
     go_upto_region 11 with (fail)
     generalize (w5.alloc (.cells #[.bool x0,.slice x1 x2 x3,.bool x4,.slice x5 x6 x7] 73))=W at *
     generalize w5.heap.size=gs at *
     go_cut [31] (fun c wc=>∃ cb:Bool,c = .bool cb∧(cb=true↔rs.length=k)∧wc=W)
     case first =>
      go_wp2_with fail
      go_meet
      exact ⟨_,rfl,by simp only [beq_iff_eq];omega,rfl⟩
     case rest =>
      obtain ⟨cb,rfl,hcb,rfl⟩:=hcut
      cases cb
      have HID:=oH (show (0:Rat)=idn rs.length k by unfold idn;rw [if_neg (fun h=>absurd (hcb.2 h) (by decide))])
      clear hcb
      go_wp2_with fail
      have HKU:=HK6
      have HSU:=oH (show zCg _ (FrV.val ⟨x0,x1,x2,x3,x4,x5,x6,x7⟩) (idn rs.length k) by rw [←HID.out];exact HS6.out)
      have HBC:=HB6
      clear HB6 HK6 HS6 HID
      rotate_left
      have HID:=oH (show (1:Rat)=idn rs.length k by unfold idn;rw [if_pos (hcb.1 (by first|rfl|trivial))])
      clear hcb
      go_wp2_with fail
      refine (zDv 1 _ (by decide) (by decide)).mono ?_
      rintro e w7 ⟨v7,rfl,hv7,hb7⟩
      obtain ⟨y0,y4,y1,y5,y2,y3,y6,y7,rfl⟩:=hv7.slice
      have hk7:=HK6.out.below hb7
      have HK7:=oH hk7
      have HV7:=oH hv7
      have HB7:=oH (HB6.out.trans (hb7.mono (HB6.out.size)))
      have e0:=hk7.at_ (i:=0) rfl
      have e1:=hk7.at_ (i:=1) rfl
      have e2:=hk7.at_ (i:=2) rfl
      have e3:=hk7.at_ (i:=3) rfl
      have f0:=hk7.fr 0
      have f1:=hk7.fr 1
      have f2:=hk7.fr 2
      have f3:=hk7.fr 3
      clear hv7 hb7 hk7
      go_wp2_with fail
      have HKU:=oH (zXk (v:=⟨y0,y1,y2,y3,y4,y5,y6,y7⟩) HK7.out)
      have HSU:=oH (show zCg _ (FrV.val ⟨y0,y1,y2,y3,y4,y5,y6,y7⟩) (idn rs.length k) by rw [←HID.out];exact zCg.set4 HV7.out HK7.out (.bool y0) (.slice y1 y2 y3) (.bool y4) (.slice y5 y6 y7))
      have HBC:=oH (zIe HB7.out hg5 (.bool y0) (.slice y1 y2 y3) (.bool y4) (.slice y5 y6 y7))
      clear HB6 HK6 HS6 HID HK7 HV7 HB7 e0 e1 e2 e3 f0 f1 f2 f3
      rotate_left
      all_goals
       go_loopw [35] (fun jv wj=>∃ (j:Nat) (u:FrV),jv = .int .i64 (j:Int)∧j≤n∧Blk wj gs 73 u.four∧zCg wj u.val (idn rs.length k+xCf j fun j=>M rs.length j*M k j)∧Below wk.heap.size wk wj) (fun jv _=>n-(intOf jv).toNat)
       case atStart=>exact ⟨0,_,rfl,Nat.zero_le _,HKU.out,by have:=HSU.out;show zCg _ _ (_+0);rw [Rat.add_zero];exact this,HBC.out⟩
       case round =>
        clear HKU HSU HBC
        obtain ⟨j,u,rfl,hjn,hku,hsu,hbj⟩:=hrel
        obtain ⟨wj,rfl⟩:∃ w':World,w'=wr:=⟨_,rfl⟩
        by_cases hlt3:j<n
        ·have hbw1:Below w1.heap.size w1 wj:=HBI.out.trans ((HBK.out.trans (hbj.mono hszk)).mono hszi)
         obtain ⟨g,off,rfl,hg0,hgr⟩:=zRu HM.out HF.out hn1 hn1
         obtain ⟨b1,o1,ci,hb1,c1,hc1⟩:=hgr rs.length hlt
         obtain ⟨b2,o2,ck,hb2,c2,hc2⟩:=hgr k hlt2
         have d1:=(hbw1.cell (p:=⟨g,off+rs.length,none⟩) hg0).trans c1
         have d2:=(hbw1.cell (p:=⟨g,off+k,none⟩) hg0).trans c2
         have d3:=(hbw1.cell (p:=⟨b1,o1+j,none⟩) hb1).trans (hc1 j hlt3)
         have d4:=(hbw1.cell (p:=⟨b2,o2+j,none⟩) hb2).trans (hc2 j hlt3)
         have f1:=HFM.out rs.length j hlt hlt3
         have f2:=HFM.out k j hlt2 hlt3
         have HR1:=oH (fun W=>zEb (M rs.length j) W f1)
         have HR2:=oH (fun W=>zEb (M k j) W f2)
         have s1z:=f1.sz
         have s2z:=f2.sz
         have s12:=s1z.mul s2z
         have ss:Sz 2000 (idn rs.length k+xCf j fun j=>M rs.length j*M k j):=((zOd rs.length k).sz.add (xCp (n:=j) (b:=90) fun t ht=>((HFM.out rs.length t hlt (by omega)).sz.mul (HFM.out k t hlt2 (by omega)).sz).mono (by omega))).mono (by
          have:j*91≤4*91:=Nat.mul_le_mul_right _ (by omega)
          omega)
         have HSUM:=oH (show idn rs.length k+xCf (j+1) (fun j=>M rs.length j*M k j)=idn rs.length k+xCf j (fun j=>M rs.length j*M k j)+M rs.length j*M k j from (Rat.add_assoc _ _ _).symm)
         obtain ⟨q1,hq1⟩:∃ q,M rs.length j=q:=⟨_,rfl⟩
         obtain ⟨q2,hq2⟩:∃ q,M k j=q:=⟨_,rfl⟩
         obtain ⟨sq,hsq⟩:∃ q,idn rs.length k+xCf j (fun j=>M rs.length j*M k j)=q:=⟨_,rfl⟩
         rw [hsq] at ss hsu HSUM
         have HSU2:=oH (show idn rs.length k+xCf (j+1) (fun j=>M rs.length j*M k j)=sq+q1*q2 by rw [HSUM.out,hq1,hq2])
         rw [hq1] at HR1 s1z s12 d3
         rw [hq2] at HR2 s2z s12 d4
         obtain ⟨s1,hs1⟩:∃ s,zYd q1=s:=⟨_,rfl⟩
         obtain ⟨s2,hs2⟩:∃ s,zYd q2=s:=⟨_,rfl⟩
         rw [hs1] at HR1 d3
         rw [hs2] at HR2 d4
         obtain ⟨u0,u1,u2,u3,u4,u5,u6,u7⟩:=u
         obtain ⟨i,hie⟩:∃ i,rs.length=i:=⟨_,rfl⟩
         have HIE:=oH hie
         rw [hie] at d1
         have KB:=oH (fun W' (hW:Below wj.heap.size wj W')=>(show W'.cell? ⟨gs,0,none⟩=some (.bool u0)∧W'.cell? ⟨gs,1,none⟩=some (.slice u1 u2 u3)∧W'.cell? ⟨gs,2,none⟩=some (.bool u4)∧W'.cell? ⟨gs,3,none⟩=some (.slice u5 u6 u7)∧W'.cell? ⟨g,off+i,none⟩=some (.slice (some ⟨b1,o1,none⟩) n ci)∧W'.cell? ⟨b1,o1+j,none⟩=some (.string s1)∧W'.cell? ⟨g,off+k,none⟩=some (.slice (some ⟨b2,o2,none⟩) n ck)∧W'.cell? ⟨b2,o2+j,none⟩=some (.string s2) from ⟨(hku.below hW).at_ (i:=0) rfl,(hku.below hW).at_ (i:=1) rfl,(hku.below hW).at_ (i:=2) rfl,(hku.below hW).at_ (i:=3) rfl,kP hW d1,kP hW d3,kP hW d2,kP hW d4⟩))
         have HWz:=oH (show Below wj.heap.size wj wj.drew from (Below.refl _ _).drew)
         have KSz:=oH (KB.out _ HWz.out)
         have HSQ:=oH (show zCg wj (.agg #[.bool u0,.slice u1 u2 u3,.bool u4,.slice u5 u6 u7]) sq from hsu)
         have HKJ:=oH hku
         have HBJ:=oH hbj
         have i1:(0:Int)≤(i:Int):=by omega
         have i2:(i:Int)<(n:Int):=by omega
         have k1:(0:Int)≤(k:Int):=by omega
         have k2:(k:Int)<(n:Int):=by omega
         have j1:(0:Int)≤(j:Int):=by omega
         have j2:(j:Int)<(n:Int):=by omega
         rw [hie]
         clear hku hsu hbj hbw1 hgr c1 hc1 c2 hc2 d1 d2 d3 d4 f1 f2 hq1 hq2 hsq hs1 hs2 hie HSUM
         go_wp2_with fail
         refine xGu (S:=(fun w'=>w'.cell? ⟨gs,0,none⟩=some (.bool u0)∧w'.cell? ⟨gs,1,none⟩=some (.slice u1 u2 u3)∧w'.cell? ⟨gs,2,none⟩=some (.bool u4)∧w'.cell? ⟨gs,3,none⟩=some (.slice u5 u6 u7)∧w'.cell? ⟨g,off+i,none⟩=some (.slice (some ⟨b1,o1,none⟩) n ci)∧w'.cell? ⟨b1,o1+j,none⟩=some (.string s1)∧w'.cell? ⟨g,off+k,none⟩=some (.slice (some ⟨b2,o2,none⟩) n ck)∧w'.cell? ⟨b2,o2+j,none⟩=some (.string s2))) 19 (by kernel_rfl) rfl (by kernel_rfl) (by kernel_rfl) rfl (by exact KSz.out) (fun hHeld=>?_)
         simp only [List.pop_toArray,List.dropLast_cons_cons,List.dropLast_singleton]
         refine tkH 0 hHeld ?_
         try simp only [Act.put,tkA,tkB,tkC]
         refine tkH 1 hHeld ?_
         try simp only [Act.put,tkA,tkB,tkC]
         refine tkH 2 hHeld ?_
         try simp only [Act.put,tkA,tkB,tkC]
         refine tkH 3 hHeld ?_
         try simp only [Act.put,tkA,tkB,tkC]
         refine tkH 4 hHeld ?_
         try simp only [Act.put,tkA,tkB,tkC]
         refine tkH 5 hHeld ?_
         try simp only [Act.put,tkA,tkB,tkC]
         refine tkH 6 hHeld ?_
         try simp only [Act.put,tkA,tkB,tkC]
         refine tkH 7 hHeld ?_
         try simp only [Act.put,tkA,tkB,tkC]
         refine tkH 9 hHeld ?_
         try simp only [Act.put,tkA,tkB,tkC]
         refine tkH 10 hHeld ?_
         try simp only [Act.put,tkA,tkB,tkC]
         refine tkH 11 hHeld ?_
         try simp only [Act.put,tkA,tkB,tkC]
         refine tkH 12 hHeld ?_
         try simp only [Act.put,tkA,tkB,tkC]
         refine tkH 13 hHeld ?_
         try simp only [Act.put,tkA,tkB,tkC]
         refine tkH 14 hHeld ?_
         try simp only [Act.put,tkA,tkB,tkC]
         refine tkH 15 hHeld ?_
         try simp only [Act.put,tkA,tkB,tkC]
         refine tkS 8 fun K hK=>?_
         go_simp
         (go_at_call 47;(with_reducible refine (HR1.out _).mono ?_);rintro e wa ⟨va,rfl,hv,hb⟩;have hw:=HWz.out.trans (hb.mono HWz.out.size);have HWa:=oH hw;have HVa:=oH hv;obtain ⟨ra0,ra4,ra1,ra5,ra2,ra3,ra6,ra7,rfl⟩:=hv.slice;have KSa:=oH (KB.out wa hw);clear hv hb hw)
         go_wp2_with fail
         refine hK.out _ _ ?_ (fun hHeld=>?_)
         ·exact kSx
         clear hK K
         try simp only [Act.put,tkA,tkB,tkC]
         refine tkS 16 fun K hK=>?_
         go_simp
         (go_at_call 47;(with_reducible refine (HR2.out _).mono ?_);rintro e wb ⟨vb,rfl,hv,hb⟩;have hw:=HWa.out.trans (hb.mono HWa.out.size);have HWb:=oH hw;have HVb:=oH hv;have HVa':=oH (HVa.out.below hb);obtain ⟨rb0,rb4,rb1,rb5,rb2,rb3,rb6,rb7,rfl⟩:=hv.slice;have KSb:=oH (KB.out wb hw);clear hv hb hw)
         go_wp2_with fail
         refine hK.out _ _ ?_ (fun hHeld=>?_)
         ·exact kSx
         clear hK K
         try simp only [Act.put,tkA,tkB,tkC]
         refine tkS 17 fun K hK=>?_
         go_simp
         (go_at_call 48;(with_reducible refine (zDu _ _ q1 q2 _ HVa'.out HVb.out (s1z.mono (by omega)) (s2z.mono (by omega))).mono ?_);rintro e wc ⟨vc,rfl,hv,hb⟩;have hw:=HWb.out.trans (hb.mono HWb.out.size);have HWc:=oH hw;have HVc:=oH hv;obtain ⟨rc0,rc4,rc1,rc5,rc2,rc3,rc6,rc7,rfl⟩:=hv.slice;have KSc:=oH (KB.out wc hw);clear hv hb hw)
         go_wp2_with fail
         refine hK.out _ _ ?_ (fun hHeld=>?_)
         ·exact kSx
         clear hK K
         try simp only [Act.put,tkA,tkB,tkC]
         refine tkS 18 fun K hK=>?_
         go_simp
         (go_at_call 46;(with_reducible refine (zDr _ _ sq (q1*q2) _ (HSQ.out.below HWc.out) HVc.out (ss.mono (by omega)) (s12.mono (by omega))).mono ?_);rintro e wd ⟨vd,rfl,hv,hb⟩;have hw:=HWc.out.trans (hb.mono HWc.out.size);have HWd:=oH hw;have HVd:=oH hv;obtain ⟨rd0,rd4,rd1,rd5,rd2,rd3,rd6,rd7,rfl⟩:=hv.slice;have KSd:=oH (KB.out wd hw);clear hv hb hw)
         go_wp2_with fail
         refine hK.out _ _ ?_ (fun hHeld=>?_)
         ·exact kSx
         clear hK K
         try simp only [Act.put,tkA,tkB,tkC]
         refine wpAnyH_done (by kernel_rfl) ?_ _
         simp only [xDh,List.getElem_toArray,List.getElem_cons_succ,List.getElem_cons_zero]
         have hkd:=HKJ.out.below HWd.out
         have HKD:=oH hkd
         have e0:=hkd.at_ (i:=0) rfl
         have e1:=hkd.at_ (i:=1) rfl
         have e2:=hkd.at_ (i:=2) rfl
         have e3:=hkd.at_ (i:=3) rfl
         have f0:=hkd.fr 0
         have f1:=hkd.fr 1
         have f2:=hkd.fr 2
         have f3:=hkd.fr 3
         clear hkd
         go_wp2_with fail
         go_roundw
         case rel=>exact ⟨j+1,⟨rd0,rd1,rd2,rd3,rd4,rd5,rd6,rd7⟩,by go_num,by omega,zXk (v:=⟨rd0,rd1,rd2,rd3,rd4,rd5,rd6,rd7⟩) HKD.out,by rw [←HIE.out,HSU2.out];exact zCg.set4 HVd.out HKD.out _ _ _ _,zIe (HBJ.out.trans (HWd.out.mono HBJ.out.size)) hg5 _ _ _ _⟩
         case measure=>simp [intOf];omega
        ·have hje:j=n:=by omega
         have HSF:=oH (show zCg wj u.val (zVs n M rs.length k) by rw [hje] at hsu;exact hsu)
         have hsz:Sz 1000000 (zVs n M rs.length k):=(HFP.out rs.length k hlt hlt2).sz.mono (by omega)
         have hfq:=HFP.out rs.length k hlt hlt2
         have HGV:=oH (zDs u.val (zVs n M rs.length k) wj HSF.out hsz)
         rw [zUo hfq,zUm hfq] at HGV
         obtain ⟨u0,u1,u2,u3,u4,u5,u6,u7⟩:=u
         have e0:=hku.at_ (i:=0) rfl
         have e1:=hku.at_ (i:=1) rfl
         have e2:=hku.at_ (i:=2) rfl
         have e3:=hku.at_ (i:=3) rfl
         have HBJ:=oH hbj
         obtain ⟨sx,hsx⟩:∃ s,zYd (zVs n M rs.length k)=s:=⟨_,rfl⟩
         rw [hsx] at HGV
         have HSX:=oH hsx
         clear hku hsu hbj hsz hfq hsx hje
         go_wp2_with fail
         refine HGV.out.mono ?_
         rintro e w8 ⟨rfl,hb8⟩
         have HB8:=oH (HBJ.out.trans (hb8.mono HBJ.out.size))
         have HO8:=oH (zUv HO.out HB8.out)
         have hsz8:=HB8.out.size
         clear hb8 e0 e1 e2 e3
         go_wp2_with (at_builtin;refine wpList_append_own _ rfl _ _ 29 rfl wi.heap.size 39 j0 (.string ⟨#[]⟩) 1 16 Tryz.underlying29 hj hy0 hy1 hy2 rfl (by decide) _ _ _ rfl (HO8.out.alloc _) ⟨w8.heap.size,0,none⟩ 1 1 [_] rfl rfl zUe zUf (by unfold maxLen;omega) (by omega) (by simp;omega) ?_)
         intro v9 w9 hown9 hgrow9 _
         have HO9:=oH hown9
         have HB9:=oH (((HBK.out.trans (HB8.out.mono hszk)).alloc (by omega) (.cells #[.string sx] 39)).grown hgrow9 (by simp;omega) (fun g hg=>(HO8.out.lt g hg).1))
         clear hown9 hgrow9
         go_wp2_with fail
         go_roundw
         case rel=>exact ⟨k+1,by go_num,by omega,by rw [List.range_succ,List.map_append,xCv];show World.ownsRow _ _ _ _ _ _ (_++[Value.string (zYd (zVs n M rs.length k))]);rw [HSX.out];exact HO9.out,HB9.out⟩
         case measure=>simp [intOf];omega
    ·have hke:k=n:=by omega
     obtain ⟨A5,c5,rfl, -⟩:=zUs HO.out
     have hln:((List.range n).map fun t=>zYd (zVs n M rs.length t)).length=n:=by simp
     have HNEW:=oH (show wk.ownsRow w1.heap.size 39 1 (.slice A5 ((List.range n).map fun t=>zYd (zVs n M rs.length t)).length c5) ((List.range n).map fun t=>zYd (zVs n M rs.length t)).length (sv ((List.range n).map fun t=>zYd (zVs n M rs.length t))) by
      rw [hln]
      have:=zUu HO.out hszi
      rw [hke] at this
      exact this)
     have HMO:=oH (HOWN.out.below HBK.out)
     have HB5:=oH (HBI.out.trans (HBK.out.mono hszi))
     have hsz5:=HB5.out.size
     have HLN:=oH hln
     obtain ⟨w5,rfl⟩:∃ w5:World,w5=wk:=⟨_,rfl⟩
     rw [hke]
     clear HO hke hln
     go_wp2_with (at_builtin;refine wpList_append_own _ rfl _ _ 27 rfl w1.heap.size 29 i0 (.slice none 0 0) 1 24 Tryz.underlying27 hi hz0 hz1 hz2 rfl (by decide) _ _ _ rfl (HMO.out.o.alloc _) ⟨w5.heap.size,0,none⟩ 1 1 [_] rfl rfl zUe xAm (by unfold maxLen;omega) (by omega) (by simp;omega) ?_)
     intro v' w6 hown6 hgrow6 _
     have hlt2:∀ k,(Value.slice AV rs.length cV).ownBlock=some k→w1.heap.size≤k:=fun k hk=>(HMO.out.o.lt k hk).1
     have hbel:Below w1.heap.size w5 w6:=zIc (Below.refl _ _) hsz5 hgrow6 hlt2
     have HM6:=oH ((HMO.out.below (bA)).push (r:=⟨A5,c5,(List.range n).map fun t=>zYd (zVs n M rs.length t)⟩) (zUv HNEW.out (bA)) (by simp only [HLN.out];exact hown6) hgrow6)
     have HB6:=oH (HB5.out.trans hbel)
     clear hown6 hgrow6 hbel hlt2
     go_wp2_with fail
     go_roundw
     case rel=>exact ⟨rs.length+1,rs++[⟨A5,c5,(List.range n).map fun t=>zYd (zVs n M rs.length t)⟩],by go_num,by omega,by simp,fun a ha=>by
      have ha':a<rs.length+1:=by simpa using ha
      rcases Nat.lt_or_ge a rs.length with h1|h1
      ·rw [List.getElem_append_left h1];exact HRS.out a h1
      ·have h2:a=rs.length:=by omega
       subst h2
       simp,HM6.out,HB6.out⟩
     case measure=>simp [intOf];omega
  ·have hin2:rs.length=n:=by omega
   have HMF:=oH (show zCv rs n n (zVs n M) from ⟨hin2,fun r hr=>by
    obtain ⟨a,ha,rfl⟩:=List.getElem_of_mem hr
    rw [HRS.out a ha]
    simp,fun a k ha hk=>by
    simp only [HRS.out a ha]
    simp,HFP.out⟩)
   have HTP:=oH (show zHe w.heap.size wi (.slice AV n cV) rs from by
    have:=(HOWN.out.topM).mono hsz1
    rw [hin2] at this
    exact this)
   have HCP:=oH (show ∀ r∈rs,r.ss.length≤r.cp from fun r hr=>by
    obtain ⟨A',c',e2,h2⟩:=zUs (HOWN.out.i r hr)
    injection e2 with _ _ e2
    omega)
   have HR:=oH (show zFw w b n (fun P=>∃ M,zHb n n M∧P=zVs n M) (.returned (.slice AV n cV)) wi from ⟨AV,cV,_,rfl,⟨rs,HTP.out,HMF.out,HCP.out⟩,⟨M,HTH.out,rfl⟩,HS1.out.below HBI.out,zNt HG1.out HBI.out⟩)
   rw [hin2]
   clear hin2
   go_wp2_with fail
   rw [←hQ.out]
   exact HR.out
end Go.Proofs.YtfjjcoggoomlbaaGreatDoor
