import Derived.Test.YtfjjcoggoomlbaaGreatDoorZNL
import Derived.Test.YtfjjcoggoomlbaaGreatDoorZNM
set_option maxHeartbeats 16000000
set_option maxRecDepth 100000
set_option linter.unusedVariables false
set_option linter.unusedSimpArgs false
set_option linter.unusedSectionVars false
namespace Go.Proofs.YtfjjcoggoomlbaaGreatDoor
open Go.RowKit
theorem zDq (A A':Option Addr) (rs rs':List zGi) (c c' m n:Nat) (M:Nat→Nat→Rat) (w:World) (h:zCw w A rs) (hmf:zCv rs m n M) (h':zCw w A' rs') (hmf':zCv rs' m n M) (hn1:1≤n) (hm:m≤12) (hn:n≤12) :
  Calls Tryz.prog 22 #[.slice A m c,.slice A' m c'] w fun e w'=>e = .returned (.bool true)∧Below w.heap.size w w':=by
 have HM:=oH h
 have HM':=oH h'
 have HF:=oH hmf
 have HF':=oH hmf'
 have hnn:((m:Int) != (m:Int))=false:=by simp
 clear h h' hmf hmf'
 go_enter Tryz.func22,Tryz.ntmps22
 go_wp2_with fail
 clear hnn
 go_loopw [13] (fun iv wr=>∃ i:Nat,iv = .int .i64 (i:Int)∧i≤m∧Below w.heap.size w wr) (fun iv _=>m-(intOf iv).toNat)
 case atStart=>exact ⟨0,rfl,Nat.zero_le _,Below.refl _ _⟩
 case round =>
  obtain ⟨i,rfl,hi,hbw⟩:=hrel
  obtain ⟨wk,rfl⟩:∃ w':World,w'=wr:=⟨_,rfl⟩
  have HBW:=oH hbw
  by_cases hlt:i<m
  ·have hl:=HF.out.len
   have hl':=HF'.out.len
   have hi1:i<rs.length:=by omega
   have hi2:i<rs'.length:=by omega
   obtain ⟨b,off,rfl,hb,hc⟩:=HM.out.some (by intro e;subst e;simp at hi1)
   obtain ⟨b',off',rfl,hb',hc'⟩:=HM'.out.some (by intro e;subst e;simp at hi2)
   have c0:=(hbw.cell (p:=⟨b,off+i,none⟩) hb).trans (hc i hi1)
   have c1:=(hbw.cell (p:=⟨b',off'+i,none⟩) hb').trans (hc' i hi2)
   have e1:=HF.out.rowAt hi1
   have e2:=HF'.out.rowAt hi2
   have hs1:=(HM.out.i _ (List.getElem_mem hi1)).below hbw
   have hs2:=(HM'.out.i _ (List.getElem_mem hi2)).below hbw
   have hee:rs'[i].ss=rs[i].ss:=List.ext_getElem (by omega) fun k h1 h2=>by rw [HF'.out.cel i k hi2 h1,HF.out.cel i k hi1 h2]
   rw [hee] at hs2
   have HSM:=oH (fun W (hW:Below wk.heap.size wk W)=>(show Calls Tryz.prog 29 #[.slice rs[i].ad n rs[i].cp,.slice rs'[i].ad n rs'[i].cp] W (fun e w'=>e = .returned (.bool true)∧Below W.heap.size W w') from by
    have:=zGj rs[i].ad rs'[i].ad rs[i].ss rs[i].ss rs[i].cp rs'[i].cp W (hs1.below hW) (hs2.below hW) (by omega) (by omega)
    rw [decide_eq_true rfl,e1] at this
    exact this))
   rw [e1] at c0
   rw [e2] at c1
   generalize rs[i].ad=ad at *
   generalize rs'[i].ad=ad' at *
   generalize rs[i].cp=cp at *
   generalize rs'[i].cp=cp' at *
   have KB:=oH (fun W' (hW:Below wk.heap.size wk W')=>(show W'.cell? ⟨b,off+i,none⟩=some (.slice ad n cp)∧W'.cell? ⟨b',off'+i,none⟩=some (.slice ad' n cp') from ⟨kP hW c0,kP hW c1⟩))
   have HWz:=oH (show Below wk.heap.size wk wk.drew from (Below.refl _ _).drew)
   have KSz:=oH (KB.out _ HWz.out)
   have x1:(0:Int)≤(i:Int):=by omega
   have x2:(i:Int)<(m:Int):=by omega
   clear hc hc' hs1 hs2 hee e1 e2 hbw c0 c1
   go_wp2_with fail
   refine wp_region_held_drew (S:=(fun w'=>w'.cell? ⟨b,off+i,none⟩=some (.slice ad n cp)∧w'.cell? ⟨b',off'+i,none⟩=some (.slice ad' n cp'))) (by kernel_rfl) (by exact KSz.out) (fun hHeld=>?_)
   refine tkH 0 hHeld ?_
   try simp only [Act.put,tkA,tkB,tkC]
   refine tkH 1 hHeld ?_
   try simp only [Act.put,tkA,tkB,tkC]
   refine tkH 2 hHeld ?_
   try simp only [Act.put,tkA,tkB,tkC]
   refine tkH 3 hHeld ?_
   try simp only [Act.put,tkA,tkB,tkC]
   refine tkH 4 hHeld ?_
   try simp only [Act.put,tkA,tkB,tkC]
   refine tkH 5 hHeld ?_
   try simp only [Act.put,tkA,tkB,tkC]
   refine tkH 6 hHeld ?_
   try simp only [Act.put,tkA,tkB,tkC]
   refine tkH 7 hHeld ?_
   try simp only [Act.put,tkA,tkB,tkC]
   refine tkS 8 fun K hK=>?_
   go_simp
   (go_at_call 29;(with_reducible refine (HSM.out _ HWz.out).mono ?_);rintro e wa ⟨rfl,hb⟩;have hw:=HWz.out.trans (hb.mono HWz.out.size);have HWa:=oH hw;have KSa:=oH (KB.out wa hw);clear hb hw)
   go_wp2_with fail
   refine hK.out _ _ ?_ (fun hHeld=>?_)
   ·with_reducible exact KSa.out
   clear hK K
   try simp only [Act.put,tkA,tkB,tkC]
   refine tkH 9 hHeld ?_
   try simp only [Act.put,tkA,tkB,tkC]
   refine wpAnyH_done (by kernel_rfl) ?_ _
   go_wp2_with fail
   go_roundw
   case rel=>exact ⟨i+1,by go_num,by omega,HBW.out.trans (HWa.out.mono HBW.out.size)⟩
   case measure=>simp [intOf];omega
  ·clear hbw
   go_wp2_with fail
   go_ret
   exact ⟨rfl,HBW.out⟩
theorem zNv {w wr w':World} {b:Nat} {row:Option Nat} (h:w.grownBy wr (some b)) (hg:wr.grownBy w' row) (hr:∀ k,row=some k→w.heap.size≤k):w.grownBy w' (some b) :=
 ⟨hg.os.trans h.os,hg.tape.trans h.tape,hg.output.trans h.output,Nat.le_trans h.size hg.size,fun i hi hne=>by
  have:=h.size
  rw [hg.block i (by omega) (fun e=>by have:=hr i e.symm;omega)]
  exact h.block i hi hne⟩
theorem app1Q {B:Nat} {wr w3:World} {e:TypeId} {v:Value} {n:Nat} {xs:List Value} {o:Obj} (h:wr.ownsRow B e 1 v n xs) (hs:B≤wr.heap.size) (hg:(wr.alloc o).grownBy w3 v.ownBlock):Below B wr w3:=by
 have hsz:=hg.size
 rw [World.size_alloc] at hsz
 have hne:∀ g,some g=v.ownBlock→B≤g∧g<wr.heap.size:=fun g e=>h.lt g e.symm
 refine ⟨hg.os,hg.tape,hg.output,by omega,fun i hi=>?_⟩
 rw [hg.block i (by simp;omega) (fun e=>by have:=hne _ e;omega)]
 exact Below.heap_alloc wr _ i (by omega)
def RetPermQ (w:World) (b n:Nat) (e:Ending) (w':World):Prop:=∃ (v:Value) (ps:List Nat),e = .returned v∧ps.Perm (List.range n)∧w'.ownsRow w.heap.size 3 1 v ps.length (vn ps)∧Src w' b∧w.grownBy w' (some b)
theorem xDc {ps:List Nat} {j r:Nat} (hj:j<ps.length) (hr:r<ps.length):((ps.set j (nth ps r)).set r (nth ps j)).Perm ps:=by
 rw [zTd hj,zTd hr]
 exact List.set_set_perm hj hr
theorem xGe (xs:List Nat) (i x:Nat):vn (xs.set i x)=(vn xs).set i (.int .i64 (x:Int)):=by simp [vn,List.map_set]
section
variable {w w2:World} {B g k cap b:Nat} {ps:List Nat} {j r:Nat} {u u':Value}
theorem xDb (h:w2.ownsRow B 3 1 (.slice (some ⟨g,0,none⟩) k cap) k (vn ps)) (j r:Nat):((w2.setCell ⟨g,j,none⟩ (.int .i64 ((nth ps r:Nat):Int))).setCell ⟨g,r,none⟩ (.int .i64 ((nth ps j:Nat):Int))).ownsRow B 3 1 (.slice (some ⟨g,0,none⟩) k cap) k (vn ((ps.set j (nth ps r)).set r (nth ps j))):=by
 rw [xGe,xGe]
 exact ((h.stored j _).1.stored r _).1
theorem xDa (hg:w.grownBy w2 (some b)) (h:w2.ownsRow w.heap.size 3 1 (.slice (some ⟨g,0,none⟩) k cap) k (vn ps)):w.grownBy ((w2.setCell ⟨g,j,none⟩ u).setCell ⟨g,r,none⟩ u') (some b):=by
 have hgt:=(h.lt g rfl).1
 have h1:w.grownBy (w2.setCell ⟨g,j,none⟩ u) (some b):=zNv hg (zNw g j u) (fun i e=>by injection e with e;omega)
 exact zNv h1 (zNw g r u') (fun i e=>by injection e with e;omega)
theorem xDd (hs:Src w2 b) (h:w2.ownsRow w.heap.size 3 1 (.slice (some ⟨g,0,none⟩) k cap) k (vn ps)) (hb:b<w.heap.size):Src ((w2.setCell ⟨g,j,none⟩ u).setCell ⟨g,r,none⟩ u') b:=by
 have hgt:=(h.lt g rfl).1
 have h1:=zNw (w:=w2) g j u
 have h2:=zNw (w:=w2.setCell ⟨g,j,none⟩ u) g r u'
 have hlt:=hs.lt
 have s1:=h1.size
 exact (hs.above h1.size (fun i hi=>h1.block i (by omega) (fun e=>by injection e with e;omega))).above h2.size (fun i hi=>h2.block i (by omega) (fun e=>by injection e with e;omega))
end
theorem zGm (b n:Nat) (w:World) (hs:Src w b) (hn:n≤1000):Calls Tryz.prog 18 #[.pointer (some ⟨b,0,none⟩),.int .i64 (n:Int)] w (RetPermQ w b n):=by
 obtain ⟨i0,hi,hz0,hz1,hz2⟩:=info_parts Tryz.infoInt
 have HS:=oH hs
 have hbw:=hs.lt
 clear hs
 go_enter Tryz.func18,Tryz.ntmps18
 go_wp2_with fail
 go_loopw [5,6] (fun v iv wr=>∃ k:Nat,iv = .int .i64 (k:Int)∧k≤n∧wr.ownsRow w.heap.size 3 1 v k (vn (List.range k))∧Below w.heap.size w wr) (fun _ iv _=>n-(intOf iv).toNat)
 case atStart=>exact ⟨0,rfl,Nat.zero_le _,World.ownsRow_nil _ _ _ _,Below.refl _ _⟩
 case round =>
  obtain ⟨k,rfl,hk,hown,hbel⟩:=hrel
  have HOWN:=oH hown
  have HBEL:=oH hbel
  have hsz:=hbel.size
  clear hown hbel
  by_cases hlt:k<n
  ·go_wp2_with (at_builtin;refine wpList_append_own _ rfl _ _ 22 rfl w.heap.size 3 i0 (.int .i64 0) 1 8 Tryz.underlying22 hi hz0 hz1 hz2 rfl (by decide) _ _ _ rfl (HOWN.out.alloc _) ⟨wr.heap.size,0,none⟩ 1 1 [_] rfl rfl zUe zUc (by unfold maxLen;omega) (by omega) (by simp;omega) ?_)
   intro v' w3 hown3 hgrow3 _
   have HO3:=oH hown3
   have HB3:=oH (HBEL.out.trans (app1Q HOWN.out hsz hgrow3))
   clear hown3 hgrow3
   go_wp2_with fail
   go_roundw
   case rel=>exact ⟨k+1,by go_num,by omega,by rw [List.range_succ,xGf];exact HO3.out,HB3.out⟩
   case measure=>simp [intOf];omega
  ·obtain rfl:k=n:=by omega
   have HSR:=oH (HS.out.below HBEL.out)
   have HGR:Hid (w.grownBy wr (some b)):=oH ⟨HBEL.out.os,HBEL.out.tape,HBEL.out.output,HBEL.out.size,fun j hj _=>HBEL.out.block j hj⟩
   go_wp2_with fail
   go_loopw [7] (fun iv wq=>∃ (i:Int) (ps:List Nat),iv = .int .i64 i ∧ -1≤i∧i<k∧ps.length=k∧ps.Perm (List.range k)∧wq.ownsRow w.heap.size 3 1 u5 k (vn ps)∧Src wq b∧w.grownBy wq (some b)) (fun iv _=>(intOf iv+1).toNat)
   case atStart=>exact ⟨(k:Int)-1,List.range k,rfl,by omega,by omega,List.length_range,List.Perm.refl _,HOWN.out,HSR.out,HGR.out⟩
   case round =>
    obtain ⟨i,ps,rfl,hi1,hi2,hpl,hperm,hown,hsrc,hgr⟩:=hrel
    obtain ⟨wq,rfl⟩:∃ wq:World,wq=wr:=⟨_,rfl⟩
    have HPL:=oH hpl
    have HPM:=oH hperm
    have HO:=oH hown
    have HSQ:=oH hsrc
    have HGQ:=oH hgr
    clear hpl hperm hown hsrc hgr
    by_cases hlt2:0<i
    ·obtain ⟨j,rfl⟩:∃ j:Nat,i=j:=⟨i.toNat,by omega⟩
     go_wp2_with fail
     refine (zDa b ((j:Int)+1) wq HSQ.out (by omega) (by omega)).mono ?_
     rintro e w2 ⟨r,rfl,hr,hs2,hg2⟩
     have HS2:=oH hs2
     have HG2:=oH (zNy HGQ.out hg2)
     have HO2:=oH (zUz HO.out hg2 hbw)
     have hrk:r<k:=by omega
     have hjk:j<k:=by omega
     clear hs2 hg2
     obtain ⟨g,cap,hu5⟩:∃ g cap,u5 = .slice (some ⟨g,0,none⟩) k cap:=by
      rcases HO2.out.2 with ⟨_,h0⟩|⟨g,cap,cur,hv,_⟩
      ·omega
      ·exact ⟨g,cap,hv⟩
     subst hu5
     have cj:w2.cell? ⟨g,j,none⟩=some (.int .i64 ((nth ps j:Nat):Int)):=by rw [HO2.out.cellAt j (by omega),xGc (by rw [HPL.out];exact hjk)]
     have cr:w2.cell? ⟨g,r,none⟩=some (.int .i64 ((nth ps r:Nat):Int)):=by rw [HO2.out.cellAt r (by omega),xGc (by rw [HPL.out];exact hrk)]
     have fj:=HO2.out.frozenAt j
     have fr:=HO2.out.frozenAt r
     have x1:(0:Int)≤(j:Int):=by omega
     have x2:(j:Int)<(k:Int):=by omega
     have x3:(0:Int)≤(r:Int):=by omega
     have x4:(r:Int)<(k:Int):=by omega
     have HSW:=oH (show ((ps.set j (nth ps r)).set r (nth ps j)).Perm ps from xDc (by rw [HPL.out];exact hjk) (by rw [HPL.out];exact hrk))
     have HO3:=oH (xDb HO2.out j r)
     have HS3:=oH (xDd (u := .int .i64 ((nth ps r:Nat):Int)) (u' := .int .i64 ((nth ps j:Nat):Int)) (j:=j) (r:=r) HS2.out HO2.out hbw)
     have HG3:=oH (xDa (u := .int .i64 ((nth ps r:Nat):Int)) (u' := .int .i64 ((nth ps j:Nat):Int)) (j:=j) (r:=r) HG2.out HO2.out)
     by_cases hjr:j=r
     ·subst hjr
      go_wp2_with fail
      go_region
      all_goals go_wp2_with fail
      all_goals go_roundw
      case rel=>exact ⟨(j:Int)-1,_,by go_num,by omega,by omega,by rw [List.length_set,List.length_set];exact HPL.out,HSW.out.trans HPM.out,HO3.out,HS3.out,zNu HG3.out⟩
      case measure=>simp [intOf]<;>omega
     ·go_wp2_with fail
      go_region
      all_goals go_wp2_with fail
      all_goals go_roundw
      case rel=>exact ⟨(j:Int)-1,_,by go_num,by omega,by omega,by rw [List.length_set,List.length_set];exact HPL.out,HSW.out.trans HPM.out,HO3.out,HS3.out,zNu HG3.out⟩
      case measure=>simp [intOf]<;>omega
    ·have HPL2:=HPL.out
     go_wp2_with fail
     go_ret
     exact ⟨_,ps,rfl,HPM.out,by rw [HPL.out];exact HO.out,HSQ.out,HGQ.out⟩
def penQ:List Rat:=[1,Rat.divInt 1 2,3,Rat.divInt 1 10,Rat.divInt 7 3]
def penS:List ByteArray:=[⟨#[49]⟩,⟨#[49,47,50]⟩,⟨#[51]⟩,⟨#[49,47,49,48]⟩,⟨#[55,47,51]⟩]
theorem t_110:zYd (Rat.divInt 1 10)=⟨#[49,47,49,48]⟩:=zYh (n:=1) (d:=10) (by decide +kernel) (by decide +kernel) (by decide) (zOl (n:=1) (by decide)) ((zOs 10).trans (Lib.decDigits_two (i:=10) (by decide) (by decide)))
theorem t_73:zYd (Rat.divInt 7 3)=⟨#[55,47,51]⟩:=zYh (n:=7) (d:=3) (by decide +kernel) (by decide +kernel) (by decide) (zOl (n:=7) (by decide)) (zOl (n:=3) (by decide))
theorem pen_at:∀ i,i<5→penS.getD i ⟨#[]⟩=zYd (penQ.getD i 1)
 | 0,_=>((zYm (show (1:Rat).den=1 from rfl)).trans (xBx (n:=1) (by decide))).symm
 | 1,_=>t_12.symm
 | 2,_=>((zYm (show (3:Rat).den=1 from rfl)).trans (xBx (n:=3) (by decide))).symm
 | 3,_=>t_110.symm
 | 4,_=>t_73.symm
 | n+5,h=>absurd h (by omega)
def Pen (q:Rat):Prop:=zAu 2 q∧0<q
theorem pen_ok:∀ i,i<5→Pen (penQ.getD i 1)
 | 0,_=>⟨⟨by unfold Dig;decide +kernel,by unfold Dig;decide +kernel⟩,by decide +kernel⟩
 | 1,_=>⟨⟨by unfold Dig;decide +kernel,by unfold Dig;decide +kernel⟩,by decide +kernel⟩
 | 2,_=>⟨⟨by unfold Dig;decide +kernel,by unfold Dig;decide +kernel⟩,by decide +kernel⟩
 | 3,_=>⟨⟨by unfold Dig;decide +kernel,by unfold Dig;decide +kernel⟩,by decide +kernel⟩
 | 4,_=>⟨⟨by unfold Dig;decide +kernel,by unfold Dig;decide +kernel⟩,by decide +kernel⟩
 | n+5,h=>absurd h (by omega)
theorem zDi (b:Nat) (w:World) (hs:Src w b) :
  Calls Tryz.prog 19 #[.pointer (some ⟨b,0,none⟩)] w fun e w'=>∃ q:Rat,e = .returned (.string (zYd q))∧Pen q∧Src w' b∧w.grownBy w' (some b):=by
 have HB:=oH (Blk.new w 9 (penS.map Value.string))
 have HO:Hid (∀ o:Obj,w.grownBy (w.alloc o) (some b)):=fun o=>World.grownBy_alloc _ _ _
 have hlt:=hs.lt
 have HC:=oH (fun (W:World) (hW:Blk W w.heap.size 9 (penS.map Value.string)) (hS:Src W b)=>zCu b w.heap.size 5 (fun i=>penS.getD i ⟨#[]⟩) W hS (fun i hi=>by
  rw [hW.cell,List.getElem?_map,List.getD_eq_getElem?_getD,List.getElem?_eq_getElem (show i<penS.length from hi)];rfl) (by omega) hW.lt (by omega) (by omega))
 have HSA:=oH (fun o=>xBd hs o)
 clear hs
 go_enter Tryz.func19,Tryz.ntmps19
 go_wp2_with fail
 refine (HC.out _ HB.out (HSA.out _)).mono ?_
 rintro e w1 ⟨i,hi,rfl,hs1,hg1⟩
 have HS1:=oH hs1
 have HG1:=oH (zNy (HO.out _) hg1)
 have HP:=oH (pen_at i hi)
 have HPO:=oH (pen_ok i hi)
 clear hs1 hg1
 generalize penS.getD i ⟨#[]⟩=sx at *
 go_wp2_with fail
 go_ret
 exact ⟨penQ.getD i 1,by rw [←HP.out];rfl,HPO.out,HS1.out,HG1.out⟩
theorem zVu {n:Nat} {M:Nat→Nat→Rat} {p:Nat→Nat} (hi:∀ i k,i<n→k<n→p i=p k→i=k):∀ i k,i<n→k<n→zVs n M (p i) (p k)=zVs n (fun a t=>M (p a) t) i k:=fun i k h1 h2=>by
 unfold zVs
 rw [show idn (p i) (p k)=idn i k by
  unfold idn
  by_cases h:i=k
  ·subst h;rw [if_pos rfl,if_pos rfl]
  ·rw [if_neg h,if_neg (fun e=>h (hi i k h1 h2 e))]]
theorem xDq {n:Nat} {M:Nat→Nat→Rat} {p:Nat→Nat} (h:zHb n n M) (hp:∀ i,i<n→p i<n):zHb n n (fun a t=>M (p a) t):=fun i k hi hk=>h _ _ (hp i hi) hk
theorem nth_inj {ps:List Nat} {n:Nat} (h:ps.Perm (List.range n)):∀ i k,i<n→k<n→nth ps i=nth ps k→i=k:=fun i k hi hk e=>by
 have hl:ps.length=n:=by rw [h.length_eq,List.length_range]
 rw [zTd (by omega),zTd (by omega)] at e
 exact (List.getElem_inj (h.nodup_iff.2 List.nodup_range)).1 e
theorem nth_low {ps:List Nat} {n:Nat} (h:ps.Perm (List.range n)) {i:Nat} (hi:i<n):nth ps i<n:=by
 have hl:ps.length=n:=by rw [h.length_eq,List.length_range]
 rw [zTd (by omega)]
 exact List.mem_range.1 (h.mem_iff.1 (List.getElem_mem _))
theorem zSd (M:Nat→Nat→Rat) (q:Rat):(fun i k=>M i k*q)=fun i k=>q*M i k:=by
 funext i k
 exact Rat.mul_comm _ _
theorem zKb {q:Rat} (hq:q≠0) (M:Nat→Nat→Rat) (t:Nat):dD (fun i k=>M i k*q) t=dD M t*q:=by
 rw [zSd]
 show zZk _ t t t=_
 rw [zZp hq,Rat.mul_comm]
 rfl
theorem lL_mul {q:Rat} (hq:q≠0) (M:Nat→Nat→Rat) (i t:Nat):lL (fun i k=>M i k*q) i t=lL M i t:=by
 have h1:zZk (fun i k=>M i k*q) t i t=q*zZk M t i t:=by rw [zSd,zZp hq]
 have h2:=zKb hq M t
 unfold lL
 rw [h1,h2,Rat.mul_comm (dD M t) q]
 by_cases h:dD M t=0
 ·rw [h];grind
 ·grind
theorem lK_mul {q:Rat} (hq:q≠0) (M:Nat→Nat→Rat) (n:Nat):lK (fun i k=>M i k*q) n=lK M n:=by
 funext i j
 unfold lK
 rw [lL_mul hq]
theorem MatOwn.mxR {B n c:Nat} {w:World} {A:Option Addr} {rs:List zGi} {M:Nat→Nat→Rat} (h:MatOwn B w (.slice A n c) rs) (hm:zCv rs n n M):MxR w A n M:=by
 have hl:=hm.len
 subst hl
 exact ⟨rs,h.read,hm,fun r hr=>by
  obtain ⟨A',c',e,hc⟩:=zUs (h.i r hr)
  injection e with e1 e2 e3
  omega⟩
theorem MxC.below {B n c:Nat} {w w':World} {A:Option Addr} {M:Nat→Nat→Rat} (h:MxC B w A n c M) (hb:Below w.heap.size w w'):MxC B w' A n c M:=by
 obtain ⟨rs,h1,h2,h3⟩:=h
 exact ⟨rs,h1.below hb,h2,h3⟩
section
variable {w:World} {A:Option Addr} {n c k0:Nat} {M:Nat→Nat→Rat}
theorem posY (h:MxR w A n M) (hn1:1≤n) (hn:n≤4) (hs:SymM n M) (hk1:1≤k0) (hk0:k0≤8) (hd:∀ i k,i<n→k<n→zAu k0 (M i k)) (hp:∀ k,zDm n M k→k=n) (henv:Env w) :
  Calls Tryz.prog 21 #[.slice A n c] w fun e w'=>e = .returned (.tuple #[.bool true,.int .i64 0])∧Below w.heap.size w w':=by
 obtain ⟨rs,h1,h2,h3⟩:=h
 refine (zDn A c n rs M w h1 h2 hn1 (by omega) hs (h2.light hn hn hk1 hk0 hd) henv).mono ?_
 rintro e w' ⟨k,hk,rfl,hb⟩
 obtain rfl:=hp k hk
 exact ⟨by rw [decide_eq_true rfl],hb⟩
theorem decG (h:MxR w A n M) (hn1:1≤n) (hn:n≤4) (hs:SymM n M) (hk1:1≤k0) (hk0:k0≤8) (hd:∀ i k,i<n→k<n→zAu k0 (M i k)) (hp:∀ k,zDm n M k→k=n) (henv:Env w)
  (hfD:∀ k,k<n→(∀ t,t≤k→0<dD M t)→zBq (dD M k)) (hfL:∀ k i,k<i→i<n→(∀ t,t≤k→0<dD M t)→zBq (lL M i k)) :
  Calls Tryz.prog 12 #[.slice A n c] w fun e w'=>∃ (U gD cD:Nat) (rs:List zGi),e = .returned (.tuple #[.agg #[.slice (some ⟨U,0,none⟩) n n,.slice (some ⟨gD,0,none⟩) n cD],.int .i64 0])∧zDm n M n∧zBu w.heap.size n n (lK M n) U rs w'∧w'.ownsRow w.heap.size 39 1 (.slice (some ⟨gD,0,none⟩) n cD) n (dTx M n)∧Below w.heap.size w w':=by
 obtain ⟨rs,h1,h2,h3⟩:=h
 refine (zAs A c n rs M w h1 h2 hn1 (by omega) hs (h2.light hn hn hk1 hk0 hd) henv hfD hfL).mono ?_
 rintro e w' ⟨k,hk,hb,hh⟩
 obtain rfl:=hp k hk
 rcases hh with ⟨h9, -⟩|⟨-,U,Dv,rs',rfl,hg,ho⟩
 ·omega
 ·obtain ⟨AD,cD,rfl, -⟩:=zUs ho
  obtain ⟨gD,rfl⟩:=zUr ho (by omega)
  exact ⟨U,gD,cD,rs',rfl,hk,hg,ho,hb⟩
theorem sclM {q:Rat} (h:MxR w A n M) (hn1:1≤n) (hn:n≤4) (hq:zBq q) (hf:∀ i k,i<n→k<n→zBq (M i k*q)) :
  Calls Tryz.prog 20 #[.slice A n c,.string (zYd q)] w fun e w'=>∃ A' c',e = .returned (.tuple #[.slice A' n c',.int .i64 0])∧MxR w' A' n (fun i k=>M i k*q)∧Below w.heap.size w w':=by
 obtain ⟨rs,h1,h2,h3⟩:=h
 refine (zEw A rs c n n M q w h1 h2 hn1 (by omega) hn1 (by omega) hq hf).mono ?_
 rintro e w' ⟨A',c',rs',rfl,hm,ho,hb⟩
 exact ⟨A',c',rfl,ho.mxR hm,hb⟩
theorem equL {U V B B':Nat} {rs rs':List zGi} (h:zBu B n n M U rs w) (h':zBu B' n n M V rs' w) (hn1:1≤n) (hn:n≤4) :
  Calls Tryz.prog 22 #[.slice (some ⟨U,0,none⟩) n n,.slice (some ⟨V,0,none⟩) n n] w fun e w'=>e = .returned (.bool true)∧Below w.heap.size w w' :=
 zDq _ _ rs rs' n n n n M w (h.topM.read' h.mf.len) h.mf (h'.topM.read' h'.mf.len) h'.mf hn1 (by omega) (by omega)
theorem dTx_at {B g t:Nat} {cD:Nat} (h:w.ownsRow B 39 1 (.slice (some ⟨g,0,none⟩) n cD) n (dTx M n)) (ht:t<n):w.cell? ⟨g,t,none⟩=some (.string (zYd (dD M t))):=by
 rw [h.cellAt t (by omega)]
 unfold dTx sv
 rw [List.map_map,List.getElem?_map,List.getElem?_range ht]
 rfl
theorem dTx_mul {q:Rat} (hq:q≠0):dTx (fun i k=>M i k*q) n=sv ((List.range n).map fun t=>zYd (dD M t*q)):=by
 unfold dTx
 congr 1
 refine List.map_congr_left fun t _=>?_
 rw [zKb hq]
end
def PerR (B:Nat) (w:World) (g n c:Nat) (ps:List Nat):Prop:=w.ownsRow B 3 1 (.slice (some ⟨g,0,none⟩) n c) n (vn ps)
section
variable {w w':World} {B g n c b:Nat} {ps:List Nat}
theorem PerR.at_ (h:PerR B w g n c ps) (hl:ps.length=n) {i:Nat} (hi:i<n) (hb:Below w.heap.size w w'):w'.cell? ⟨g,i,none⟩=some (.int .i64 ((nth ps i:Nat):Int)):=by
 have h1:w.cell? ⟨g,i,none⟩=some (.int .i64 ((nth ps i:Nat):Int)):=by rw [World.ownsRow.cellAt h i (by omega),xGc (by omega)]
 exact kP hb h1
theorem permC (b n:Nat) (w:World) (hs:Src w b) (hn1:1≤n) (hn:n≤4):Calls Tryz.prog 18 #[.pointer (some ⟨b,0,none⟩),.int .i64 (n:Int)] w fun e w'=>∃ g c ps,e = .returned (.slice (some ⟨g,0,none⟩) n c)∧ps.Perm (List.range n)∧PerR w.heap.size w' g n c ps∧Src w' b∧w.grownBy w' (some b):=by
 refine (zGm b n w hs (by omega)).mono ?_
 rintro e w' ⟨v,ps,rfl,hp,ho,hs',hg⟩
 have hl:ps.length=n:=by rw [hp.length_eq,List.length_range]
 rw [hl] at ho
 obtain ⟨A,c,rfl, -⟩:=zUs ho
 obtain ⟨g,rfl⟩:=zUr ho (by omega)
 exact ⟨g,c,ps,rfl,hp,ho,hs',hg⟩
end
end Go.Proofs.YtfjjcoggoomlbaaGreatDoor
