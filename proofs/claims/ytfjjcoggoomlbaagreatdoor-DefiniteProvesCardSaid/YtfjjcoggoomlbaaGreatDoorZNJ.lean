import Derived.Test.YtfjjcoggoomlbaaGreatDoorZNI
import Derived.Test.YtfjjcoggoomlbaaGreatDoorZNG
set_option maxHeartbeats 16000000
set_option maxRecDepth 100000
set_option linter.unusedVariables false
set_option linter.unusedSimpArgs false
set_option linter.unusedSectionVars false
namespace Go.Proofs.YtfjjcoggoomlbaaGreatDoor
open Go.RowKit
theorem nil_in (w:World) (A:oAx):zCz w A []:=⟨fun h=>absurd rfl h,fun r hr=>(by cases hr)⟩
theorem nil_fine:zBr [] 0:=⟨dCx,dCx,fun r hr=>(by cases hr),fun r hr=>(by cases hr),fun _=>rfl⟩
theorem zDh (A:oAx) (c:Nat) (w:World):Calls Tryz.prog 52 #[.slice A 0 c] w fun e w'=>∃ dv:zDf,e = .returned (.agg #[.bool dv.nb,.slice dv.ad dv.l dv.c,.slice none 0 0])/\zCk w' dv.val 1/\Below w.heap.size w w':=by
 go_enter Tryz.func52,Tryz.ntmps52
 go_wp2_with fail;refine (zCs _).mono ?_;rintro e w2 ⟨v2,rfl,hv2,hb2⟩;have HB2:=oH (((Below.refl w.heap.size w).alloc lRx (.cells #[.bool false,.slice none 0 0,.slice none 0 0] 86)).trans (hb2.mono sMx));have HR2:=oH ((Blk.new w 86 [.bool false,.slice none 0 0,.slice none 0 0]).below hb2);obtain ⟨na,A1,l1,c1,rfl⟩:=hv2.slice;have hbl:Below w2.heap.size w2 (w2.alloc (.cells #[.bool na,.slice A1 l1 c1,.slice none 0 0] 86)):=bA;have HV2:=oH (hv2.below hbl);have HX:=oH (Blk.new w2 86 [.bool na,.slice A1 l1 c1,.slice none 0 0]);have HBb:=bTx2 HB2 hbl;have HRb:=oH (HR2.below hbl);clear hv2 hb2 hbl HB2 HR2;go_wp2_with fail;generalize w2.alloc (.cells #[.bool na,.slice A1 l1 c1,.slice none 0 0] 86)=wb at *;generalize w2.heap.size=x at *
 go_loopw [4,6,7,9,21] (fun v _ _ _ iv wr=>v = .slice none 0 0/\iv = .int .i64 0/\wr=wb) (fun _ _ _ _ _ _=>0)
 ·exact ⟨rfl,rfl,rfl⟩
 obtain ⟨rfl,rfl,rfl⟩:=hrel;go_wp2_with fail
 go_loopw [47] (fun iv wq=>iv = .int .i64 0/\wq=wr) (fun _ _=>0)
 ·exact ⟨rfl,rfl⟩
 rename_i wq
 obtain ⟨rfl,rfl⟩:=hrel;have k0:=HX.at_ (i:=0) rfl;have k1:=HX.at_ (i:=1) rfl;have k2:=HX.at_ (i:=2) rfl;have e0:=HRb.at_ (i:=0) rfl;have e1:=HRb.at_ (i:=1) rfl;have e2:=HRb.at_ (i:=2) rfl;have f0:=HRb.fr 0;have f1:=HRb.fr 1;have f2:=HRb.fr 2;go_wp2_with fail;refine bodyPost_ret (v := .agg #[.bool na,.slice A1 l1 c1,.slice none 0 0]) (by simp [results,Tryz.results52,go_sem,e0,e1,e2]) rfl ?_;refine ⟨⟨na,A1,l1,c1⟩,rfl,?_,((HBb.setCell (p:=⟨w.heap.size,0,none⟩) lRx _).setCell (p:=⟨w.heap.size,1,none⟩) lRx _).setCell (p:=⟨w.heap.size,2,none⟩) lRx _⟩;exact HV2.box HRb.out xEq (zOp (zOp (zOo w.heap.size 0 _) 1 _) 2 _)
theorem zMx (dv:zDf) (A:oAx) (c:Nat) (w:World) (hd:zCk w dv.val 1) (htab:Tab w) :
  Calls Tryz.prog 153 #[.agg #[.bool dv.nb,.slice dv.ad dv.l dv.c,.slice A 0 c]] w fun e w'=>e = .returned (.int .i64 (Lib.nDigits 1:Nat))/\Below w.heap.size w w':=by
 have hbl:Below w.heap.size w (w.alloc (.cells #[.bool dv.nb,.slice dv.ad dv.l dv.c,.slice A 0 c] 86)):=bA;have hk:=Blk.new w 86 [.bool dv.nb,.slice dv.ad dv.l dv.c,.slice A 0 c];have HK:=oH hk;have HDG:=oH (zAw (.agg #[.bool dv.nb,.slice dv.ad dv.l dv.c]) 1 _ (hd.below hbl) (by have h9:=zCp;unfold LL at h9;omega) (htab.below hbl));have HB:=oH hbl;have c0:=hk.at_ (i:=0) rfl;have c1:=hk.at_ (i:=1) rfl;generalize hnd:Lib.nDigits (1:Int).natAbs=nd at *;have HND:=oH (show Lib.nDigits 1=nd from hnd);clear hd htab hbl hk hnd
 go_enter Tryz.func153,Tryz.ntmps153
 go_wp2_with fail;refine HDG.mono ?_;rintro e w2 ⟨rfl,hb2⟩;have HB2:=bTx2 HB hb2;have c2:=(HK.below hb2).at_ (i:=2) rfl;clear hb2 c0 c1;go_wp2_with fail
 go_loopw [3,14] (fun v iv wr=>v = .int .i64 (nd:Int)/\iv = .int .i64 0/\wr=w2) (fun _ _ _=>0)
 ·exact ⟨rfl,rfl,rfl⟩
 obtain ⟨rfl,rfl,rfl⟩:=hrel;go_wp2_with fail;go_ret
 exact ⟨by rw [HND.out];rfl,HB2.out⟩
theorem zCb (A:oAx) (c:Nat) (w:World) (henv:Env w):Calls Tryz.prog 87 #[.slice A 0 c] w fun e w'=>e = .returned (.bool false)/\Below w.heap.size w w':=by
 have HE:=oH henv;clear henv
 go_enter Tryz.func87,Tryz.ntmps87
 go_wp2_with fail;refine (zDh A c w).mono ?_;rintro e w2 ⟨dv,rfl,hd,hb2⟩;have HB2:=oH hb2;have HDG:=oH (zMx dv none 0 w2 hd (HE.below hb2).tab);have hz:(0:Int)*((Lib.nDigits 1:Nat):Int)=0:=Int.zero_mul _;generalize ((Lib.nDigits 1:Nat):Int)=nd at *;clear hd hb2;go_wp2_with fail;refine HDG.mono ?_;rintro e w3 ⟨rfl,hb3⟩;have HB3:=bTx2 HB2 hb3;clear hb3;go_wp2_with fail;go_ret
 exact ⟨rfl,HB3.out⟩
theorem zFl (A:oAx) (c:Nat) (w:World):Calls Tryz.prog 135 #[.slice A 0 c,.int .i64 0] w fun e w'=>∃ v:zDf,e = .returned (.agg #[.slice none 0 0,.slice none 0 0,.bool v.nb,.slice v.ad v.l v.c,.bool false])/\Below w.heap.size w w':=by
 go_enter Tryz.func135,Tryz.ntmps135
 go_wp2_with fail;refine (zCs _).mono ?_;rintro e w2 ⟨v2,rfl,hv2,hb2⟩;have HB2:=oH (((Below.refl w.heap.size w).alloc lRx (.cells #[.slice none 0 0,.slice none 0 0,.bool false,.slice none 0 0,.bool false] 152)).trans (hb2.mono sMx));have HR2:=oH ((Blk.new w 152 [.slice none 0 0,.slice none 0 0,.bool false,.slice none 0 0,.bool false]).below hb2);obtain ⟨na,A1,l1,c1,rfl⟩:=hv2.slice;have hbl:Below w2.heap.size w2 (w2.alloc (.cells #[.slice none 0 0,.slice none 0 0,.bool na,.slice A1 l1 c1,.bool false] 152)):=bA;have HX:=oH (Blk.new w2 152 [.slice none 0 0,.slice none 0 0,.bool na,.slice A1 l1 c1,.bool false]);have HBb:=bTx2 HB2 hbl;have HRb:=oH (HR2.below hbl);clear hv2 hb2 hbl HB2 HR2;go_wp2_with fail;generalize w2.alloc (.cells #[.slice none 0 0,.slice none 0 0,.bool na,.slice A1 l1 c1,.bool false] 152)=wb at *;generalize w2.heap.size=x at *
 go_loopw [13] (fun iv wr=>iv = .int .i64 0/\wr=wb) (fun _ _=>0)
 ·exact ⟨rfl,rfl⟩
 obtain ⟨rfl,rfl⟩:=hrel;go_wp2_with fail
 go_loopw [8] (fun iv wq=>iv = .int .i64 0/\wq=wr) (fun _ _=>0)
 ·exact ⟨rfl,rfl⟩
 rename_i wq
 obtain ⟨rfl,rfl⟩:=hrel;have k0:=HX.at_ (i:=0) rfl;have k1:=HX.at_ (i:=1) rfl;have k2:=HX.at_ (i:=2) rfl;have k3:=HX.at_ (i:=3) rfl;have k4:=HX.at_ (i:=4) rfl;have e0:=HRb.at_ (i:=0) rfl;have e1:=HRb.at_ (i:=1) rfl;have e2:=HRb.at_ (i:=2) rfl;have e3:=HRb.at_ (i:=3) rfl;have e4:=HRb.at_ (i:=4) rfl;have f0:=HRb.fr 0;have f1:=HRb.fr 1;have f2:=HRb.fr 2;have f3:=HRb.fr 3;have f4:=HRb.fr 4;go_wp2_with fail;refine bodyPost_ret (v := .agg #[.slice none 0 0,.slice none 0 0,.bool na,.slice A1 l1 c1,.bool false]) (by simp [results,Tryz.results135,go_sem,e0,e1,e2,e3,e4]) rfl ?_;exact ⟨⟨na,A1,l1,c1⟩,rfl,((((HBb.setCell (p:=⟨w.heap.size,0,none⟩) lRx _).setCell (p:=⟨w.heap.size,1,none⟩) lRx _).setCell (p:=⟨w.heap.size,2,none⟩) lRx _).setCell (p:=⟨w.heap.size,3,none⟩) lRx _).setCell (p:=⟨w.heap.size,4,none⟩) lRx _⟩
theorem zJw (Ab:oAx) (cb:Nat) (w:World):Calls Tryz.prog 88 #[.slice Ab 0 cb] w fun e w'=>∃ A c,e = .returned (.slice A 0 c)/\Below w.heap.size w w':=by
 refine (show Calls Tryz.prog 88 #[.slice Ab 0 cb] w (zFp w []) from zAj Ab [] cb w (fun h=>absurd rfl h) dCx).mono ?_;rintro e w' ⟨v,rs,rfl,hm,ho,hb⟩
 have hl:rs.length=0:=by simpa using hm
 obtain ⟨A,c,rfl, -⟩:=zVk ho.o;exact ⟨A,c,by rw [hl],hb⟩
theorem zGt (A Ab:oAx) (c cb:Nat) (w:World) (henv:Env w):Calls Tryz.prog 63 #[.slice A 0 c,.slice Ab 0 cb] w fun e w'=>∃ A' c',e = .returned (.tuple #[.slice A' 0 c',.int .i64 0])/\w'.ownsRow w.heap.size 39 1 (.slice A' 0 c') 0 []/\Below w.heap.size w w':=by
 have HSQ:=oH (show Calls Tryz.prog 133 #[.slice A 0 c] w _ from xCe A [] c w (nil_in w A) nil_fine henv);have HE:=oH henv;have HNU:=oH (fun W (hW:Below w.heap.size w W)=>(show Calls Tryz.prog 134 #[.slice Ab 0 cb] W _ from zUg Ab [] cb W (fun h=>absurd rfl h) dCx (fun s hs=>(by cases hs)) (henv.below hW)));clear henv
 go_enter Tryz.func63,Tryz.ntmps63
 go_wp2_with fail;refine HSQ.mono ?_;rintro e w1 ⟨rfl,hb1⟩;have HB1:=oH hb1;clear hb1 HSQ;go_wp2_with fail;refine (HNU.out w1 HB1.out).mono ?_;rintro e w2 ⟨rfl,hb2⟩;have HB2:=bTx2 HB1 hb2;clear hb2 HNU HB1;go_wp2_with fail;refine (zCb A c w2 (HE.below HB2.out)).mono ?_;rintro e w3 ⟨rfl,hb3⟩;have HB3:=bTx2 HB2 hb3;clear hb3 HB2;go_wp2_with fail;refine (zJw Ab cb w3).mono ?_;rintro e w4 ⟨A4,c4,rfl,hb4⟩;have HB4:=bTx2 HB3 hb4;clear hb4 HB3;go_wp2_with fail;refine (zCb A4 c4 w4 (HE.below HB4.out)).mono ?_;rintro e w5 ⟨rfl,hb5⟩;have HB5:=bTx2 HB4 hb5;clear hb5 HB4;go_wp2_with fail;refine (zDh A c w5).mono ?_;rintro e w6 ⟨d6,rfl, -,hb6⟩;have HB6:=bTx2 HB5 hb6;clear hb6 HB5;go_wp2_with fail;refine (zJw Ab cb w6).mono ?_;rintro e w7 ⟨A7,c7,rfl,hb7⟩;have HB7:=bTx2 HB6 hb7;clear hb7 HB6;go_wp2_with fail;refine (zDh A7 c7 w7).mono ?_;rintro e w8 ⟨d8,rfl, -,hb8⟩;have HB8:=bTx2 HB7 hb8;clear hb8 HB7;have hb9:Below w8.heap.size w8 (w8.alloc (.cells #[.bool d6.nb,.slice d6.ad d6.l d6.c,.slice none 0 0] 86)):=bA
 have hb10:Below w8.heap.size w8 ((w8.alloc (.cells #[.bool d6.nb,.slice d6.ad d6.l d6.c,.slice none 0 0] 86)).alloc (.cells #[.bool d8.nb,.slice d8.ad d8.l d8.c,.slice none 0 0] 86)):=hb9.alloc hb9.size _;have HX:=oH ((Blk.new w8 86 [.bool d6.nb,.slice d6.ad d6.l d6.c,.slice none 0 0]).alloc (.cells #[.bool d8.nb,.slice d8.ad d8.l d8.c,.slice none 0 0] 86));have HB10:=bTx2 HB8 hb10;clear hb9 hb10 HB8;go_upto_region 11 with (fail);generalize ((w8.alloc (.cells #[.bool d6.nb,.slice d6.ad d6.l d6.c,.slice none 0 0] 86)).alloc (.cells #[.bool d8.nb,.slice d8.ad d8.l d8.c,.slice none 0 0] 86))=W at *;generalize w8.heap.size=x at *;have c2:=HX.at_ (i:=2) rfl;go_wp2_with fail
 go_loopw [45] (fun iv wr=>iv = .int .i64 0/\wr=W) (fun _ _=>0)
 ·exact ⟨rfl,rfl⟩
 obtain ⟨rfl,rfl⟩:=hrel;go_wp2_with fail;refine (zFl none 0 wr).mono ?_;rintro e w11 ⟨v,rfl,hb11⟩;have HB11:=bTx2 HB10 hb11;have hb12:Below w11.heap.size w11 (w11.alloc (.cells #[.slice none 0 0,.slice none 0 0,.bool v.nb,.slice v.ad v.l v.c,.bool false] 152)):=bA;have HY:=oH (Blk.new w11 152 [.slice none 0 0,.slice none 0 0,.bool v.nb,.slice v.ad v.l v.c,.bool false]);have HB12:=bTx2 HB11 hb12;clear hb11 hb12 HB11 c2;go_upto_region 17 with (fail);generalize (w11.alloc (.cells #[.slice none 0 0,.slice none 0 0,.bool v.nb,.slice v.ad v.l v.c,.bool false] 152))=W2 at *;generalize w11.heap.size=y at *;have c0:=HY.at_ (i:=0) rfl;have c1:=HY.at_ (i:=1) rfl;go_wp2_with fail
 go_loopw [11,81] (fun ov iv wq=>ov = .slice none 0 0/\iv = .int .i64 0/\wq=W2) (fun _ _ _=>0)
 ·exact ⟨rfl,rfl,rfl⟩
 obtain ⟨rfl,rfl,rfl⟩:=hrel;have HTX:=oH (show Calls Tryz.prog 92 #[.slice none 0 0] wr (zGe wr []) from zHd none [] [] 0 wr (fun i h=>absurd h sMx) ⟨rfl,fun i h=>absurd h sMx⟩ dCx (fun q hq=>(by cases hq)) (HE.below HB12.out));clear c0 c1;go_wp2_with fail;refine HTX.mono ?_;rintro e w13 (⟨At,ct, -,rfl, -,hb13,how⟩|⟨⟨q,hq, -⟩, -⟩)
 ·have HB13:=bTx2 HB12 hb13;have HOX:=oH (zVm how HB12.size);clear hb13 how;go_wp2_with fail;go_ret2
  exact ⟨At,ct,rfl,HOX.out,HB13.out⟩
 cases hq
open Go.RowKit
def xHx:ByteArray:=⟨#[48]⟩
def zXs (k n:Nat):List Value:=List.replicate k (.string xHx)++List.replicate (n-k) (.string ⟨#[]⟩)
theorem zXu {k n:Nat} (h:k<=n):(zXs k n).length=n:=by simp [zXs];omega
theorem zXv {k m n:Nat} (h:k+m<=n):splice (zXs k n) k (List.replicate m (.string xHx))=zXs (k+m) n:=by
 unfold splice zXs;rw [List.take_append_of_le_length sMx,List.take_of_length_le sMx,List.length_replicate,List.drop_append,List.drop_eq_nil_of_le sMx,List.nil_append,List.length_replicate,List.drop_replicate,<-List.append_assoc,List.replicate_append_replicate]
 congr 2
 omega
theorem zXt {k n i:Nat} (h:i<k):(zXs k n)[i]? = some (.string xHx):=by
 unfold zXs;rw [List.getElem?_append_left (by simp;exact h)]
 simp [h]
theorem zXw {w:World} {g n:Nat} (h:Blk w g 39 (zXs n n)):zGw w (some ⟨g,0,none⟩) (List.replicate n xHx):=fun _=>⟨g,0,rfl,h.lt,fun i hi=>by
 rw [Nat.zero_add,h.cell,zXt (by simpa using hi)]
 simp⟩
theorem Tryz.infoRatEZ:(Tryz.prog.info? 39).map (fun i=>(i.zero,i.size,i.bytes))=some (some (.string ⟨#[]⟩),1,16):=by kernel_rfl
theorem Tryz.sizeRatZ:(Tryz.prog.info? 39).map (·.size)=some 1:=by kernel_rfl
theorem zSb (n:Nat):madeCells (Value.string ⟨#[]⟩).cells n=(zXs 0 n).toArray:=by
 have h:=toList_madeCells_one (.string ⟨#[]⟩) n
 have h2:(madeCells (Value.string ⟨#[]⟩).cells n).toList=(zXs 0 n).toArray.toList:=by
  show (madeCells #[Value.string ⟨#[]⟩] n).toList=_
  rw [h];simp [zXs]
 exact Array.toList_inj.1 h2
theorem xAc (n:Nat) (hn:n<=1000000) (w:World):(Instr.makeSlice 29 (.int .i64 (n:Int)) (.int .i64 (n:Int))).run Tryz.prog w = .ok (.slice (some ⟨w.heap.size,0,none⟩) n n) (w.alloc (.cells (zXs 0 n).toArray 39)):=by
 obtain ⟨i0,hi,hz0,hz1,hz2⟩:=info_parts Tryz.infoRatEZ;have hr:=run_make (P:=Tryz.prog) w 29 39 i0 (.string ⟨#[]⟩) Tryz.underlying29 hi hz0 .i64 .i64 n n oMx (Int.le_refl _) (by rw [hz2];omega) oMx;simp only [Int.toNat_natCast,hz1,Nat.mul_one,zSb] at hr;exact hr
theorem zUy (m:Nat):∀ u∈List.replicate m (Value.string xHx),u.oneCell'=true:=by intro u hu;rw [(List.mem_replicate.1 hu).2];rfl
theorem rep_posZ {W:World} {g k m n:Nat} {t:TypeId} (hk:Blk W g t (zXs k n)) (hmk:m<=k):0<(List.replicate m (Value.string xHx)).length->(some ⟨g,k,none⟩:Option Addr)=some ⟨g,k,none⟩/\∃ ad:Addr,(some ⟨g,0,none⟩:Option Addr)=some ad/\∀ j v,(List.replicate m (Value.string xHx))[j]? = some v->W.cell? (ad.add j)=some v:=fun _=>⟨rfl,_,rfl,fun j v hj=>by
 have hjm:j<m:=by
  rcases Nat.lt_or_ge j m with h|h
  ·exact h
  rw [List.getElem?_eq_none (by simpa using h)] at hj;cases hj
 have hv:v = .string xHx:=by
  rw [List.getElem?_replicate,if_pos hjm] at hj;injection hj with hj;exact hj.symm
 subst hv;rw [Lib.add_plain,Nat.zero_add]
 exact hk.at_ (zXt oMx)⟩
theorem zFm (gx n:Nat) (w:World) (hx:w.cell? ⟨gx,0,none⟩=some (.string xHx)) (hgx:gx<w.heap.size) (hn:n<=1000000) :
  Calls Tryz.prog 64 #[.slice (some ⟨gx,0,none⟩) 1 1,.int .i64 (n:Int)] w fun e w'=>∃ A,e = .returned (.slice A n n)/\zGw w' A (List.replicate n xHx)/\Below w.heap.size w w':=by
 have HM:=oH (fun W=>Tryz.bits_Mul 1 n dCx oMx W);rw [show 1*n/18446744073709551616=0 by omega,show 1*n%18446744073709551616=n by omega] at HM;have hmk:=xAc n hn;have hd:decide ((n:Int)<0)=false:=decide_eq_false oMx;have HX:=oH hx;clear hx
 go_enter Tryz.func64,Tryz.ntmps64
 go_wp2_with fail;refine (HM.out w).mono ?_;rintro e w' ⟨rfl,rfl⟩;clear HM hd;go_upto_region 7 with (fail);clear hmk;have hk:=Blk.new w' 39 (zXs 0 n);have hb0:Below w'.heap.size w' (w'.alloc (.cells (zXs 0 n).toArray 39)):=bA;have hx1:=(hb0.cell (p:=⟨gx,0,none⟩) hgx).trans HX.out;generalize w'.alloc (.cells (zXs 0 n).toArray 39)=W at *;have HK:=oH hk;have HB:=oH hb0;have HX1:=oH hx1;clear hk hb0 hx1;obtain ⟨g,hg⟩:=eXx (w'.heap.size);have HG:Hid (w'.heap.size<=g):=oH oMx;have HG2:=oH hg;rw [hg] at HK ⊢;clear hg
 by_cases h0:n=0
 ·subst h0
  go_wp2_with (refine wpList_copy_splice (o:=⟨some 33,_,_,_,_,_⟩) rfl (.tmp 31) (.tmp 32) 29 29 rfl 39 Tryz.underlying29 Tryz.sizeRatZ _ _ _ _ _ _ rfl rfl g 0 (zXs 0 0) 39 HK.out [] rfl (fun h=>absurd h dCx) sMx sMx w'.heap.size w' HB.out HG.out ?_)
  intro w2 hk2 hb2
  have HB2:=oH hb2;clear hk2 hb2;go_wp2_with fail
  go_loopw [8] (fun kv wr=>kv = .int .i64 0/\Below w'.heap.size w' wr) (fun _ _=>0)
  ·exact ⟨rfl,HB2.out⟩
  obtain ⟨rfl,hb⟩:=hrel;have HB3:=oH hb;clear hb;go_wp2_with fail;go_ret
  exact ⟨_,rfl,fun h=>absurd rfl h,HB3.out⟩
 go_wp2_with (refine wpList_copy_splice (o:=⟨some 33,_,_,_,_,_⟩) rfl (.tmp 31) (.tmp 32) 29 29 rfl 39 Tryz.underlying29 Tryz.sizeRatZ _ _ _ _ _ _ rfl rfl g 0 (zXs 0 n) 39 HK.out (List.replicate 1 (.string xHx)) (by show 1=min 1 n;omega) (fun _=>⟨rfl,_,rfl,fun j v hj=>by match j,hj with|0,hj=>simp at hj;subst hj;exact HX1.out⟩) (by rw [zXu oLx];simp;omega) (zUy 1) w'.heap.size w' HB.out HG.out ?_)
 intro w2 hk2 hb2
 have hk3:Blk w2 g 39 (zXs 1 n):=by
  have e:splice (zXs 0 n) 0 [Value.string xHx]=zXs (0+1) n:=zXv (k:=0) (m:=1) oMx;have h2:=hk2.out;rw [e] at h2;exact h2
 have HK2:=oH hk3;have HB2:=oH hb2;clear hk2 hb2 hk3 HK HB HX1;go_wp2_with fail
 go_loopw [8] (fun kv wr=>∃ k:Nat,kv = .int .i64 (k:Int)/\1<=k/\k<=n/\Blk wr g 39 (zXs k n)/\Below w'.heap.size w' wr) (fun kv _=>n-(intOf kv).toNat)
 ·exact ⟨1,rfl,oMx,oMx,HK2.out,HB2.out⟩
 clear HK2 HB2;obtain ⟨k,rfl,hk1,hkn,hkb,hb⟩:=hrel;have HK:=oH hkb;have HB:=oH hb;clear hkb hb
 by_cases hlt:k<n
 ·have i1:(0:Int)<=(k:Int):=by omega
  have i2:(k:Int)<=(n:Int):=by omega
  obtain ⟨m,hm⟩:=eXx (min k (n-k))
  have hm1:1<=m:=by omega
  have hm2:k+m<=n:=by omega
  have hnk:¬n=k:=by omega
  have hwm:IntKind.i64.wrap ((k:Int)+(m:Int))=(k:Int)+(m:Int):=IntWalk.i64_in _ oMx
  have hmk':m<=k:=by omega
  have HKB:=oH HK.drew;have HKD:=oH (show wr.drew.heap[g]? = some (.cells (zXs k n).toArray 39 (0,0)) from HK.out);have HBD:=oH HB.drew;have HLEN:Hid ((List.replicate m (Value.string xHx)).length=Nat.min k (n-k)):=oH (by rw [List.length_replicate,<-hm]);have HFIT:Hid (k+(List.replicate m (Value.string xHx)).length<=(zXs k n).length):=oH (by rw [zXu oMx,List.length_replicate];exact hm2);clear hm;go_wp2_with fail
  go_region_law (refine step_copy_splice rfl (.tmp 41) (.tmp 44) 29 29 rfl 39 Tryz.underlying29 Tryz.sizeRatZ (some ⟨g,k,none⟩) (some ⟨g,0,none⟩) (n-k) (n-k) k n (by go_simp) (by go_simp) g k (zXs k n) 39 HKD.out (List.replicate m (.string xHx)) HLEN.out (rep_posZ HKB.out hmk') HFIT.out (zUy m) w'.heap.size w' HBD.out HG.out ?_;intro w3 hk3 hb3;have HK3:=oH hk3;have HB3:=oH hb3;clear hk3 hb3)
  have HK4:Hid (Blk w3 g 39 (zXs (k+m) n)):=oH (by
   have h2:=HK3.out;rw [zXv hm2] at h2
   exact h2)
  go_frame
  go_roundw
  ·(repeat apply Exists.intro);exact ⟨⟨k+m,by go_num,oMx,hm2,HK4.out,HB3.out⟩,rfl⟩
  simp [intOf];omega
 obtain rfl:k=n:=by omega
 have HS:=oH (zXw HK.out);go_wp2_with fail;go_ret
 exact ⟨_,rfl,HS.out,HB.out⟩
section
variable {P:Program} {w:World}
theorem zZw (base:Nat) (t ty e:TypeId) (i:TypeInfo) (size:Nat) (ht:P.underlying t=some (.slice e)) (hi:P.info? e=some i) (v:Value) (n:Nat) (xs:List Value) (hown:w.ownsRow base e size v n xs) (A:oAx) (c:Nat) :
  (Builtin.append_ #[t,t] ty #[v,.slice A 0 c]).run P w = .ok v w:=by
 rcases A with _|a
 ·rcases hown.2 with ⟨rfl,rfl⟩|⟨g,cap,cur,rfl,_,_,hnc,_⟩
  ·simp [Builtin.append_,run_underlying ht,sizeOf,typeInfo,hi,Builtin.lenOf,Builtin.firstCells]
  simp [Builtin.append_,run_underlying ht,sizeOf,typeInfo,hi,Builtin.lenOf,Builtin.firstCells,hnc,storeCells]
 rcases hown.2 with ⟨rfl,rfl⟩|⟨g,cap,cur,rfl,_,_,hnc,_⟩
 ·simp [Builtin.append_,run_underlying ht,sizeOf,typeInfo,hi,Builtin.lenOf,Builtin.firstCells,loadCells,loadCellsFrom]
 simp [Builtin.append_,run_underlying ht,sizeOf,typeInfo,hi,Builtin.lenOf,Builtin.firstCells,hnc,storeCells,loadCells,loadCellsFrom]
theorem xHn {ops:Array Oper} {rest:List Oper} {o:Oper} {a:Act} {Q:Exit->Act->World->Prop} (hgd:o.guard=none) (s x:Operand) (t:TypeId)
  (ho:o.op = .call { callee := .builtin .append,args:=#[s,x],argTypes:=#[t,t] })
  (base:Nat) (e:TypeId) (i:TypeInfo) (size:Nat) (ht:P.underlying t=some (.slice e)) (hi:P.info? e=some i)
  (v:Value) (n:Nat) (xs:List Value) (hs:a.eval s=v) (hown:w.ownsRow base e size v n xs) (A:oAx) (c:Nat) (hx:a.eval x = .slice A 0 c)
  (h:wpList P ops Q rest (a.put o.dst v) w):wpList P ops Q (o::rest) a w:=by
 refine wpList_plain hgd fun K hK=>?_
 have hrun:=zZw (P:=P) (w:=w) base t o.type e i size ht hi v n xs hown A c;unfold Oper.wp
 simp [execOp,ho,resolve,invoke,builtin,hs,hx,hrun,Result.andThen]
 exact hK _ _ h
end
theorem mat_rowE {w:World} {A:oAx} {rs:List zGk} {m n:Nat} {M:mRx} (h:zCz w A rs) (hm:zCy rs m n M) (hn:0<n) {i:Nat} (hi:i<rs.length):∃ b off b2 o2:Nat,A=some ⟨b,off,none⟩/\b<w.heap.size/\rs[i].ad=some ⟨b2,o2,none⟩/\b2<w.heap.size/\w.cell? ⟨b,off+i,none⟩=some (.slice (some ⟨b2,o2,none⟩) n rs[i].cp)/\∀ k,k<n->w.cell? ⟨b2,o2+k,none⟩=some (.string (zYy (M i k))):=by
 obtain ⟨b,off,e,hb,hc1⟩:=h.some (by intro e;subst e;simp at hi);have hr:=hm.rowAt hi;obtain ⟨b2,o2,e2,hb2,hc2⟩:=h.i _ (List.getElem_mem hi) (by intro e;rw [e] at hr;simp at hr;omega);refine ⟨b,off,b2,o2,e,hb,e2,hb2,?_,fun k hk=>?_⟩
 ·rw [hc1 i hi,hr,e2]
 rw [hc2 k oMx,hm.cel i k hi oMx]
def zKd (k:Nat) (rs:List zGk):List zGk:=rs.map fun r=>⟨r.ad,r.cp,r.ss.take k⟩
theorem zKf (k:Nat) (rs:List zGk):(zKd k rs).length=rs.length:=by simp [zKd]
theorem zKe {k:Nat} {rs:List zGk} {i:Nat} (h:i<rs.length):(zKd k rs)[i]'(by rw [zKf];exact h)=⟨rs[i].ad,rs[i].cp,rs[i].ss.take k⟩:=by simp [zKd]
theorem zGw.take {w:World} {A:oAx} {ss:List ByteArray} (h:zGw w A ss) (k:Nat):zGw w A (ss.take k):=fun hne=>by
 obtain ⟨b,off,e,hb,hc⟩:=h (by intro e;rw [e] at hne;simp at hne);refine ⟨b,off,e,hb,fun i hi=>?_⟩
 have hi':i<ss.length:=by have h9:=hi;rw [List.length_take] at h9;omega
 rw [List.getElem_take];exact hc i hi'
theorem cut_mat {w:World} {A A6:oAx} {rs:List zGk} {n k c6 B:Nat} {M:mRx} (h:zCz w A rs) (hm:zCy rs n n M) (hk:k<=n) (ho:w.ownsRow B 29 1 (.slice A6 k c6) k (zYr ((zKd k rs).take k))):MxIn w A6 k k M:=by
 have hl:=hm.len
 have hcl:((zKd k rs).take k).length=k:=by rw [List.length_take,zKf];omega
 refine ⟨(zKd k rs).take k,⟨zVl ho,fun r hr=>?_⟩,⟨hcl,fun r hr=>?_,fun i j hi hj=>?_,fun i j hi hj=>hm.fit i j oMx oMx⟩⟩
 ·obtain ⟨r0,hr0,rfl⟩:=List.mem_map.1 (List.mem_of_mem_take hr);exact (h.i r0 hr0).take k
 ·obtain ⟨r0,hr0,rfl⟩:=List.mem_map.1 (List.mem_of_mem_take hr)
  show (r0.ss.take k).length=k
  rw [List.length_take,hm.row r0 hr0];omega
 have hi':i<rs.length:=by omega
 have e:((zKd k rs).take k)[i]=⟨rs[i].ad,rs[i].cp,rs[i].ss.take k⟩:=by rw [List.getElem_take];exact zKe hi'
 have hjl:j<(rs[i].ss.take k).length:=by
  have:((zKd k rs).take k)[i].ss=rs[i].ss.take k:=by rw [e]
  rw [<-this];exact hj
 have hj':j<rs[i].ss.length:=by rw [List.length_take] at hjl;omega
 simp only [e,List.getElem_take];exact hm.cel i j hi' hj'
def negC (M:mRx) (k i:Nat):Rat := -(M i k)
theorem zTi {n k:Nat} {M:mRx} (ht:zHe n n M) (hk:k<n):zGq k (negC M k):=fun i hi=>by
 obtain ⟨z,hz,h3⟩:=ht i k oMx hk;unfold negC;rw [hz,<-Rat.intCast_neg];refine ⟨?_,?_⟩
 ·rw [Rat.num_intCast];omega
 rw [Rat.den_intCast];decide
def zHo (n:Nat) (M:mRx) (w:World) (e:Ending) (w':World):Prop:=∃ k,zDm n M k/\Below w.heap.size w w' /\
 ((k=n/\e = .returned (.tuple #[.slice none 0 0,.int .i64 12])) \/
  (k<n/\∃ (x:Nat->Rat) (A':oAx) (c':Nat),(∀ i,i<k->xDg k (fun j=>M i j*x j) = -(M i k))/\(∀ i,i<n->zBt (xHh k x i))/\e = .returned (.tuple #[.slice A' n c',.int .i64 0])/\zHk w' A' n (xHh k x)))
theorem lead_sol {A6 A7:oAx} {c6 c7 n k B:Nat} {M:mRx} {w:World} (hA:MxIn w A6 k k M) (hb:w.ownsRow B 39 1 (.slice A7 k c7) k (sv ((List.range k).map fun t=>zYy (-(M t k))))) (hk:k<n) (hn:n<=4) (ht:zHe n n M) (hp:∀ t,t<k->0<dD M t) (henv:Env w) :
  Calls Tryz.prog 63 #[.slice A6 k c6,.slice A7 k c7] w fun e w'=>∃ (x:Nat->Rat) (A:oAx) (c:Nat),e = .returned (.tuple #[.slice A k c,.int .i64 0])/\(∀ i,i<k->xDg k (fun j=>M i j*x j) = -(M i k))/\(∀ i,i<k->zBt (x i))/\w'.ownsRow w.heap.size 39 1 (.slice A k c) k (sv ((List.range k).map fun t=>zYy (x t)))/\Below w.heap.size w w':=by
 rcases Nat.eq_zero_or_pos k with h0|h0
 ·subst h0;refine (zGt A6 A7 c6 c7 w henv).mono ?_;rintro e w' ⟨A',c',rfl,ho,hbl⟩;exact ⟨fun _=>0,A',c',rfl,fun i hi=>absurd hi oMx,fun i hi=>absurd hi oMx,ho,hbl⟩
 have htk:zHe k k M:=fun i j hi hj=>ht i j oMx oMx
 have hsm:=zTi ht hk
 have hv:zHk w A7 k (negC M k):=by
  have hl:((List.range k).map fun t=>zYy (-(M t k))).length=k:=by simp
  obtain ⟨A',c',e1, -,h1, -⟩:=zVy (show w.ownsRow B 39 1 (.slice A7 k c7) ((List.range k).map fun t=>zYy (-(M t k))).length (sv ((List.range k).map fun t=>zYy (-(M t k)))) by rw [hl];exact hb);injection e1 with e1;rw [e1];exact ⟨_,h1,⟨hl,fun j hj=>by simp [negC],fun j hj=>(hsm j hj).fits⟩⟩
 have hdet:det k M≠0:=by
  have hd:∀ t,t<k->dD M t≠0:=fun t ht=>by have:=hp t ht;grind
  rw [zMj hd];exact zWu hd
 refine (mxSolO hA hv h0 oMx htk hsm henv).mono ?_;rintro e w' ⟨r,hr,hh⟩;have hrk:r=k:=(rk_det htk.int hr).2 hdet
 rcases hh with ⟨h1, -⟩|⟨-,x,hx,hf,A,c,rfl,ho,hbl⟩
 ·omega
 exact ⟨x,A,c,rfl,hx,hf,ho,hbl⟩
theorem wit_list (k m:Nat) (x:Nat->Rat):sv ((List.range k).map fun t=>zYy (x t))++[.string ⟨#[49]⟩]++List.replicate m (.string xHx)=sv ((List.range (k+1+m)).map fun t=>zYy (xHh k x t)):=by
 have e1:(List.range k).map (fun t=>zYy (xHh k x t))=(List.range k).map fun t=>zYy (x t):=List.map_congr_left fun t ht=>by
  unfold xHh;rw [if_pos (List.mem_range.1 ht)]
 rw [List.range_add,List.range_succ,List.map_append,List.map_append,e1,xDw,xDw]
 congr 1
 ·congr 1
  show _=[Value.string (zYy (xHh k x k))]
  unfold xHh;rw [if_neg (Nat.lt_irrefl k),if_pos rfl,zZe]
 rw [List.map_map]
 apply List.ext_getElem?
 intro j
 by_cases hj:j<m
 ·rw [List.getElem?_replicate,if_pos hj,xDx (by simpa using hj)];simp only [List.getElem_map,List.getElem_range,Function.comp];unfold xHh;rw [if_neg oMx,if_neg oMx,zZi]
  rfl
 rw [List.getElem?_eq_none (by simpa using hj),List.getElem?_eq_none (by rw [xDy];simpa using hj)]
theorem xHi {W:World} {v:Value} {B k m n:Nat} {x:Nat->Rat} (ho:W.ownsRow B 39 1 v (k+1+m) (sv ((List.range k).map fun t=>zYy (x t))++[.string ⟨#[49]⟩]++List.replicate m (.string xHx))) (hn:k+1+m=n) (hf:∀ t,t<k->zBt (x t)):∃ A' c',v = .slice A' n c'/\zHk W A' n (xHh k x)/\∀ t,t<n->zBt (xHh k x t):=by
 rw [wit_list,hn] at ho
 have hl:((List.range n).map fun t=>zYy (xHh k x t)).length=n:=by simp
 have hfw:∀ t,t<n->zBt (xHh k x t):=fun t _=>by
  unfold xHh
  split
  ·exact hf t (by assumption)
  split
  ·exact xBt (z:=1) dCx
  exact xBt (z:=0) dCx
 obtain ⟨A',c',e, -,h1, -⟩:=zVy (show W.ownsRow B 39 1 v ((List.range n).map fun t=>zYy (xHh k x t)).length (sv ((List.range n).map fun t=>zYy (xHh k x t))) by rw [hl];exact ho);rw [hl] at e;exact ⟨A',c',e,⟨_,h1,⟨hl,fun j hj=>by simp,hfw⟩⟩,hfw⟩
theorem zer_one (m:Nat):∀ u∈List.replicate m (Value.string xHx),u.oneCell'=true:=fun u hu=>by
 rw [(List.mem_replicate.1 hu).2]
 rfl
theorem zHp (A:oAx) (c n:Nat) (rs:List zGk) (M:mRx) (w:World) (h:zCz w A rs) (hmf:zCy rs n n M) (hcp:∀ r∈rs,r.ss.length<=r.cp) (hn1:1<=n) (hn:n<=4) (hs:SymM n M) (hl:¬600<zOt rs n) (hth:∀ k,zDm n M k->k<n->zHe n n M) (henv:Env w) :
  Calls Tryz.prog 13 #[.slice A n c] w (zHo n M w):=by
 obtain ⟨i0,hi,hz0,hz1,hz2⟩:=info_parts Tryz.infoRats;obtain ⟨j0,hj,hy0,hy1,hy2⟩:=info_parts Tryz.infoRat;generalize hQ:zHo n M w=Q;replace hQ:=oH hQ;have HBG:=oH (zAp A rs c n M w h hmf hn1 oMx hs hl henv);have HPO:=oH (fun W (hW:Below w.heap.size w W)=>zWp A c n rs M W (h.below hW) hmf hn1 oMx hl (henv.below hW));have HTH:=oH hth;have HM:=oH h;have HF:=oH hmf;have HCP:=oH hcp;have HE:=oH henv;clear h hmf hcp hs hl hth henv
 go_enter Tryz.func13,Tryz.ntmps13
 go_wp2_with fail;refine HBG.mono ?_;rintro e w1 ⟨rfl,hb1⟩;have HB1:=oH hb1;clear hb1 HBG;go_wp2_with fail;refine (HPO.out w1 HB1.out).mono ?_;rintro e w2 ⟨k,hk,rfl,hb2⟩;have HPK:=oH hk;have hkn:=hk.1;have HB2:=bTx2 HB1 hb2;clear hb2 hk HPO HB1
 by_cases hlt:k<n
 ·have hne:((k:Int)==(n:Int))=false:=by simp only [beq_eq_false_iff_ne,ne_eq];omega
  have HT:=oH (HTH.out k HPK.out hlt);go_wp2_with fail
  go_loopw [6,7,23] (fun pv rv iv wr=>∃ i:Nat,iv = .int .i64 (i:Int)/\i<=k/\wr.ownsRow w2.heap.size 29 1 pv i (zYr ((zKd k rs).take i))/\wr.ownsRow w2.heap.size 39 1 rv i (sv ((List.range i).map fun t=>zYy (-(M t k))))/\Below w2.heap.size w2 wr) (fun _ _ iv _=>k-(intOf iv).toNat)
  ·exact ⟨0,rfl,oLx,World.ownsRow_nil _ _ _ _,World.ownsRow_nil _ _ _ _,bRx⟩
  obtain ⟨i,rfl,hik,hop,hor,hbr⟩:=hrel;obtain ⟨wi,rfl⟩:=nWx wr;have HOP:=oH hop;have HOR:=oH hor;have HBR:=oH hbr;have hszr:=hbr.size;clear hop hor hbr
  by_cases hlt2:i<k
  ·have hir:i<rs.length:=by have:=HF.len;omega
   have hBi:=HB2.trans (HBR.mono HB2.size);obtain ⟨b,off,b2,o2,rfl,hb,ead,hb2,d0,hc⟩:=mat_rowE HM.out HF.out oMx hir;have d1:=hc k hlt;have c0:=(hBi.cell (p:=⟨b,off+i,none⟩) hb).trans d0;have hcpi:rs[i].ss.length<=rs[i].cp:=HCP.out _ (List.getElem_mem hir);have hrl:=HF.rowAt hir;have hfq:=HF.fit i k oMx hlt;have HRD:=oH (fun W hE=>zBl (M i k) W hfq hE);have HBI:=oH hBi;have hnf:zBt (-(M i k)):=((zTi HT.out hlt) i hlt2).fits;have HNF:=oH hnf;have hsz:=hfq.sz
   have ECT:=oH (show zYr ((zKd k rs).take (i+1))=zYr ((zKd k rs).take i)++[.slice (some ⟨b2,o2,none⟩) k rs[i].cp] by
    rw [List.take_succ_eq_append_getElem (by rw [zKf];exact hir),zKe hir];unfold zYr;rw [List.map_append]
    congr 1
    show [Value.slice rs[i].ad (rs[i].ss.take k).length rs[i].cp]=_
    rw [ead,List.length_take,hrl,Nat.min_eq_left oMx])
   have hcp0:¬rs[i].cp=0:=by omega
   have hkc:(k:Int)<=(rs[i].cp:Int):=by omega
   generalize rs[i].cp=cp at *;obtain ⟨q,hq⟩:=eXx (M i k);have HQ9:=oH hq;rw [hq] at HRD hsz d1 HNF
   have i1:(0:Int)<=(i:Int):=by omega
   have i2:(i:Int)<(n:Int):=by omega
   have i3:(i:Int)<(k:Int):=by omega
   have k1:(0:Int)<=(k:Int):=by omega
   have k2:(k:Int)<(n:Int):=by omega
   generalize zYy q=s1 at *;clear hBi ead hc hcpi hrl hfq hq hnf
   go_wp2_with (at_builtin;refine wpList_append_own _ rfl _ _ 27 rfl w2.heap.size 29 i0 (.slice none 0 0) 1 24 Tryz.underlying27 hi hz0 hz1 hz2 rfl dCx _ _ _ rfl (HOP.alloc _) ⟨wi.heap.size,0,none⟩ 1 1 [_] rfl rfl zUw xBn (by unfold maxLen;omega) oMx (by simp;omega) ?_)
   intro v3 w3 hown3 hgrow3 _
   have HOP3:=oH (show w3.ownsRow w2.heap.size 29 1 v3 (i+1) (zYr ((zKd k rs).take (i+1))) by rw [ECT.out];exact hown3);have HOR3:=oH ((HOR.alloc (.cells #[.slice (some ⟨b2,o2,none⟩) k cp] 29)).kept hgrow3 (zVs (HOR.alloc (.cells #[.slice (some ⟨b2,o2,none⟩) k cp] 29)) (HOP.alloc (.cells #[.slice (some ⟨b2,o2,none⟩) k cp] 29)) dCx));have HB3:=oH ((HBR.alloc hszr (.cells #[.slice (some ⟨b2,o2,none⟩) k cp] 29)).grown hgrow3 (by simp;omega) (fun g hg=>(HOP.lt g hg).1));have hB3:=HB2.trans (HB3.mono HB2.size);have c2:=(hB3.cell (p:=⟨b,off+i,none⟩) hb).trans d0;have c3:=(hB3.cell (p:=⟨b2,o2+k,none⟩) hb2).trans d1;have HBW3:=oH hB3;have hsz3:=HB3.size;clear hown3 hgrow3 hB3 c0 d0 d1;go_wp2_with fail;refine (HRD.out w3 (HE.below HBW3.out)).mono ?_;rintro e w4 ⟨v4,rfl,hv4,hb4⟩;have HV4:=oH hv4;have HB4:=oH (HB3.trans (hb4.mono hsz3));have HOP4:=oH (zVn HOP3.out hb4);have HOR4:=oH (zVn HOR3.out hb4)
   clear hv4 hb4 c2 c3;go_wp2_with fail;refine (zBi _ q w4 HV4.out (hsz.mono oMx)).mono ?_;rintro e w5 ⟨v5,rfl,hv5,hb5⟩;have HV5:=oH hv5;have HB5:=bTx2 HB4 hb5;have HOP5:=oH (zVn HOP4.out hb5);have HOR5:=oH (zVn HOR4.out hb5);clear hv5 hb5;go_wp2_with fail;refine (zBk _ (-q) w5 HV5.out HNF.out (HE.below (HB2.trans (HB5.mono HB2.size)))).mono ?_;rintro e w6 ⟨rfl,hb6⟩;have HB6:=bTx2 HB5 hb6;have HOP6:=oH (zVn HOP5.out hb6);have HOR6:=oH (zVn HOR5.out hb6);have hsz6:=HB6.size;obtain ⟨sq,hsq⟩:=eXx (zYy (-q));rw [hsq];have HSQ:=oH hsq;clear hb6 hsq
   go_wp2_with (at_builtin;refine wpList_append_own _ rfl _ _ 29 rfl w2.heap.size 39 j0 (.string ⟨#[]⟩) 1 16 Tryz.underlying29 hj hy0 hy1 hy2 rfl dCx _ _ _ rfl (HOR6.alloc _) ⟨w6.heap.size,0,none⟩ 1 1 [_] rfl rfl zUw zUx (by unfold maxLen;omega) oMx (by simp;omega) ?_)
   intro v7 w7 hown7 hgrow7 _
   have HOR7:=oH hown7;have HOP7:=oH ((HOP6.alloc (.cells #[.string sq] 39)).kept hgrow7 (zVs (HOP6.alloc (.cells #[.string sq] 39)) (HOR6.alloc (.cells #[.string sq] 39)) dCx));have HB7:=oH ((HB6.alloc hsz6 (.cells #[.string sq] 39)).grown hgrow7 (by simp;omega) (fun g hg=>(HOR6.lt g hg).1));clear hown7 hgrow7;go_wp2_with fail;go_roundw
   ·exact ⟨i+1,by go_num,oMx,HOP7.out,by rw [List.range_succ,List.map_append,xDw];show World.ownsRow _ _ _ _ _ _ (_++[Value.string (zYy (-(M i k)))]);rw [HQ9.out,HSQ.out];exact HOR7.out,HB7.out⟩
   simp [intOf];omega
  have hike:i=k:=by omega
  subst hike;obtain ⟨A6,c6,rfl, -⟩:=zVk HOP.out;obtain ⟨A7,c7,rfl, -⟩:=zVk HOR.out;have hBi:=HB2.trans (HBR.mono HB2.size);have HSO:=oH (lead_sol (c6:=c6) (cut_mat (HM.below hBi) HF.out hkn HOP.out) HOR.out hlt hn HT.out HPK.2.1 (HE.below hBi));have HBI:=oH hBi;clear hBi;go_wp2_with fail;refine HSO.mono ?_;rintro e w9 ⟨x,A9,c9,rfl,hx,hfx,ho9,hb9⟩;have HX:=oH hx;have HFX:=oH hfx;have HO9:=oH ho9;have HB9:=bTx2 HBI hb9;have hsz9:=hb9.size;clear hx hfx ho9 hb9 HSO HOP HOR
  go_wp2_with (at_builtin;refine wpList_append_own _ rfl _ _ 29 rfl wi.heap.size 39 j0 (.string ⟨#[]⟩) 1 16 Tryz.underlying29 hj hy0 hy1 hy2 rfl dCx _ _ _ rfl (HO9.alloc _) ⟨w9.heap.size,0,none⟩ 1 1 [_] rfl rfl zUw zUx (by unfold maxLen;omega) oMx (by simp;omega) ?_)
  intro v10 w10 hown10 hgrow10 _
  have HO10:=oH hown10;have HB10:=oH ((HB9.alloc HB9.size (.cells #[.string ⟨#[49]⟩] 39)).grown hgrow10 (by have:=HBI.size;simp;omega) (fun g hg=>Nat.le_trans HBI.size (HO9.lt g hg).1));have hsz10:=hgrow10.size
  simp at hsz10
  clear hown10 hgrow10;obtain ⟨m,hm⟩:=eXx (n-i-1)
  have hm1:(n:Int)-(i:Int)-1=(m:Int):=by omega
  have hw1:IntKind.i64.wrap ((n:Int)-(i:Int))=(n:Int)-(i:Int):=IntWalk.i64_in _ oMx
  have hw2:IntKind.i64.wrap ((n:Int)-(i:Int)-1)=(m:Int):=by rw [hm1];exact IntWalk.i64_in _ oMx
  have hbl:Below w10.heap.size w10 (w10.alloc (.cells #[.string ⟨#[48]⟩] 39)):=bA;have HRP:=oH (zFm w10.heap.size m (w10.alloc (.cells #[.string ⟨#[48]⟩] 39)) ((Blk.new w10 39 [.string ⟨#[48]⟩]).at_ (i:=0) rfl) sMx oMx);have HO10':=oH (zVn HO10.out hbl);have HB10':=bTx2 HB10 hbl;clear hbl;go_wp2_with fail;refine HRP.mono ?_;rintro e w11 ⟨A11,rfl,hst,hb11⟩;have HO11:=oH (zVn HO10'.out hb11);have HB11:=oH (HB10'.trans (hb11.mono HB10'.size));have HST:=oH hst
  have hsz11:wi.heap.size<=w11.heap.size:=by have:=hb11.size;simp at this;omega
  clear hb11 hst HRP hw1 hw2 hm1
  rcases Nat.eq_zero_or_pos m with h0|h0
  ·subst h0
   go_wp2_with (at_builtin;refine xHn rfl _ _ 29 rfl wi.heap.size 39 j0 1 Tryz.underlying29 hj _ _ _ rfl HO11.out A11 0 rfl ?_)
   obtain ⟨AF,cF,rfl,hvc,hfw⟩:=xHi (k:=i) (x:=x) (m:=0) (n:=n) (by rw [List.replicate_zero,List.append_nil];exact HO11.out) oMx HFX.out;have HVC:=oH hvc;have HFW:=oH hfw;clear hvc hfw;go_wp2_with fail;rw [<-hQ.out];exact ⟨i,HPK.out,HB11.out,.inr ⟨hlt,x,AF,cF,HX.out,HFW.out,rfl,HVC.out⟩⟩
  obtain ⟨bz,oz,rfl,hbz,hcz⟩:=HST.out (by intro e9;have:=congrArg List.length e9;simp at this;omega)
  have HNW:=oH (show ∀ (j:Nat) (u:Value),(List.replicate m (Value.string xHx))[j]? = some u->w11.cell? ((⟨bz,oz,none⟩:Addr).add j)=some u from fun j u hj=>by
   have hjm:j<m:=by
    rcases Nat.lt_or_ge j m with h|h
    ·exact h
    rw [List.getElem?_eq_none (by simpa using h)] at hj;cases hj
   have hu:u = .string xHx:=by
    rw [List.getElem?_replicate,if_pos hjm] at hj;injection hj with hj;exact hj.symm
   subst hu;have h9:=hcz j (by simpa using hjm);rw [List.getElem_replicate] at h9;rw [Lib.add_plain]
   exact h9)
  clear hcz
  go_wp2_with (at_builtin;(refine wpList_append_own _ rfl _ _ 29 rfl wi.heap.size 39 j0 (.string ⟨#[]⟩) 1 16 Tryz.underlying29 hj hy0 hy1 hy2 rfl dCx _ _ _ rfl HO11.out ⟨bz,oz,none⟩ m m (List.replicate m (.string xHx)) rfl sMx HNW.out (zer_one m) (by unfold maxLen;omega) oMx hsz11 ?_))
  intro v12 w12 hown12 hgrow12 _
  obtain ⟨AF,cF,rfl,hvc,hfw⟩:=xHi (k:=i) (x:=x) (m:=m) (n:=n) (by rw [List.append_assoc];exact hown12) oMx HFX.out;have HVC:=oH hvc;have HFW:=oH hfw;have HB12:=oH (HB11.grown hgrow12 (by have:=HBI.size;omega) (fun g hg=>Nat.le_trans HBI.size (HO11.lt g hg).1));clear hvc hfw hown12 hgrow12;go_wp2_with fail;rw [<-hQ.out];exact ⟨i,HPK.out,HB12.out,.inr ⟨hlt,x,AF,cF,HX.out,HFW.out,rfl,HVC.out⟩⟩
 have hke:k=n:=by omega
 have hke':((k:Int)==(n:Int))=true:=by simp only [beq_iff_eq];omega
 go_wp2_with fail;rw [<-hQ.out];exact ⟨k,HPK.out,HB2.out,.inl ⟨hke,rfl⟩⟩
theorem posM_int {n:Nat} {M:mRx} (h:zHe n n M) (hn:n<=4):IntM n n (zWl n M):=fun i k hi hk=>by
 obtain ⟨z,hz, -⟩:=zWm h hn i k hi hk;exact ⟨z,hz⟩
theorem zNs {n:Nat} {M:mRx} (y:Nat->Rat):form n (zWl n M) y=(xDg n fun i=>y i*y i)+xDg n fun t=>(xDg n fun i=>y i*M i t)*(xDg n fun i=>y i*M i t):=by
 have h1:form n (zWl n M) y=xDg n fun i=>(y i*y i)+xDg n fun t=>(y i*M i t)*(xDg n fun j=>y j*M j t):=xDi fun i hi=>by
  have e1:∀ j,y i*zWl n M i j*y j=y i*y j*idn i j+xDg n fun t=>(y i*M i t)*(y j*M j t):=fun j=>by
   unfold zWl
   have e2:(xDg n fun t=>(y i*M i t)*(y j*M j t))=(y i*y j)*xDg n fun t=>M i t*M j t:=by
    rw [<-xDl]
    exact xDi fun t _=>by grind
   rw [e2]
   grind
  rw [xDi (fun j _=>e1 j),xDh,xDn hi fun j hj hne=>by unfold idn;rw [if_neg (Ne.symm hne)];grind];rw [show idn i i=1 by unfold idn;rw [if_pos rfl],xDp]
  have e3:∀ t,(xDg n fun j=>(y i*M i t)*(y j*M j t))=(y i*M i t)*xDg n fun j=>y j*M j t:=fun t=>xDl _ _ _
  rw [xDi (fun t _=>e3 t)]
  grind
 rw [h1,xDh,xDp]
 congr 1
 refine xDi fun t _=>?_
 have h2:(fun i=>y i*M i t*xDg n fun j=>y j*M j t)=fun i=>(xDg n fun j=>y j*M j t)*(y i*M i t):=by funext i;grind
 rw [h2,xDl]
theorem zWn {n k:Nat} {M:mRx} (h:zHe n n M) (hn:n<=4) (hk:zDm n (zWl n M) k):k=n:=by
 obtain ⟨h1,h2,h3⟩:=hk
 rcases Nat.lt_or_ge k n with hlt|hge
 ·exfalso
  have hd:∀ t,t<k->dD (zWl n M) t≠0:=fun t ht=>by have:=h2 t ht;grind
  have hdet:det k (zWl n M)≠0:=by
   rw [zMj hd];exact zWu hd
  have hint:IntM k k (zWl n M):=fun i j hi hj=>posM_int h hn i j oMx oMx
  obtain ⟨X,hX0⟩:=rinv_int (n:=k) (fun i j=>(zWl n M i j).num) (by
   rw [show det k (fun i j=>(((zWl n M i j).num:Int):Rat))=det k (zWl n M) from (zMf k).ext _ _ hint.num]
   exact hdet)
  have hX:∀ i l,i<k->l<k->mulM k (zWl n M) X i l=idn i l:=fun i l hi hl=>by
   rw [<-hX0 i l hi hl]
   exact xDi fun j hj=>by rw [<-hint.num i j hi hj]
  have hx:∀ i,i<k->xDg k (fun j=>zWl n M i j*xDg k fun l=>X j l*(-(zWl n M l k))) = -(zWl n M i k):=fun i hi=>by
   have e:=zSu k k (zWl n M) X (fun l _ => -(zWl n M l k)) i 0;have e2:mulM k (zWl n M) (mulM k X (fun l _ => -(zWl n M l k))) i 0=xDg k (fun j=>zWl n M i j*xDg k fun l=>X j l*(-(zWl n M l k))):=rfl;rw [<-e2,<-e]
   show xDg k (fun l=>mulM k (zWl n M) X i l*(-(zWl n M l k)))=_
   rw [xDn hi fun l hl hne=>by rw [hX i l hi hl];unfold idn;rw [if_neg (Ne.symm hne)];grind];rw [hX i i hi hi];unfold idn;rw [if_pos rfl]
   grind
  have hf:=zNt hd hlt hx;rw [zNs] at hf
  have hy:xHh k (fun j=>xDg k fun l=>X j l*(-(zWl n M l k))) k=1:=by unfold xHh;rw [if_neg (Nat.lt_irrefl k),if_pos rfl]
  have p1:0<xDg n fun i=>xHh k (fun j=>xDg k fun l=>X j l*(-(zWl n M l k))) i*xHh k (fun j=>xDg k fun l=>X j l*(-(zWl n M l k))) i:=xDo (k:=k) (fun i _=>sq_nonneg _) hlt (by rw [hy];grind)
  have p2:0<=xDg n fun t=>(xDg n fun i=>xHh k (fun j=>xDg k fun l=>X j l*(-(zWl n M l k))) i*M i t)*(xDg n fun i=>xHh k (fun j=>xDg k fun l=>X j l*(-(zWl n M l k))) i*M i t):=xDm fun t _=>sq_nonneg _
  exact h3 hlt (by rw [<-hf];grind)
 omega
theorem MPos_nil (b:Nat) (w:World) (hs:Src w b):Calls Tryz.prog 11 #[.pointer (some ⟨b,0,none⟩),.int .i64 0] w (zFy w b 0 (fun P=>∃ M,zHe 0 0 M/\P=zWl 0 M)):=by
 generalize hQ:zFy w b 0 (fun P=>∃ M,zHe 0 0 M/\P=zWl 0 M)=Q;replace hQ:=oH hQ;have HS:=oH hs;clear hs
 go_enter Tryz.func11,Tryz.ntmps11
 go_wp2_with fail;refine (show Calls Tryz.prog 32 #[.pointer (some ⟨b,0,none⟩),.int .i64 0,.int .i64 0] w _ from mxThin b 0 0 w HS.out oMx oMx (.inr rfl)).mono ?_;rintro e w1 ⟨A,c,M,rfl, -,hth,hs1,hg1⟩;have HR:=oH (show zFy w b 0 (fun P=>∃ M,zHe 0 0 M/\P=zWl 0 M) (.returned (.slice none 0 0)) w1 from ⟨none,0,zWl 0 M,rfl,⟨[],⟨World.ownsRow_nil _ _ _ _,fun r hr=>(by cases hr)⟩,⟨rfl,fun r hr=>(by cases hr),fun i k hi=>absurd hi sMx,fun i k hi=>absurd hi oMx⟩,fun r hr=>(by cases hr)⟩,⟨M,hth,rfl⟩,hs1,hg1⟩);clear hth hs1 hg1;go_wp2_with fail
 go_loopw [6,20] (fun v iv wr=>v = .slice none 0 0/\iv = .int .i64 0/\wr=w1) (fun _ _ _=>0)
 ·exact ⟨rfl,rfl,rfl⟩
 obtain ⟨rfl,rfl,rfl⟩:=hrel;go_wp2_with fail;rw [<-hQ.out];exact HR.out
structure Kind (n:Nat) (M:mRx):Prop where
 sym:SymM n M
 bnd:∀ i k,i<n->k<n->IsB 39 (M i k)
 thin:∀ k,zDm n M k->k<n->zHe n n M
theorem kind_pos {n:Nat} {M:mRx} (h:zHe n n M) (hn:n<=4):Kind n (zWl n M):=⟨posM_sym n n M,zWm h hn,fun k hk hlt=>absurd (zWn h hn hk) oMx⟩
theorem zMc:∀ r,r<=4->zMb 39 r<10^9
 | 0,_=>by decide
 | 1,_=>by decide
 | 2,_=>by decide
 | 3,_=>by decide
 | 4,_=>by decide
section
variable {n k:Nat} {M:mRx}
theorem Kind.fitD (h:Kind n M) (hn:n<=4) (hk:k<n) (hp:∀ t,t<k->0<dD M t):zBt (dD M k) :=
 (dD_dig (fun t ht=>by have:=hp t ht;grind) hk h.bnd (zMc _ oMx) (zMc _ oMx)).fits dCx dCx
theorem Kind.fitL (h:Kind n M) (hn:n<=4) {i:Nat} (hk:k<n) (hi:i<n) (hp:∀ t,t<=k->0<dD M t):zBt (lL M i k) :=
 (lL_dig (fun t ht=>by have:=hp t ht;grind) hk h.bnd (zMc _ oMx) hi).fits dCx dCx
end
theorem MPosK (b n:Nat) (w:World) (hs:Src w b) (hn:n<=4):Calls Tryz.prog 11 #[.pointer (some ⟨b,0,none⟩),.int .i64 (n:Int)] w (zFy w b n (fun M=>Kind n M/\∀ k,zDm n M k->k=n)):=by
 have up:∀ e w',zFy w b n (fun P=>∃ M,zHe n n M/\P=zWl n M) e w'->zFy w b n (fun M=>Kind n M/\∀ k,zDm n M k->k=n) e w':=by
  rintro e w' ⟨A,c,P,he,h1,⟨M,h2,rfl⟩,h4,h5⟩;exact ⟨A,c,_,he,h1,⟨kind_pos h2 hn,fun k hk=>zWn h2 hn hk⟩,h4,h5⟩
 rcases Nat.eq_zero_or_pos n with h0|h0
 ·subst h0;exact (show Calls _ _ #[.pointer (some ⟨b,0,none⟩),.int .i64 ((0:Nat):Int)] w _ from MPos_nil b w hs).mono up
 exact (MPos_any b n w hs h0 hn).mono up
def MxR (w:World) (A:oAx) (n:Nat) (M:mRx):Prop:=∃ rs,zCz w A rs/\zCy rs n n M/\∀ r∈rs,r.ss.length<=r.cp
section
variable {w w':World} {A:oAx} {n c B b:Nat} {M:mRx}
theorem MxR.below (h:MxR w A n M) (hb:Below w.heap.size w w'):MxR w' A n M:=by
 obtain ⟨rs,h1,h2,h3⟩:=h;exact ⟨rs,h1.below hb,h2,h3⟩
theorem MxC.grown (h:MxC B w A n c M) (hg:w.grownBy w' (some b)) (hb:b<B):MxC B w' A n c M:=by
 obtain ⟨rs,h1,h2,h3⟩:=h;exact ⟨rs,h1.grown hg hb,h2,h3⟩
theorem MxC.r (h:MxC B w A n c M):MxR w A n M:=by
 obtain ⟨rs,h1,h2,h3⟩:=h;exact ⟨rs,h1.read' h2.len,h2,h3⟩
theorem frmM {Ab:oAx} {cb:Nat} {x:Nat->Rat} (h:MxR w A n M) (hv:zHk w Ab n x) (hn1:1<=n) (hn:n<=4) {q:Rat} (hq:form n M x=q) (hf:zBt q) (henv:Env w):Calls Tryz.prog 16 #[.slice A n c,.slice Ab n cb] w fun e w'=>e = .returned (.tuple #[.string (zYy q),.int .i64 0])/\Below w.heap.size w w':=by
 obtain ⟨rs,h1,h2,h3⟩:=h;obtain ⟨ss,h4,h5⟩:=hv;have:=zBu A Ab c cb n rs ss M x w h1 h2 hn1 oMx h4 h5 henv;rw [hq,zVg hf,zVe hf] at this;exact this
theorem chkM {AD:oAx} {cD U B:Nat} {rsL:List zGk} (h:MxR w A n M) (hk:Kind n M) (hn:n<=4) (hp:∀ t,t<n->0<dD M t) (hg:zBz B n n (lK M n) U rsL w) (hD:w.ownsRow B 39 1 (.slice AD n cD) n (dTx M n)) (henv:Env w) :
  Calls Tryz.prog 14 #[.slice A n c,.agg #[.slice (some ⟨U,0,none⟩) n n,.slice AD n cD]] w fun e w'=>e = .returned (.bool true)/\Below w.heap.size w w':=by
 obtain ⟨rs,h1,h2,h3⟩:=h;exact zAq A AD c cD n U B rs rsL M w h1 h2 oMx hk.sym hp (fun t ht=>hk.fitD hn ht fun s hs=>hp s oMx) hg hD henv
end
end Go.Proofs.YtfjjcoggoomlbaaGreatDoor
