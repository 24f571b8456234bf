import Derived.Test.YtbjaplppalcmgaaGreatDoorZOV
import Derived.Test.YtbjaplppalcmgaaGreatDoorZOU
set_option maxHeartbeats 16000000
set_option maxRecDepth 100000
set_option linter.unusedVariables false
set_option linter.unusedSimpArgs false
set_option linter.unusedSectionVars false
namespace Go.Proofs.YtbjaplppalcmgaaGreatDoor
open Go.RowKit
structure Sht (rs:List zGh):Prop where
 m:rs.length<=5
 n:∀ r∈rs,r.ss.length<=14
 t:∀ r∈rs,∀ s∈r.ss,s.size<=30
theorem Sht.l1 {rs:List zGh} (h:Sht rs):rs.length<=1000000/\(∀ r∈rs,r.ss.length<=1000000)/\∀ r∈rs,∀ s∈r.ss,s.size<=4000000000 :=
 ⟨Nat.le_trans h.m dCx,fun r hr=>Nat.le_trans (h.n r hr) dCx,fun r hr s hs=>Nat.le_trans (h.t r hr s hs) dCx⟩
theorem zMg {q:Rat} (h:(zXl q).size<=30):zAl 30 q:=by
 have hl:∀ x:Int,(Lib.itoa x).length<=30->Dig 30 x:=fun x hx=>Dig.of_len (by
  unfold Lib.itoa at hx
  by_cases hn:x<0
  ·rw [if_pos hn] at hx
   simp at hx
   omega
  rw [if_neg hn] at hx
  rwa [show x.natAbs=x.toNat by omega])
 rw [zXr] at h
 by_cases hd:q.den=1
 ·rw [zXz hd] at h;exact ⟨hl _ h,by rw [hd];unfold Dig;decide⟩
 rw [zXy hd] at h
 simp at h
 exact ⟨hl _ oMx,hl _ oMx⟩
section
variable {rs:List zGh} {ss:List ByteArray}
theorem zZo (h:(zZm rs).2.2=0):zZm rs=(rs.length,zJr rs,0)/\zCi rs rs.length (zJr rs) (zRi rs)/\(1<=rs.length->zJr rs<=12):=by
 unfold zZm at h ⊢
 by_cases h1:12<rs.length
 ·rw [if_pos h1] at h;exact absurd h dCx
 rw [if_neg h1] at h ⊢
 by_cases h2:rs.any (fun r=>decide (12<r.ss.length))=true
 ·rw [if_pos h2] at h;exact absurd h dCx
 rw [if_neg h2] at h ⊢
 by_cases h3:rs.any (fun r=>decide (r.ss.length≠zJr rs))=true
 ·rw [if_pos h3] at h;exact absurd h dCx
 rw [if_neg h3] at h ⊢
 by_cases h4:rs.any (fun r => !r.ss.all vR)=true
 ·rw [if_pos h4] at h;exact absurd h dCx
 rw [if_neg h4];rw [Bool.not_eq_true,List.any_eq_false] at h2 h3 h4
 have k3:∀ r∈rs,r.ss.length=zJr rs:=fun r hr=>by
  have:=h3 r hr
  simpa using this
 refine ⟨rfl,zRd rfl k3 fun r hr s hs=>vR_ex ?_,fun hl=>?_⟩
 ·have:=h4 r hr;rw [Bool.not_eq_true,Bool.not_eq_false',List.all_eq_true] at this;exact this s hs
 rw [zJs oMx];have:=h2 _ (List.getElem_mem (show 0<rs.length by omega))
 simpa using this
theorem Sht.dig (h:Sht rs) {m n:Nat} {M:mRx} (hm:zCi rs m n M):DigM 30 m n M:=fun i k hi hk=>by
 have hi':i<rs.length:=by rw [hm.len];exact hi
 have hk':k<rs[i].ss.length:=by rw [hm.rowAt hi'];exact hk
 have:=h.t _ (List.getElem_mem hi') _ (List.getElem_mem hk');rw [hm.cel i k hi' hk'] at this;exact zMg this
noncomputable def xFj (ss:List ByteArray) (i:Nat):Rat:=xDx (ss.getD i ⟨#[]⟩)
theorem xFi (h:ss.all vR=true):VecF ss ss.length (xFj ss):=by
 rw [List.all_eq_true] at h
 have key:∀ k,(hk:k<ss.length)->ss[k]=zXl (xFj ss k)/\zBd (xFj ss k):=fun k hk=>by
  have:=xDw (h _ (List.getElem_mem hk));unfold xFj;rw [List.getD_eq_getElem?_getD,List.getElem?_eq_getElem hk];exact this
 exact ⟨rfl,fun k hk=>(key k hk).1,fun k hk=>(key k hk).2⟩
end
def TxtR (xs:List Rat) (ts:List ByteArray) (er:Int):Prop:=((∀ q∈xs,zBd q)/\ts=xs.map zXl/\er=0)\/((∃ q∈xs,¬zBd q)/\ts=[]/\er=3)
theorem TxtR.only {xs:List Rat} {ts ts':List ByteArray} {er er':Int} (h:TxtR xs ts er) (h':TxtR xs ts' er'):ts=ts'/\er=er':=by
 rcases h with ⟨h1,rfl,rfl⟩|⟨⟨q,hq,h1⟩,rfl,rfl⟩<;>rcases h' with ⟨k1,rfl,rfl⟩|⟨⟨q',hq',k1⟩,rfl,rfl⟩
 ·exact ⟨rfl,rfl⟩
 ·exact absurd (h1 q' hq') k1
 ·exact absurd (k1 q hq) h1
 exact ⟨rfl,rfl⟩
def zAu (ts:List ByteArray) (er:Int) (w:World) (e:Ending) (w':World):Prop:=∃ A c,e = .returned (.tuple #[.slice A ts.length c,.int .i64 er])/\zGx w' A ts/\Below w.heap.size w w'
def zAt (tss:List (List ByteArray)) (er:Int) (w:World) (e:Ending) (w':World):Prop:=∃ A c rs,e = .returned (.tuple #[.slice A rs.length c,.int .i64 er])/\zCj w' A rs/\rs.map (·.ss)=tss/\Below w.heap.size w w'
theorem zGx.nil (w:World) (A:oAx):zGx w A []:=fun h=>absurd rfl h
theorem zAu.err {er:Int} {w w':World} {e:Ending} (h:e = .returned (.tuple #[.slice none 0 0,.int .i64 er])/\Below w.heap.size w w'):zAu [] er w e w':=⟨none,0,h.1,zGx.nil _ _,h.2⟩
theorem zAt.err {er:Int} {w w':World} {e:Ending} (h:e = .returned (.tuple #[.slice none 0 0,.int .i64 er])/\Below w.heap.size w w'):zAt [] er w e w':=⟨none,0,[],h.1,⟨zHh.nil _ _,fun r hr=>by cases hr⟩,rfl,h.2⟩
theorem zGc.endT {xs:List Rat} {w w':World} {e:Ending} (h:zGc w xs e w'):∃ ts er,TxtR xs ts er/\zAu ts er w e w':=by
 rcases h with ⟨A,c,h1,h2,h3,h4⟩|⟨h1,h2⟩
 ·exact ⟨_,_,.inl ⟨h1,rfl,rfl⟩,A,c,by rw [List.length_map];exact h2,h3,h4⟩
 exact ⟨_,_,.inr ⟨h1,rfl,rfl⟩,zAu.err h2⟩
theorem ker_no {m n a:Nat} {M:mRx} {x:Nat->Rat} (h:zBq m n M a x):¬Rk m n M n:=fun hk=>by
 obtain ⟨F,ps,r,v,odd,hg⟩:=zNx m M n;have hr:r=n:=hg.rk.same hk;obtain ⟨ha,h1, -,h4, -⟩:=h;have hm:=hg.rm
 have hF:∀ j,j<n->F a j=idn a j:=fun j hj=>by
  have:=hg.unit j a oMx oMx
  rwa [hg.full hr j oMx] at this
 have hs:=(hg.comb a oMx).kills (n:=n) (y:=x) fun t ht=>h4 t ht
 rw [xBy (k:=a) ha fun k hk hne=>by
  rw [hF k hk];unfold idn;rw [if_neg (Ne.symm hne)]
  grind,hF a ha,h1] at hs
 unfold idn at hs;rw [if_pos rfl,Rat.mul_one] at hs;exact absurd hs dCx
noncomputable def sqE (rs:List zGh):Int:=if (zZm rs).2.2=0 then (if (zZm rs).1=(zZm rs).2.1 then 0 else 5) else (zZm rs).2.2
def zHo (rs:List zGh) (ss ts:List ByteArray) (er:Int):Prop :=
 (sqE rs≠0/\ts=[]/\er=sqE rs)\/(sqE rs=0/\ss.length≠rs.length/\ts=[]/\er=5)\/(sqE rs=0/\ss.length=rs.length/\ss.all vR=false/\ts=[]/\er=1) \/
 (sqE rs=0/\ss.length=rs.length/\ss.all vR=true/\rs=[]/\ts=[]/\er=0) \/
 (sqE rs=0/\ss.length=rs.length/\ss.all vR=true/\rs≠[]/\(((hvR rs.length rs.length rs.length (zRi rs)\/hvR rs.length rs.length 1 fun i _=>xFj ss i)/\ts=[]/\er=3) \/
  (¬(hvR rs.length rs.length rs.length (zRi rs)\/hvR rs.length rs.length 1 fun i _=>xFj ss i)/\∃ r:Nat,Rk rs.length rs.length (zRi rs) r/\((r<rs.length/\ts=[]/\er=6) \/
   (r=rs.length/\∃ x:Nat->Rat,(∀ i,i<rs.length->zHy rs.length (zRi rs) x i=xFj ss i)/\TxtR ((List.range rs.length).map x) ts er)))))
def zHl (rs:List zGh) (tss:List (List ByteArray)) (er:Int):Prop :=
 (sqE rs≠0/\tss=[]/\er=sqE rs)\/(sqE rs=0/\rs=[]/\tss=[]/\er=0) \/
 (sqE rs=0/\rs≠[]/\((hvR rs.length rs.length rs.length (zRi rs)/\tss=[]/\er=3) \/
  (¬hvR rs.length rs.length rs.length (zRi rs)/\∃ r:Nat,Rk rs.length rs.length (zRi rs) r/\((r<rs.length/\tss=[]/\er=6) \/
   (r=rs.length/\∃ X:Nat->Nat->Rat,(∀ i k,i<rs.length->k<rs.length->mulM rs.length (zRi rs) X i k=idn i k) /\
    (((∀ i k,i<rs.length->k<rs.length->zBd (X i k))/\tss=((List.range rs.length).map fun i=>(List.range rs.length).map fun k=>zXl (X i k))/\er=0)\/((∃ i k,i<rs.length/\k<rs.length/\¬zBd (X i k))/\tss=[]/\er=3)))))))
def zHk (rs:List zGh) (s:ByteArray) (er:Int):Prop :=
 (sqE rs≠0/\s=⟨#[]⟩/\er=sqE rs)\/(sqE rs=0/\rs=[]/\s=⟨#[49]⟩/\er=0) \/
 (sqE rs=0/\rs≠[]/\((hvR rs.length rs.length rs.length (zRi rs)/\s=⟨#[]⟩/\er=3)\/(¬hvR rs.length rs.length rs.length (zRi rs)/\s=zUa (det rs.length (zRi rs))/\er=zUb (det rs.length (zRi rs)))))
def zHn (rs:List zGh) (z:Int) (er:Int):Prop :=
 ((zZm rs).2.2≠0/\z=0/\er=(zZm rs).2.2)\/((zZm rs).2.2=0/\zJr rs=0/\z=0/\er=0) \/
 ((zZm rs).2.2=0/\zJr rs≠0/\((hvR (max rs.length (zJr rs)) rs.length (zJr rs) (zRi rs)/\z=0/\er=3)\/(¬hvR (max rs.length (zJr rs)) rs.length (zJr rs) (zRi rs)/\∃ r:Nat,Rk rs.length (zJr rs) (zRi rs) r/\z=(r:Int)/\er=0)))
def zHm (rs:List zGh) (ts:List ByteArray) (er:Int):Prop :=
 ((zZm rs).2.2≠0/\ts=[]/\er=(zZm rs).2.2)\/((zZm rs).2.2=0/\zJr rs=0/\ts=[]/\er=12) \/
 ((zZm rs).2.2=0/\zJr rs≠0/\((hvR (max rs.length (zJr rs)) rs.length (zJr rs) (zRi rs)/\ts=[]/\er=3)\/(¬hvR (max rs.length (zJr rs)) rs.length (zJr rs) (zRi rs) /\
  ((Rk rs.length (zJr rs) (zRi rs) (zJr rs)/\ts=[]/\er=12)\/(∃ a x,zBq rs.length (zJr rs) (zRi rs) a x/\TxtR ((List.range (zJr rs)).map x) ts er)))))
section
variable {rs:List zGh} {ss ts ts':List ByteArray} {tss tss':List (List ByteArray)} {s s':ByteArray} {z z' er er':Int}
theorem zQy {α:Type} {n:Nat} {f g:Nat->α} (h:∀ i,i<n->f i=g i):(List.range n).map f=(List.range n).map g:=List.map_congr_left fun i hi=>h i (List.mem_range.1 hi)
theorem zHo.only (h:zHo rs ss ts er) (h':zHo rs ss ts' er'):ts=ts'/\er=er':=by
 unfold zHo at h h';generalize sqE rs=q at *;generalize hH:(hvR rs.length rs.length rs.length (zRi rs)\/hvR rs.length rs.length 1 fun i _=>xFj ss i)=H at *;clear hH
 rcases h with ⟨h1,rfl,rfl⟩|⟨h1,h2,rfl,rfl⟩|⟨h1,h2,h3,rfl,rfl⟩|⟨h1,h2,h3,h4,rfl,rfl⟩|⟨h1,h2,h3,h4,h5⟩<;>rcases h' with ⟨k1,rfl,rfl⟩|⟨k1,k2,rfl,rfl⟩|⟨k1,k2,k3,rfl,rfl⟩|⟨k1,k2,k3,k4,rfl,rfl⟩|⟨k1,k2,k3,k4,k5⟩
 all_goals first
  | exact ⟨rfl,rfl⟩
  | exact absurd h1 k1
  | exact absurd k1 h1
  | exact absurd h2 k2
  | exact absurd k2 h2
  | exact absurd h4 k4
  | exact absurd k4 h4
  | exact absurd (h3.symm.trans k3) dCx
  | skip
 rcases h5 with ⟨h6,rfl,rfl⟩|⟨h6,r,h7,h8⟩<;>rcases k5 with ⟨k6,rfl,rfl⟩|⟨k6,r',k7,k8⟩
 ·exact ⟨rfl,rfl⟩
 ·exact absurd h6 k6
 ·exact absurd k6 h6
 obtain rfl:=h7.same k7
 rcases h8 with ⟨h8,rfl,rfl⟩|⟨h8,x,h9,h10⟩<;>rcases k8 with ⟨k8,rfl,rfl⟩|⟨k8,x',k9,k10⟩
 ·exact ⟨rfl,rfl⟩
 ·omega
 ·omega
 rw [zQy (xAd (by rw [h8] at h7;exact h7) h9 k9)] at h10;exact h10.only k10
theorem zHl.only (h:zHl rs tss er) (h':zHl rs tss' er'):tss=tss'/\er=er':=by
 unfold zHl at h h';generalize sqE rs=q at *
 rcases h with ⟨h1,rfl,rfl⟩|⟨h1,h2,rfl,rfl⟩|⟨h1,h2,h3⟩<;>rcases h' with ⟨k1,rfl,rfl⟩|⟨k1,k2,rfl,rfl⟩|⟨k1,k2,k3⟩
 all_goals first
  | exact ⟨rfl,rfl⟩
  | exact absurd h1 k1
  | exact absurd k1 h1
  | exact absurd h2 k2
  | exact absurd k2 h2
  | skip
 rcases h3 with ⟨h6,rfl,rfl⟩|⟨h6,r,h7,h8⟩<;>rcases k3 with ⟨k6,rfl,rfl⟩|⟨k6,r',k7,k8⟩
 ·exact ⟨rfl,rfl⟩
 ·exact absurd h6 k6
 ·exact absurd k6 h6
 obtain rfl:=h7.same k7
 rcases h8 with ⟨h8,rfl,rfl⟩|⟨h8,X,h9,h10⟩<;>rcases k8 with ⟨k8,rfl,rfl⟩|⟨k8,X',k9,k10⟩
 ·exact ⟨rfl,rfl⟩
 ·omega
 ·omega
 have he:=zOs (by rw [h8] at h7;exact h7) h9 k9
 rcases h10 with ⟨h11,rfl,rfl⟩|⟨⟨i,k,hi,hk,h11⟩,rfl,rfl⟩<;>rcases k10 with ⟨k11,rfl,rfl⟩|⟨⟨i',k',hi',hk',k11⟩,rfl,rfl⟩
 ·exact ⟨zQy fun i hi=>zQy fun k hk=>by rw [he i k hi hk],rfl⟩
 ·exact absurd (he i' k' hi' hk'▸h11 i' k' hi' hk') k11
 ·exact absurd (he i k hi hk▸k11 i k hi hk) h11
 exact ⟨rfl,rfl⟩
theorem zHk.only (h:zHk rs s er) (h':zHk rs s' er'):s=s'/\er=er':=by
 unfold zHk at h h';generalize sqE rs=q at *
 rcases h with ⟨h1,rfl,rfl⟩|⟨h1,h2,rfl,rfl⟩|⟨h1,h2,h3⟩<;>rcases h' with ⟨k1,rfl,rfl⟩|⟨k1,k2,rfl,rfl⟩|⟨k1,k2,k3⟩
 all_goals first
  | exact ⟨rfl,rfl⟩
  | exact absurd h1 k1
  | exact absurd k1 h1
  | exact absurd h2 k2
  | exact absurd k2 h2
  | skip
 rcases h3 with ⟨h6,rfl,rfl⟩|⟨h6,rfl,rfl⟩<;>rcases k3 with ⟨k6,rfl,rfl⟩|⟨k6,rfl,rfl⟩
 ·exact ⟨rfl,rfl⟩
 ·exact absurd h6 k6
 ·exact absurd k6 h6
 exact ⟨rfl,rfl⟩
theorem zHn.only (h:zHn rs z er) (h':zHn rs z' er'):z=z'/\er=er':=by
 unfold zHn at h h';generalize (zZm rs).2.2=q at *
 rcases h with ⟨h1,rfl,rfl⟩|⟨h1,h2,rfl,rfl⟩|⟨h1,h2,h3⟩<;>rcases h' with ⟨k1,rfl,rfl⟩|⟨k1,k2,rfl,rfl⟩|⟨k1,k2,k3⟩
 all_goals first
  | exact ⟨rfl,rfl⟩
  | exact absurd h1 k1
  | exact absurd k1 h1
  | exact absurd h2 k2
  | exact absurd k2 h2
  | skip
 rcases h3 with ⟨h6,rfl,rfl⟩|⟨h6,r,h7,rfl,rfl⟩<;>rcases k3 with ⟨k6,rfl,rfl⟩|⟨k6,r',k7,rfl,rfl⟩
 ·exact ⟨rfl,rfl⟩
 ·exact absurd h6 k6
 ·exact absurd k6 h6
 obtain rfl:=h7.same k7;exact ⟨rfl,rfl⟩
theorem zHm.only (h:zHm rs ts er) (h':zHm rs ts' er'):ts=ts'/\er=er':=by
 unfold zHm at h h';generalize (zZm rs).2.2=q at *
 rcases h with ⟨h1,rfl,rfl⟩|⟨h1,h2,rfl,rfl⟩|⟨h1,h2,h3⟩<;>rcases h' with ⟨k1,rfl,rfl⟩|⟨k1,k2,rfl,rfl⟩|⟨k1,k2,k3⟩
 all_goals first
  | exact ⟨rfl,rfl⟩
  | exact absurd h1 k1
  | exact absurd k1 h1
  | exact absurd h2 k2
  | exact absurd k2 h2
  | skip
 rcases h3 with ⟨h6,rfl,rfl⟩|⟨h6,h7⟩<;>rcases k3 with ⟨k6,rfl,rfl⟩|⟨k6,k7⟩
 ·exact ⟨rfl,rfl⟩
 ·exact absurd h6 k6
 ·exact absurd k6 h6
 rcases h7 with ⟨h7,rfl,rfl⟩|⟨a,x,h7,h8⟩<;>rcases k7 with ⟨k7,rfl,rfl⟩|⟨a',x',k7,k8⟩
 ·exact ⟨rfl,rfl⟩
 ·exact absurd h7 (ker_no k7)
 ·exact absurd k7 (ker_no h7)
 obtain ⟨rfl,rfl⟩:=h7.only k7;exact h8.only k8
end
def Emp (w:World) (A:oAx) (m:Nat):Prop:=m=0\/∃ b off,A=some ⟨b,off,none⟩/\b<w.heap.size/\∀ i,i<m->∃ ad cp,w.cell? ⟨b,off+i,none⟩=some (.slice ad 0 cp)
theorem Emp.below {w w':World} {A:oAx} {m:Nat} (h:Emp w A m) (hb:Below w.heap.size w w'):Emp w' A m:=by
 rcases h with h|⟨b,off,e,hl,hc⟩
 ·exact .inl h
 exact .inr ⟨b,off,e,Nat.lt_of_lt_of_le hl hb.size,fun i hi=>by
  obtain ⟨ad,cp,h⟩:=hc i hi
  exact ⟨ad,cp,(hb.cell (p:=⟨b,off+i,none⟩) hl).trans h⟩⟩
theorem zEg (A:oAx) (c m N:Nat) (w:World) (h:Emp w A m) (hm:m<=12) (hN:N<=600) :
  Calls Tryz.prog 41 #[.slice A m c,.int .i64 (N:Int)] w fun e w'=>e = .returned (.bool false)/\Below w.heap.size w w':=by
 have HM:=oH h;clear h
 go_enter Tryz.func41,Tryz.ntmps41
 go_wp2_with fail;refine (zEm 1 w dCx dCx).mono ?_;rintro e w1 ⟨v1,rfl,hv,hb⟩;obtain ⟨nb,A1,l1,c1,rfl⟩:=hv.slice;have hbl:Below w1.heap.size w1 (w1.alloc (.cells #[.bool nb,.slice A1 l1 c1] 85)):=bA;have HB1:=bTx2 hb hbl;clear hv hb hbl;go_upto_region 2 with (fail);generalize w1.alloc (.cells #[.bool nb,.slice A1 l1 c1] 85)=W1 at *;generalize w1.heap.size=pq at *;go_wp2_with fail
 go_loopw [19] (fun iv wr=>∃ i:Nat,iv = .int .i64 (i:Int)/\i<=m/\Below w.heap.size w wr) (fun iv _=>m-(intOf iv).toNat)
 ·exact ⟨0,rfl,oLx,HB1.out⟩
 clear HB1;obtain ⟨i,rfl,him,hbr⟩:=hrel;obtain ⟨wi,rfl⟩:=nWx wr;have HBR:=oH hbr;clear hbr
 by_cases hlt:i<m
 ·obtain ⟨b,off,hA,hb1,hc⟩:=HM.resolve_left oMx;subst hA;obtain ⟨ad,cp,hcc⟩:=hc i hlt;have cR:=(HBR.cell (p:=⟨b,off+i,none⟩) hb1).trans hcc
  have x1:(0:Int)<=(i:Int):=by omega
  have x2:(i:Int)<(m:Int):=by omega
  clear hc;go_wp2_with fail
  go_loopw [27] (fun kv wr=>kv = .int .i64 (0:Int)/\Below w.heap.size w wr) (fun _ _=>0)
  ·exact ⟨rfl,HBR.out⟩
  obtain ⟨rfl,hbk⟩:=hrel;have HBK:=oH hbk;clear hbk HBR;go_wp2_with fail;go_roundw
  ·exact ⟨i+1,by go_num,oMx,HBK.out⟩
  simp [intOf];omega
 have hie:¬(i:Int)<(m:Int):=by omega
 go_wp2_with fail
 go_loopw [59] (fun iv wr=>∃ i:Nat,iv = .int .i64 (i:Int)/\i<=m/\Below w.heap.size w wr) (fun iv _=>m-(intOf iv).toNat)
 ·exact ⟨0,rfl,oLx,HBR.out⟩
 clear HBR hie hlt him;obtain ⟨i,rfl,him,hbr⟩:=hrel;obtain ⟨wi,rfl⟩:=nWx wr;have HBR:=oH hbr;clear hbr
 by_cases hlt:i<m
 ·obtain ⟨b,off,hA,hb1,hc⟩:=HM.resolve_left oMx;subst hA;obtain ⟨ad,cp,hcc⟩:=hc i hlt;have cR:=(HBR.cell (p:=⟨b,off+i,none⟩) hb1).trans hcc
  have x1:(0:Int)<=(i:Int):=by omega
  have x2:(i:Int)<(m:Int):=by omega
  clear hc;go_wp2_with fail
  go_loopw [67] (fun kv wr=>kv = .int .i64 (0:Int)/\Below w.heap.size w wr) (fun _ _=>0)
  ·exact ⟨rfl,HBR.out⟩
  obtain ⟨rfl,hbk⟩:=hrel;have HBK:=oH hbk;clear hbk HBR;go_wp2_with fail;go_roundw
  ·exact ⟨i+1,by go_num,oMx,HBK.out⟩
  simp [intOf];omega
 have hie:¬(i:Int)<(m:Int):=by omega
 have hNN:¬(600:Int)<(N:Int):=by omega
 go_wp2_with fail;go_ret
 exact ⟨rfl,HBR.out⟩
theorem zEv (A:oAx) (c m:Nat) (w:World) (h:Emp w A m) (hm:m<=12) :
  Calls Tryz.prog 43 #[.slice A m c] w fun e w'=>(∃ A' c',e = .returned (.slice A' m c'))/\Below w.heap.size w w':=by
 obtain ⟨i0,hi,hz0,hz1,hz2⟩:=info_parts Tryz.infoRFs;have HM:=oH h;clear h
 go_enter Tryz.func43,Tryz.ntmps43
 go_wp2_with fail
 go_loopw [3,10] (fun v kv wr=>∃ i:Nat,kv = .int .i64 (i:Int)/\i<=m/\wr.ownsRow w.heap.size 83 1 v i (List.replicate i (.slice none 0 0))/\Below w.heap.size w wr) (fun _ kv _=>m-(intOf kv).toNat)
 ·exact ⟨0,rfl,oLx,World.ownsRow_nil _ _ _ _,bRx⟩
 obtain ⟨i,rfl,him,hown,hbr⟩:=hrel;obtain ⟨wi,rfl⟩:=nWx wr;obtain ⟨AV,cV,rfl, -⟩:=zUj hown;have HBR:=oH hbr;have HO:=oH hown;clear hbr hown
 by_cases hlt:i<m
 ·obtain ⟨b,off,hA,hb1,hc⟩:=HM.resolve_left oMx;subst hA;obtain ⟨ad,cp,hcc⟩:=hc i hlt;have cR:=(HBR.cell (p:=⟨b,off+i,none⟩) hb1).trans hcc
  have x1:(0:Int)<=(i:Int):=by omega
  have x2:(i:Int)<(m:Int):=by omega
  clear hc;go_wp2_with fail
  go_loopw [5,18] (fun v kv wr=>v = .slice none 0 0/\kv = .int .i64 (0:Int)/\wi=wr) (fun _ _ _=>0)
  ·exact ⟨rfl,rfl,rfl⟩
  obtain ⟨rfl,rfl,rfl⟩:=hrel;have hsz:=HBR.size
  go_wp2_with (at_builtin;refine wpList_append_own _ rfl _ _ 81 rfl w.heap.size 83 i0 (.slice none 0 0) 1 24 Tryz.underlying81 hi hz0 hz1 hz2 rfl dCx _ _ _ rfl (HO.alloc _) ⟨wi.heap.size,0,none⟩ 1 1 [_] rfl rfl zTu zZu (by unfold maxLen;omega) oMx (by simp;omega) ?_)
  intro v' w6 hown6 hgrow6 _
  have HB6:=oH (zIl HBR.out hsz hgrow6 fun k hk=>(HO.lt k hk).1);have HO6:=oH (show w6.ownsRow w.heap.size 83 1 v' (i+1) (List.replicate (i+1) (.slice none 0 0)) by rw [List.replicate_succ'];exact hown6);clear hown6 hgrow6;go_wp2_with fail;go_roundw
  ·exact ⟨i+1,by go_num,oMx,HO6.out,HB6.out⟩
  simp [intOf];omega
 have hie:i=m:=by omega
 have x2:¬(i:Int)<(m:Int):=by omega
 go_wp2_with fail;go_ret
 exact ⟨⟨AV,cV,rfl⟩,HBR.out⟩
theorem zDk (A:oAx) (c m:Nat) (w:World) :
  Calls Tryz.prog 45 #[.slice A m c,.int .i64 0] w fun e w'=>∃ u:FrV,e = .returned (.tuple #[.slice none 0 0,u.val])/\zBt w' u.val ((1:Int):Rat)/\Below w.heap.size w w':=by
 go_enter Tryz.func45,Tryz.ntmps45
 go_wp2_with fail;have hb0:Below w.heap.size w (w.alloc (.cells #[.bool false,.slice none 0 0,.bool false,.slice none 0 0] 87)):=bA;have HR0:=oH (Blk.new w 87 [.bool false,.slice none 0 0,.bool false,.slice none 0 0]);have HB0:=oH hb0;clear hb0;refine (zDo 1 _ dCx dCx).mono ?_;rintro e w2 ⟨v1,rfl,hv,hb⟩;have HB2:=bTx2 HB0 hb;replace HR0:=oH (HR0.below hb);have hsx:=HR0.lt;have HV2:=oH hv;obtain ⟨na,nb,A1,A2,l1,c1,l2,c2,rfl⟩:=hv.slice;clear hv hb;go_upto_region 3 with (fail);have hbl:Below w2.heap.size w2 (w2.alloc (.cells #[.bool na,.slice A1 l1 c1,.bool nb,.slice A2 l2 c2] 87)):=bA;have HB3:=bTx2 HB2 hbl;have HR3:=oH (HR0.below hbl);have HV3:=oH (HV2.below hbl);have HD3:=oH (Blk.new w2 87 [.bool na,.slice A1 l1 c1,.bool nb,.slice A2 l2 c2]);clear hbl HB2 HR0 HV2 HB0;generalize w2.alloc (.cells #[.bool na,.slice A1 l1 c1,.bool nb,.slice A2 l2 c2] 87)=W3 at *;generalize w2.heap.size=xd at *
 go_wp2_with fail
 go_loopw [6,8] (fun v6 cv wr=>v6 = .slice none 0 0/\cv = .int .i64 (0:Int)/\W3=wr) (fun _ _ _=>0)
 ·exact ⟨rfl,rfl,rfl⟩
 obtain ⟨rfl,rfl,rfl⟩:=hrel;have KSz:Hid (W3.drew.cell? ⟨xd,0,none⟩=some (.bool na)/\W3.drew.cell? ⟨xd,1,none⟩=some (.slice A1 l1 c1)/\W3.drew.cell? ⟨xd,2,none⟩=some (.bool nb)/\W3.drew.cell? ⟨xd,3,none⟩=some (.slice A2 l2 c2)):=oH ⟨HD3.at_ (i:=0) rfl,HD3.at_ (i:=1) rfl,HD3.at_ (i:=2) rfl,HD3.at_ (i:=3) rfl⟩;go_wp2_with fail;refine xGe (S:=(fun w'=>w'.cell? ⟨xd,0,none⟩=some (.bool na)/\w'.cell? ⟨xd,1,none⟩=some (.slice A1 l1 c1)/\w'.cell? ⟨xd,2,none⟩=some (.bool nb)/\w'.cell? ⟨xd,3,none⟩=some (.slice A2 l2 c2))) 3 (by kernel_rfl) rfl (by kernel_rfl) (by kernel_rfl) rfl (by exact KSz.out) (fun hHeld=>?_);simp only [List.pop_toArray,List.dropLast_cons_cons,List.dropLast_singleton];refine tkH 0 ?_;refine tkH 1 ?_;refine tkH 2 ?_
 try simp only [Act.put,tkA,tkB,tkC]
 refine wpAnyH_done (by kernel_rfl) ?_ _;simp only [xCo,List.getElem_toArray,List.getElem_cons_succ,List.getElem_cons_zero];have hr:=HR3.below (Below.refl W3.heap.size W3).drew;have f0:=hr.fr 0;have f1:=hr.fr 1;have f2:=hr.fr 2;have f3:=hr.fr 3;have r0:=hr.at_ (i:=0) rfl;have r1:=hr.at_ (i:=1) rfl;have r2:=hr.at_ (i:=2) rfl;have r3:=hr.at_ (i:=3) rfl;have q0:=HR3.at_ (i:=0) rfl;have q1:=HR3.at_ (i:=1) rfl;have q2:=HR3.at_ (i:=2) rfl;have q3:=HR3.at_ (i:=3) rfl;have p0:=HR3.fr 0;have p1:=HR3.fr 1;have p2:=HR3.fr 2;have p3:=HR3.fr 3;obtain ⟨d0,d1,d2,d3⟩:=KSz.out;have HF:=oH (show zBt ((((W3.drew.setCell ⟨w.heap.size,0,none⟩ (.bool na)).setCell ⟨w.heap.size,1,none⟩ (.slice A1 l1 c1)).setCell ⟨w.heap.size,2,none⟩ (.bool nb)).setCell ⟨w.heap.size,3,none⟩ (.slice A2 l2 c2)) (.agg #[.bool na,.slice A1 l1 c1,.bool nb,.slice A2 l2 c2]) ((1:Int):Rat) from (HV3.below (Below.refl W3.heap.size W3).drew).set4 hr _ _ _ _)
 have HBF:=oH (((((HB3.trans ((Below.refl W3.heap.size W3).drew.mono HB3.size)).setCell (p:=⟨w.heap.size,0,none⟩) lRx (.bool na)).setCell (p:=⟨w.heap.size,1,none⟩) lRx (.slice A1 l1 c1)).setCell (p:=⟨w.heap.size,2,none⟩) lRx (.bool nb)).setCell (p:=⟨w.heap.size,3,none⟩) lRx (.slice A2 l2 c2));clear hr;go_wp2_with fail;refine bodyPost_ret (v := .tuple #[.slice none 0 0,.agg #[.bool na,.slice A1 l1 c1,.bool nb,.slice A2 l2 c2]]) (by simp [results,Tryz.results45,go_sem, *]) rfl ?_;exact ⟨⟨na,A1,l1,c1,nb,A2,l2,c2⟩,rfl,HF.out,HBF.out⟩
theorem zZp:zZm []=(0,0,0):=by simp [zZm,zJr]
theorem zEx (A:oAx) (c:Nat) (w:World):Calls Tryz.prog 39 #[.slice A 0 c] w fun e w'=>e = .returned (.tuple #[.int .i64 0,.int .i64 0,.int .i64 0])/\Below w.heap.size w w':=by
 have:=zEw A [] c w ⟨zHh.nil _ _,fun r hr=>by cases hr⟩ dCx (fun r hr=>by cases hr) (fun r hr=>by cases hr);rw [zZp] at this;exact this
theorem zEe (A:oAx) (c:Nat) (w:World):Calls Tryz.prog 41 #[.slice A 0 c,.int .i64 0] w fun e w'=>e = .returned (.bool false)/\Below w.heap.size w w':=zEg A c 0 0 w (.inl rfl) dCx dCx
theorem zEs (A:oAx) (c:Nat) (w:World):Calls Tryz.prog 43 #[.slice A 0 c] w fun e w'=>(∃ A' c',e = .returned (.slice A' 0 c'))/\Below w.heap.size w w':=zEv A c 0 w (.inl rfl) dCx
theorem RLine_0 (A:oAx) (c:Nat) (w:World):Calls Tryz.prog 46 #[.slice A 0 c] w fun e w'=>e = .returned (.tuple #[.slice none 0 0,.int .i64 0])/\Below w.heap.size w w':=by
 go_enter Tryz.func46,Tryz.ntmps46
 go_wp2_with fail
 go_loopw [4,11] (fun v kv wr=>v = .slice none 0 0/\kv = .int .i64 (0:Int)/\w=wr) (fun _ _ _=>0)
 ·exact ⟨rfl,rfl,rfl⟩
 obtain ⟨rfl,rfl,rfl⟩:=hrel;go_wp2_with fail;go_ret2
 exact ⟨rfl,bRx⟩
theorem RGive_0 (A:oAx) (c:Nat) (w:World):Calls Tryz.prog 51 #[.slice A 0 c] w fun e w'=>e = .returned (.tuple #[.slice none 0 0,.int .i64 0])/\Below w.heap.size w w':=by
 go_enter Tryz.func51,Tryz.ntmps51
 go_wp2_with fail
 go_loopw [4,11] (fun v kv wr=>v = .slice none 0 0/\kv = .int .i64 (0:Int)/\w=wr) (fun _ _ _=>0)
 ·exact ⟨rfl,rfl,rfl⟩
 obtain ⟨rfl,rfl,rfl⟩:=hrel;go_wp2_with fail;go_ret2
 exact ⟨rfl,bRx⟩
theorem RSol_z (A Ab:oAx) (c cb:Nat) (w:World):Calls Tryz.prog 14 #[.slice A 0 c,.slice Ab 0 cb] w (zAu [] 0 w):=by
 go_enter Tryz.func14,Tryz.ntmps14
 go_wp2_with fail;refine (zEx A c w).mono ?_;rintro e w1 ⟨rfl,hb1⟩;have HB1:=oH hb1;clear hb1;go_wp2_with fail
 go_loopw [37] (fun iv wr=>iv = .int .i64 (0:Int)/\w1=wr) (fun _ _=>0)
 ·exact ⟨rfl,rfl⟩
 obtain ⟨rfl,rfl⟩:=hrel;go_wp2_with fail;refine (zEe A c w1).mono ?_;rintro e w2 ⟨rfl,hb2⟩;have HB2:=bTx2 HB1 hb2;have HC:=oH (zDh Ab [] cb w2 (fun h=>absurd rfl h) dCx);clear hb2;go_wp2_with fail;refine HC.mono ?_;rintro e w3 ⟨v3,rs3,rfl,hmap3,hmo3,hb3⟩;have HB3:=bTx2 HB2 hb3
 obtain rfl:rs3=[]:=by simpa using hmap3
 obtain ⟨A3,c3,rfl, -⟩:=zUj hmo3.o;simp only [List.length_nil];clear hmap3 hmo3 hb3;go_wp2_with fail;refine (zEe A3 c3 w3).mono ?_;rintro e w4 ⟨rfl,hb4⟩;have HB4:=bTx2 HB3 hb4;clear hb4;go_wp2_with fail;refine (zEs A c w4).mono ?_;rintro e w5 ⟨⟨A5,c5,rfl⟩,hb5⟩;have HB5:=bTx2 HB4 hb5;clear hb5;go_wp2_with fail
 go_loopw [58] (fun iv wr=>iv = .int .i64 (0:Int)/\w5=wr) (fun _ _=>0)
 ·exact ⟨rfl,rfl⟩
 obtain ⟨rfl,rfl⟩:=hrel;go_wp2_with fail;refine (zDk A5 c5 0 w5).mono ?_;rintro e w6 ⟨u,rfl, -,hb6⟩;have HB6:=bTx2 HB5 hb6;have HB7:=oH (HB6.alloc HB6.size (.cells #[.bool u.na,.slice u.A u.l u.c,.bool u.nb,.slice u.A' u.l' u.c'] 87));simp only [FrV.val];clear hb6;go_wp2_with fail
 go_loopw [15,88] (fun v iv wr=>v = .slice none 0 0/\iv = .int .i64 (0:Int)/\Below w.heap.size w wr) (fun _ _ _=>0)
 ·exact ⟨rfl,rfl,HB7.out⟩
 obtain ⟨rfl,rfl,hb⟩:=hrel;have HB8:=oH hb;clear hb;go_wp2_with fail;refine (RLine_0 none 0 wr).mono ?_;rintro e w9 ⟨rfl,hb9⟩;have HB9:=bTx2 HB8 hb9;clear hb9;go_wp2_with fail;go_ret2
 exact zAu.err ⟨rfl,HB9.out⟩
theorem RInv_z (A:oAx) (c:Nat) (w:World):Calls Tryz.prog 17 #[.slice A 0 c] w (zAt [] 0 w):=by
 go_enter Tryz.func17,Tryz.ntmps17
 go_wp2_with fail;refine (zEx A c w).mono ?_;rintro e w1 ⟨rfl,hb1⟩;have HB1:=oH hb1;clear hb1;go_wp2_with fail;refine (zEe A c w1).mono ?_;rintro e w2 ⟨rfl,hb2⟩;have HB2:=bTx2 HB1 hb2;clear hb2;go_wp2_with fail;refine (zEs A c w2).mono ?_;rintro e w5 ⟨⟨A5,c5,rfl⟩,hb5⟩;have HB5:=bTx2 HB2 hb5;clear hb5;go_wp2_with fail
 go_loopw [33] (fun iv wr=>iv = .int .i64 (0:Int)/\w5=wr) (fun _ _=>0)
 ·exact ⟨rfl,rfl⟩
 obtain ⟨rfl,rfl⟩:=hrel;go_wp2_with fail;refine (zDk A5 c5 0 w5).mono ?_;rintro e w6 ⟨u,rfl, -,hb6⟩;have HB6:=bTx2 HB5 hb6;have HB7:=oH (HB6.alloc HB6.size (.cells #[.bool u.na,.slice u.A u.l u.c,.bool u.nb,.slice u.A' u.l' u.c'] 87));simp only [FrV.val];clear hb6;go_wp2_with fail
 go_loopw [68] (fun iv wr=>iv = .int .i64 (0:Int)/\Below w.heap.size w wr) (fun _ _=>0)
 ·exact ⟨rfl,HB7.out⟩
 obtain ⟨rfl,hb⟩:=hrel;have HB8:=oH hb;clear hb;go_wp2_with fail;refine (RGive_0 A5 c5 wr).mono ?_;rintro e w9 ⟨rfl,hb9⟩;have HB9:=bTx2 HB8 hb9;clear hb9;go_wp2_with fail;go_ret2
 exact zAt.err ⟨rfl,HB9.out⟩
theorem RDet_z (A:oAx) (c:Nat) (w:World):Calls Tryz.prog 19 #[.slice A 0 c] w fun e w'=>e = .returned (.tuple #[.string ⟨#[49]⟩,.int .i64 0])/\Below w.heap.size w w':=by
 have H1:=oH (show zUa ((1:Int):Rat)=⟨#[49]⟩/\zUb ((1:Int):Rat)=0 from by
  have hf:zBd ((1:Int):Rat):=xAa (z:=1) dCx;rw [zUe hf,zUc hf]
  exact ⟨zXm,rfl⟩)
 go_enter Tryz.func19,Tryz.ntmps19
 go_wp2_with fail;refine (zEx A c w).mono ?_;rintro e w1 ⟨rfl,hb1⟩;have HB1:=oH hb1;clear hb1;go_wp2_with fail;refine (zEe A c w1).mono ?_;rintro e w2 ⟨rfl,hb2⟩;have HB2:=bTx2 HB1 hb2;clear hb2;go_wp2_with fail;refine (zEs A c w2).mono ?_;rintro e w5 ⟨⟨A5,c5,rfl⟩,hb5⟩;have HB5:=bTx2 HB2 hb5;clear hb5;go_wp2_with fail;refine (zDk A5 c5 0 w5).mono ?_;rintro e w6 ⟨u,rfl,hu,hb6⟩;have HB6:=bTx2 HB5 hb6;have HX:=oH (Blk.new w6 87 [.bool u.na,.slice u.A u.l u.c,.bool u.nb,.slice u.A' u.l' u.c']);have hbl:Below w6.heap.size w6 (w6.alloc (.cells #[.bool u.na,.slice u.A u.l u.c,.bool u.nb,.slice u.A' u.l' u.c'] 87)):=bA;have HU:=oH (hu.below hbl);have HB7:=bTx2 HB6 hbl;simp only [FrV.val] at HU ⊢;clear hb6 hu hbl;go_upto_region 9 with (fail);generalize w6.alloc (.cells #[.bool u.na,.slice u.A u.l u.c,.bool u.nb,.slice u.A' u.l' u.c'] 87)=W at *;generalize w6.heap.size=xb at *;have x0:=HX.at_ (i:=0) rfl
 have x1:=HX.at_ (i:=1) rfl;have x2:=HX.at_ (i:=2) rfl;have x3:=HX.at_ (i:=3) rfl;have HGV:=zDm _ ((1:Int):Rat) W HU.out ((zAl.ofInt (d:=1) (n:=1) (by unfold Dig;decide) dCx).szG.mono dCx);rw [H1.1,H1.2] at HGV;replace HGV:=oH HGV;go_wp2_with fail;refine HGV.mono ?_;rintro e w8 ⟨rfl,hb8⟩;have HB8:=bTx2 HB7 hb8;clear hb8;go_wp2_with fail;go_ret2
 exact ⟨rfl,HB8.out⟩
theorem zMv {rs:List zGh} {A:oAx} {w:World} (h:zCj w A rs) (h0:∀ r∈rs,r.ss.length=0):Emp w A rs.length:=by
 rcases Nat.eq_zero_or_pos rs.length with h1|h1
 ·exact .inl h1
 obtain ⟨b,off,e,hl,hc⟩:=h.o (by intro e;have:=zXg rs;rw [e] at this;simp at this;omega);refine .inr ⟨b,off,e,hl,fun i hi=>⟨rs[i].ad,rs[i].cp,?_⟩⟩;rw [hc i (by rw [zXg];exact hi)];have h2:=h0 _ (List.getElem_mem hi);simp only [zXe,List.getElem_map];rw [h2]
theorem RRank_z {rs:List zGh} (A:oAx) (c:Nat) (w:World) (h:zCj w A rs) (hs:Sht rs) (hsh:(zZm rs).2.2=0) (h0:zJr rs=0):Calls Tryz.prog 21 #[.slice A rs.length c] w fun e w'=>e = .returned (.tuple #[.int .i64 0,.int .i64 0])/\Below w.heap.size w w':=by
 have hg:=zZo hsh;have HSH:=zEw A rs c w h hs.l1.1 hs.l1.2.1 hs.l1.2.2;rw [hg.1,h0] at HSH;replace HSH:=oH HSH;have HM:=oH (zMv h (fun r hr=>(hg.2.1.row r hr).trans h0));have hm:=hs.m;clear hg h hs hsh h0;generalize rs.length=m at *;have HHV:=oH (fun W (hW:Below w.heap.size w W)=>zEg A c m m W (HM.below hW) oMx oMx);have HRD:=oH (fun W (hW:Below w.heap.size w W)=>zEv A c m W (HM.below hW) oMx)
 have hmx:max (m:Int) 0=(m:Int):=by omega
 go_enter Tryz.func21,Tryz.ntmps21
 go_wp2_with fail;refine HSH.mono ?_;rintro e w1 ⟨rfl,hb1⟩;have HB1:=oH hb1;clear hb1;simp only;go_wp2_with fail;refine (HHV.out w1 HB1.out).mono ?_;rintro e w2 ⟨rfl,hb2⟩;have HB2:=bTx2 HB1 hb2;clear hb2 hmx;go_wp2_with fail;refine (HRD.out w2 HB2.out).mono ?_;rintro e w5 ⟨⟨A5,c5,rfl⟩,hb5⟩;have HB5:=bTx2 HB2 hb5;clear hb5;go_wp2_with fail;refine (zDk A5 c5 m w5).mono ?_;rintro e w6 ⟨u,rfl, -,hb6⟩;have HB6:=bTx2 HB5 hb6;have HB7:=oH (HB6.alloc HB6.size (.cells #[.bool u.na,.slice u.A u.l u.c,.bool u.nb,.slice u.A' u.l' u.c'] 87));simp only [FrV.val];clear hb6;go_wp2_with fail;go_ret2
 exact ⟨rfl,HB7.out⟩
theorem RKer_z {rs:List zGh} (A:oAx) (c:Nat) (w:World) (h:zCj w A rs) (hs:Sht rs) (hsh:(zZm rs).2.2=0) (h0:zJr rs=0):Calls Tryz.prog 23 #[.slice A rs.length c] w (zAu [] 12 w):=by
 have hg:=zZo hsh;have HSH:=zEw A rs c w h hs.l1.1 hs.l1.2.1 hs.l1.2.2;rw [hg.1,h0] at HSH;replace HSH:=oH HSH;have HM:=oH (zMv h (fun r hr=>(hg.2.1.row r hr).trans h0));have hm:=hs.m;clear hg h hs hsh h0;generalize rs.length=m at *;have HHV:=oH (fun W (hW:Below w.heap.size w W)=>zEg A c m m W (HM.below hW) oMx oMx);have HRD:=oH (fun W (hW:Below w.heap.size w W)=>zEv A c m W (HM.below hW) oMx)
 have hmx:max (m:Int) 0=(m:Int):=by omega
 go_enter Tryz.func23,Tryz.ntmps23
 go_wp2_with fail;refine HSH.mono ?_;rintro e w1 ⟨rfl,hb1⟩;have HB1:=oH hb1;clear hb1;simp only;go_wp2_with fail;refine (HHV.out w1 HB1.out).mono ?_;rintro e w2 ⟨rfl,hb2⟩;have HB2:=bTx2 HB1 hb2;clear hb2 hmx;go_wp2_with fail;refine (HRD.out w2 HB2.out).mono ?_;rintro e w5 ⟨⟨A5,c5,rfl⟩,hb5⟩;have HB5:=bTx2 HB2 hb5;clear hb5;go_wp2_with fail;refine (zDk A5 c5 m w5).mono ?_;rintro e w6 ⟨u,rfl, -,hb6⟩;have HB6:=bTx2 HB5 hb6;have HB7:=oH (HB6.alloc HB6.size (.cells #[.bool u.na,.slice u.A u.l u.c,.bool u.nb,.slice u.A' u.l' u.c'] 87));simp only [FrV.val];clear hb6;go_wp2_with fail
 go_loopw [10] (fun iv wr=>iv = .int .i64 (0:Int)/\Below w.heap.size w wr) (fun _ _=>0)
 ·exact ⟨rfl,HB7.out⟩
 obtain ⟨rfl,hb⟩:=hrel;have HB8:=oH hb;clear hb;go_wp2_with fail;go_ret2
 exact zAu.err ⟨rfl,HB8.out⟩
end Go.Proofs.YtbjaplppalcmgaaGreatDoor
