import Derived.Test.YtfjjcoggoomlbaaGreatDoorZR
set_option maxHeartbeats 16000000
set_option maxRecDepth 100000
namespace Go.Proofs.YtfjjcoggoomlbaaGreatDoor
open Go.RowKit
theorem xFp {l:List UInt8} (h:xFm (zJo l).1=false):xFn l=false:=by
 cases hk:(zJo l).2.2
 ·rw [xFu hk]
  rcases zJp l with ⟨h1,_⟩|⟨_,h2,_⟩
  ·rw [hk] at h1;cases h1
  ·rw [h2];exact h
 ·cases hv:xFn l
  ·rfl
  ·obtain ⟨n,d,h1,_,hf,_⟩:=(xFv hk).1 hv
   rw [h1,xGa hf] at h;cases h
theorem xFs {l:List UInt8} (h:xFm (zJo l).1=true) (hk:(zJo l).2.2=false):xFn l=true:=by
 rw [xFu hk]
 rcases zJp l with ⟨h1,_⟩|⟨_,h2,_⟩
 ·rw [hk] at h1;cases h1
 ·rw [h2];exact h
theorem xFy {l:List UInt8} (hk:(zJo l).2.2=true) (h:(zJo l).1=Lib.itoa 0):xFn l=false:=by
 cases hv:xFn l
 ·rfl
 ·obtain ⟨n,d,h1,_,_,_,hn,_⟩:=(xFv hk).1 hv
  rw [h1] at h
  exact absurd (zOl h) hn
theorem xFo {l:List UInt8} (hk:(zJo l).2.2=true) (h:xFm (zJo l).2.1=false):xFn l=false:=by
 cases hv:xFn l
 ·rfl
 ·obtain ⟨n,d,_,h2,_,hg,_⟩:=(xFv hk).1 hv
  rw [h2,xGa hg] at h;cases h
theorem xFw {l:List UInt8} {m:Int} (hk:(zJo l).2.2=true) (h:(zJo l).2.1=Lib.itoa m) (hm:m≤1):xFn l=false:=by
 cases hv:xFn l
 ·rfl
 ·obtain ⟨n,d,_,h2,_,_,_,hd,_⟩:=(xFv hk).1 hv
  rw [h2] at h
  have:=zOl h
  omega
theorem xFr {l:List UInt8} {n m:Int} (hk:(zJo l).2.2=true) (h1:(zJo l).1=Lib.itoa n) (h2:(zJo l).2.1=Lib.itoa m) (fn:Fits n) (fm:Fits m) (hn:n≠0) (hm:1<m):xFn l=decide (n.natAbs.gcd m.natAbs=1):=by
 by_cases hg:n.natAbs.gcd m.natAbs=1
 ·rw [decide_eq_true hg]
  exact (xFv hk).2 ⟨n,m,h1,h2,fn,fm,hn,hm,hg⟩
 ·rw [decide_eq_false hg]
  cases hv:xFn l
  ·rfl
  ·obtain ⟨n',d',k1,k2,_,_,_,_,hc⟩:=(xFv hk).1 hv
   rw [k1] at h1;rw [k2] at h2
   rw [zOl h1,zOl h2] at hc
   exact absurd hc hg
theorem gcd_sg (a b:Nat) (hb:0<b):(sg (((a.gcd b:Nat):Int)-1)==0)=decide (a.gcd b=1):=by
 have:=Nat.gcd_pos_of_pos_right a hb
 unfold sg
 by_cases h:a.gcd b=1
 ·simp [h]
 ·rw [if_neg oMx,if_pos oMx]
  simp [h]
theorem zEy (l:List UInt8) (w:World) (hl:l.length≤4000000000) (henv:Env w) :
  Calls Tryz.prog 77 #[.string ⟨l.toArray⟩] w fun e w'=>e = .returned (.bool (xFn l))∧Below w.heap.size w w':=by
 have HC:=oH (zAk l w oMx henv)
 have HV1:=oH (fun W=>zGz (zJo l).1 W (by have:=(zJq l).1;omega))
 have HV2:=oH (fun W=>zGz (zJo l).2.1 W (by have:=(zJq l).2;omega))
 clear henv
 cases hv1:xFm (zJo l).1
 ·have E:=oH (xFp hv1)
  rw [hv1] at HV1
  clear hv1 HV2
  generalize (zJo l).1=p at *
  generalize (zJo l).2.1=q at *
  generalize (zJo l).2.2=k at *
  cases k
  ·have tok:True:=trivial
   go_enter Tryz.func77,Tryz.ntmps77
   go_wp2_with fail
   refine (HC.out).mono ?_
   rintro e w1 ⟨rfl,hb⟩
   have HB:=oH hb
   clear hb
   go_wp2_with fail
   refine (HV1.out w1).mono ?_
   rintro e w2 ⟨rfl,hb⟩
   replace HB:=oH (HB.trans (hb.mono HB.size))
   clear hb
   go_wp2_with fail
   refine (HV1.out w2).mono ?_
   rintro e w3 ⟨rfl,hb⟩
   replace HB:=oH (HB.trans (hb.mono HB.size))
   clear hb
   go_wp2_with fail
   go_ret
   exact ⟨by rw [E.out];rfl,HB.out⟩
  ·have tok:True:=trivial
   go_enter Tryz.func77,Tryz.ntmps77
   go_wp2_with fail
   refine (HC.out).mono ?_
   rintro e w1 ⟨rfl,hb⟩
   have HB:=oH hb
   clear hb
   go_wp2_with fail
   refine (HV1.out w1).mono ?_
   rintro e w2 ⟨rfl,hb⟩
   replace HB:=oH (HB.trans (hb.mono HB.size))
   clear hb
   go_wp2_with fail
   go_ret
   exact ⟨by rw [E.out];rfl,HB.out⟩
 ·cases hk:(zJo l).2.2
  ·have E:=oH (xFs hv1 hk)
   rw [hk] at HC
   rw [hv1] at HV1
   clear hv1 hk HV2
   generalize (zJo l).1=p at *
   generalize (zJo l).2.1=q at *
   go_enter Tryz.func77,Tryz.ntmps77
   go_wp2_with fail
   refine (HC.out).mono ?_
   rintro e w1 ⟨rfl,hb⟩
   have HB:=oH hb
   clear hb
   go_wp2_with fail
   refine (HV1.out w1).mono ?_
   rintro e w2 ⟨rfl,hb⟩
   replace HB:=oH (HB.trans (hb.mono HB.size))
   clear hb
   go_wp2_with fail
   refine (HV1.out w2).mono ?_
   rintro e w3 ⟨rfl,hb⟩
   replace HB:=oH (HB.trans (hb.mono HB.size))
   clear hb
   go_wp2_with fail
   go_ret
   exact ⟨by rw [E.out];rfl,HB.out⟩
  ·obtain ⟨n,hn,fn⟩:=xFz hv1
   by_cases hn0:n=0
   ·subst hn0
    have E:=oH (xFy hk hn)
    rw [hk] at HC
    rw [hv1] at HV1
    rw [hn,zOt] at HC HV1
    clear hv1 hk hn HV2
    generalize (zJo l).2.1=q at *
    go_enter Tryz.func77,Tryz.ntmps77
    go_wp2_with fail
    refine (HC.out).mono ?_
    rintro e w1 ⟨rfl,hb⟩
    have HB:=oH hb
    clear hb
    go_wp2_with fail
    refine (HV1.out w1).mono ?_
    rintro e w2 ⟨rfl,hb⟩
    replace HB:=oH (HB.trans (hb.mono HB.size))
    clear hb
    go_wp2_with fail
    go_ret
    exact ⟨by rw [E.out];rfl,HB.out⟩
   ·have hq0:((⟨(Lib.itoa n).toArray⟩:ByteArray).toList==[48])=false:=by rw [Lib.toList_data,beq_eq_false_iff_ne];exact fun e=>hn0 (zOk.1 e)
    have hq0':(Lib.itoa n==[48])=false:=by rw [beq_eq_false_iff_ne];exact fun e=>hn0 (zOk.1 e)
    have HRN:=oH (fun W=>zCn n W fn)
    have lnn:=fn.len
    cases hv2:xFm (zJo l).2.1
    ·have E:=oH (xFo hk hv2)
     rw [hk] at HC
     rw [hv1] at HV1
     rw [hv2] at HV2
     rw [hn] at HC HV1
     clear hv1 hv2 hk hn
     generalize (zJo l).2.1=q at *
     generalize Lib.itoa n=p at *
     go_enter Tryz.func77,Tryz.ntmps77
     go_wp2_with fail
     refine (HC.out).mono ?_
     rintro e w1 ⟨rfl,hb⟩
     have HB:=oH hb
     clear hb
     go_wp2_with fail
     refine (HV1.out w1).mono ?_
     rintro e w2 ⟨rfl,hb⟩
     replace HB:=oH (HB.trans (hb.mono HB.size))
     clear hb
     go_wp2_with fail
     refine (HV2.out w2).mono ?_
     rintro e w3 ⟨rfl,hb⟩
     replace HB:=oH (HB.trans (hb.mono HB.size))
     clear hb
     go_wp2_with fail
     go_ret
     exact ⟨by rw [E.out];rfl,HB.out⟩
    ·obtain ⟨m,hm,fm⟩:=xFz hv2
     have HCM:=oH (fun W=>zBv m 1 W fm zUc)
     rw [str_1] at HCM
     have HRM:=oH (fun W=>zCn m W fm)
     have lmm:=fm.len
     unfold str at HCM HRN HRM
     by_cases hm1:m≤1
     ·have E:=oH (xFw hk hm hm1)
      have hs:sg (m-1)≤0:=by unfold sg;split<;>(try split)<;>omega
      rw [hk] at HC
      rw [hv1] at HV1
      rw [hv2] at HV2
      rw [hn,hm] at HC
      rw [hn] at HV1
      rw [hm] at HV2
      clear hv1 hv2 hk hn hm HRN HRM
      generalize Lib.itoa n=p at *
      generalize Lib.itoa m=q at *
      go_enter Tryz.func77,Tryz.ntmps77
      go_wp2_with fail
      refine (HC.out).mono ?_
      rintro e w1 ⟨rfl,hb⟩
      have HB:=oH hb
      clear hb
      go_wp2_with fail
      refine (HV1.out w1).mono ?_
      rintro e w2 ⟨rfl,hb⟩
      replace HB:=oH (HB.trans (hb.mono HB.size))
      clear hb
      go_wp2_with fail
      refine (HV2.out w2).mono ?_
      rintro e w3 ⟨rfl,hb⟩
      replace HB:=oH (HB.trans (hb.mono HB.size))
      clear hb
      go_wp2_with fail
      refine (HCM.out w3).mono ?_
      rintro e w4 ⟨rfl,hb⟩
      replace HB:=oH (HB.trans (hb.mono HB.size))
      clear hb
      go_wp2_with fail
      go_ret
      exact ⟨by rw [E.out];rfl,HB.out⟩
     ·have hmp:0<m.natAbs:=by omega
      have E:=oH ((xFr hk hn hm fn fm hn0 oMx).trans (gcd_sg n.natAbs m.natAbs hmp).symm)
      have hs:¬sg (m-1)≤0:=by unfold sg;rw [if_neg oMx,if_pos oMx];omega
      have lg:(limbs (((n.natAbs.gcd m.natAbs:Nat):Int)).natAbs).length≤45:=by rw [Int.natAbs_natCast];exact Nat.le_trans (zQj (Nat.gcd_le_right _ hmp)) lmm
      rw [hk] at HC
      rw [hv1] at HV1
      rw [hv2] at HV2
      rw [hn,hm] at HC
      rw [hn] at HV1
      rw [hm] at HV2
      have HGC:=oH (fun U V W (hU:zCe W U n) (hV:zCe W V m)=>zBr U V n m W hU hV oMx oMx)
      clear hv1 hv2 hk hn hm
      generalize Lib.itoa n=p at *
      generalize Lib.itoa m=q at *
      generalize ((n.natAbs.gcd m.natAbs:Nat):Int)=G at *
      go_enter Tryz.func77,Tryz.ntmps77
      go_wp2_with fail
      refine (HC.out).mono ?_
      rintro e w1 ⟨rfl,hb⟩
      have HB:=oH hb
      clear hb
      go_wp2_with fail
      refine (HV1.out w1).mono ?_
      rintro e w2 ⟨rfl,hb⟩
      replace HB:=oH (HB.trans (hb.mono HB.size))
      clear hb
      go_wp2_with fail
      refine (HV2.out w2).mono ?_
      rintro e w3 ⟨rfl,hb⟩
      replace HB:=oH (HB.trans (hb.mono HB.size))
      clear hb
      go_wp2_with fail
      refine (HCM.out w3).mono ?_
      rintro e w4 ⟨rfl,hb⟩
      replace HB:=oH (HB.trans (hb.mono HB.size))
      clear hb
      go_wp2_with fail
      refine (HRN.out w4).mono ?_
      rintro e w5 ⟨v5,rfl,hv,hb⟩
      have HN:=oH hv
      obtain ⟨x5,X5,y5,z5,rfl⟩:=hv.slice
      replace HB:=oH (HB.trans (hb.mono HB.size))
      clear hb hv
      go_wp2_with fail
      refine (HRM.out w5).mono ?_
      rintro e w6 ⟨v6,rfl,hv,hb⟩
      replace HN:=oH (HN.below hb)
      have HM:=oH hv
      obtain ⟨x6,X6,y6,z6,rfl⟩:=hv.slice
      replace HB:=oH (HB.trans (hb.mono HB.size))
      clear hb hv
      go_wp2_with fail
      refine (HGC.out _ _ w6 HN.out HM.out).mono ?_
      rintro e w7 ⟨v7,rfl,hv,hb⟩
      clear HN HM
      have HG:=oH hv
      obtain ⟨x7,X7,y7,z7,rfl⟩:=hv.slice
      replace HB:=oH (HB.trans (hb.mono HB.size))
      clear hb hv
      go_wp2_with fail
      refine (zCm w7).mono ?_
      rintro e w8 ⟨v8,rfl,hv,hb⟩
      replace HG:=oH (HG.below hb)
      have HO:=oH hv
      obtain ⟨x8,X8,y8,z8,rfl⟩:=hv.slice
      replace HB:=oH (HB.trans (hb.mono HB.size))
      clear hb hv
      go_wp2_with fail
      refine (zAj _ _ G 1 w8 HG.out HO.out oMx (Nat.le_trans zPt dCx)).mono ?_
      rintro e w9 ⟨rfl,hb⟩
      clear HG HO
      replace HB:=oH (HB.trans (hb.mono HB.size))
      clear hb
      go_wp2_with fail
      go_ret
      exact ⟨by rw [E.out];rfl,HB.out⟩
theorem zFa (q:Rat) (w:World) (hf:zBp q) (henv:Env w):Calls Tryz.prog 77 #[.string (zYj q)] w fun e w'=>e = .returned (.bool true)∧Below w.heap.size w w':=by
 have:=zEy (zYt q) w (by have:=zYv hf;omega) henv
 rw [xFx hf] at this
 exact this
theorem zEx (q:Rat) (w:World) (hf:zBp q) (henv:Env w):Calls Tryz.prog 69 #[.string (zYj q)] w fun e w'=>e = .returned (.int .i64 (sgR q))∧Below w.heap.size w w':=by
 have HV:=oH (zFa q w hf henv)
 have HR:=oH (fun W hE=>zBj q W hf hE)
 have HE:=oH henv
 have sz:=hf.sz
 clear henv hf
 go_enter Tryz.func69,Tryz.ntmps69
 go_wp2_with fail
 refine (HV.out).mono ?_
 rintro e w1 ⟨rfl,hb⟩
 replace HE:=oH (HE.below hb)
 have HB:=oH hb
 clear hb
 go_wp2_with fail
 refine (HR.out w1 HE.out).mono ?_
 rintro e w2 ⟨v2,rfl,hv,hb⟩
 replace HE:=oH (HE.below hb)
 have HF:=oH hv
 obtain ⟨x2,x2',X2,X2',y2,z2,y2',z2',rfl⟩:=hv.slice
 replace HB:=oH (HB.trans (hb.mono HB.size))
 clear hb hv
 go_wp2_with fail
 refine (zBk _ q w2 HF.out (sz.mono oMx)).mono ?_
 rintro e w3 ⟨rfl,hb⟩
 replace HE:=oH (HE.below hb)
 replace HF:=oH (HF.below hb)
 replace HB:=oH (HB.trans (hb.mono HB.size))
 clear hb
 go_wp2_with fail
 go_ret
 exact ⟨rfl,HB.out⟩
theorem zYl (n:Int):zYj (n:Rat)=str n:=by rw [zYr (Rat.den_intCast n),Rat.num_intCast]
def digR (q:Rat):Nat:=max (Lib.nDigits q.num.natAbs) (Lib.nDigits q.den)
def zGo (w:World) (A:Option Addr) (ss:List ByteArray):Prop:=ss≠[]→∃ b off,A=some ⟨b,off,none⟩∧b<w.heap.size∧∀ i,(h:i<ss.length)→w.cell? ⟨b,off+i,none⟩=some (.string ss[i])
theorem zGo.below {w w':World} {A:Option Addr} {ss:List ByteArray} (h:zGo w A ss) (hb:Below w.heap.size w w'):zGo w' A ss:=fun hn=>by
 obtain ⟨b,off,e,hlt,hc⟩:=h hn
 have:=hb.size
 exact ⟨b,off,e,oMx,fun i hi=>(hb.cell (p:=⟨b,off+i,none⟩) hlt).trans (hc i hi)⟩
theorem zGo.two {w:World} {g:Nat} {t:TypeId} {a b:ByteArray} (h:Blk w g t [.string a,.string b]):zGo w (some ⟨g,0,none⟩) [a,b]:=fun _=>⟨g,0,rfl,h.lt,fun i hi=>by
 rw [Nat.zero_add,h.cell]
 match i,hi with
 | 0,_=>rfl
 | 1,_=>rfl⟩
theorem zHp (s:ByteArray):(⟨s.data.toList.toArray⟩:ByteArray)=s:=by cases s;simp
theorem zHq (s:ByteArray):s.data.toList.length=s.size:=Array.length_toList
noncomputable def vR (s:ByteArray):Bool:=xFn s.data.toList
theorem xEq {q:Rat} (h:zBp q):vR (zYj q)=true:=by unfold vR;rw [zYm];exact xFx h
theorem vR_ex {s:ByteArray} (h:vR s=true):∃ q,s=zYj q∧zBp q:=by
 obtain ⟨q,hq,hf⟩:=xFq h
 exact ⟨q,by rw [←zHp s,hq];rfl,hf⟩
theorem zEz (s:ByteArray) (w:World) (hl:s.size≤4000000000) (henv:Env w) :
  Calls Tryz.prog 77 #[.string s] w fun e w'=>e = .returned (.bool (vR s))∧Below w.heap.size w w':=by
 have:=zEy s.data.toList w (by rw [zHq];exact hl) henv
 rw [zHp] at this
 exact this
def RetIdx (w:World) (ss:List ByteArray) (e:Ending) (w':World):Prop:=∃ r:Int,e = .returned (.int .i64 r)∧decide (0≤r) = !ss.all vR∧Below w.heap.size w w'
theorem zYs:zYj 0=⟨#[48]⟩:=by rw [zYr (show (0:Rat).den=1 from rfl)];exact str_zero
end Go.Proofs.YtfjjcoggoomlbaaGreatDoor
