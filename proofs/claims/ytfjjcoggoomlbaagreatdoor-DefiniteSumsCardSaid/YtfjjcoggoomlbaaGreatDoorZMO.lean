import Derived.Test.YtfjjcoggoomlbaaGreatDoorZMK
set_option maxHeartbeats 16000000
set_option maxRecDepth 100000
set_option linter.unusedVariables false
set_option linter.unusedSimpArgs false
set_option linter.unusedSectionVars false
namespace Go.Proofs.YtfjjcoggoomlbaaGreatDoor
open Go.RowKit
def zJf:List zGe→Nat
 | []=>0
 | r::_=>r.ss.length
noncomputable def xAo (rs:List zGe):Nat × Nat × Int :=
 if 12<rs.length then (0,0,3)
 else if rs.any (fun r=>decide (12<r.ss.length)) then (0,0,3)
 else if rs.any (fun r=>decide (r.ss.length≠zJf rs)) then (0,0,5)
 else if rs.any (fun r => !r.ss.all vR) then (0,0,1)
 else (rs.length,zJf rs,0)
def RetSh (w:World) (p:Nat × Nat × Int) (e:Ending) (w':World):Prop:=e = .returned (.tuple #[.int .i64 (p.1:Int),.int .i64 (p.2.1:Int),.int .i64 p.2.2])∧Below w.heap.size w w'
section
variable {rs:List zGe}
theorem zHl {p:zGe→Bool} {i:Nat} (hi:i<rs.length) (h:p rs[i]=true):rs.any p=true:=List.any_eq_true.2 ⟨_,List.getElem_mem hi,h⟩
theorem zHm {p:zGe→Bool} (h:∀ i,(hi:i<rs.length)→p rs[i]=false):rs.any p=false:=by
 rw [List.any_eq_false]
 intro r hr
 obtain ⟨i,hi,rfl⟩:=List.getElem_of_mem hr
 rw [h i hi]
 decide
theorem shape_1 (h:12<rs.length):xAo rs=(0,0,3):=if_pos h
theorem shape_2 (h:¬12<rs.length) {i:Nat} (hi:i<rs.length) (h2:12<rs[i].ss.length):xAo rs=(0,0,3):=by
 unfold xAo
 rw [if_neg h,zHl hi (decide_eq_true h2),if_pos rfl]
theorem shape_3 (h:¬12<rs.length) (h2:∀ i,(hi:i<rs.length)→¬12<rs[i].ss.length) {i:Nat} (hi:i<rs.length) (h3:rs[i].ss.length≠zJf rs):xAo rs=(0,0,5):=by
 unfold xAo
 rw [if_neg h,zHm (fun i hi=>decide_eq_false (h2 i hi)),if_neg Bool.false_ne_true,zHl hi (decide_eq_true h3),if_pos rfl]
theorem shape_4 (h:¬12<rs.length) (h2:∀ i,(hi:i<rs.length)→¬12<rs[i].ss.length) (h3:∀ i,(hi:i<rs.length)→rs[i].ss.length=zJf rs) {i k:Nat} (hi:i<rs.length) (hk:k<rs[i].ss.length) (h4:vR rs[i].ss[k]=false):xAo rs=(0,0,1):=by
 unfold xAo
 rw [if_neg h,zHm (fun i hi=>decide_eq_false (h2 i hi)),if_neg Bool.false_ne_true,zHm (fun i hi=>decide_eq_false (fun e=>e (h3 i hi))),if_neg Bool.false_ne_true,zHl hi (show (!rs[i].ss.all vR)=true from ?_),if_pos rfl]
 rw [Bool.not_eq_true',List.all_eq_false]
 exact ⟨_,List.getElem_mem hk,by rw [h4];decide⟩
theorem xAp (h:¬12<rs.length) (h2:∀ i,(hi:i<rs.length)→¬12<rs[i].ss.length) (h3:∀ i,(hi:i<rs.length)→rs[i].ss.length=zJf rs) (h4:∀ i,(hi:i<rs.length)→∀ k,(hk:k<rs[i].ss.length)→vR rs[i].ss[k]=true):xAo rs=(rs.length,zJf rs,0):=by
 unfold xAo
 rw [if_neg h,zHm (fun i hi=>decide_eq_false (h2 i hi)),if_neg Bool.false_ne_true,zHm (fun i hi=>decide_eq_false (fun e=>e (h3 i hi))),if_neg Bool.false_ne_true,zHm (fun i hi=>?_),if_neg Bool.false_ne_true]
 show (!rs[i].ss.all vR)=false
 rw [Bool.not_eq_false',List.all_eq_true]
 intro s hs
 obtain ⟨k,hk,rfl⟩:=List.getElem_of_mem hs
 exact h4 i hi k hk
theorem zJg (h:0<rs.length):zJf rs=rs[0].ss.length:=by
 cases rs with
 | nil=>simp at h
 | cons a r=>rfl
end
theorem zEt (A:Option Addr) (rs:List zGe) (c:Nat) (w:World) (h:zCt w A rs) (hl:rs.length≤1000000) (hl2:∀ r∈rs,r.ss.length≤1000000) (hz:∀ r∈rs,∀ s∈r.ss,s.size≤4000000000) :
  Calls Tryz.prog 81 #[.slice A rs.length c] w (RetSh w (xAo rs)):=by
 have HM:=oH h
 have HLL:=oH hl2
 have HZ:=oH hz
 generalize hQ:RetSh w (xAo rs)=Q
 replace hQ:=oH hQ
 clear h hl2 hz
 obtain ⟨cs,hcs⟩:∃ cs,zJf rs=cs:=⟨_,rfl⟩
 have HCS:=oH hcs
 have HRET:=oH (fun (p:Nat × Nat × Int) (hp:xAo rs=p) (W:World) (hb:Below w.heap.size w W)=>(show Q (.returned (.tuple #[.int .i64 (p.1:Int),.int .i64 (p.2.1:Int),.int .i64 p.2.2])) W from by rw [←hQ.out,hp];exact ⟨rfl,hb⟩))
 have H1:=oH (fun (h:12<rs.length)=>shape_1 h)
 have H2:=oH (fun (h:¬12<rs.length) (i:Nat) (hi:i<rs.length) (h2:12<rs[i].ss.length)=>shape_2 h hi h2)
 have hcl:cs≤1000000:=by
  rw [←hcs]
  rcases Nat.eq_zero_or_pos rs.length with h0|h0
  ·rw [List.eq_nil_of_length_eq_zero h0];exact oLx
  ·rw [zJg h0];exact HLL.out _ (List.getElem_mem h0)
 clear hcs
 go_enter Tryz.func81,Tryz.ntmps81
 go_upto_if 12 with (fail)
 go_cut [5] (fun v wc=>v = .int .i64 (cs:Int)∧wc=w)
 case first =>
  by_cases h0:0<rs.length
  ·have hx:(0:Int)<(rs.length:Int):=by omega
   obtain ⟨b,off,rfl,hb,hc⟩:=HM.some (by intro e;subst e;simp at h0)
   have hc0:=hc 0 h0
   have hcs:=HCS.out
   rw [zJg h0] at hcs
   rw [hcs,Nat.add_zero] at hc0
   generalize rs[0].ad=ad at *
   generalize rs[0].cp=cp at *
   clear hc hcs
   go_wp2_with fail
   go_meet
   exact ⟨rfl,rfl⟩
  ·have hx:¬(0:Int)<(rs.length:Int):=by omega
   have h00:cs=0:=by rw [←HCS.out,List.eq_nil_of_length_eq_zero (show rs.length=0 by omega)];rfl
   subst h00
   go_wp2_with fail
   go_meet
   exact ⟨rfl,rfl⟩
 case rest =>
  obtain ⟨rfl,rfl⟩:=hcut
  obtain ⟨w,rfl⟩:∃ w':World,w'=wc:=⟨_,rfl⟩
  by_cases h12:12<rs.length
  ·have hx:(12:Int)<(rs.length:Int):=by omega
   have HR:=oH (HRET.out _ (H1.out h12) w bRx)
   go_wp2_with fail
   go_ret3
   exact HR.out
  ·have hx:¬(12:Int)<(rs.length:Int):=by omega
   go_wp2_with fail
   clear hx
   go_loopw [22] (fun iv wr=>∃ i:Nat,iv = .int .i64 (i:Int)∧i≤rs.length∧(∀ j,(hj:j<rs.length)→j<i→¬12<rs[j].ss.length)∧wr=w) (fun iv _=>rs.length-(intOf iv).toNat)
   case atStart=>exact ⟨0,rfl,oLx,fun j _ h=>absurd h oMx,rfl⟩
   case round =>
    obtain ⟨i,rfl,hi,hall,rfl⟩:=hrel
    obtain ⟨w,rfl⟩:∃ w':World,w'=wr:=⟨_,rfl⟩
    have HALL:=oH hall
    clear hall
    by_cases hlt:i<rs.length
    ·obtain ⟨b,off,rfl,hb,hc⟩:=HM.some (by intro e;subst e;simp at hlt)
     have hci:=hc i hlt
     have H2i:=oH (H2.out h12 i hlt)
     have HNX:=oH (fun (h:¬12<rs[i].ss.length) j (hj:j<rs.length) (hji:j<i+1)=>(show ¬12<rs[j].ss.length by
      rcases Nat.lt_or_ge j i with h1|h1
      ·exact HALL.out j hj h1
      ·obtain rfl:j=i:=by omega
       exact h))
     generalize rs[i].ss.length=li at *
     generalize rs[i].ad=ad at *
     generalize rs[i].cp=cp at *
     clear hc
     have i1:(0:Int)≤(i:Int):=by omega
     have i2:(i:Int)<(rs.length:Int):=by omega
     by_cases h2:12<li
     ·have hx:(12:Int)<(li:Int):=by omega
      have HR:=oH (HRET.out _ (H2i.out h2) w bRx)
      go_wp2_with fail
      go_ret3
      exact HR.out
     ·have hx:¬(12:Int)<(li:Int):=by omega
      have HN:=oH (HNX.out h2)
      go_wp2_with fail
      go_roundw
      case rel=>exact ⟨i+1,by go_num,oMx,HN.out,(by first|trivial|rfl)⟩
      case measure=>simp [intOf];omega
    ·have HA2:=oH (fun j (hj:j<rs.length)=>HALL.out j hj oMx)
     have H3:=oH (fun (i:Nat) (hi:i<rs.length) (h3:rs[i].ss.length≠cs)=>shape_3 h12 HA2.out hi (by rw [HCS.out];exact h3))
     clear HALL H1 H2
     go_wp2_with fail
     go_loopw [34] (fun iv wr=>∃ i:Nat,iv = .int .i64 (i:Int)∧i≤rs.length∧(∀ j,(hj:j<rs.length)→j<i→rs[j].ss.length=cs)∧wr=w) (fun iv _=>rs.length-(intOf iv).toNat)
     case atStart=>exact ⟨0,rfl,oLx,fun j _ h=>absurd h oMx,(by first|trivial|rfl)⟩
     case round =>
      obtain ⟨i,rfl,hi,hall,rfl⟩:=hrel
      obtain ⟨w,rfl⟩:∃ w':World,w'=wr:=⟨_,rfl⟩
      have HALL:=oH hall
      clear hall
      by_cases hlt:i<rs.length
      ·obtain ⟨b,off,rfl,hb,hc⟩:=HM.some (by intro e;subst e;simp at hlt)
       have hci:=hc i hlt
       have H3i:=oH (H3.out i hlt)
       have HNX:=oH (fun (h:rs[i].ss.length=cs) j (hj:j<rs.length) (hji:j<i+1)=>(show rs[j].ss.length=cs by
        rcases Nat.lt_or_ge j i with h1|h1
        ·exact HALL.out j hj h1
        ·obtain rfl:j=i:=by omega
         exact h))
       generalize rs[i].ss.length=li at *
       generalize rs[i].ad=ad at *
       generalize rs[i].cp=cp at *
       clear hc
       have i1:(0:Int)≤(i:Int):=by omega
       have i2:(i:Int)<(rs.length:Int):=by omega
       by_cases h2:li=cs
       ·have HN:=oH (HNX.out h2)
        subst h2
        have hx:((li:Int) != (li:Int))=false:=by simp
        go_wp2_with fail
        go_roundw
        case rel=>exact ⟨i+1,by go_num,oMx,HN.out,(by first|trivial|rfl)⟩
        case measure=>simp [intOf];omega
       ·have hx:((li:Int) != (cs:Int))=true:=by simp;omega
        have HR:=oH (HRET.out _ (H3i.out h2) w bRx)
        go_wp2_with fail
        go_ret3
        exact HR.out
      ·have HA3:=oH (fun j (hj:j<rs.length)=>HALL.out j hj oMx)
       have H4:=oH (fun (i k:Nat) (hi:i<rs.length) (hk:k<rs[i].ss.length) (h4:vR rs[i].ss[k]=false)=>shape_4 h12 HA2.out (fun i hi=>by rw [HCS.out];exact HA3.out i hi) hi hk h4)
       have H5:=oH (fun (h:∀ i,(hi:i<rs.length)→∀ k,(hk:k<rs[i].ss.length)→vR rs[i].ss[k]=true)=>(xAp h12 HA2.out (fun i hi=>by rw [HCS.out];exact HA3.out i hi) h).trans (by rw [HCS.out]))
       clear HALL H3
       go_wp2_with fail
       go_loopw [47] (fun iv wr=>∃ i:Nat,iv = .int .i64 (i:Int)∧i≤rs.length∧(∀ j,(hj:j<rs.length)→j<i→∀ k,(hk:k<rs[j].ss.length)→vR rs[j].ss[k]=true)∧Below w.heap.size w wr) (fun iv _=>rs.length-(intOf iv).toNat)
       case atStart=>exact ⟨0,rfl,oLx,fun j _ h=>absurd h oMx,bRx⟩
       case round =>
        obtain ⟨i,rfl,hi,hall,hbw⟩:=hrel
        obtain ⟨wk,rfl⟩:∃ w':World,w'=wr:=⟨_,rfl⟩
        have HALL:=oH hall
        have HBW:=oH hbw
        clear hall hbw
        by_cases hlt:i<rs.length
        ·obtain ⟨b,off,rfl,hb,hc⟩:=HM.some (by intro e;subst e;simp at hlt)
         have hci:=(HBW.cell (p:=⟨b,off+i,none⟩) hb).trans (hc i hlt)
         have HCI:=oH (hc i hlt)
         have HSS:=oH (HM.i _ (List.getElem_mem hlt))
         have hll:=HLL.out _ (List.getElem_mem hlt)
         have HZZ:=oH (HZ.out _ (List.getElem_mem hlt))
         have H4i:=oH (fun k hk h=>H4.out i k hlt hk h)
         have HNX:=oH (fun (h:∀ k,(hk:k<rs[i].ss.length)→vR rs[i].ss[k]=true) j (hj:j<rs.length) (hji:j<i+1)=>(show ∀ k,(hk:k<rs[j].ss.length)→vR rs[j].ss[k]=true by
          rcases Nat.lt_or_ge j i with h1|h1
          ·exact HALL.out j hj h1
          ·obtain rfl:j=i:=by omega
           exact h))
         generalize rs[i].ss=ss at *
         generalize rs[i].ad=ad at *
         generalize rs[i].cp=cp at *
         clear hc
         have i1:(0:Int)≤(i:Int):=by omega
         have i2:(i:Int)<(rs.length:Int):=by omega
         go_wp2_with fail
         go_loopw [55] (fun kv wq=>∃ k:Nat,kv = .int .i64 (k:Int)∧k≤ss.length∧(∀ j,(hj:j<ss.length)→j<k→vR ss[j]=true)∧Below w.heap.size w wq) (fun kv _=>ss.length-(intOf kv).toNat)
         case atStart=>exact ⟨0,rfl,oLx,fun j _ h=>absurd h oMx,HBW.out⟩
         case round =>
          clear hci
          obtain ⟨k,rfl,hk,hal2,hbq⟩:=hrel
          obtain ⟨wq,rfl⟩:∃ w':World,w'=wr:=⟨_,rfl⟩
          have HAL2:=oH hal2
          have HBQ:=oH hbq
          clear hal2 hbq
          by_cases hlt2:k<ss.length
          ·obtain ⟨b2,o2,rfl,hb2,hc2⟩:=HSS.out (by intro e;subst e;simp at hlt2)
           have hck:=(HBQ.cell (p:=⟨b2,o2+k,none⟩) hb2).trans (hc2 k hlt2)
           have hci:=(HBQ.cell (p:=⟨b,off+i,none⟩) hb).trans HCI.out
           have HV:=oH (zEa ss[k] wq (HZZ.out _ (List.getElem_mem hlt2)))
           have H4k:=oH (H4i.out k hlt2)
           have HN2:=oH (fun (h:vR ss[k]=true) j (hj:j<ss.length) (hjk:j<k+1)=>(show vR ss[j]=true by
            rcases Nat.lt_or_ge j k with h1|h1
            ·exact HAL2.out j hj h1
            ·obtain rfl:j=k:=by omega
             exact h))
           generalize vR ss[k]=bb at *
           generalize ss[k]=s at *
           have k1:(0:Int)≤(k:Int):=by omega
           have k2:(k:Int)<(ss.length:Int):=by omega
           clear hc2
           cases bb
           ·have H4f:=oH (H4k.out (by trivial))
            go_wp2_with fail
            refine HV.mono ?_
            rintro e wx ⟨rfl,hbx⟩
            have HR:=oH (HRET.out _ H4f.out wx (HBQ.trans (hbx.mono HBQ.size)))
            clear hbx hci hck
            go_wp2_with fail
            go_ret3
            exact HR.out
           ·have HN3:=oH (HN2.out (by trivial))
            go_wp2_with fail
            refine HV.mono ?_
            rintro e wx ⟨rfl,hbx⟩
            have HBX:=oH (HBQ.trans (hbx.mono HBQ.size))
            clear hbx hci hck
            go_wp2_with fail
            go_roundw
            case rel=>exact ⟨k+1,by go_num,oMx,HN3.out,HBX.out⟩
            case measure=>simp [intOf];omega
          ·have HN:=oH (HNX.out (fun j hj=>HAL2.out j hj oMx))
           go_wp2_with fail
           go_roundw
           case rel=>exact ⟨i+1,by go_num,oMx,HN.out,HBQ.out⟩
           case measure=>simp [intOf];omega
        ·have HR:=oH (HRET.out _ (H5.out (fun j hj k hk=>HALL.out j hj oMx k hk)) wk HBW.out)
         go_wp2_with fail
         go_ret3
         exact HR.out
theorem zCs.shape {rs:List zGe} {m n:Nat} {M:Nat→Nat→Rat} (h:zCs rs m n M) (hm1:1≤m) (hm:m≤12) (hn:n≤12):xAo rs=(m,n,0):=by
 have hl:=h.len
 have hc:zJf rs=n:=by rw [zJg oMx];exact h.rowAt _
 have e:=xAp (rs:=rs) oMx (fun i hi=>by rw [h.rowAt hi];omega) (fun i hi=>by rw [h.rowAt hi,hc]) (fun i hi k hk=>by
  rw [h.cel i k hi hk]
  exact xEq (h.fit i k oMx (by have:=h.rowAt hi;omega)))
 rw [e,hc,hl]
theorem zCs.len1000 {rs:List zGe} {m n:Nat} {M:Nat→Nat→Rat} (h:zCs rs m n M) (hm:m≤12) (hn:n≤12):rs.length≤1000000∧(∀ r∈rs,r.ss.length≤1000000)∧∀ r∈rs,∀ s∈r.ss,s.size≤4000000000:=by
 have hl:=h.len
 refine ⟨oMx,fun r hr=>by rw [h.row r hr];omega,fun r hr s hs=>?_⟩
 obtain ⟨i,hi,rfl⟩:=List.getElem_of_mem hr
 obtain ⟨k,hk,rfl⟩:=List.getElem_of_mem hs
 rw [h.cel i k hi hk,zYq]
 have:=zYv (h.fit i k oMx (by have:=h.rowAt hi;omega))
 omega
theorem zRt {w:World} {A:Option Addr} {rs:List zGe} {m n:Nat} {M:Nat→Nat→Rat} (h:zCt w A rs) (hm:zCs rs m n M) (hn:0<n) {i:Nat} (hi:i<m):∃ b off b2 o2 cp:Nat,A=some ⟨b,off,none⟩∧b<w.heap.size∧b2<w.heap.size∧w.cell? ⟨b,off+i,none⟩=some (.slice (some ⟨b2,o2,none⟩) n cp)∧∀ k,k<n→w.cell? ⟨b2,o2+k,none⟩=some (.string (zYj (M i k))):=by
 have hl:=hm.len
 have hi':i<rs.length:=by omega
 obtain ⟨b,off,e,hb,hc⟩:=h.some (by intro e;subst e;simp at hi')
 have hr:=hm.rowAt hi'
 obtain ⟨b2,o2,e2,hb2,hc2⟩:=h.i _ (List.getElem_mem hi') (by intro e;rw [e] at hr;simp at hr;omega)
 refine ⟨b,off,b2,o2,rs[i].cp,e,hb,hb2,?_,fun k hk=>?_⟩
 ·rw [hc i hi',hr,e2]
 ·rw [hc2 k oMx,hm.cel i k hi' oMx]
def zFs (w:World) (m n:Nat) (M:Nat→Nat→Rat) (e:Ending) (w':World):Prop:=∃ A c rs,e = .returned (.tuple #[.slice A m c,.int .i64 0])∧zCs rs m n M∧zCu w.heap.size w' (.slice A m c) rs∧Below w.heap.size w w'
structure VecF (ss:List ByteArray) (n:Nat) (x:Nat→Rat):Prop where
 len:ss.length=n
 cel:∀ k,(hk:k<ss.length)→ss[k]=zYj (x k)
 fit:∀ k,k<n→zBp (x k)
theorem VecF.valid {ss:List ByteArray} {n:Nat} {x:Nat→Rat} (h:VecF ss n x):∀ s∈ss,vR s=true∧s.size≤4000000000:=fun s hs=>by
 obtain ⟨k,hk,rfl⟩:=List.getElem_of_mem hs
 have hf:=h.fit k (by have:=h.len;omega)
 rw [h.cel k hk]
 refine ⟨xEq hf,?_⟩
 rw [zYq]
 have:=zYv hf
 omega
theorem zBi (q:Rat) (w:World) (hf:zBp q) (henv:Env w):Calls Tryz.prog 60 #[.string (zYj q)] w (zFl w q):=by
 have:=FReadS (zYj q) w (xEq hf) henv
 rw [xEs hf] at this
 exact this
theorem xCu {b:Nat}:∀ {n:Nat} {f:Nat→Rat},(∀ i,i<n→Sz b (f i))→Sz (1+n*(b+1)) (xCk n f)
 | 0,f,_=>Sz.zero.mono oMx
 | n+1,f,h=>by
  have h1:=(xCu (n:=n) (f:=f) fun i hi=>h i oMx).add (h n oMx)
  refine h1.mono ?_
  rw [Nat.add_mul]
  omega
def appQ (n:Nat) (M:Nat→Nat→Rat) (x:Nat→Rat) (i:Nat):Rat:=xCk n fun k=>M i k*x k
structure RowP (w:World) (g:Nat) (vs:List FrV) (n:Nat) (q:Nat→Rat) (k:Nat):Prop where
 blk:Blk w g 89 (frc vs)
 len:vs.length=n
 num:∀ j,j<k→(h:j<vs.length)→zCb w vs[j].val (q j)
section
variable {w w':World} {g n k:Nat} {vs:List FrV} {q q':Nat→Rat}
end
theorem zId {w:World} {g:Nat} {u v:FrV} (h:Blk w g 89 u.four):Blk ((((w.setCell ⟨g,0,none⟩ (.bool v.na)).setCell ⟨g,1,none⟩ (.slice v.A v.l v.c)).setCell ⟨g,2,none⟩ (.bool v.nb)).setCell ⟨g,3,none⟩ (.slice v.A' v.l' v.c')) g 89 v.four :=
 (((h.set 0 (.bool v.na)).set 1 (.slice v.A v.l v.c)).set 2 (.bool v.nb)).set 3 (.slice v.A' v.l' v.c')
theorem zNl {w:World} {g:Nat} {u:FrV} {x:Value} {q:Rat} (h:Blk w g 89 u.four) (hx:zCb w x q) (v:FrV):zCb ((((w.setCell ⟨g,0,none⟩ (.bool v.na)).setCell ⟨g,1,none⟩ (.slice v.A v.l v.c)).setCell ⟨g,2,none⟩ (.bool v.nb)).setCell ⟨g,3,none⟩ (.slice v.A' v.l' v.c')) x q:=by
 have b1:=h.set 0 (.bool v.na)
 have b2:=b1.set 1 (.slice v.A v.l v.c)
 have b3:=b2.set 2 (.bool v.nb)
 have n0:∀ a∈u.four,∀ z,a ≠ .int .u64 z:=zNf
 have n1:=zSu (j:=0) (u := .bool v.na) n0 (fun z e=>by cases e)
 have n2:=zSu (j:=1) (u := .slice v.A v.l v.c) n1 (fun z e=>by cases e)
 have n3:=zSu (j:=2) (u := .bool v.nb) n2 (fun z e=>by cases e)
 exact (((hx.box h n0 (zNu g _ _)).box b1 n1 (zNu g _ _)).box b2 n2 (zNu g _ _)).box b3 n3 (zNu g _ _)
theorem zHw {B:Nat} {w0 w:World} (h:Below B w0 w) {g:Nat} (hg:B≤g) (a b c d:Value):Below B w0 ((((w.setCell ⟨g,0,none⟩ a).setCell ⟨g,1,none⟩ b).setCell ⟨g,2,none⟩ c).setCell ⟨g,3,none⟩ d) :=
 (((h.setCell (p:=⟨g,0,none⟩) hg _).setCell (p:=⟨g,1,none⟩) hg _).setCell (p:=⟨g,2,none⟩) hg _).setCell (p:=⟨g,3,none⟩) hg _
theorem cloId (i k:Nat) (w:World):Calls Tryz.prog 113 #[.int .i64 (i:Int),.int .i64 (k:Int)] w (zFl w (idn i k)):=by
 have hbl:Below w.heap.size w (w.alloc (.cells #[.bool false,.slice none 0 0,.bool false,.slice none 0 0] 89)):=bA
 have HWz:=oH hbl
 have HKz:=oH (Blk.new w 89 (FrV.four ⟨false,none,0,0,false,none,0,0⟩))
 clear hbl
 by_cases h:i=k
 ·have hx:((i:Int)==(k:Int))=true:=by simp;omega
  have he:idn i k=1:=if_pos h
  rw [he]
  clear he
  go_enter Tryz.func113,Tryz.ntmps113
  go_wp2_with fail
  refine (zBg 1 _ dCx).mono ?_
  rintro e wa ⟨va,rfl,hv,hb⟩
  have HWa:=oH (HWz.trans (hb.mono HWz.size))
  have HKa:=oH (HKz.below hb)
  have HVa:=oH hv
  obtain ⟨ra0,ra4,ra1,ra5,ra2,ra3,ra6,ra7,rfl⟩:=hv.slice
  clear hv hb
  have hk2:=HKa.out
  have e0:=hk2.at_ (i:=0) rfl
  have e1:=hk2.at_ (i:=1) rfl
  have e2:=hk2.at_ (i:=2) rfl
  have e3:=hk2.at_ (i:=3) rfl
  have f0:=hk2.fr 0
  have f1:=hk2.fr 1
  have f2:=hk2.fr 2
  have f3:=hk2.fr 3
  clear hk2
  go_wp2_with fail
  clear e0 e1 e2 e3 f0 f1 f2 f3
  have hb4:=zId (v:=⟨ra0,ra1,ra2,ra3,ra4,ra5,ra6,ra7⟩) HKa.out
  have hf4:=zNl HKa.out HVa.out ⟨ra0,ra1,ra2,ra3,ra4,ra5,ra6,ra7⟩
  have hB4:=zHw HWa.out lRx (.bool ra0) (.slice ra1 ra2 ra3) (.bool ra4) (.slice ra5 ra6 ra7)
  simp only at hb4 hf4
  generalize ((((wa.setCell ⟨w.heap.size,0,none⟩ (.bool ra0)).setCell ⟨w.heap.size,1,none⟩ (.slice ra1 ra2 ra3)).setCell ⟨w.heap.size,2,none⟩ (.bool ra4)).setCell ⟨w.heap.size,3,none⟩ (.slice ra5 ra6 ra7))=w9 at *
  have c0:=hb4.at_ (i:=0) rfl
  have c1:=hb4.at_ (i:=1) rfl
  have c2:=hb4.at_ (i:=2) rfl
  have c3:=hb4.at_ (i:=3) rfl
  refine bodyPost_ret (v := .agg #[.bool ra0,.slice ra1 ra2 ra3,.bool ra4,.slice ra5 ra6 ra7]) ?_ rfl ⟨_,rfl,hf4,hB4⟩
  simp [results,Tryz.results113,go_sem,c0,c1,c2,c3]
 ·have hx:((i:Int)==(k:Int))=false:=by simp;omega
  have he:idn i k=0:=if_neg h
  rw [he]
  clear he
  go_enter Tryz.func113,Tryz.ntmps113
  go_wp2_with fail
  refine (zBg 0 _ dCx).mono ?_
  rintro e wa ⟨va,rfl,hv,hb⟩
  have HWa:=oH (HWz.trans (hb.mono HWz.size))
  have HKa:=oH (HKz.below hb)
  have HVa:=oH hv
  obtain ⟨ra0,ra4,ra1,ra5,ra2,ra3,ra6,ra7,rfl⟩:=hv.slice
  clear hv hb
  have hk2:=HKa.out
  have e0:=hk2.at_ (i:=0) rfl
  have e1:=hk2.at_ (i:=1) rfl
  have e2:=hk2.at_ (i:=2) rfl
  have e3:=hk2.at_ (i:=3) rfl
  have f0:=hk2.fr 0
  have f1:=hk2.fr 1
  have f2:=hk2.fr 2
  have f3:=hk2.fr 3
  clear hk2
  go_wp2_with fail
  clear e0 e1 e2 e3 f0 f1 f2 f3
  have hb4:=zId (v:=⟨ra0,ra1,ra2,ra3,ra4,ra5,ra6,ra7⟩) HKa.out
  have hf4:=zNl HKa.out HVa.out ⟨ra0,ra1,ra2,ra3,ra4,ra5,ra6,ra7⟩
  have hB4:=zHw HWa.out lRx (.bool ra0) (.slice ra1 ra2 ra3) (.bool ra4) (.slice ra5 ra6 ra7)
  simp only at hb4 hf4
  generalize ((((wa.setCell ⟨w.heap.size,0,none⟩ (.bool ra0)).setCell ⟨w.heap.size,1,none⟩ (.slice ra1 ra2 ra3)).setCell ⟨w.heap.size,2,none⟩ (.bool ra4)).setCell ⟨w.heap.size,3,none⟩ (.slice ra5 ra6 ra7))=w9 at *
  have c0:=hb4.at_ (i:=0) rfl
  have c1:=hb4.at_ (i:=1) rfl
  have c2:=hb4.at_ (i:=2) rfl
  have c3:=hb4.at_ (i:=3) rfl
  refine bodyPost_ret (v := .agg #[.bool ra0,.slice ra1 ra2 ra3,.bool ra4,.slice ra5 ra6 ra7]) ?_ rfl ⟨_,rfl,hf4,hB4⟩
  simp [results,Tryz.results113,go_sem,c0,c1,c2,c3]
def MxV (w:World) (m n:Nat) (M:Nat→Nat→Rat) (V:Value) (E:Int) (w':World):Prop :=
 (∃ A c rs,V = .slice A m c∧E=0∧zCs rs m n M∧zGx w.heap.size w' (.slice A m c) rs∧Below w.heap.size w w')∨((∃ i k,i<m∧k<n∧¬zBp (M i k))∧V = .slice none 0 0∧E=3∧Below w.heap.size w w')
end Go.Proofs.YtfjjcoggoomlbaaGreatDoor
