import Derived.Test.YtbjaplppalcmgaaGreatDoorZMK
set_option maxHeartbeats 16000000
set_option maxRecDepth 100000
set_option linter.unusedVariables false
set_option linter.unusedSimpArgs false
set_option linter.unusedSectionVars false
namespace Go.Proofs.YtbjaplppalcmgaaGreatDoor
open Go.RowKit
def zJr:List zGh->Nat
 | []=>0
 | r::_=>r.ss.length
noncomputable def zZm (rs:List zGh):Nat × Nat × Int :=
 if 12<rs.length then (0,0,3)
 else if rs.any (fun r=>decide (12<r.ss.length)) then (0,0,3)
 else if rs.any (fun r=>decide (r.ss.length≠zJr rs)) then (0,0,5)
 else if rs.any (fun r => !r.ss.all vR) then (0,0,1)
 else (rs.length,zJr rs,0)
def RetSh (w:World) (p:Nat × Nat × Int) (e:Ending) (w':World):Prop:=e = .returned (.tuple #[.int .i64 (p.1:Int),.int .i64 (p.2.1:Int),.int .i64 p.2.2])/\Below w.heap.size w w'
section
variable {rs:List zGh}
theorem zHw {p:zGh->Bool} {i:Nat} (hi:i<rs.length) (h:p rs[i]=true):rs.any p=true:=List.any_eq_true.2 ⟨_,List.getElem_mem hi,h⟩
theorem zHx {p:zGh->Bool} (h:∀ i,(hi:i<rs.length)->p rs[i]=false):rs.any p=false:=by
 rw [List.any_eq_false]
 intro r hr
 obtain ⟨i,hi,rfl⟩:=List.getElem_of_mem hr;rw [h i hi]
 decide
theorem shape_1 (h:12<rs.length):zZm rs=(0,0,3):=if_pos h
theorem shape_2 (h:¬12<rs.length) {i:Nat} (hi:i<rs.length) (h2:12<rs[i].ss.length):zZm rs=(0,0,3):=by
 unfold zZm;rw [if_neg h,zHw hi (decide_eq_true h2),if_pos rfl]
theorem shape_3 (h:¬12<rs.length) (h2:∀ i,(hi:i<rs.length)->¬12<rs[i].ss.length) {i:Nat} (hi:i<rs.length) (h3:rs[i].ss.length≠zJr rs):zZm rs=(0,0,5):=by
 unfold zZm;rw [if_neg h,zHx (fun i hi=>decide_eq_false (h2 i hi)),if_neg Bool.false_ne_true,zHw hi (decide_eq_true h3),if_pos rfl]
theorem shape_4 (h:¬12<rs.length) (h2:∀ i,(hi:i<rs.length)->¬12<rs[i].ss.length) (h3:∀ i,(hi:i<rs.length)->rs[i].ss.length=zJr rs) {i k:Nat} (hi:i<rs.length) (hk:k<rs[i].ss.length) (h4:vR rs[i].ss[k]=false):zZm rs=(0,0,1):=by
 unfold zZm;rw [if_neg h,zHx (fun i hi=>decide_eq_false (h2 i hi)),if_neg Bool.false_ne_true,zHx (fun i hi=>decide_eq_false (fun e=>e (h3 i hi))),if_neg Bool.false_ne_true,zHw hi (show (!rs[i].ss.all vR)=true from ?_),if_pos rfl];rw [Bool.not_eq_true',List.all_eq_false];exact ⟨_,List.getElem_mem hk,by rw [h4];decide⟩
theorem zZn (h:¬12<rs.length) (h2:∀ i,(hi:i<rs.length)->¬12<rs[i].ss.length) (h3:∀ i,(hi:i<rs.length)->rs[i].ss.length=zJr rs) (h4:∀ i,(hi:i<rs.length)->∀ k,(hk:k<rs[i].ss.length)->vR rs[i].ss[k]=true):zZm rs=(rs.length,zJr rs,0):=by
 unfold zZm;rw [if_neg h,zHx (fun i hi=>decide_eq_false (h2 i hi)),if_neg Bool.false_ne_true,zHx (fun i hi=>decide_eq_false (fun e=>e (h3 i hi))),if_neg Bool.false_ne_true,zHx (fun i hi=>?_),if_neg Bool.false_ne_true]
 show (!rs[i].ss.all vR)=false
 rw [Bool.not_eq_false',List.all_eq_true]
 intro s hs
 obtain ⟨k,hk,rfl⟩:=List.getElem_of_mem hs;exact h4 i hi k hk
theorem zJs (h:0<rs.length):zJr rs=rs[0].ss.length:=by
 cases rs with
 | nil=>simp at h
 | cons a r=>rfl
end
theorem zEw (A:oAx) (rs:List zGh) (c:Nat) (w:World) (h:zCj w A rs) (hl:rs.length<=1000000) (hl2:∀ r∈rs,r.ss.length<=1000000) (hz:∀ r∈rs,∀ s∈r.ss,s.size<=4000000000) :
  Calls Tryz.prog 39 #[.slice A rs.length c] w (RetSh w (zZm rs)):=by
 have HM:=oH h;have HLL:=oH hl2;have HZ:=oH hz;generalize hQ:RetSh w (zZm rs)=Q;replace hQ:=oH hQ;clear h hl2 hz;obtain ⟨cs,hcs⟩:=eXx (zJr rs);have HCS:=oH hcs;have HRET:=oH (fun (p:Nat × Nat × Int) (hp:zZm rs=p) (W:World) (hb:Below w.heap.size w W)=>(show Q (.returned (.tuple #[.int .i64 (p.1:Int),.int .i64 (p.2.1:Int),.int .i64 p.2.2])) W from by rw [<-hQ.out,hp];exact ⟨rfl,hb⟩));have H1:=oH (fun (h:12<rs.length)=>shape_1 h);have H2:=oH (fun (h:¬12<rs.length) (i:Nat) (hi:i<rs.length) (h2:12<rs[i].ss.length)=>shape_2 h hi h2)
 have hcl:cs<=1000000:=by
  rw [<-hcs]
  rcases Nat.eq_zero_or_pos rs.length with h0|h0
  ·rw [List.eq_nil_of_length_eq_zero h0];exact oLx
  rw [zJs h0];exact HLL.out _ (List.getElem_mem h0)
 clear hcs
 go_enter Tryz.func39,Tryz.ntmps39
 go_upto_if 12 with (fail)
 go_cut [5] (fun v wc=>v = .int .i64 (cs:Int)/\wc=w)
 case first =>
  by_cases h0:0<rs.length
  ·have hx:(0:Int)<(rs.length:Int):=by omega
   obtain ⟨b,off,rfl,hb,hc⟩:=HM.some (by intro e;subst e;simp at h0);have hc0:=hc 0 h0;have hcs:=HCS.out;rw [zJs h0] at hcs;rw [hcs,Nat.add_zero] at hc0;generalize rs[0].ad=ad at *;generalize rs[0].cp=cp at *;clear hc hcs;go_wp2_with fail
   go_meet
   exact ⟨rfl,rfl⟩
  have hx:¬(0:Int)<(rs.length:Int):=by omega
  have h00:cs=0:=by rw [<-HCS.out,List.eq_nil_of_length_eq_zero (show rs.length=0 by omega)];rfl
  subst h00;go_wp2_with fail
  go_meet
  exact ⟨rfl,rfl⟩
 case rest =>
  obtain ⟨rfl,rfl⟩:=hcut;obtain ⟨w,rfl⟩:=nWx wc
  by_cases h12:12<rs.length
  ·have hx:(12:Int)<(rs.length:Int):=by omega
   have HR:=oH (HRET.out _ (H1.out h12) w bRx);go_wp2_with fail
   go_ret3
   exact HR.out
  have hx:¬(12:Int)<(rs.length:Int):=by omega
  go_wp2_with fail;clear hx
  go_loopw [22] (fun iv wr=>∃ i:Nat,iv = .int .i64 (i:Int)/\i<=rs.length/\(∀ j,(hj:j<rs.length)->j<i->¬12<rs[j].ss.length)/\wr=w) (fun iv _=>rs.length-(intOf iv).toNat)
  ·exact ⟨0,rfl,oLx,fun j _ h=>absurd h oMx,rfl⟩
  obtain ⟨i,rfl,hi,hall,rfl⟩:=hrel;obtain ⟨w,rfl⟩:=nWx wr;have HALL:=oH hall;clear hall
  by_cases hlt:i<rs.length
  ·obtain ⟨b,off,rfl,hb,hc⟩:=HM.some (by intro e;subst e;simp at hlt);have hci:=hc i hlt;have H2i:=oH (H2.out h12 i hlt)
   have HNX:=oH (fun (h:¬12<rs[i].ss.length) j (hj:j<rs.length) (hji:j<i+1)=>(show ¬12<rs[j].ss.length by
    rcases Nat.lt_or_ge j i with h1|h1
    ·exact HALL.out j hj h1
    obtain rfl:j=i:=by omega
    exact h))
   generalize rs[i].ss.length=li at *;generalize rs[i].ad=ad at *;generalize rs[i].cp=cp at *;clear hc
   have i1:(0:Int)<=(i:Int):=by omega
   have i2:(i:Int)<(rs.length:Int):=by omega
   by_cases h2:12<li
   ·have hx:(12:Int)<(li:Int):=by omega
    have HR:=oH (HRET.out _ (H2i.out h2) w bRx);go_wp2_with fail
    go_ret3
    exact HR.out
   have hx:¬(12:Int)<(li:Int):=by omega
   have HN:=oH (HNX.out h2);go_wp2_with fail;go_roundw
   ·exact ⟨i+1,by go_num,oMx,HN.out,(by first|trivial|rfl)⟩
   simp [intOf];omega
  have HA2:=oH (fun j (hj:j<rs.length)=>HALL.out j hj oMx);have H3:=oH (fun (i:Nat) (hi:i<rs.length) (h3:rs[i].ss.length≠cs)=>shape_3 h12 HA2.out hi (by rw [HCS.out];exact h3));clear HALL H1 H2;go_wp2_with fail
  go_loopw [34] (fun iv wr=>∃ i:Nat,iv = .int .i64 (i:Int)/\i<=rs.length/\(∀ j,(hj:j<rs.length)->j<i->rs[j].ss.length=cs)/\wr=w) (fun iv _=>rs.length-(intOf iv).toNat)
  ·exact ⟨0,rfl,oLx,fun j _ h=>absurd h oMx,(by first|trivial|rfl)⟩
  obtain ⟨i,rfl,hi,hall,rfl⟩:=hrel;obtain ⟨w,rfl⟩:=nWx wr;have HALL:=oH hall;clear hall
  by_cases hlt:i<rs.length
  ·obtain ⟨b,off,rfl,hb,hc⟩:=HM.some (by intro e;subst e;simp at hlt);have hci:=hc i hlt;have H3i:=oH (H3.out i hlt)
   have HNX:=oH (fun (h:rs[i].ss.length=cs) j (hj:j<rs.length) (hji:j<i+1)=>(show rs[j].ss.length=cs by
    rcases Nat.lt_or_ge j i with h1|h1
    ·exact HALL.out j hj h1
    obtain rfl:j=i:=by omega
    exact h))
   generalize rs[i].ss.length=li at *;generalize rs[i].ad=ad at *;generalize rs[i].cp=cp at *;clear hc
   have i1:(0:Int)<=(i:Int):=by omega
   have i2:(i:Int)<(rs.length:Int):=by omega
   by_cases h2:li=cs
   ·have HN:=oH (HNX.out h2);subst h2
    have hx:((li:Int) != (li:Int))=false:=by simp
    go_wp2_with fail;go_roundw
    ·exact ⟨i+1,by go_num,oMx,HN.out,(by first|trivial|rfl)⟩
    simp [intOf];omega
   have hx:((li:Int) != (cs:Int))=true:=by simp;omega
   have HR:=oH (HRET.out _ (H3i.out h2) w bRx);go_wp2_with fail
   go_ret3
   exact HR.out
  have HA3:=oH (fun j (hj:j<rs.length)=>HALL.out j hj oMx);have H4:=oH (fun (i k:Nat) (hi:i<rs.length) (hk:k<rs[i].ss.length) (h4:vR rs[i].ss[k]=false)=>shape_4 h12 HA2.out (fun i hi=>by rw [HCS.out];exact HA3.out i hi) hi hk h4);have H5:=oH (fun (h:∀ i,(hi:i<rs.length)->∀ k,(hk:k<rs[i].ss.length)->vR rs[i].ss[k]=true)=>(zZn h12 HA2.out (fun i hi=>by rw [HCS.out];exact HA3.out i hi) h).trans (by rw [HCS.out]));clear HALL H3;go_wp2_with fail
  go_loopw [47] (fun iv wr=>∃ i:Nat,iv = .int .i64 (i:Int)/\i<=rs.length/\(∀ j,(hj:j<rs.length)->j<i->∀ k,(hk:k<rs[j].ss.length)->vR rs[j].ss[k]=true)/\Below w.heap.size w wr) (fun iv _=>rs.length-(intOf iv).toNat)
  ·exact ⟨0,rfl,oLx,fun j _ h=>absurd h oMx,bRx⟩
  obtain ⟨i,rfl,hi,hall,hbw⟩:=hrel;obtain ⟨wk,rfl⟩:=nWx wr;have HALL:=oH hall;have HBW:=oH hbw;clear hall hbw
  by_cases hlt:i<rs.length
  ·obtain ⟨b,off,rfl,hb,hc⟩:=HM.some (by intro e;subst e;simp at hlt);have hci:=(HBW.cell (p:=⟨b,off+i,none⟩) hb).trans (hc i hlt);have HCI:=oH (hc i hlt);have HSS:=oH (HM.i _ (List.getElem_mem hlt));have hll:=HLL.out _ (List.getElem_mem hlt);have HZZ:=oH (HZ.out _ (List.getElem_mem hlt));have H4i:=oH (fun k hk h=>H4.out i k hlt hk h)
   have HNX:=oH (fun (h:∀ k,(hk:k<rs[i].ss.length)->vR rs[i].ss[k]=true) j (hj:j<rs.length) (hji:j<i+1)=>(show ∀ k,(hk:k<rs[j].ss.length)->vR rs[j].ss[k]=true by
    rcases Nat.lt_or_ge j i with h1|h1
    ·exact HALL.out j hj h1
    obtain rfl:j=i:=by omega
    exact h))
   generalize rs[i].ss=ss at *;generalize rs[i].ad=ad at *;generalize rs[i].cp=cp at *;clear hc
   have i1:(0:Int)<=(i:Int):=by omega
   have i2:(i:Int)<(rs.length:Int):=by omega
   go_wp2_with fail
   go_loopw [55] (fun kv wq=>∃ k:Nat,kv = .int .i64 (k:Int)/\k<=ss.length/\(∀ j,(hj:j<ss.length)->j<k->vR ss[j]=true)/\Below w.heap.size w wq) (fun kv _=>ss.length-(intOf kv).toNat)
   ·exact ⟨0,rfl,oLx,fun j _ h=>absurd h oMx,HBW.out⟩
   clear hci;obtain ⟨k,rfl,hk,hal2,hbq⟩:=hrel;obtain ⟨wq,rfl⟩:=nWx wr;have HAL2:=oH hal2;have HBQ:=oH hbq;clear hal2 hbq
   by_cases hlt2:k<ss.length
   ·obtain ⟨b2,o2,rfl,hb2,hc2⟩:=HSS.out (by intro e;subst e;simp at hlt2);have hck:=(HBQ.cell (p:=⟨b2,o2+k,none⟩) hb2).trans (hc2 k hlt2);have hci:=(HBQ.cell (p:=⟨b,off+i,none⟩) hb).trans HCI.out;have HV:=oH (zDw ss[k] wq (HZZ.out _ (List.getElem_mem hlt2)));have H4k:=oH (H4i.out k hlt2)
    have HN2:=oH (fun (h:vR ss[k]=true) j (hj:j<ss.length) (hjk:j<k+1)=>(show vR ss[j]=true by
     rcases Nat.lt_or_ge j k with h1|h1
     ·exact HAL2.out j hj h1
     obtain rfl:j=k:=by omega
     exact h))
    generalize vR ss[k]=bb at *;generalize ss[k]=s at *
    have k1:(0:Int)<=(k:Int):=by omega
    have k2:(k:Int)<(ss.length:Int):=by omega
    clear hc2
    cases bb
    ·have H4f:=oH (H4k.out (by trivial));go_wp2_with fail;refine HV.mono ?_;rintro e wx ⟨rfl,hbx⟩;have HR:=oH (HRET.out _ H4f.out wx (HBQ.trans (hbx.mono HBQ.size)));clear hbx hci hck;go_wp2_with fail
     go_ret3
     exact HR.out
    have HN3:=oH (HN2.out (by trivial));go_wp2_with fail;refine HV.mono ?_;rintro e wx ⟨rfl,hbx⟩;have HBX:=bTx2 HBQ hbx;clear hbx hci hck;go_wp2_with fail;go_roundw
    ·exact ⟨k+1,by go_num,oMx,HN3.out,HBX.out⟩
    simp [intOf];omega
   have HN:=oH (HNX.out (fun j hj=>HAL2.out j hj oMx));go_wp2_with fail;go_roundw
   ·exact ⟨i+1,by go_num,oMx,HN.out,HBQ.out⟩
   simp [intOf];omega
  have HR:=oH (HRET.out _ (H5.out (fun j hj k hk=>HALL.out j hj oMx k hk)) wk HBW.out);go_wp2_with fail
  go_ret3
  exact HR.out
theorem zCi.shape {rs:List zGh} {m n:Nat} {M:mRx} (h:zCi rs m n M) (hm1:1<=m) (hm:m<=12) (hn:n<=12):zZm rs=(m,n,0):=by
 have hl:=h.len
 have hc:zJr rs=n:=by rw [zJs oMx];exact h.rowAt _
 have e:=zZn (rs:=rs) oMx (fun i hi=>by rw [h.rowAt hi];omega) (fun i hi=>by rw [h.rowAt hi,hc]) (fun i hi k hk=>by
  rw [h.cel i k hi hk]
  exact xDv (h.fit i k oMx (by have:=h.rowAt hi;omega)))
 rw [e,hc,hl]
theorem zCi.len1000 {rs:List zGh} {m n:Nat} {M:mRx} (h:zCi rs m n M) (hm:m<=12) (hn:n<=12):rs.length<=1000000/\(∀ r∈rs,r.ss.length<=1000000)/\∀ r∈rs,∀ s∈r.ss,s.size<=4000000000:=by
 have hl:=h.len;refine ⟨oMx,fun r hr=>by rw [h.row r hr];omega,fun r hr s hs=>?_⟩;obtain ⟨i,hi,rfl⟩:=List.getElem_of_mem hr;obtain ⟨k,hk,rfl⟩:=List.getElem_of_mem hs;rw [h.cel i k hi hk,zXr];have:=zXw (h.fit i k oMx (by have:=h.rowAt hi;omega));omega
theorem zRn {w:World} {A:oAx} {rs:List zGh} {m n:Nat} {M:mRx} (h:zCj w A rs) (hm:zCi rs m n M) (hn:0<n) {i:Nat} (hi:i<m):∃ b off b2 o2 cp:Nat,A=some ⟨b,off,none⟩/\b<w.heap.size/\b2<w.heap.size/\w.cell? ⟨b,off+i,none⟩=some (.slice (some ⟨b2,o2,none⟩) n cp)/\∀ k,k<n->w.cell? ⟨b2,o2+k,none⟩=some (.string (zXl (M i k))):=by
 have hl:=hm.len
 have hi':i<rs.length:=by omega
 obtain ⟨b,off,e,hb,hc⟩:=h.some (by intro e;subst e;simp at hi');have hr:=hm.rowAt hi';obtain ⟨b2,o2,e2,hb2,hc2⟩:=h.i _ (List.getElem_mem hi') (by intro e;rw [e] at hr;simp at hr;omega);refine ⟨b,off,b2,o2,rs[i].cp,e,hb,hb2,?_,fun k hk=>?_⟩
 ·rw [hc i hi',hr,e2]
 rw [hc2 k oMx,hm.cel i k hi' oMx]
def RetOk (w:World) (m n:Nat) (M:mRx) (e:Ending) (w':World):Prop:=∃ A c rs,e = .returned (.tuple #[.slice A m c,.int .i64 0])/\zCi rs m n M/\zCk w.heap.size w' (.slice A m c) rs/\Below w.heap.size w w'
structure VecF (ss:List ByteArray) (n:Nat) (x:Nat->Rat):Prop where
 len:ss.length=n
 cel:∀ k,(hk:k<ss.length)->ss[k]=zXl (x k)
 fit:∀ k,k<n->zBd (x k)
theorem VecF.valid {ss:List ByteArray} {n:Nat} {x:Nat->Rat} (h:VecF ss n x):∀ s∈ss,vR s=true/\s.size<=4000000000:=fun s hs=>by
 obtain ⟨k,hk,rfl⟩:=List.getElem_of_mem hs;have hf:=h.fit k (by have:=h.len;omega);rw [h.cel k hk];refine ⟨xDv hf,?_⟩;rw [zXr];have:=zXw hf;omega
def zHy (n:Nat) (M:mRx) (x:Nat->Rat) (i:Nat):Rat:=xBt n fun k=>M i k*x k
structure RowP (w:World) (g:Nat) (vs:List FrV) (n:Nat) (q:Nat->Rat) (k:Nat):Prop where
 blk:Blk w g 73 (frc vs)
 len:vs.length=n
 num:∀ j,j<k->(h:j<vs.length)->zBo w vs[j].val (q j)
section
variable {w w':World} {g n k:Nat} {vs:List FrV} {q q':Nat->Rat}
end
theorem blk_set4 {w:World} {g:Nat} {u v:FrV} (h:Blk w g 73 u.four):Blk ((((w.setCell ⟨g,0,none⟩ (.bool v.na)).setCell ⟨g,1,none⟩ (.slice v.A v.l v.c)).setCell ⟨g,2,none⟩ (.bool v.nb)).setCell ⟨g,3,none⟩ (.slice v.A' v.l' v.c')) g 73 v.four :=
 (((h.set 0 (.bool v.na)).set 1 (.slice v.A v.l v.c)).set 2 (.bool v.nb)).set 3 (.slice v.A' v.l' v.c')
theorem zNm {w:World} {g:Nat} {u:FrV} {x:Value} {q:Rat} (h:Blk w g 73 u.four) (hx:zBo w x q) (v:FrV):zBo ((((w.setCell ⟨g,0,none⟩ (.bool v.na)).setCell ⟨g,1,none⟩ (.slice v.A v.l v.c)).setCell ⟨g,2,none⟩ (.bool v.nb)).setCell ⟨g,3,none⟩ (.slice v.A' v.l' v.c')) x q:=by
 have b1:=h.set 0 (.bool v.na);have b2:=b1.set 1 (.slice v.A v.l v.c);have b3:=b2.set 2 (.bool v.nb);have n0:∀ a∈u.four,∀ z,a ≠ .int .u64 z:=zNi;have n1:=zSl (j:=0) (u := .bool v.na) n0 (fun z e=>by cases e);have n2:=zSl (j:=1) (u := .slice v.A v.l v.c) n1 (fun z e=>by cases e);have n3:=zSl (j:=2) (u := .bool v.nb) n2 (fun z e=>by cases e);exact (((hx.box h n0 (zOc g _ _)).box b1 n1 (zOc g _ _)).box b2 n2 (zOc g _ _)).box b3 n3 (zOc g _ _)
theorem zIn {B:Nat} {w0 w:World} (h:Below B w0 w) {g:Nat} (hg:B<=g) (a b c d:Value):Below B w0 ((((w.setCell ⟨g,0,none⟩ a).setCell ⟨g,1,none⟩ b).setCell ⟨g,2,none⟩ c).setCell ⟨g,3,none⟩ d) :=
 (((h.setCell (p:=⟨g,0,none⟩) hg _).setCell (p:=⟨g,1,none⟩) hg _).setCell (p:=⟨g,2,none⟩) hg _).setCell (p:=⟨g,3,none⟩) hg _
def MxV (w:World) (m n:Nat) (M:mRx) (V:Value) (E:Int) (w':World):Prop :=
 (∃ A c rs,V = .slice A m c/\E=0/\zCi rs m n M/\zHe w.heap.size w' (.slice A m c) rs/\Below w.heap.size w w')\/((∃ i k,i<m/\k<n/\¬zBd (M i k))/\V = .slice none 0 0/\E=3/\Below w.heap.size w w')
theorem zFs.val {w w':World} {m n:Nat} {M:mRx} {e:Ending} (h:zFs w m n M e w'):∃ V E,e = .returned (.tuple #[V,.int .i64 E])/\MxV w m n M V E w':=by
 rcases h with ⟨A,c,rs,rfl,h1,h2,h3⟩|⟨h1,rfl,h2⟩
 ·exact ⟨_,_,rfl,.inl ⟨A,c,rs,rfl,rfl,h1,h2,h3⟩⟩
 exact ⟨_,_,rfl,.inr ⟨h1,rfl,rfl,h2⟩⟩
theorem MxV.up {w w1 w':World} {m n:Nat} {M:mRx} {V:Value} {E:Int} (h:MxV w1 m n M V E w') (hb:Below w.heap.size w w1):zFs w m n M (.returned (.tuple #[V,.int .i64 E])) w':=by
 rcases h with ⟨A,c,rs,rfl,rfl,h1,h2,h3⟩|⟨h1,rfl,rfl,h2⟩
 ·exact .inl ⟨A,c,rs,rfl,h1,h2.mono hb.size,hb.trans (h3.mono hb.size)⟩
 exact .inr ⟨h1,rfl,hb.trans (h2.mono hb.size)⟩
open Go.RowKit
def zCm (w:World) (A:oAx) (m n:Nat) (M:mRx):Prop:=∃ rs,zCj w A rs/\zCi rs m n M
def MxOk (w:World) (m n:Nat) (M:mRx) (e:Ending) (w':World):Prop:=∃ A c,e = .returned (.tuple #[.slice A m c,.int .i64 0])/\zCm w' A m n M/\Below w.heap.size w w'
section
variable {A A':oAx} {c c' m n p:Nat} {M N:mRx} {w:World}
end
def VcIn (w:World) (A:oAx) (n:Nat) (x:Nat->Rat):Prop:=∃ ss,zGx w A ss/\VecF ss n x
def VcOk (w:World) (n:Nat) (x:Nat->Rat) (e:Ending) (w':World):Prop:=∃ A c,e = .returned (.tuple #[.slice A n c,.int .i64 0])/\VcIn w' A n x/\Below w.heap.size w w'
theorem xAp {w W W':World} {b:Nat} (h:Below w.heap.size w W) (hb:w.heap.size<=b) (g:W.grownBy W' (some b)):Below w.heap.size w W' :=
 h.trans { os:=g.os,tape:=g.tape,output:=g.output,size:=g.size,block:=fun i hi=>g.block i (Nat.lt_of_lt_of_le hi h.size) (fun e=>by have:=Option.some.inj e;omega) }
def MxOwn (B:Nat) (w:World) (A:oAx) (m n c:Nat) (M:mRx):Prop:=∃ rs,zHe B w (.slice A m c) rs/\zCi rs m n M
section
variable {B m n c b:Nat} {w w':World} {A:oAx} {M:mRx}
end
def ThinM (m n:Nat) (M:mRx):Prop:=∀ i k,i<m->k<n->∃ z:Int,M i k=z/\z.natAbs<=3
def DigM (d m n:Nat) (M:mRx):Prop:=∀ i k,i<m->k<n->zAl d (M i k)
def RetDraw (b m n:Nat) (P:(Nat->Nat->Rat)->Prop) (w:World) (e:Ending) (w':World):Prop:=∃ A c M,e = .returned (.slice A m c)/\MxOwn w.heap.size w' A m n c M/\P M/\Src w' b/\w.grownBy w' (some b)
def VcOwn (B:Nat) (w:World) (A:oAx) (n c:Nat) (x:Nat->Rat):Prop:=∃ ss,ss.length=n/\w.ownsRow B 43 1 (.slice A n c) n (sv ss)/\VecF ss n x
def SmallV (n:Nat) (x:Nat->Rat):Prop:=∀ k,k<n->zGn (x k)
def RkF (m n:Nat) (M:mRx) (q:Nat):Prop:=∃ e G:Nat->Nat->Rat,∀ i k,i<m->k<n->M i k=xBt q fun t=>e i t*G t k
def Rk (m n:Nat) (M:mRx) (r:Nat):Prop:=RkF m n M r/\∀ q,RkF m n M q->r<=q
section
variable {m n q r r':Nat} {M N:mRx}
theorem RkF.congr (h:RkF m n M q) (e:∀ i k,i<m->k<n->M i k=N i k):RkF m n N q:=by
 obtain ⟨f,G,h⟩:=h;exact ⟨f,G,fun i k hi hk=>by rw [<-e i k hi hk];exact h i k hi hk⟩
theorem RkF.scale (d:Rat) (h:RkF m n M q):RkF m n (fun i k=>d*M i k) q:=by
 obtain ⟨f,G,h⟩:=h;refine ⟨fun i t=>d*f i t,G,fun i k hi hk=>?_⟩
 show d*M i k=_
 rw [h i k hi hk,<-xBx]
 exact xBv fun t _=>by grind
theorem Rk.same (h:Rk m n M r) (h':Rk m n M r'):r=r':=Nat.le_antisymm (h.2 _ h'.1) (h'.2 _ h.1)
theorem Rk.congr (h:Rk m n M r) (e:∀ i k,i<m->k<n->M i k=N i k):Rk m n N r:=⟨h.1.congr e,fun q hq=>h.2 q (hq.congr fun i k hi hk=>(e i k hi hk).symm)⟩
theorem Rk.unscale {d:Rat} (hd:d≠0) (h:Rk m n (fun i k=>d*M i k) r):Rk m n M r:=by
 refine ⟨(h.1.scale (1/d)).congr fun i k _ _=>?_,fun q hq=>h.2 q (hq.scale d)⟩
 grind
end
section
variable {m n r:Nat} {N F:mRx} {ps:Nat->Nat} {v:Rat} {odd:Bool}
theorem Gau.fac (h:Gau m N n F ps r v odd):RkF m n N r:=by
 have hb:=h.back;refine ⟨fun i=>if hi:i<m then Classical.choose (hb i hi) else fun _=>0,F,fun i k hi hk=>?_⟩;simp only [hi,dif_pos];rw [Classical.choose_spec (hb i hi) k]
 exact xCa h.rm fun t h1 h2=>by rw [h.zero t k h1 h2 hk];grind
theorem Gau.fac_le {k:Nat} (h:Gau m N n F ps r v odd) (hN:RkF m n N k):r<=k:=by
 refine Classical.byContradiction fun hk=>?_
 have hk:k<r:=by omega
 have hrm:=h.rm;obtain ⟨g,G,hG⟩:=hN;have hc:=h.comb
 have h2:∃ e:Nat->Nat->Rat,∀ i,i<r->∀ j,j<n->F i j=xBt k fun t=>e i t*G t j:=by
  refine ⟨fun i t=>if hi:i<m then xBt m (fun a=>Classical.choose (hc i hi) a*g a t) else 0,fun i hi j hj=>?_⟩
  have hi':i<m:=by omega
  simp only [hi',dif_pos];rw [Classical.choose_spec (hc i hi') j,xCd]
  exact xBv fun a ha=>by rw [hG a j ha hj]
 obtain ⟨e,he⟩:=h2;have h3:=zLz r (fun i t=>if t<k then e i t else 0) (fun t j=>if t<k then G t (ps j) else 0)
 have h4:det r (mulM r (fun i t=>if t<k then e i t else 0) (fun t j=>if t<k then G t (ps j) else 0))=1:=by
  rw [<-zLx r]
  apply (zLt r).ext
  intro i j hi hj
  rw [<-h.unit j i hj oMx,he i hi _ (h.piv j hj)];unfold mulM;rw [xCa (k:=k) oMx (fun t h1 h2=>by show (if t<k then e i t else 0)*_=0;rw [if_neg oMx];grind)]
  exact xBv fun t ht=>by show (if t<k then e i t else 0)*(if t<k then G t (ps j) else 0)=_;rw [if_pos ht,if_pos ht]
 have h6:det r (fun i t=>if t<k then e i t else 0)=0:=zMb r _ k hk (fun i _=>by simp);rw [h4,h6] at h3
 revert h3
 grind
theorem Gau.rk (h:Gau m N n F ps r v odd):Rk m n N r:=⟨h.fac,fun _ hq=>h.fac_le hq⟩
end
section
variable {m n k0:Nat} {rs:List zGh} {M:mRx}
theorem zRb (rs:List zGh):(zQz rs:Rat)≠0:=by
 have:0<zQz rs:=zLn _ dCx
 intro e
 have h2:zQz rs=0:=by exact_mod_cast e
 omega
theorem zCi.fin (h:zCi rs m n M) (hm1:1<=m) (hm:m<=12) (hn:n<=12):zBb rs n:=h.fine hm hn (fun e=>by omega)
theorem zCi.cellP (h:zCi rs m n M) (hf:zBb rs n) {i k:Nat} (hi:i<m) (hk:k<n):((zRg rs i k:Int):Rat)=zQz rs*M i k:=by
 rw [zRl hf (by rw [h.len];exact hi) hk,h.q hi hk]
theorem zCi.rk (h:zCi rs m n M) (hf:zBb rs n):Rk m n M (eli rs.length (zRg rs) n).ps.length:=by
 obtain ⟨F,hg, -⟩:=zMt rs.length (zRg rs) n;have h1:=hg.rk;rw [h.len] at h1 ⊢;exact Rk.unscale (zRb rs) (h1.congr fun i k hi hk=>h.cellP hf hi hk)
end
def IntM (m n:Nat) (M:mRx):Prop:=∀ i k,i<m->k<n->∃ z:Int,M i k=z
def SymM (n:Nat) (M:mRx):Prop:=∀ i k,i<n->k<n->M i k=M k i
open Go.RowKit
theorem zDa (A:oAx) (rs:List zGh) (c:Nat) (w:World) (h:zCj w A rs) (hl:rs.length<=1000000) (hl2:∀ r∈rs,r.ss.length<=1000000) (hz:∀ r∈rs,∀ s∈r.ss,s.size<=4000000000) (henv:Env w) :
  Calls Tryz.prog 65 #[.slice A rs.length c] w (RetSh w (zZm rs)):=by
 have H1:=oH (fun W (hW:Below w.heap.size w W)=>ConSh1 (fun r=>decide (12<r.ss.length)) A rs c W (h.below hW) hl (fun r _ W' _=>shape1 r.ad r.ss.length r.cp W'));have H2:=oH (fun W (hW:Below w.heap.size w W) (hg:W.cell? ⟨w.heap.size,0,none⟩=some (.int .i64 (zJr rs:Int))) (hlt:w.heap.size<W.heap.size)=>ConSh2 w.heap.size (fun r=>decide (r.ss.length≠zJr rs)) A rs c W (h.below hW) hl (fun r _ W' hW'=>shape2 r.ad r.ss.length r.cp (zJr rs) w.heap.size W' ((hW'.cell (p:=⟨w.heap.size,0,none⟩) hlt).trans hg)));have H3:=oH (fun W (hW:Below w.heap.size w W)=>ConSh3 (fun r => !r.ss.all vR) A rs c W (h.below hW) hl (fun r hr W' hW'=>shape3 r.ad r.ss r.cp W' ((h.i r hr).below (hW.trans (hW'.mono hW.size))) (hl2 r hr) (hz r hr) ((henv.below hW).below hW')));have HM:=oH h;have HS:=oH (show zZm rs=if 12<rs.length then (0,0,3) else if rs.any (fun r=>decide (12<r.ss.length)) then (0,0,3) else if rs.any (fun r=>decide (r.ss.length≠zJr rs)) then (0,0,5) else if rs.any (fun r => !r.ss.all vR) then (0,0,1) else (rs.length,zJr rs,0) from rfl)
 have HC0:=oH (fun (e:rs=[])=>show zJr rs=0 by rw [e];rfl);have HC1:=oH (fun (e:0<rs.length)=>(zJs e))
 have hcl:zJr rs<=1000000:=by
  rcases Nat.eq_zero_or_pos rs.length with e|e
  ·rw [HC0.out (List.eq_nil_of_length_eq_zero e)];omega
  rw [zJs e];exact hl2 _ (List.getElem_mem e)
 generalize zZm rs=SS at *;generalize rs.any (fun r=>decide (12<r.ss.length))=b1 at *;generalize rs.any (fun r => !r.ss.all vR)=b3 at *;obtain ⟨b2,hb2⟩:=eXx (rs.any (fun r=>decide (r.ss.length≠zJr rs)));rw [hb2] at H2 HS;clear hb2 h hl2 hz henv;generalize zJr rs=n at *
 by_cases h12:12<rs.length
 ·have hd:decide ((12:Int)<(rs.length:Int))=true:=by simp;omega
  have E:=oH (HS.trans (if_pos h12));clear h12;have HB0:=oH ((Below.refl w.heap.size w).alloc lRx (.cells #[.int .i64 0] 3))
  go_enter Tryz.func65,Tryz.ntmps65
  go_wp2_with fail;refine bodyPost_ret (v := .tuple #[.int .i64 0,.int .i64 0,.int .i64 3]) (by simp [results,Tryz.results65,go_sem]) rfl ⟨by rw [E.out];rfl,?_⟩;exact HB0.out
 have hd:decide ((12:Int)<(rs.length:Int))=false:=by simp;omega
 have HS1:=oH (HS.trans (if_neg h12));clear h12 HS
 go_enter Tryz.func65,Tryz.ntmps65
 go_wp2_with fail;clear hd;refine (H1.out _ (bA)).mono ?_;rintro e w1 ⟨rfl,hb⟩;have hk:=(Blk.new w 3 [.int .i64 0]).below hb;have HK:=oH hk;have HB:=oH (((Below.refl w.heap.size w).alloc lRx _).trans (hb.mono sMx));have k0:=hk.at_ (i:=0) rfl;have f0:=hk.fr 0;clear hb hk H1
 cases b1
 ·have HS2:=oH (HS1.trans (if_neg Bool.false_ne_true));clear HS1
  by_cases h0:0<rs.length
  ·obtain ⟨b,off,rfl,hbb,hc⟩:=HM.some (by intro e;subst e;simp at h0);have hc0:=(HB.cell (p:=⟨b,off+0,none⟩) hbb).trans (hc 0 h0);rw [<-HC1.out h0] at hc0;generalize rs[0].ad=ad at *;generalize rs[0].cp=cp at *;rw [Nat.add_zero] at hc0;clear hc;go_wp2_with fail;have HK2:=oH (HK.set 0 (.int .i64 (n:Int)));have HB2:=oH (HB.setCell (p:=⟨w.heap.size,0,none⟩) lRx (.int .i64 (n:Int)));generalize w1.setCell ⟨w.heap.size,0,none⟩ (.int .i64 (n:Int))=w2 at *;have k2:=HK2.at_ (i:=0) rfl;clear k0 f0 hc0;refine (H2.out w2 HB2.out k2 HK2.lt).mono ?_;rintro e w3 ⟨rfl,hb⟩;have HK3:=oH (HK2.below hb);have HB3:=bTx2 HB2 hb;have k3:=HK3.at_ (i:=0) rfl;have f3:=HK3.fr 0;clear hb k2
   cases b2
   ·have HS3:=oH (HS2.trans (if_neg Bool.false_ne_true));go_wp2_with fail;refine (H3.out w3 HB3.out).mono ?_;rintro e w4 ⟨rfl,hb⟩;have HK4:=oH (HK3.below hb);have HB4:=bTx2 HB3 hb;have k4:=HK4.at_ (i:=0) rfl;have f4:=HK4.fr 0;clear hb k3 f3
    cases b3
    ·have E:=oH (HS3.trans (if_neg Bool.false_ne_true));go_wp2_with fail
     go_region
     all_goals
      go_wp2_with fail;refine bodyPost_ret (v := .tuple #[.int .i64 (rs.length:Int),.int .i64 (n:Int),.int .i64 0]) (by simp [results,Tryz.results65,go_sem,k4]) rfl ⟨by rw [E.out],?_⟩
      first|exact HB4.setCell (p:=⟨w.heap.size,0,none⟩) lRx _|exact (HB4.setCell (p:=⟨w.heap.size,0,none⟩) lRx _).drew|exact (HB4.drew.setCell (p:=⟨w.heap.size,0,none⟩) lRx _)
    have E:=oH (HS3.trans (if_pos rfl));go_wp2_with fail;refine bodyPost_ret (v := .tuple #[.int .i64 0,.int .i64 0,.int .i64 1]) (by simp [results,Tryz.results65,go_sem,k4]) rfl ⟨by rw [E.out];rfl,?_⟩;exact HB4.setCell (p:=⟨w.heap.size,0,none⟩) lRx _
   have E:=oH (HS2.trans (if_pos rfl));go_wp2_with fail;refine bodyPost_ret (v := .tuple #[.int .i64 0,.int .i64 0,.int .i64 5]) (by simp [results,Tryz.results65,go_sem,k3]) rfl ⟨by rw [E.out];rfl,?_⟩;exact HB3.setCell (p:=⟨w.heap.size,0,none⟩) lRx _
  have hn0:n=0:=HC0.out (List.eq_nil_of_length_eq_zero oMx);subst hn0;go_wp2_with fail;obtain ⟨w2,rfl⟩:=nWx w1;have HK2:=HK;have HB2:=HB;have k2:=HK2.at_ (i:=0) rfl;clear k0 f0;refine (H2.out w2 HB2.out k2 HK2.lt).mono ?_;rintro e w3 ⟨rfl,hb⟩;have HK3:=oH (HK2.below hb);have HB3:=bTx2 HB2 hb;have k3:=HK3.at_ (i:=0) rfl;have f3:=HK3.fr 0;clear hb k2
  cases b2
  ·have HS3:=oH (HS2.trans (if_neg Bool.false_ne_true));go_wp2_with fail;refine (H3.out w3 HB3.out).mono ?_;rintro e w4 ⟨rfl,hb⟩;have HK4:=oH (HK3.below hb);have HB4:=bTx2 HB3 hb;have k4:=HK4.at_ (i:=0) rfl;have f4:=HK4.fr 0;clear hb k3 f3
   cases b3
   ·have E:=oH (HS3.trans (if_neg Bool.false_ne_true));go_wp2_with fail
    go_region
    all_goals
     go_wp2_with fail;refine bodyPost_ret (v := .tuple #[.int .i64 (rs.length:Int),.int .i64 ((0:Nat):Int),.int .i64 0]) (by simp [results,Tryz.results65,go_sem,k4]) rfl ⟨by rw [E.out],?_⟩
     first|exact HB4.setCell (p:=⟨w.heap.size,0,none⟩) lRx _|exact (HB4.setCell (p:=⟨w.heap.size,0,none⟩) lRx _).drew|exact (HB4.drew.setCell (p:=⟨w.heap.size,0,none⟩) lRx _)
   have E:=oH (HS3.trans (if_pos rfl));go_wp2_with fail;refine bodyPost_ret (v := .tuple #[.int .i64 0,.int .i64 0,.int .i64 1]) (by simp [results,Tryz.results65,go_sem,k4]) rfl ⟨by rw [E.out];rfl,?_⟩;exact HB4.setCell (p:=⟨w.heap.size,0,none⟩) lRx _
  have E:=oH (HS2.trans (if_pos rfl));go_wp2_with fail;refine bodyPost_ret (v := .tuple #[.int .i64 0,.int .i64 0,.int .i64 5]) (by simp [results,Tryz.results65,go_sem,k3]) rfl ⟨by rw [E.out];rfl,?_⟩;exact HB3.setCell (p:=⟨w.heap.size,0,none⟩) lRx _
 have E:=oH (HS1.trans (if_pos rfl));go_wp2_with fail;refine bodyPost_ret (v := .tuple #[.int .i64 0,.int .i64 0,.int .i64 3]) (by simp [results,Tryz.results65,go_sem,k0]) rfl ⟨by rw [E.out];rfl,?_⟩;exact HB.setCell (p:=⟨w.heap.size,0,none⟩) lRx _
theorem zDb (A:oAx) (rs:List zGh) (c:Nat) (w:World) (h:zCj w A rs) (hl:rs.length<=1000000) (hl2:∀ r∈rs,r.ss.length<=1000000) (hz:∀ r∈rs,∀ s∈r.ss,s.size<=4000000000) (henv:Env w) :
  Calls Tryz.prog 30 #[.slice A rs.length c] w fun e w'=>e = .returned (.int .i64 (if (zZm rs).2.2=0 then (if (zZm rs).1=(zZm rs).2.1 then 0 else 5) else (zZm rs).2.2))/\Below w.heap.size w w':=by
 have H:=oH (zDa A rs c w h hl hl2 hz henv);obtain ⟨SS,hS⟩:∃ SS,SS=zZm rs:=⟨_,rfl⟩;rw [<-hS] at H ⊢;clear h henv hl2 hz hS;obtain ⟨p,q,er⟩:=SS;simp only
 go_enter Tryz.func30,Tryz.ntmps30
 go_wp2_with fail;refine H.mono ?_;rintro e w' ⟨rfl,hb⟩;have HB:=oH hb;clear hb
 by_cases h0:er=0
 ·subst h0
  by_cases h1:p=q
  ·subst h1;go_wp2_with fail;go_ret
   exact ⟨rfl,HB.out⟩
  have h2:((p:Int) != (q:Int))=true:=by rw [bne_iff_ne];omega
  have E:=oH (show (if (0:Int)=0 then (if p=q then (0:Int) else 5) else 0)=5 by rw [if_pos rfl,if_neg h1]);go_wp2_with fail;go_ret
  exact ⟨by first|rfl|(rw [E.out];rfl)|(simp [h1]),HB.out⟩
 have h2:(er==0)=false:=beq_eq_false_iff_ne.2 h0;have E:=oH (show (if er=0 then (if p=q then (0:Int) else 5) else er)=er by rw [if_neg h0]);go_wp2_with fail;go_ret
 exact ⟨by first|rfl|(rw [E.out];rfl)|(simp [h0]),HB.out⟩
theorem zDc (A:oAx) (rs:List zGh) (c:Nat) (w:World) (h:zCj w A rs) (hl:rs.length<=1000000) (hl2:∀ r∈rs,r.ss.length<=1000000) (hz:∀ r∈rs,∀ s∈r.ss,s.size<=4000000000) (henv:Env w):Calls Tryz.prog 56 #[.slice A rs.length c] w fun e w'=>e = .returned (.int .i64 ((zZm rs).2.1:Nat))/\Below w.heap.size w w':=by
 have H:=oH (zDa A rs c w h hl hl2 hz henv);generalize zZm rs=SS at *;clear h henv hl2 hz
 go_enter Tryz.func56,Tryz.ntmps56
 go_wp2_with fail;refine H.mono ?_;rintro e w' ⟨rfl,hb⟩;have HB:=oH hb;clear hb;go_wp2_with fail;go_ret
 exact ⟨rfl,HB.out⟩
theorem zCt (A:oAx) (rs:List zGh) (c g:Nat) (w:World) (h:zCj w A rs) (hl:rs.length<=1000000) (hl2:∀ r∈rs,r.ss.length<=1000000) (hz:∀ r∈rs,∀ s∈r.ss,s.size<=4000000000) (hg:w.cell? ⟨g,0,none⟩=some (.slice A rs.length c)) (henv:Env w) :
  Calls Tryz.prog 55 #[.slice (some ⟨g,0,none⟩) 1 1] w fun e w'=>e = .returned (.int .i64 (zZm rs).2.2)/\Below w.heap.size w w':=by
 have HSH:=oH (fun (W:World) (hb:Below w.heap.size w W)=>zDa A rs c W (h.below hb) hl hl2 hz (henv.below hb));have HG:=oH hg;have hlt:=World.block_lt_of_cell? _ _ hg;generalize zZm rs=SS at *;obtain ⟨p,q,er⟩:=SS;clear h henv hl2 hz hg;simp only
 go_enter Tryz.func55,Tryz.ntmps55
 go_wp2_with fail
 go_loopw [10] (fun iv wr=>∃ k:Nat,iv = .int .i64 (k:Int)/\k<=1/\(1<=k->er=0)/\Below w.heap.size w wr) (fun iv _=>1-(intOf iv).toNat)
 ·exact ⟨0,rfl,oLx,fun h=>absurd h dCx,bRx⟩
 obtain ⟨k,rfl,hk,he,hb⟩:=hrel;have HB:=oH hb
 by_cases hk0:k=0
 ·subst hk0;have hc:=(hb.cell (p:=⟨g,0,none⟩) hlt).trans HG.out;have HC:=oH (HSH.out wr hb);clear hb he;go_wp2_with fail;refine HC.mono ?_;rintro e w2 ⟨rfl,hb2⟩;have HB2:=bTx2 HB hb2;clear hb2 hc
  by_cases h0:er=0
  ·have h2:(er != 0)=false:=by rw [h0];rfl
   have HE0:=oH h0;go_wp2_with fail;go_roundw
   ·exact ⟨1,by go_num,oMx,fun _=>HE0.out,HB2.out⟩
   simp [intOf]
  have h2:(er != 0)=true:=bne_iff_ne.2 h0;go_wp2_with fail;go_ret
  exact ⟨rfl,HB2.out⟩
 obtain rfl:k=1:=by omega
 have HE0:=oH (he lRx);clear hb he;go_wp2_with fail;go_ret
 exact ⟨by rw [HE0.out];rfl,HB.out⟩
end Go.Proofs.YtbjaplppalcmgaaGreatDoor
