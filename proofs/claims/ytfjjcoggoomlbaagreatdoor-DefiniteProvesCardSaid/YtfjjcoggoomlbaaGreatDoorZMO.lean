import Derived.Test.YtfjjcoggoomlbaaGreatDoorZMK
set_option maxHeartbeats 16000000
set_option maxRecDepth 100000
set_option linter.unusedVariables false
set_option linter.unusedSimpArgs false
set_option linter.unusedSectionVars false
namespace Go.Proofs.YtfjjcoggoomlbaaGreatDoor
open Go.RowKit
def zJx:List zGk->Nat
 | []=>0
 | r::_=>r.ss.length
noncomputable def xBh (rs:List zGk):Nat × Nat × Int :=
 if 12<rs.length then (0,0,3)
 else if rs.any (fun r=>decide (12<r.ss.length)) then (0,0,3)
 else if rs.any (fun r=>decide (r.ss.length≠zJx rs)) then (0,0,5)
 else if rs.any (fun r => !r.ss.all vR) then (0,0,1)
 else (rs.length,zJx rs,0)
def RetSh (w:World) (p:Nat × Nat × Int) (e:Ending) (w':World):Prop:=e = .returned (.tuple #[.int .i64 (p.1:Int),.int .i64 (p.2.1:Int),.int .i64 p.2.2])/\Below w.heap.size w w'
section
variable {rs:List zGk}
theorem zHx {p:zGk->Bool} {i:Nat} (hi:i<rs.length) (h:p rs[i]=true):rs.any p=true:=List.any_eq_true.2 ⟨_,List.getElem_mem hi,h⟩
theorem zHy {p:zGk->Bool} (h:∀ i,(hi:i<rs.length)->p rs[i]=false):rs.any p=false:=by
 rw [List.any_eq_false]
 intro r hr
 obtain ⟨i,hi,rfl⟩:=List.getElem_of_mem hr;rw [h i hi]
 decide
theorem shape_1 (h:12<rs.length):xBh rs=(0,0,3):=if_pos h
theorem shape_2 (h:¬12<rs.length) {i:Nat} (hi:i<rs.length) (h2:12<rs[i].ss.length):xBh rs=(0,0,3):=by
 unfold xBh;rw [if_neg h,zHx hi (decide_eq_true h2),if_pos rfl]
theorem shape_3 (h:¬12<rs.length) (h2:∀ i,(hi:i<rs.length)->¬12<rs[i].ss.length) {i:Nat} (hi:i<rs.length) (h3:rs[i].ss.length≠zJx rs):xBh rs=(0,0,5):=by
 unfold xBh;rw [if_neg h,zHy (fun i hi=>decide_eq_false (h2 i hi)),if_neg Bool.false_ne_true,zHx hi (decide_eq_true h3),if_pos rfl]
theorem shape_4 (h:¬12<rs.length) (h2:∀ i,(hi:i<rs.length)->¬12<rs[i].ss.length) (h3:∀ i,(hi:i<rs.length)->rs[i].ss.length=zJx rs) {i k:Nat} (hi:i<rs.length) (hk:k<rs[i].ss.length) (h4:vR rs[i].ss[k]=false):xBh rs=(0,0,1):=by
 unfold xBh;rw [if_neg h,zHy (fun i hi=>decide_eq_false (h2 i hi)),if_neg Bool.false_ne_true,zHy (fun i hi=>decide_eq_false (fun e=>e (h3 i hi))),if_neg Bool.false_ne_true,zHx hi (show (!rs[i].ss.all vR)=true from ?_),if_pos rfl];rw [Bool.not_eq_true',List.all_eq_false];exact ⟨_,List.getElem_mem hk,by rw [h4];decide⟩
theorem xBi (h:¬12<rs.length) (h2:∀ i,(hi:i<rs.length)->¬12<rs[i].ss.length) (h3:∀ i,(hi:i<rs.length)->rs[i].ss.length=zJx rs) (h4:∀ i,(hi:i<rs.length)->∀ k,(hk:k<rs[i].ss.length)->vR rs[i].ss[k]=true):xBh rs=(rs.length,zJx rs,0):=by
 unfold xBh;rw [if_neg h,zHy (fun i hi=>decide_eq_false (h2 i hi)),if_neg Bool.false_ne_true,zHy (fun i hi=>decide_eq_false (fun e=>e (h3 i hi))),if_neg Bool.false_ne_true,zHy (fun i hi=>?_),if_neg Bool.false_ne_true]
 show (!rs[i].ss.all vR)=false
 rw [Bool.not_eq_false',List.all_eq_true]
 intro s hs
 obtain ⟨k,hk,rfl⟩:=List.getElem_of_mem hs;exact h4 i hi k hk
theorem zJy (h:0<rs.length):zJx rs=rs[0].ss.length:=by
 cases rs with
 | nil=>simp at h
 | cons a r=>rfl
end
theorem zEx (A:oAx) (rs:List zGk) (c:Nat) (w:World) (h:zCz w A rs) (hl:rs.length<=1000000) (hl2:∀ r∈rs,r.ss.length<=1000000) (hz:∀ r∈rs,∀ s∈r.ss,s.size<=4000000000) :
  Calls Tryz.prog 81 #[.slice A rs.length c] w (RetSh w (xBh rs)):=by
 have HM:=oH h;have HLL:=oH hl2;have HZ:=oH hz;generalize hQ:RetSh w (xBh rs)=Q;replace hQ:=oH hQ;clear h hl2 hz;obtain ⟨cs,hcs⟩:=eXx (zJx rs);have HCS:=oH hcs;have HRET:=oH (fun (p:Nat × Nat × Int) (hp:xBh rs=p) (W:World) (hb:Below w.heap.size w W)=>(show Q (.returned (.tuple #[.int .i64 (p.1:Int),.int .i64 (p.2.1:Int),.int .i64 p.2.2])) W from by rw [<-hQ.out,hp];exact ⟨rfl,hb⟩));have H1:=oH (fun (h:12<rs.length)=>shape_1 h);have H2:=oH (fun (h:¬12<rs.length) (i:Nat) (hi:i<rs.length) (h2:12<rs[i].ss.length)=>shape_2 h hi h2)
 have hcl:cs<=1000000:=by
  rw [<-hcs]
  rcases Nat.eq_zero_or_pos rs.length with h0|h0
  ·rw [List.eq_nil_of_length_eq_zero h0];exact oLx
  rw [zJy h0];exact HLL.out _ (List.getElem_mem h0)
 clear hcs
 go_enter Tryz.func81,Tryz.ntmps81
 go_upto_if 12 with (fail)
 go_cut [5] (fun v wc=>v = .int .i64 (cs:Int)/\wc=w)
 case first =>
  by_cases h0:0<rs.length
  ·have hx:(0:Int)<(rs.length:Int):=by omega
   obtain ⟨b,off,rfl,hb,hc⟩:=HM.some (by intro e;subst e;simp at h0);have hc0:=hc 0 h0;have hcs:=HCS.out;rw [zJy h0] at hcs;rw [hcs,Nat.add_zero] at hc0;generalize rs[0].ad=ad at *;generalize rs[0].cp=cp at *;clear hc hcs;go_wp2_with fail
   go_meet
   exact ⟨rfl,rfl⟩
  have hx:¬(0:Int)<(rs.length:Int):=by omega
  have h00:cs=0:=by rw [<-HCS.out,List.eq_nil_of_length_eq_zero (show rs.length=0 by omega)];rfl
  subst h00;go_wp2_with fail
  go_meet
  exact ⟨rfl,rfl⟩
 case rest =>
  obtain ⟨rfl,rfl⟩:=hcut;obtain ⟨w,rfl⟩:=nWx wc
  by_cases h12:12<rs.length
  ·have hx:(12:Int)<(rs.length:Int):=by omega
   have HR:=oH (HRET.out _ (H1.out h12) w bRx);go_wp2_with fail
   go_ret3
   exact HR.out
  have hx:¬(12:Int)<(rs.length:Int):=by omega
  go_wp2_with fail;clear hx
  go_loopw [22] (fun iv wr=>∃ i:Nat,iv = .int .i64 (i:Int)/\i<=rs.length/\(∀ j,(hj:j<rs.length)->j<i->¬12<rs[j].ss.length)/\wr=w) (fun iv _=>rs.length-(intOf iv).toNat)
  ·exact ⟨0,rfl,oLx,fun j _ h=>absurd h oMx,rfl⟩
  obtain ⟨i,rfl,hi,hall,rfl⟩:=hrel;obtain ⟨w,rfl⟩:=nWx wr;have HALL:=oH hall;clear hall
  by_cases hlt:i<rs.length
  ·obtain ⟨b,off,rfl,hb,hc⟩:=HM.some (by intro e;subst e;simp at hlt);have hci:=hc i hlt;have H2i:=oH (H2.out h12 i hlt)
   have HNX:=oH (fun (h:¬12<rs[i].ss.length) j (hj:j<rs.length) (hji:j<i+1)=>(show ¬12<rs[j].ss.length by
    rcases Nat.lt_or_ge j i with h1|h1
    ·exact HALL.out j hj h1
    obtain rfl:j=i:=by omega
    exact h))
   generalize rs[i].ss.length=li at *;generalize rs[i].ad=ad at *;generalize rs[i].cp=cp at *;clear hc
   have i1:(0:Int)<=(i:Int):=by omega
   have i2:(i:Int)<(rs.length:Int):=by omega
   by_cases h2:12<li
   ·have hx:(12:Int)<(li:Int):=by omega
    have HR:=oH (HRET.out _ (H2i.out h2) w bRx);go_wp2_with fail
    go_ret3
    exact HR.out
   have hx:¬(12:Int)<(li:Int):=by omega
   have HN:=oH (HNX.out h2);go_wp2_with fail;go_roundw
   ·exact ⟨i+1,by go_num,oMx,HN.out,(by first|trivial|rfl)⟩
   simp [intOf];omega
  have HA2:=oH (fun j (hj:j<rs.length)=>HALL.out j hj oMx);have H3:=oH (fun (i:Nat) (hi:i<rs.length) (h3:rs[i].ss.length≠cs)=>shape_3 h12 HA2.out hi (by rw [HCS.out];exact h3));clear HALL H1 H2;go_wp2_with fail
  go_loopw [34] (fun iv wr=>∃ i:Nat,iv = .int .i64 (i:Int)/\i<=rs.length/\(∀ j,(hj:j<rs.length)->j<i->rs[j].ss.length=cs)/\wr=w) (fun iv _=>rs.length-(intOf iv).toNat)
  ·exact ⟨0,rfl,oLx,fun j _ h=>absurd h oMx,(by first|trivial|rfl)⟩
  obtain ⟨i,rfl,hi,hall,rfl⟩:=hrel;obtain ⟨w,rfl⟩:=nWx wr;have HALL:=oH hall;clear hall
  by_cases hlt:i<rs.length
  ·obtain ⟨b,off,rfl,hb,hc⟩:=HM.some (by intro e;subst e;simp at hlt);have hci:=hc i hlt;have H3i:=oH (H3.out i hlt)
   have HNX:=oH (fun (h:rs[i].ss.length=cs) j (hj:j<rs.length) (hji:j<i+1)=>(show rs[j].ss.length=cs by
    rcases Nat.lt_or_ge j i with h1|h1
    ·exact HALL.out j hj h1
    obtain rfl:j=i:=by omega
    exact h))
   generalize rs[i].ss.length=li at *;generalize rs[i].ad=ad at *;generalize rs[i].cp=cp at *;clear hc
   have i1:(0:Int)<=(i:Int):=by omega
   have i2:(i:Int)<(rs.length:Int):=by omega
   by_cases h2:li=cs
   ·have HN:=oH (HNX.out h2);subst h2
    have hx:((li:Int) != (li:Int))=false:=by simp
    go_wp2_with fail;go_roundw
    ·exact ⟨i+1,by go_num,oMx,HN.out,(by first|trivial|rfl)⟩
    simp [intOf];omega
   have hx:((li:Int) != (cs:Int))=true:=by simp;omega
   have HR:=oH (HRET.out _ (H3i.out h2) w bRx);go_wp2_with fail
   go_ret3
   exact HR.out
  have HA3:=oH (fun j (hj:j<rs.length)=>HALL.out j hj oMx);have H4:=oH (fun (i k:Nat) (hi:i<rs.length) (hk:k<rs[i].ss.length) (h4:vR rs[i].ss[k]=false)=>shape_4 h12 HA2.out (fun i hi=>by rw [HCS.out];exact HA3.out i hi) hi hk h4);have H5:=oH (fun (h:∀ i,(hi:i<rs.length)->∀ k,(hk:k<rs[i].ss.length)->vR rs[i].ss[k]=true)=>(xBi h12 HA2.out (fun i hi=>by rw [HCS.out];exact HA3.out i hi) h).trans (by rw [HCS.out]));clear HALL H3;go_wp2_with fail
  go_loopw [47] (fun iv wr=>∃ i:Nat,iv = .int .i64 (i:Int)/\i<=rs.length/\(∀ j,(hj:j<rs.length)->j<i->∀ k,(hk:k<rs[j].ss.length)->vR rs[j].ss[k]=true)/\Below w.heap.size w wr) (fun iv _=>rs.length-(intOf iv).toNat)
  ·exact ⟨0,rfl,oLx,fun j _ h=>absurd h oMx,bRx⟩
  obtain ⟨i,rfl,hi,hall,hbw⟩:=hrel;obtain ⟨wk,rfl⟩:=nWx wr;have HALL:=oH hall;have HBW:=oH hbw;clear hall hbw
  by_cases hlt:i<rs.length
  ·obtain ⟨b,off,rfl,hb,hc⟩:=HM.some (by intro e;subst e;simp at hlt);have hci:=(HBW.cell (p:=⟨b,off+i,none⟩) hb).trans (hc i hlt);have HCI:=oH (hc i hlt);have HSS:=oH (HM.i _ (List.getElem_mem hlt));have hll:=HLL.out _ (List.getElem_mem hlt);have HZZ:=oH (HZ.out _ (List.getElem_mem hlt));have H4i:=oH (fun k hk h=>H4.out i k hlt hk h)
   have HNX:=oH (fun (h:∀ k,(hk:k<rs[i].ss.length)->vR rs[i].ss[k]=true) j (hj:j<rs.length) (hji:j<i+1)=>(show ∀ k,(hk:k<rs[j].ss.length)->vR rs[j].ss[k]=true by
    rcases Nat.lt_or_ge j i with h1|h1
    ·exact HALL.out j hj h1
    obtain rfl:j=i:=by omega
    exact h))
   generalize rs[i].ss=ss at *;generalize rs[i].ad=ad at *;generalize rs[i].cp=cp at *;clear hc
   have i1:(0:Int)<=(i:Int):=by omega
   have i2:(i:Int)<(rs.length:Int):=by omega
   go_wp2_with fail
   go_loopw [55] (fun kv wq=>∃ k:Nat,kv = .int .i64 (k:Int)/\k<=ss.length/\(∀ j,(hj:j<ss.length)->j<k->vR ss[j]=true)/\Below w.heap.size w wq) (fun kv _=>ss.length-(intOf kv).toNat)
   ·exact ⟨0,rfl,oLx,fun j _ h=>absurd h oMx,HBW.out⟩
   clear hci;obtain ⟨k,rfl,hk,hal2,hbq⟩:=hrel;obtain ⟨wq,rfl⟩:=nWx wr;have HAL2:=oH hal2;have HBQ:=oH hbq;clear hal2 hbq
   by_cases hlt2:k<ss.length
   ·obtain ⟨b2,o2,rfl,hb2,hc2⟩:=HSS.out (by intro e;subst e;simp at hlt2);have hck:=(HBQ.cell (p:=⟨b2,o2+k,none⟩) hb2).trans (hc2 k hlt2);have hci:=(HBQ.cell (p:=⟨b,off+i,none⟩) hb).trans HCI.out;have HV:=oH (zEg ss[k] wq (HZZ.out _ (List.getElem_mem hlt2)));have H4k:=oH (H4i.out k hlt2)
    have HN2:=oH (fun (h:vR ss[k]=true) j (hj:j<ss.length) (hjk:j<k+1)=>(show vR ss[j]=true by
     rcases Nat.lt_or_ge j k with h1|h1
     ·exact HAL2.out j hj h1
     obtain rfl:j=k:=by omega
     exact h))
    generalize vR ss[k]=bb at *;generalize ss[k]=s at *
    have k1:(0:Int)<=(k:Int):=by omega
    have k2:(k:Int)<(ss.length:Int):=by omega
    clear hc2
    cases bb
    ·have H4f:=oH (H4k.out (by trivial));go_wp2_with fail;refine HV.mono ?_;rintro e wx ⟨rfl,hbx⟩;have HR:=oH (HRET.out _ H4f.out wx (HBQ.trans (hbx.mono HBQ.size)));clear hbx hci hck;go_wp2_with fail
     go_ret3
     exact HR.out
    have HN3:=oH (HN2.out (by trivial));go_wp2_with fail;refine HV.mono ?_;rintro e wx ⟨rfl,hbx⟩;have HBX:=bTx2 HBQ hbx;clear hbx hci hck;go_wp2_with fail;go_roundw
    ·exact ⟨k+1,by go_num,oMx,HN3.out,HBX.out⟩
    simp [intOf];omega
   have HN:=oH (HNX.out (fun j hj=>HAL2.out j hj oMx));go_wp2_with fail;go_roundw
   ·exact ⟨i+1,by go_num,oMx,HN.out,HBQ.out⟩
   simp [intOf];omega
  have HR:=oH (HRET.out _ (H5.out (fun j hj k hk=>HALL.out j hj oMx k hk)) wk HBW.out);go_wp2_with fail
  go_ret3
  exact HR.out
theorem zCy.shape {rs:List zGk} {m n:Nat} {M:mRx} (h:zCy rs m n M) (hm1:1<=m) (hm:m<=12) (hn:n<=12):xBh rs=(m,n,0):=by
 have hl:=h.len
 have hc:zJx rs=n:=by rw [zJy oMx];exact h.rowAt _
 have e:=xBi (rs:=rs) oMx (fun i hi=>by rw [h.rowAt hi];omega) (fun i hi=>by rw [h.rowAt hi,hc]) (fun i hi k hk=>by
  rw [h.cel i k hi hk]
  exact xFo (h.fit i k oMx (by have:=h.rowAt hi;omega)))
 rw [e,hc,hl]
theorem zCy.len1000 {rs:List zGk} {m n:Nat} {M:mRx} (h:zCy rs m n M) (hm:m<=12) (hn:n<=12):rs.length<=1000000/\(∀ r∈rs,r.ss.length<=1000000)/\∀ r∈rs,∀ s∈r.ss,s.size<=4000000000:=by
 have hl:=h.len;refine ⟨oMx,fun r hr=>by rw [h.row r hr];omega,fun r hr s hs=>?_⟩;obtain ⟨i,hi,rfl⟩:=List.getElem_of_mem hr;obtain ⟨k,hk,rfl⟩:=List.getElem_of_mem hs;rw [h.cel i k hi hk,zZg];have:=zZl (h.fit i k oMx (by have:=h.rowAt hi;omega));omega
theorem zSp {w:World} {A:oAx} {rs:List zGk} {m n:Nat} {M:mRx} (h:zCz w A rs) (hm:zCy rs m n M) (hn:0<n) {i:Nat} (hi:i<m):∃ b off b2 o2 cp:Nat,A=some ⟨b,off,none⟩/\b<w.heap.size/\b2<w.heap.size/\w.cell? ⟨b,off+i,none⟩=some (.slice (some ⟨b2,o2,none⟩) n cp)/\∀ k,k<n->w.cell? ⟨b2,o2+k,none⟩=some (.string (zYy (M i k))):=by
 have hl:=hm.len
 have hi':i<rs.length:=by omega
 obtain ⟨b,off,e,hb,hc⟩:=h.some (by intro e;subst e;simp at hi');have hr:=hm.rowAt hi';obtain ⟨b2,o2,e2,hb2,hc2⟩:=h.i _ (List.getElem_mem hi') (by intro e;rw [e] at hr;simp at hr;omega);refine ⟨b,off,b2,o2,rs[i].cp,e,hb,hb2,?_,fun k hk=>?_⟩
 ·rw [hc i hi',hr,e2]
 rw [hc2 k oMx,hm.cel i k hi' oMx]
def RetOk (w:World) (m n:Nat) (M:mRx) (e:Ending) (w':World):Prop:=∃ A c rs,e = .returned (.tuple #[.slice A m c,.int .i64 0])/\zCy rs m n M/\zDa w.heap.size w' (.slice A m c) rs/\Below w.heap.size w w'
structure zHn (ss:List ByteArray) (n:Nat) (x:Nat->Rat):Prop where
 len:ss.length=n
 cel:∀ k,(hk:k<ss.length)->ss[k]=zYy (x k)
 fit:∀ k,k<n->zBt (x k)
theorem zHn.valid {ss:List ByteArray} {n:Nat} {x:Nat->Rat} (h:zHn ss n x):∀ s∈ss,vR s=true/\s.size<=4000000000:=fun s hs=>by
 obtain ⟨k,hk,rfl⟩:=List.getElem_of_mem hs;have hf:=h.fit k (by have:=h.len;omega);rw [h.cel k hk];refine ⟨xFo hf,?_⟩;rw [zZg];have:=zZl hf;omega
theorem zBl (q:Rat) (w:World) (hf:zBt q) (henv:Env w):Calls Tryz.prog 60 #[.string (zYy q)] w (zFr w q):=by
 have:=FReadS (zYy q) w (xFo hf) henv;rw [xFq hf] at this;exact this
theorem xDq {b:Nat}:∀ {n:Nat} {f:Nat->Rat},(∀ i,i<n->Sz b (f i))->Sz (1+n*(b+1)) (xDg n f)
 | 0,f,_=>Sz.zero.mono oMx
 | n+1,f,h=>by
  have h1:=(xDq (n:=n) (f:=f) fun i hi=>h i oMx).add (h n oMx);refine h1.mono ?_;rw [Nat.add_mul];omega
def appQ (n:Nat) (M:mRx) (x:Nat->Rat) (i:Nat):Rat:=xDg n fun k=>M i k*x k
structure RowP (w:World) (g:Nat) (vs:List FrV) (n:Nat) (q:Nat->Rat) (k:Nat):Prop where
 blk:Blk w g 89 (frc vs)
 len:vs.length=n
 num:∀ j,j<k->(h:j<vs.length)->zCh w vs[j].val (q j)
section
variable {w w':World} {g n k:Nat} {vs:List FrV} {q q':Nat->Rat}
end
theorem zIt {w:World} {g:Nat} {u v:FrV} (h:Blk w g 89 u.four):Blk ((((w.setCell ⟨g,0,none⟩ (.bool v.na)).setCell ⟨g,1,none⟩ (.slice v.A v.l v.c)).setCell ⟨g,2,none⟩ (.bool v.nb)).setCell ⟨g,3,none⟩ (.slice v.A' v.l' v.c')) g 89 v.four :=
 (((h.set 0 (.bool v.na)).set 1 (.slice v.A v.l v.c)).set 2 (.bool v.nb)).set 3 (.slice v.A' v.l' v.c')
theorem zOc {w:World} {g:Nat} {u:FrV} {x:Value} {q:Rat} (h:Blk w g 89 u.four) (hx:zCh w x q) (v:FrV):zCh ((((w.setCell ⟨g,0,none⟩ (.bool v.na)).setCell ⟨g,1,none⟩ (.slice v.A v.l v.c)).setCell ⟨g,2,none⟩ (.bool v.nb)).setCell ⟨g,3,none⟩ (.slice v.A' v.l' v.c')) x q:=by
 have b1:=h.set 0 (.bool v.na);have b2:=b1.set 1 (.slice v.A v.l v.c);have b3:=b2.set 2 (.bool v.nb);have n0:∀ a∈u.four,∀ z,a ≠ .int .u64 z:=zNw;have n1:=zTn (j:=0) (u := .bool v.na) n0 (fun z e=>by cases e);have n2:=zTn (j:=1) (u := .slice v.A v.l v.c) n1 (fun z e=>by cases e);have n3:=zTn (j:=2) (u := .bool v.nb) n2 (fun z e=>by cases e);exact (((hx.box h n0 (zOo g _ _)).box b1 n1 (zOo g _ _)).box b2 n2 (zOo g _ _)).box b3 n3 (zOo g _ _)
theorem zIm {B:Nat} {w0 w:World} (h:Below B w0 w) {g:Nat} (hg:B<=g) (a b c d:Value):Below B w0 ((((w.setCell ⟨g,0,none⟩ a).setCell ⟨g,1,none⟩ b).setCell ⟨g,2,none⟩ c).setCell ⟨g,3,none⟩ d) :=
 (((h.setCell (p:=⟨g,0,none⟩) hg _).setCell (p:=⟨g,1,none⟩) hg _).setCell (p:=⟨g,2,none⟩) hg _).setCell (p:=⟨g,3,none⟩) hg _
theorem cloId (i k:Nat) (w:World):Calls Tryz.prog 113 #[.int .i64 (i:Int),.int .i64 (k:Int)] w (zFr w (idn i k)):=by
 have hbl:Below w.heap.size w (w.alloc (.cells #[.bool false,.slice none 0 0,.bool false,.slice none 0 0] 89)):=bA;have HWz:=oH hbl;have HKz:=oH (Blk.new w 89 (FrV.four ⟨false,none,0,0,false,none,0,0⟩));clear hbl
 by_cases h:i=k
 ·have hx:((i:Int)==(k:Int))=true:=by simp;omega
  have he:idn i k=1:=if_pos h;rw [he];clear he
  go_enter Tryz.func113,Tryz.ntmps113
  go_wp2_with fail;refine (zBj 1 _ dCx).mono ?_;rintro e wa ⟨va,rfl,hv,hb⟩;have HWa:=bTx2 HWz hb;have HKa:=oH (HKz.below hb);have HVa:=oH hv;obtain ⟨ra0,ra4,ra1,ra5,ra2,ra3,ra6,ra7,rfl⟩:=hv.slice;clear hv hb;have hk2:=HKa.out;have e0:=hk2.at_ (i:=0) rfl;have e1:=hk2.at_ (i:=1) rfl;have e2:=hk2.at_ (i:=2) rfl;have e3:=hk2.at_ (i:=3) rfl;have f0:=hk2.fr 0;have f1:=hk2.fr 1;have f2:=hk2.fr 2;have f3:=hk2.fr 3;clear hk2;go_wp2_with fail;clear e0 e1 e2 e3 f0 f1 f2 f3;have hb4:=zIt (v:=⟨ra0,ra1,ra2,ra3,ra4,ra5,ra6,ra7⟩) HKa.out;have hf4:=zOc HKa.out HVa.out ⟨ra0,ra1,ra2,ra3,ra4,ra5,ra6,ra7⟩;have hB4:=zIm HWa.out lRx (.bool ra0) (.slice ra1 ra2 ra3) (.bool ra4) (.slice ra5 ra6 ra7);simp only at hb4 hf4;generalize ((((wa.setCell ⟨w.heap.size,0,none⟩ (.bool ra0)).setCell ⟨w.heap.size,1,none⟩ (.slice ra1 ra2 ra3)).setCell ⟨w.heap.size,2,none⟩ (.bool ra4)).setCell ⟨w.heap.size,3,none⟩ (.slice ra5 ra6 ra7))=w9 at *
  have c0:=hb4.at_ (i:=0) rfl;have c1:=hb4.at_ (i:=1) rfl;have c2:=hb4.at_ (i:=2) rfl;have c3:=hb4.at_ (i:=3) rfl;refine bodyPost_ret (v := .agg #[.bool ra0,.slice ra1 ra2 ra3,.bool ra4,.slice ra5 ra6 ra7]) ?_ rfl ⟨_,rfl,hf4,hB4⟩
  simp [results,Tryz.results113,go_sem,c0,c1,c2,c3]
 have hx:((i:Int)==(k:Int))=false:=by simp;omega
 have he:idn i k=0:=if_neg h;rw [he];clear he
 go_enter Tryz.func113,Tryz.ntmps113
 go_wp2_with fail;refine (zBj 0 _ dCx).mono ?_;rintro e wa ⟨va,rfl,hv,hb⟩;have HWa:=bTx2 HWz hb;have HKa:=oH (HKz.below hb);have HVa:=oH hv;obtain ⟨ra0,ra4,ra1,ra5,ra2,ra3,ra6,ra7,rfl⟩:=hv.slice;clear hv hb;have hk2:=HKa.out;have e0:=hk2.at_ (i:=0) rfl;have e1:=hk2.at_ (i:=1) rfl;have e2:=hk2.at_ (i:=2) rfl;have e3:=hk2.at_ (i:=3) rfl;have f0:=hk2.fr 0;have f1:=hk2.fr 1;have f2:=hk2.fr 2;have f3:=hk2.fr 3;clear hk2;go_wp2_with fail;clear e0 e1 e2 e3 f0 f1 f2 f3;have hb4:=zIt (v:=⟨ra0,ra1,ra2,ra3,ra4,ra5,ra6,ra7⟩) HKa.out;have hf4:=zOc HKa.out HVa.out ⟨ra0,ra1,ra2,ra3,ra4,ra5,ra6,ra7⟩;have hB4:=zIm HWa.out lRx (.bool ra0) (.slice ra1 ra2 ra3) (.bool ra4) (.slice ra5 ra6 ra7);simp only at hb4 hf4;generalize ((((wa.setCell ⟨w.heap.size,0,none⟩ (.bool ra0)).setCell ⟨w.heap.size,1,none⟩ (.slice ra1 ra2 ra3)).setCell ⟨w.heap.size,2,none⟩ (.bool ra4)).setCell ⟨w.heap.size,3,none⟩ (.slice ra5 ra6 ra7))=w9 at *
 have c0:=hb4.at_ (i:=0) rfl;have c1:=hb4.at_ (i:=1) rfl;have c2:=hb4.at_ (i:=2) rfl;have c3:=hb4.at_ (i:=3) rfl;refine bodyPost_ret (v := .agg #[.bool ra0,.slice ra1 ra2 ra3,.bool ra4,.slice ra5 ra6 ra7]) ?_ rfl ⟨_,rfl,hf4,hB4⟩
 simp [results,Tryz.results113,go_sem,c0,c1,c2,c3]
def MxV (w:World) (m n:Nat) (M:mRx) (V:Value) (E:Int) (w':World):Prop :=
 (∃ A c rs,V = .slice A m c/\E=0/\zCy rs m n M/\zHg w.heap.size w' (.slice A m c) rs/\Below w.heap.size w w')\/((∃ i k,i<m/\k<n/\¬zBt (M i k))/\V = .slice none 0 0/\E=3/\Below w.heap.size w w')
open Go.RowKit
def MxIn (w:World) (A:oAx) (m n:Nat) (M:mRx):Prop:=∃ rs,zCz w A rs/\zCy rs m n M
def MxOk (w:World) (m n:Nat) (M:mRx) (e:Ending) (w':World):Prop:=∃ A c,e = .returned (.tuple #[.slice A m c,.int .i64 0])/\MxIn w' A m n M/\Below w.heap.size w w'
section
variable {A A':oAx} {c c' m n p:Nat} {M N:mRx} {w:World}
end
def zHk (w:World) (A:oAx) (n:Nat) (x:Nat->Rat):Prop:=∃ ss,zGw w A ss/\zHn ss n x
theorem zHk.below {w w':World} {A:oAx} {n:Nat} {x:Nat->Rat} (h:zHk w A n x) (hb:Below w.heap.size w w'):zHk w' A n x:=by
 obtain ⟨ss,h1,h2⟩:=h;exact ⟨ss,h1.below hb,h2⟩
def VcOk (w:World) (n:Nat) (x:Nat->Rat) (e:Ending) (w':World):Prop:=∃ A c,e = .returned (.tuple #[.slice A n c,.int .i64 0])/\zHk w' A n x/\Below w.heap.size w w'
theorem xDs:∀ {n B:Nat} {f:Nat->Rat},(∀ i,i<n->∃ z:Int,f i=z/\z.natAbs<=B)->∃ z:Int,xDg n f=z/\z.natAbs<=n*B
 | 0,B,f,_=>⟨0,rfl,by simp⟩
 | n+1,B,f,h=>by
  obtain ⟨z,h1,h2⟩:=xDs (n:=n) (B:=B) (f:=f) fun i hi=>h i oMx
  obtain ⟨y,h3,h4⟩:=h n oMx;refine ⟨z+y,?_,?_⟩
  ·unfold xDg;rw [h1,h3,Rat.intCast_add]
  rw [Nat.add_mul];omega
theorem thin_dig {q:Rat} {B d:Nat} (h:∃ z:Int,q=z/\z.natAbs<=B) (hB:B<10^d) (hd:1<=d):zAv d q:=by
 obtain ⟨z,rfl,hz⟩:=h;exact zAv.ofInt (show z.natAbs<10^d by omega) hd
theorem srcBelow {w W W':World} {b:Nat} (h:Below w.heap.size w W) (hb:w.heap.size<=b) (g:W.grownBy W' (some b)):Below w.heap.size w W' :=
 h.trans { os:=g.os,tape:=g.tape,output:=g.output,size:=g.size,block:=fun i hi=>g.block i (Nat.lt_of_lt_of_le hi h.size) (fun e=>by have:=Option.some.inj e;omega) }
def MxOwn (B:Nat) (w:World) (A:oAx) (m n c:Nat) (M:mRx):Prop:=∃ rs,zHg B w (.slice A m c) rs/\zCy rs m n M
section
variable {B m n c b:Nat} {w w':World} {A:oAx} {M:mRx}
end
def zHe (m n:Nat) (M:mRx):Prop:=∀ i k,i<m->k<n->∃ z:Int,M i k=z/\z.natAbs<=3
def DigM (d m n:Nat) (M:mRx):Prop:=∀ i k,i<m->k<n->zAv d (M i k)
theorem zHe.dig {m n:Nat} {M:mRx} (h:zHe m n M):DigM 1 m n M:=fun i k hi hk=>thin_dig (h i k hi hk) dCx dCx
def RetDraw (b m n:Nat) (P:(Nat->Nat->Rat)->Prop) (w:World) (e:Ending) (w':World):Prop:=∃ A c M,e = .returned (.slice A m c)/\MxOwn w.heap.size w' A m n c M/\P M/\Src w' b/\w.grownBy w' (some b)
theorem mxThin (b m n:Nat) (w:World) (hs:Src w b) (hm:m<=1000) (hn:n<=1000) (hn1:1<=n\/m=0):Calls Tryz.prog 32 #[.pointer (some ⟨b,0,none⟩),.int .i64 (m:Int),.int .i64 (n:Int)] w (RetDraw b m n (zHe m n) w):=by
 refine (Thin_any b m n w hs hm hn hn1).mono ?_;rintro e w' ⟨v,rs,rfl,hl,ht,hmo,hs',hg⟩;obtain ⟨A,c,rfl, -⟩:=zVk hmo.o;have hrl:rs.length=m:=hl;rw [hrl] at hmo ⊢;exact ⟨A,c,zSj rs,rfl,⟨rs,hmo.topM,zSf hl (fun r hr=>(ht r hr).1) (fun r hr s hs=>xEn ((ht r hr).2 s hs))⟩,thin_q hl (fun r hr=>(ht r hr).1) (fun r hr=>(ht r hr).2),hs',hg⟩
def zHl (B:Nat) (w:World) (A:oAx) (n c:Nat) (x:Nat->Rat):Prop:=∃ ss,ss.length=n/\w.ownsRow B 39 1 (.slice A n c) n (sv ss)/\zHn ss n x
theorem zHl.grown {B n c b:Nat} {w w':World} {A:oAx} {x:Nat->Rat} (h:zHl B w A n c x) (hg:w.grownBy w' (some b)) (hb:b<B):zHl B w' A n c x:=by
 obtain ⟨ss,h0,h1,h2⟩:=h;exact ⟨ss,h0,zVr h1 hg hb,h2⟩
theorem zHl.mxIn {B n c:Nat} {w:World} {A:oAx} {x:Nat->Rat} (h:zHl B w A n c x):zHk w A n x:=by
 obtain ⟨ss,h0,h1,h2⟩:=h;subst h0;obtain ⟨A',c',e, -,hs, -⟩:=zVy h1;simp only [Value.slice.injEq] at e;obtain ⟨rfl, -, -⟩:=e;exact ⟨ss,hs,h2⟩
theorem zHk.addr {w:World} {A:oAx} {n:Nat} {x:Nat->Rat} (h:zHk w A n x) (hn:1<=n):∃ b o,A=some ⟨b,o,none⟩:=by
 obtain ⟨ss,h1,h2⟩:=h;obtain ⟨b,o,e, -, -⟩:=h1 (by intro e;have:=h2.len;rw [e] at this;simp at this;omega);exact ⟨b,o,e⟩
theorem zHk.at_ {w:World} {b o:Nat} {n:Nat} {x:Nat->Rat} (h:zHk w (some ⟨b,o,none⟩) n x) {k:Nat} (hk:k<n):w.cell? ⟨b,o+k,none⟩=some (.string (zYy (x k))):=by
 obtain ⟨ss,h1,h2⟩:=h;have hl:=h2.len;obtain ⟨b',o',e, -,hc⟩:=h1 (by intro e;rw [e] at hl;simp at hl;omega);simp only [Option.some.injEq,Addr.mk.injEq] at e;obtain ⟨rfl,rfl, -⟩:=e;rw [hc k oMx,h2.cel k oMx]
def zGq (n:Nat) (x:Nat->Rat):Prop:=∀ k,k<n->zGp (x k)
theorem vcRats (b n:Nat) (w:World) (hs:Src w b) (hn:n<=1000):Calls Tryz.prog 26 #[.pointer (some ⟨b,0,none⟩),.int .i64 (n:Int)] w fun e w'=>∃ A c x,e = .returned (.slice A n c)/\zHl w.heap.size w' A n c x/\zGq n x/\Src w' b/\w.grownBy w' (some b):=by
 refine (Rats_any b n w hs hn).mono ?_;rintro e w' ⟨v,qs,rfl,hl,hq,ho,hs',hg⟩;obtain ⟨A,c,rfl, -⟩:=zVk ho;rw [List.length_map,hl] at ho ⊢
 have hx:∀ k,(hk:k<qs.length)->qs.getD k 0=qs[k]:=fun k hk=>by rw [List.getD_eq_getElem?_getD,List.getElem?_eq_getElem hk];rfl
 refine ⟨A,c,fun k=>qs.getD k 0,rfl,⟨qs.map zYy,by rw [List.length_map,hl],ho,by rw [List.length_map,hl],fun k hk=>?_,fun k hk=>?_⟩,fun k hk=>?_,hs',hg⟩
 ·rw [List.length_map] at hk;rw [List.getElem_map,hx k hk]
 ·rw [hx k oMx];exact (hq _ (List.getElem_mem _)).fits
 show zGp (qs.getD k 0)
 rw [hx k oMx];exact hq _ (List.getElem_mem _)
def RkF (m n:Nat) (M:mRx) (q:Nat):Prop:=∃ e G:Nat->Nat->Rat,∀ i k,i<m->k<n->M i k=xDg q fun t=>e i t*G t k
def Rk (m n:Nat) (M:mRx) (r:Nat):Prop:=RkF m n M r/\∀ q,RkF m n M q->r<=q
section
variable {m n q r r':Nat} {M N:mRx}
theorem RkF.congr (h:RkF m n M q) (e:∀ i k,i<m->k<n->M i k=N i k):RkF m n N q:=by
 obtain ⟨f,G,h⟩:=h;exact ⟨f,G,fun i k hi hk=>by rw [<-e i k hi hk];exact h i k hi hk⟩
theorem Rk.same (h:Rk m n M r) (h':Rk m n M r'):r=r':=Nat.le_antisymm (h.2 _ h'.1) (h'.2 _ h.1)
theorem Rk.congr (h:Rk m n M r) (e:∀ i k,i<m->k<n->M i k=N i k):Rk m n N r:=⟨h.1.congr e,fun q hq=>h.2 q (hq.congr fun i k hi hk=>(e i k hi hk).symm)⟩
end
section
variable {m n r:Nat} {N F:mRx} {ps:Nat->Nat} {v:Rat} {odd:Bool}
theorem Gau.fac (h:Gau m N n F ps r v odd):RkF m n N r:=by
 have hb:=h.back;refine ⟨fun i=>if hi:i<m then Classical.choose (hb i hi) else fun _=>0,F,fun i k hi hk=>?_⟩;simp only [hi,dif_pos];rw [Classical.choose_spec (hb i hi) k]
 exact xDr h.rm fun t h1 h2=>by rw [h.zero t k h1 h2 hk];grind
theorem Gau.fac_le {k:Nat} (h:Gau m N n F ps r v odd) (hN:RkF m n N k):r<=k:=by
 refine Classical.byContradiction fun hk=>?_
 have hk:k<r:=by omega
 have hrm:=h.rm;obtain ⟨g,G,hG⟩:=hN;have hc:=h.comb
 have h2:∃ e:Nat->Nat->Rat,∀ i,i<r->∀ j,j<n->F i j=xDg k fun t=>e i t*G t j:=by
  refine ⟨fun i t=>if hi:i<m then xDg m (fun a=>Classical.choose (hc i hi) a*g a t) else 0,fun i hi j hj=>?_⟩
  have hi':i<m:=by omega
  simp only [hi',dif_pos];rw [Classical.choose_spec (hc i hi') j,xDv]
  exact xDi fun a ha=>by rw [hG a j ha hj]
 obtain ⟨e,he⟩:=h2;have h3:=zMm r (fun i t=>if t<k then e i t else 0) (fun t j=>if t<k then G t (ps j) else 0)
 have h4:det r (mulM r (fun i t=>if t<k then e i t else 0) (fun t j=>if t<k then G t (ps j) else 0))=1:=by
  rw [<-zMk r]
  apply (zMf r).ext
  intro i j hi hj
  rw [<-h.unit j i hj oMx,he i hi _ (h.piv j hj)];unfold mulM;rw [xDr (k:=k) oMx (fun t h1 h2=>by show (if t<k then e i t else 0)*_=0;rw [if_neg oMx];grind)]
  exact xDi fun t ht=>by show (if t<k then e i t else 0)*(if t<k then G t (ps j) else 0)=_;rw [if_pos ht,if_pos ht]
 have h6:det r (fun i t=>if t<k then e i t else 0)=0:=zMp r _ k hk (fun i _=>by simp);rw [h4,h6] at h3
 revert h3
 grind
theorem Gau.rk (h:Gau m N n F ps r v odd):Rk m n N r:=⟨h.fac,fun _ hq=>h.fac_le hq⟩
end
section
variable {m n k0:Nat} {rs:List zGk} {M:mRx}
theorem zCy.lightN (B:Nat) (hB:B*(1+(B*B+1)*k0)<=600) (h:zCy rs m n M) (hm:m<=B) (hn:n<=B) (hk1:1<=k0) (hd:∀ i k,i<m->k<n->zAv k0 (M i k)):¬600<zOt rs n:=by
 have hlen:=h.len
 have hL:∀ l∈zSg rs,l.length<=B/\∀ q∈l,zAv k0 q:=fun l hl=>by
  obtain ⟨r,hr,rfl⟩:=List.mem_map.1 hl;refine ⟨by rw [List.length_map,h.row r hr];exact hn,fun q hq=>?_⟩;obtain ⟨s,hs,rfl⟩:=List.mem_map.1 hq;obtain ⟨i,hi,rfl⟩:=List.getElem_of_mem hr;obtain ⟨k,hk,rfl⟩:=List.getElem_of_mem hs;have hl:=h.rowAt hi;rw [h.cel i k hi hk,xFq (h.fit i k oMx oMx)];exact hd i k oMx oMx
 have hlL:(zSg rs).length=m:=by unfold zSg;rw [List.length_map,hlen]
 have hD:Dig (1+B*(B*k0)) (zSc rs):=by
  have h1:=zLu (a:=1) (d:=1) (m:=zSg rs) (by unfold Dig;decide) hL;refine h1.mono ?_;rw [hlL];have:m*(B*k0)<=B*(B*k0):=Nat.mul_le_mul_right _ hm;omega
 have hQ:∀ i k,zAv k0 (zSj rs i k):=fun i k=>by
  by_cases hi:i<m
  ·by_cases hk:k<n
   ·rw [h.q hi hk];exact hd i k hi hk
   have h0:zSj rs i k=0:=by
    unfold zSj;rw [List.getD_eq_getElem?_getD]
    have h9:((zSg rs).getD i []).length<=n:=by
     rw [List.getD_eq_getElem?_getD]
     rcases h2:(zSg rs)[i]? with _|l
     ·simp
     obtain ⟨r,hr,rfl⟩:=List.mem_map.1 (List.mem_of_getElem? h2);have:=h.row r hr
     simp
     omega
    rw [List.getElem?_eq_none oMx]
    rfl
   rw [h0];exact zMv.mono hk1
  have h0:zSj rs i k=0:=by
   unfold zSj;rw [List.getD_eq_getElem?_getD (l:=zSg rs),List.getElem?_eq_none (l:=zSg rs) oMx]
   rfl
  rw [h0];exact zMv.mono hk1
 have hBB:B*(B*k0)=B*B*k0:=(Nat.mul_assoc _ _ _).symm
 have hB1:(B*B+1)*k0=B*B*k0+k0:=by rw [Nat.add_mul,Nat.one_mul]
 have hdig:digT (zSc rs) (zSh rs) rs.length n<=1+(B*B+1)*k0:=by
  refine zTf ?_ fun i k hi hk=>?_
  ·have:=zMt (k:=B*(B*k0)) (by rw [Nat.add_comm];exact hD);omega
  have h1:Dig (k0+B*(B*k0)+1) (zSh rs i k):=by
   have:=zJj hD (hQ i k);rw [show k0+B*(B*k0)+1=k0+(1+B*(B*k0)) by omega];exact this
  have:=zMt h1
  show nd (zSh rs i k)<=_
  omega
 unfold zOt
 have h2:max rs.length n<=B:=by omega
 have h3:=Nat.mul_le_mul h2 hdig;omega
theorem matD_ne (rs:List zGk):(zSc rs:Rat)≠0:=by
 have:0<zSc rs:=zLy _ dCx
 intro e
 have h2:zSc rs=0:=by exact_mod_cast e
 omega
theorem zCy.fin (h:zCy rs m n M) (hm1:1<=m) (hm:m<=12) (hn:n<=12):zBr rs n:=h.fine hm hn (fun e=>by omega)
theorem zCy.cellP (h:zCy rs m n M) (hf:zBr rs n) {i k:Nat} (hi:i<m) (hk:k<n):((zSh rs i k:Int):Rat)=zSc rs*M i k:=by
 rw [zSm hf (by rw [h.len];exact hi) hk,h.q hi hk]
end
theorem lcmI_one:zPu 1 1=1:=by decide
theorem zLo:∀ (l:List Rat),(∀ q∈l,q.den=1)->zLk 1 l=1
 | [],_=>rfl
 | q::r,h=>by
  unfold zLk;rw [h q sMx];exact (congrArg (fun d=>zLk d r) lcmI_one).trans (zLo r fun p hp=>h p (by simp [hp]))
theorem zLw:∀ (l:List (List Rat)),(∀ m∈l,∀ q∈m,q.den=1)->zLs 1 l=1
 | [],_=>rfl
 | m::r,h=>by
  unfold zLs;rw [zLo m (h m sMx)]
  exact zLw r fun p hp=>h p (by simp [hp])
theorem zCy.int_D {m n:Nat} {rs:List zGk} {M:mRx} (h:zCy rs m n M) (hz:∀ i k,i<m->k<n->∃ z:Int,M i k=z):zSc rs=1:=by
 refine zLw _ fun l hl q hq=>?_
 obtain ⟨r,hr,rfl⟩:=List.mem_map.1 hl;obtain ⟨s,hs,rfl⟩:=List.mem_map.1 hq;obtain ⟨i,hi,rfl⟩:=List.getElem_of_mem hr;obtain ⟨k,hk,rfl⟩:=List.getElem_of_mem hs;have hlr:=h.rowAt hi;have hlen:=h.len;obtain ⟨z,e⟩:=hz i k oMx oMx;rw [h.cel i k hi hk,xFq (h.fit i k oMx oMx),e];exact Rat.den_intCast _
def IntM (m n:Nat) (M:mRx):Prop:=∀ i k,i<m->k<n->∃ z:Int,M i k=z
theorem zHe.int {m n:Nat} {M:mRx} (h:zHe m n M):IntM m n M:=fun i k hi hk=>by
 obtain ⟨z,e, -⟩:=h i k hi hk;exact ⟨z,e⟩
def besM (n:Nat) (A B:mRx):Nat->Nat->Rat:=fun i k=>if k<n then A i k else B i (k-n)
theorem besM_l {n:Nat} {A B:mRx} {i k:Nat} (h:k<n):besM n A B i k=A i k:=if_pos h
theorem besM_r {n:Nat} {A B:mRx} {i k:Nat}:besM n A B i (n+k)=B i k:=by
 unfold besM;rw [if_neg oMx,Nat.add_sub_cancel_left]
section
variable {n r:Nat} {A B F:mRx} {ps:Nat->Nat} {v:Rat} {odd:Bool}
theorem Gau.beside (h:Gau n (besM n A B) n F ps r v odd) (hr:r=n):∀ i k,i<n->mulM n A (fun j k=>F j (n+k)) i k=B i k:=fun i k hi=>by
 have:=h.solves hr (n+k) i hi;rw [besM_r] at this;rw [<-this]
 exact xDi fun j hj=>by rw [besM_l hj]
end
def idnZ (i k:Nat):Int:=if i=k then 1 else 0
theorem idnZ_q (i k:Nat):((idnZ i k:Int):Rat)=idn i k:=by
 unfold idnZ idn
 split<;>rfl
theorem rinv_int {n:Nat} (A:Nat->Nat->Int) (hd:det n (fun i k=>(A i k:Rat))≠0):∃ X:Nat->Nat->Rat,∀ i k,i<n->k<n->mulM n (fun i k=>(A i k:Rat)) X i k=idn i k:=by
 obtain ⟨F,hg, -⟩:=zNi n (fun i k=>if k<n then A i k else idnZ i (k-n)) n
 have e:(fun i k=>(((if k<n then A i k else idnZ i (k-n)):Int):Rat))=besM n (fun i k=>(A i k:Rat)) idn:=by
  funext i k
  unfold besM
  split
  ·rfl
  exact idnZ_q _ _
 rw [e] at hg
 have hr:=hg.det_ne.2 (by
  rw [show det n (besM n (fun i k=>(A i k:Rat)) idn)=det n (fun i k=>(A i k:Rat)) from (zMf n).ext _ _ fun i k _ hk=>besM_l hk]
  exact hd)
 exact ⟨_,fun i k hi _=>hg.beside hr i k hi⟩
noncomputable def invN (rs:List zGk) (i k:Nat):Int:=if k<rs.length then zSh rs i k else idnZ i (k-rs.length)
noncomputable def invQ (rs:List zGk) (s:zBb) (i k:Nat):Rat:=Rat.divInt (s.P i (rs.length+k)*zSc rs) s.v
def InvPost (heavy:Bool) (s:zBb) (m:Nat) (q:mRx) (w:World) (e:Ending) (w':World):Prop :=
 match heavy with
 | true=>e = .returned (.tuple #[.slice none 0 0,.int .i64 3])/\Below w.heap.size w w'
 | false=>(s.ps.length<m/\e = .returned (.tuple #[.slice none 0 0,.int .i64 6])/\Below w.heap.size w w')\/(s.ps.length=m/\RetMx w m m q e w')
def IsB (b:Nat) (q:Rat):Prop:=∃ z:Int,q=z/\z.natAbs<=b
theorem IsB.mono {a b:Nat} {q:Rat} (h:IsB a q) (hab:a<=b):IsB b q:=by
 obtain ⟨z,e,hz⟩:=h;exact ⟨z,e,oMx⟩
theorem IsB.mul {a b c:Nat} {x y:Rat} (h:IsB a x) (k:IsB b y) (hc:a*b=c):IsB c (x*y):=by
 obtain ⟨z,e,hz⟩:=h;obtain ⟨u,f,hu⟩:=k;refine ⟨z*u,by rw [e,f,Rat.intCast_mul],?_⟩;rw [Int.natAbs_mul,<-hc];exact Nat.mul_le_mul hz hu
theorem IsB.dig {b d:Nat} {q:Rat} (h:IsB b q) (hb:b<10^d) (hd:1<=d):zAv d q:=by
 obtain ⟨z,rfl,hz⟩:=h;exact zAv.ofInt (show z.natAbs<10^d by omega) hd
theorem sgD_B (i:Nat):IsB 1 (sgD i):=by
 unfold sgD
 split
 ·exact ⟨1,rfl,dCx⟩
 exact ⟨-1,rfl,dCx⟩
def zMb (b:Nat):Nat->Nat
 | 0=>1
 | n+1=>(n+1)*(b*zMb b n)
theorem zMe {b:Nat}:∀ {n:Nat} {M:mRx},(∀ r c,r<n->c<n->IsB b (M r c))->IsB (zMb b n) (det n M)
 | 0,_,_=>⟨1,rfl,Nat.le_refl 1⟩
 | n+1,M,h=>xDs fun i hi=>((sgD_B i).mul (h i 0 hi oMx) (Nat.one_mul _)).mul (zMe (n:=n) (M:=mnr M i) fun r c hr hc=>h _ _ (by unfold skp;split<;>omega) oMx) rfl
theorem Gau.bnd {m n n2 r b:Nat} {N F:mRx} {ps:Nat->Nat} {v:Rat} {odd:Bool} (h:Gau m N n F ps r v odd) (hn2:n<=n2) (hN:∀ i k,i<m->k<n2->IsB b (N i k)) :
  IsB (zMb b r) v/\∀ i k,i<r->k<n2->IsB (zMb b r) (v*F i k):=by
 have hrm:=h.rm;obtain ⟨π,hπ,h2⟩:=h.mins
 constructor
 ·have h3:=h2 r (fun j=>j) (fun j=>ps j) lRx (fun j _=>rfl) (fun j h1 h2=>by omega)
  have e:det r (fun a j=>F a (ps j))=1:=by
   rw [<-zMk r]
   apply (zMf r).ext
   intro a j ha hj
   exact h.unit j a hj oMx
  rw [e,Rat.mul_one] at h3;rw [<-h3]
  exact zMe fun a b ha hb=>hN _ _ (hπ _ oMx) (Nat.lt_of_lt_of_le (h.piv b hb) hn2)
 intro i k hir hk
 have h3:=h2 r (fun j=>j) (fun j=>if j=i then k else ps j) lRx (fun j _=>rfl) (fun j h1 h2=>by omega)
 have e:det r (fun a j=>F a (if j=i then k else ps j))=F i k:=by
  rw [<-zMh hir (fun a=>F a k)]
  apply (zMf r).ext
  intro a j ha hj
  unfold cpd
  split
  ·rfl
  exact h.unit j a hj oMx
 rw [e] at h3;rw [<-h3]
 exact zMe fun a b ha hb=>hN _ _ (hπ _ oMx) (by split;exact hk;exact Nat.lt_of_lt_of_le (h.piv b hb) hn2)
theorem detB_mil:∀ r,r<=4->zMb 1000000 r<10^26
 | 0,_|1,_|2,_|3,_|4,_=>by decide
theorem IsB.int {b:Nat} {z:Int} (h:IsB b (z:Rat)):z.natAbs<=b:=by
 obtain ⟨y,e,hy⟩:=h
 have:z=y:=by exact_mod_cast e
 rw [this];exact hy
theorem idn_B (i k:Nat):IsB 3 (idn i k):=by
 unfold idn
 split
 ·exact ⟨1,rfl,dCx⟩
 exact ⟨0,rfl,dCx⟩
theorem zHe.B {m n:Nat} {M:mRx} (h:zHe m n M):∀ i k,i<m->k<n->IsB 3 (M i k):=h
theorem matF_col {ss:List ByteArray} {n:Nat} {b:Nat->Rat} (h:zHn ss n b):zCy (zJs ss) n 1 (fun i _=>b i):=by
 refine ⟨by rw [zJt];exact h.len,fun r hr=>?_,fun i k hi hk=>?_,fun i _ hi _=>h.fit i hi⟩
 ·obtain ⟨s, -,rfl⟩:=List.mem_map.1 hr
  rfl
 have hi':i<ss.length:=by rw [zJt] at hi;exact hi
 have e:(zJs ss)[i]=⟨none,0,[ss[i]]⟩:=by simp [zJs]
 have hk1:k=0:=by
  have:(zJs ss)[i].ss.length=1:=by rw [e];rfl
  omega
 subst hk1;simp only [e,List.getElem_cons_zero];exact h.cel i hi'
theorem IntM.num {m n:Nat} {M:mRx} (h:IntM m n M):∀ i k,i<m->k<n->(((M i k).num:Int):Rat)=M i k:=fun i k hi hk=>by
 obtain ⟨z,e⟩:=h i k hi hk;rw [e,Rat.num_intCast]
theorem rk_det {n r:Nat} {M:mRx} (hz:IntM n n M) (hk:Rk n n M r):r=n↔det n M≠0:=by
 obtain ⟨F,hg, -⟩:=zNi n (fun i k=>(M i k).num) n;have h1:=hk.same (hg.rk.congr hz.num);rw [h1,hg.det_ne,show det n (fun i k=>(((M i k).num:Int):Rat))=det n M from (zMf n).ext _ _ hz.num]
theorem vcSame {A A':oAx} {c c' n:Nat} {x:Nat->Rat} {w:World} (h:zHk w A n x) (h':zHk w A' n x) (hn:n<=1000):Calls Tryz.prog 29 #[.slice A n c,.slice A' n c'] w fun e w'=>e = .returned (.bool true)/\Below w.heap.size w w':=by
 obtain ⟨ss,h1,h2⟩:=h;obtain ⟨ss',h3,h4⟩:=h';have l1:=h2.len;have l2:=h4.len
 have e:ss=ss':=List.ext_getElem oMx fun i hi hi'=>by rw [h2.cel i hi,h4.cel i hi']
 subst e;have:=zGl A A' ss ss c c' w h1 h3 oMx oMx;rw [l1,show decide (ss=ss)=true by simp] at this;exact this
end Go.Proofs.YtfjjcoggoomlbaaGreatDoor
