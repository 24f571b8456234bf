import Derived.Test.YtfjjcoggoomlbaaGreatDoorZMO
set_option maxHeartbeats 16000000
set_option maxRecDepth 100000
set_option linter.unusedVariables false
set_option linter.unusedSimpArgs false
set_option linter.unusedSectionVars false
namespace Go.Proofs.YtfjjcoggoomlbaaGreatDoor
open Go.RowKit
theorem zSo {w:World} {A:oAx} {rs:List zGk} {m n:Nat} {M:mRx} (h:zCz w A rs) (hm:zCy rs m n M) (hm1:1<=m) (hn1:1<=n):∃ b off:Nat,A=some ⟨b,off,none⟩/\b<w.heap.size/\∀ i,i<m->∃ b2 o2 cp:Nat,b2<w.heap.size/\w.cell? ⟨b,off+i,none⟩=some (.slice (some ⟨b2,o2,none⟩) n cp)/\∀ k,k<n->w.cell? ⟨b2,o2+k,none⟩=some (.string (zYy (M i k))):=by
 obtain ⟨b,off, -, -, -,e,hb, -⟩:=zSp h hm hn1 (i:=0) hm1;refine ⟨b,off,e,hb,fun i hi=>?_⟩;obtain ⟨b',off',b2,o2,cp,e', -,hb2,h1,h2⟩:=zSp h hm hn1 hi;rw [e] at e';injection e' with e';injection e' with e1 e2;subst e1 e2;exact ⟨b2,o2,cp,hb2,h1,h2⟩
def SymM (n:Nat) (M:mRx):Prop:=∀ i k,i<n->k<n->M i k=M k i
theorem zGy (A:oAx) (rs:List zGk) (c n:Nat) (M:mRx) (w:World) (h:zCz w A rs) (hmf:zCy rs n n M) (hn:n<=12) (henv:Env w) :
  Calls Tryz.prog 37 #[.slice A n c] w fun e w'=>∃ bb:Bool,e = .returned (.bool bb)/\(bb=true↔SymM n M)/\Below w.heap.size w w':=by
 have HSH:=zGn A rs c n w h (hmf.fine hn hn (fun e=>e)) henv;rw [hmf.len] at HSH;replace HSH:=oH HSH;have HM:=oH h;have HF:=oH hmf
 have hnn:((n:Int) != (n:Int))=false:=by simp
 clear h hmf henv
 go_enter Tryz.func37,Tryz.ntmps37
 go_wp2_with fail;refine HSH.mono ?_;rintro e w1 ⟨rfl,hb1⟩;have HB:=oH hb1;replace HM:=oH (HM.below hb1);clear hb1 HSH;go_wp2_with fail;clear hnn
 go_loopw [23] (fun iv wr=>∃ i m:Nat,iv = .int .i64 (i:Int)/\i<=n/\(∀ a b,a<i->b<a->M a b=M b a)/\wr=w1.drewN m) (fun iv _=>n-(intOf iv).toNat)
 ·exact ⟨0,0,rfl,oLx,fun a b h=>by omega,rfl⟩
 obtain ⟨i,m,rfl,hi,hall,rfl⟩:=hrel;have HALL:=oH hall;clear hall
 by_cases hlt:i<n
 ·obtain ⟨b,off,rfl,hb,hgr⟩:=zSo HM.out HF.out oMx oMx;obtain ⟨b2,o2,cp,hb2,c0,hc⟩:=hgr i hlt;have HGR:=oH hgr;have HC:=oH hc
  have i1:(0:Int)<=(i:Int):=by omega
  have i2:(i:Int)<(n:Int):=by omega
  clear hgr hc;go_wp2_with fail
  go_loopw [27] (fun kv wk=>∃ k m2:Nat,kv = .int .i64 (k:Int)/\k<=i/\(∀ b,b<k->M i b=M b i)/\wk=w1.drewN m2) (fun kv _=>i-(intOf kv).toNat)
  ·exact ⟨0,m,rfl,oLx,fun b h=>by omega,rfl⟩
  obtain ⟨k,m2,rfl,hk,hrow,rfl⟩:=hrel;have HROW:=oH hrow;clear hrow
  by_cases hlt2:k<i
  ·obtain ⟨b3,o3,cp3,hb3,c1,hc1⟩:=HGR.out k oMx;have c2:=HC.out k oMx;have c3:=hc1 i hlt
   have k1:(0:Int)<=(k:Int):=by omega
   have k2:(k:Int)<(i:Int):=by omega
   have k3:(k:Int)<(n:Int):=by omega
   have HN:=oH (fun (h:M i k≠M k i)=>(show ∀ bb:Bool,bb=false->(bb=true↔SymM n M) from fun bb hbb=>by
    subst hbb
    exact ⟨fun h9=>(by cases h9),fun h9=>absurd (h9 i k hlt oMx) h⟩))
   clear hc1
   by_cases hxy:M i k=M k i
   ·have HX:=oH hxy;rw [hxy] at c2;clear hxy HN;generalize zYy (M k i)=x at *;go_wp2_with fail
    go_quiet (fail)
    go_wp2_with fail;go_roundw
    ·exact ⟨k+1,_,by go_num,oMx,fun b hb=>by
     rcases Nat.lt_or_ge b k with h1|h1
     ·exact HROW.out b h1
     rw [show b=k by omega];exact HX.out,rfl⟩
    simp [intOf];omega
   have E:=oH (HN.out hxy false rfl)
   have hne:((zYy (M i k)).toList==(zYy (M k i)).toList)=false:=xEl fun e=>hxy (zYz e)
   clear hxy HN;generalize zYy (M k i)=x at *;generalize zYy (M i k)=y at *;go_wp2_with fail
   go_quiet (fail)
   go_wp2_with fail;go_ret
   exact ⟨false,rfl,E.out,HB.trans (Below.mono (below_drewN (below_drewN bRx _) _) HB.size)⟩
  have HR:=oH (show ∀ a b,a<i+1->b<a->M a b=M b a from fun a b ha hb=>by
   rcases Nat.lt_or_ge a i with h1|h1
   ·exact HALL.out a b h1 hb
   obtain rfl:a=i:=by omega
   exact HROW.out b oMx)
  go_wp2_with fail;go_roundw
  ·exact ⟨i+1,_,by go_num,oMx,HR.out,rfl⟩
  simp [intOf];omega
 have E:=oH (show SymM n M from fun a b ha hb=>by
  have h1:=HALL.out
  rcases Nat.lt_trichotomy a b with h2|h2|h2
  ·exact (h1 b a oMx h2).symm
  ·rw [h2]
  exact h1 a b oMx h2)
 go_wp2_with fail;go_ret
 exact ⟨true,rfl,⟨fun _=>E.out,fun _=>rfl⟩,HB.trans (Below.mono (below_drewN bRx _) HB.size)⟩
theorem zAp (A:oAx) (rs:List zGk) (c n:Nat) (M:mRx) (w:World) (h:zCz w A rs) (hmf:zCy rs n n M) (hn1:1<=n) (hn:n<=12) (hs:SymM n M) (hl:¬600<zOt rs n) (henv:Env w) :
  Calls Tryz.prog 50 #[.slice A n c] w fun e w'=>e = .returned (.int .i64 0)/\Below w.heap.size w w':=by
 have HSH:=zGn A rs c n w h (hmf.fine hn hn (fun e=>e)) henv;rw [hmf.len] at HSH;replace HSH:=oH HSH;have HSY:=oH (fun W (hW:Below w.heap.size w W)=>zGy A rs c n M W (h.below hW) hmf hn (henv.below hW))
 have HHV:=oH (fun W (hW:Below w.heap.size w W)=>(show Calls Tryz.prog 87 #[.slice A n c] W _ by
  have h9:=zCa A c n rs W (h.below hW) (hmf.fine hn hn (fun e=>e)) (by rw [hmf.len];exact hn1) hn1 (henv.below hW);rw [hmf.len,show decide (600<zOt rs n)=false from by simpa using hl] at h9
  exact h9))
 have HS:=oH hs;clear h hmf henv hl hs
 go_enter Tryz.func50,Tryz.ntmps50
 go_wp2_with fail;refine HSH.mono ?_;rintro e w1 ⟨rfl,hb1⟩;have HB:=oH hb1;clear hb1 HSH;go_wp2_with fail;refine (HSY.out w1 HB.out).mono ?_;rintro e w2 ⟨bb,rfl,hbb,hb2⟩;obtain rfl:bb=true:=hbb.2 HS.out;replace HB:=bTx2 HB hb2;clear hb2 hbb HSY;go_wp2_with fail;refine (HHV.out w2 HB.out).mono ?_;rintro e w3 ⟨rfl,hb3⟩;have HB3:=bTx2 HB hb3;clear hb3 HHV HB;go_wp2_with fail;go_ret
 exact ⟨rfl,HB3.out⟩
theorem IdxFo (p:ByteArray->Bool) (A:oAx) (xs:List ByteArray) (c:Nat) (w:World) (h:zGw w A xs) (hl:xs.length<=1000000)
  (hp:∀ x∈xs,∀ W,Below w.heap.size w W->Calls Tryz.prog 76 #[.string x] W fun e w'=>e = .returned (.bool (p x))/\Below W.heap.size W w') :
  Calls Tryz.prog 142 #[.slice A xs.length c,.func (.func 76) #[] #[]] w fun e w'=>e = .returned (.int .i64 (zOw p xs))/\Below w.heap.size w w':=by
 have HM:=oH h;have HP:=oH hp;clear h hp
 go_enter Tryz.func142,Tryz.ntmps142
 go_wp2_with fail
 go_loopw [8] (fun iv wr=>∃ k:Nat,iv = .int .i64 (k:Int)/\k<=xs.length/\(∀ j,(hj:j<xs.length)->j<k->p xs[j]=false)/\Below w.heap.size w wr) (fun iv _=>xs.length-(intOf iv).toNat)
 ·exact ⟨0,rfl,oLx,fun j _ h=>absurd h oMx,bRx⟩
 obtain ⟨k,rfl,hk,hall,hbel⟩:=hrel;have HB:=oH hbel;have HALL:=oH hall;clear hbel hall
 by_cases hlt:k<xs.length
 ·obtain ⟨b,off,rfl,hb,hc⟩:=HM.out (by intro e;subst e;simp at hlt);have hci:=(HB.cell (p:=⟨b,off+k,none⟩) hb).trans (hc k hlt);have HC:=oH (HP.out _ (List.getElem_mem hlt) wr HB.out);have HN:=oH (fun (h:p xs[k]=true)=>zOx hlt h HALL.out)
  have HS:=oH (fun (h:p xs[k]=false) j (hj:j<xs.length) (hjk:j<k+1)=>show p xs[j]=false by
   rcases Nat.lt_or_ge j k with h1|h1
   ·exact HALL.out j hj h1
   obtain rfl:j=k:=by omega
   exact h)
  generalize p xs[k]=bb at *;clear hc;generalize xs[k]=s at *
  cases bb
  ·go_wp2_with fail;refine HC.mono ?_;rintro e w2 ⟨rfl,hb2⟩;have HB2:=bTx2 HB hb2;clear hb2;go_wp2_with fail;go_roundw
   ·exact ⟨k+1,by go_num,oMx,HS.out (by trivial),HB2.out⟩
   simp [intOf];omega
  go_wp2_with fail;refine HC.mono ?_;rintro e w2 ⟨rfl,hb2⟩;have HB2:=bTx2 HB hb2;clear hb2;go_wp2_with fail;go_ret
  exact ⟨by rw [HN.out (by trivial)];rfl,HB2.out⟩
 obtain rfl:k=xs.length:=by omega
 have E:=oH (zOz (p:=p) (l:=xs) (fun j hj=>HALL.out j hj hj));go_wp2_with fail;go_ret
 exact ⟨by rw [E.out];rfl,HB.out⟩
theorem ConFo (p:ByteArray->Bool) (A:oAx) (xs:List ByteArray) (c:Nat) (w:World) (h:zGw w A xs) (hl:xs.length<=1000000)
  (hp:∀ x∈xs,∀ W,Below w.heap.size w W->Calls Tryz.prog 76 #[.string x] W fun e w'=>e = .returned (.bool (p x))/\Below W.heap.size W w') :
  Calls Tryz.prog 67 #[.slice A xs.length c,.func (.func 76) #[] #[]] w fun e w'=>e = .returned (.bool (xs.any p))/\Below w.heap.size w w':=by
 have H:=oH (IdxFo p A xs c w h hl hp);have E:=oH (zOy p xs);generalize xs.any p=r at *;generalize zOw p xs=i at *;clear h hp
 go_enter Tryz.func67,Tryz.ntmps67
 go_wp2_with fail;refine H.mono ?_;rintro e w' ⟨rfl,hb2⟩;have HB2:=oH hb2;clear hb2;go_wp2_with fail;go_ret
 exact ⟨by rw [<-E.out];rfl,HB2.out⟩
theorem IdxCh (p:ByteArray->Bool) (A:oAx) (xs:List ByteArray) (c:Nat) (w:World) (h:zGw w A xs) (hl:xs.length<=1000000)
  (hp:∀ x∈xs,∀ W,Below w.heap.size w W->Calls Tryz.prog 68 #[.string x] W fun e w'=>e = .returned (.bool (p x))/\Below W.heap.size W w') :
  Calls Tryz.prog 142 #[.slice A xs.length c,.func (.func 68) #[] #[]] w fun e w'=>e = .returned (.int .i64 (zOw p xs))/\Below w.heap.size w w':=by
 have HM:=oH h;have HP:=oH hp;clear h hp
 go_enter Tryz.func142,Tryz.ntmps142
 go_wp2_with fail
 go_loopw [8] (fun iv wr=>∃ k:Nat,iv = .int .i64 (k:Int)/\k<=xs.length/\(∀ j,(hj:j<xs.length)->j<k->p xs[j]=false)/\Below w.heap.size w wr) (fun iv _=>xs.length-(intOf iv).toNat)
 ·exact ⟨0,rfl,oLx,fun j _ h=>absurd h oMx,bRx⟩
 obtain ⟨k,rfl,hk,hall,hbel⟩:=hrel;have HB:=oH hbel;have HALL:=oH hall;clear hbel hall
 by_cases hlt:k<xs.length
 ·obtain ⟨b,off,rfl,hb,hc⟩:=HM.out (by intro e;subst e;simp at hlt);have hci:=(HB.cell (p:=⟨b,off+k,none⟩) hb).trans (hc k hlt);have HC:=oH (HP.out _ (List.getElem_mem hlt) wr HB.out);have HN:=oH (fun (h:p xs[k]=true)=>zOx hlt h HALL.out)
  have HS:=oH (fun (h:p xs[k]=false) j (hj:j<xs.length) (hjk:j<k+1)=>show p xs[j]=false by
   rcases Nat.lt_or_ge j k with h1|h1
   ·exact HALL.out j hj h1
   obtain rfl:j=k:=by omega
   exact h)
  generalize p xs[k]=bb at *;clear hc;generalize xs[k]=s at *
  cases bb
  ·go_wp2_with fail;refine HC.mono ?_;rintro e w2 ⟨rfl,hb2⟩;have HB2:=bTx2 HB hb2;clear hb2;go_wp2_with fail;go_roundw
   ·exact ⟨k+1,by go_num,oMx,HS.out (by trivial),HB2.out⟩
   simp [intOf];omega
  go_wp2_with fail;refine HC.mono ?_;rintro e w2 ⟨rfl,hb2⟩;have HB2:=bTx2 HB hb2;clear hb2;go_wp2_with fail;go_ret
  exact ⟨by rw [HN.out (by trivial)];rfl,HB2.out⟩
 obtain rfl:k=xs.length:=by omega
 have E:=oH (zOz (p:=p) (l:=xs) (fun j hj=>HALL.out j hj hj));go_wp2_with fail;go_ret
 exact ⟨by rw [E.out];rfl,HB.out⟩
theorem ConCh (p:ByteArray->Bool) (A:oAx) (xs:List ByteArray) (c:Nat) (w:World) (h:zGw w A xs) (hl:xs.length<=1000000)
  (hp:∀ x∈xs,∀ W,Below w.heap.size w W->Calls Tryz.prog 68 #[.string x] W fun e w'=>e = .returned (.bool (p x))/\Below W.heap.size W w') :
  Calls Tryz.prog 67 #[.slice A xs.length c,.func (.func 68) #[] #[]] w fun e w'=>e = .returned (.bool (xs.any p))/\Below w.heap.size w w':=by
 have H:=oH (IdxCh p A xs c w h hl hp);have E:=oH (zOy p xs);generalize xs.any p=r at *;generalize zOw p xs=i at *;clear h hp
 go_enter Tryz.func67,Tryz.ntmps67
 go_wp2_with fail;refine H.mono ?_;rintro e w' ⟨rfl,hb2⟩;have HB2:=oH hb2;clear hb2;go_wp2_with fail;go_ret
 exact ⟨by rw [<-E.out];rfl,HB2.out⟩
theorem IdxLo (p:ByteArray->Bool) (A:oAx) (xs:List ByteArray) (c:Nat) (w:World) (h:zGw w A xs) (hl:xs.length<=1000000)
  (hp:∀ x∈xs,∀ W,Below w.heap.size w W->Calls Tryz.prog 141 #[.string x] W fun e w'=>e = .returned (.bool (p x))/\Below W.heap.size W w') :
  Calls Tryz.prog 142 #[.slice A xs.length c,.func (.func 141) #[] #[]] w fun e w'=>e = .returned (.int .i64 (zOw p xs))/\Below w.heap.size w w':=by
 have HM:=oH h;have HP:=oH hp;clear h hp
 go_enter Tryz.func142,Tryz.ntmps142
 go_wp2_with fail
 go_loopw [8] (fun iv wr=>∃ k:Nat,iv = .int .i64 (k:Int)/\k<=xs.length/\(∀ j,(hj:j<xs.length)->j<k->p xs[j]=false)/\Below w.heap.size w wr) (fun iv _=>xs.length-(intOf iv).toNat)
 ·exact ⟨0,rfl,oLx,fun j _ h=>absurd h oMx,bRx⟩
 obtain ⟨k,rfl,hk,hall,hbel⟩:=hrel;have HB:=oH hbel;have HALL:=oH hall;clear hbel hall
 by_cases hlt:k<xs.length
 ·obtain ⟨b,off,rfl,hb,hc⟩:=HM.out (by intro e;subst e;simp at hlt);have hci:=(HB.cell (p:=⟨b,off+k,none⟩) hb).trans (hc k hlt);have HC:=oH (HP.out _ (List.getElem_mem hlt) wr HB.out);have HN:=oH (fun (h:p xs[k]=true)=>zOx hlt h HALL.out)
  have HS:=oH (fun (h:p xs[k]=false) j (hj:j<xs.length) (hjk:j<k+1)=>show p xs[j]=false by
   rcases Nat.lt_or_ge j k with h1|h1
   ·exact HALL.out j hj h1
   obtain rfl:j=k:=by omega
   exact h)
  generalize p xs[k]=bb at *;clear hc;generalize xs[k]=s at *
  cases bb
  ·go_wp2_with fail;refine HC.mono ?_;rintro e w2 ⟨rfl,hb2⟩;have HB2:=bTx2 HB hb2;clear hb2;go_wp2_with fail;go_roundw
   ·exact ⟨k+1,by go_num,oMx,HS.out (by trivial),HB2.out⟩
   simp [intOf];omega
  go_wp2_with fail;refine HC.mono ?_;rintro e w2 ⟨rfl,hb2⟩;have HB2:=bTx2 HB hb2;clear hb2;go_wp2_with fail;go_ret
  exact ⟨by rw [HN.out (by trivial)];rfl,HB2.out⟩
 obtain rfl:k=xs.length:=by omega
 have E:=oH (zOz (p:=p) (l:=xs) (fun j hj=>HALL.out j hj hj));go_wp2_with fail;go_ret
 exact ⟨by rw [E.out];rfl,HB.out⟩
theorem ConLo (p:ByteArray->Bool) (A:oAx) (xs:List ByteArray) (c:Nat) (w:World) (h:zGw w A xs) (hl:xs.length<=1000000)
  (hp:∀ x∈xs,∀ W,Below w.heap.size w W->Calls Tryz.prog 141 #[.string x] W fun e w'=>e = .returned (.bool (p x))/\Below W.heap.size W w') :
  Calls Tryz.prog 67 #[.slice A xs.length c,.func (.func 141) #[] #[]] w fun e w'=>e = .returned (.bool (xs.any p))/\Below w.heap.size w w':=by
 have H:=oH (IdxLo p A xs c w h hl hp);have E:=oH (zOy p xs);generalize xs.any p=r at *;generalize zOw p xs=i at *;clear h hp
 go_enter Tryz.func67,Tryz.ntmps67
 go_wp2_with fail;refine H.mono ?_;rintro e w' ⟨rfl,hb2⟩;have HB2:=oH hb2;clear hb2;go_wp2_with fail;go_ret
 exact ⟨by rw [<-E.out];rfl,HB2.out⟩
theorem IdxSo (p:ByteArray->Bool) (A:oAx) (xs:List ByteArray) (c:Nat) (w:World) (h:zGw w A xs) (hl:xs.length<=1000000)
  (hp:∀ x∈xs,∀ W,Below w.heap.size w W->Calls Tryz.prog 86 #[.string x] W fun e w'=>e = .returned (.bool (p x))/\Below W.heap.size W w') :
  Calls Tryz.prog 142 #[.slice A xs.length c,.func (.func 86) #[] #[]] w fun e w'=>e = .returned (.int .i64 (zOw p xs))/\Below w.heap.size w w':=by
 have HM:=oH h;have HP:=oH hp;clear h hp
 go_enter Tryz.func142,Tryz.ntmps142
 go_wp2_with fail
 go_loopw [8] (fun iv wr=>∃ k:Nat,iv = .int .i64 (k:Int)/\k<=xs.length/\(∀ j,(hj:j<xs.length)->j<k->p xs[j]=false)/\Below w.heap.size w wr) (fun iv _=>xs.length-(intOf iv).toNat)
 ·exact ⟨0,rfl,oLx,fun j _ h=>absurd h oMx,bRx⟩
 obtain ⟨k,rfl,hk,hall,hbel⟩:=hrel;have HB:=oH hbel;have HALL:=oH hall;clear hbel hall
 by_cases hlt:k<xs.length
 ·obtain ⟨b,off,rfl,hb,hc⟩:=HM.out (by intro e;subst e;simp at hlt);have hci:=(HB.cell (p:=⟨b,off+k,none⟩) hb).trans (hc k hlt);have HC:=oH (HP.out _ (List.getElem_mem hlt) wr HB.out);have HN:=oH (fun (h:p xs[k]=true)=>zOx hlt h HALL.out)
  have HS:=oH (fun (h:p xs[k]=false) j (hj:j<xs.length) (hjk:j<k+1)=>show p xs[j]=false by
   rcases Nat.lt_or_ge j k with h1|h1
   ·exact HALL.out j hj h1
   obtain rfl:j=k:=by omega
   exact h)
  generalize p xs[k]=bb at *;clear hc;generalize xs[k]=s at *
  cases bb
  ·go_wp2_with fail;refine HC.mono ?_;rintro e w2 ⟨rfl,hb2⟩;have HB2:=bTx2 HB hb2;clear hb2;go_wp2_with fail;go_roundw
   ·exact ⟨k+1,by go_num,oMx,HS.out (by trivial),HB2.out⟩
   simp [intOf];omega
  go_wp2_with fail;refine HC.mono ?_;rintro e w2 ⟨rfl,hb2⟩;have HB2:=bTx2 HB hb2;clear hb2;go_wp2_with fail;go_ret
  exact ⟨by rw [HN.out (by trivial)];rfl,HB2.out⟩
 obtain rfl:k=xs.length:=by omega
 have E:=oH (zOz (p:=p) (l:=xs) (fun j hj=>HALL.out j hj hj));go_wp2_with fail;go_ret
 exact ⟨by rw [E.out];rfl,HB.out⟩
theorem ConSo (p:ByteArray->Bool) (A:oAx) (xs:List ByteArray) (c:Nat) (w:World) (h:zGw w A xs) (hl:xs.length<=1000000)
  (hp:∀ x∈xs,∀ W,Below w.heap.size w W->Calls Tryz.prog 86 #[.string x] W fun e w'=>e = .returned (.bool (p x))/\Below W.heap.size W w') :
  Calls Tryz.prog 67 #[.slice A xs.length c,.func (.func 86) #[] #[]] w fun e w'=>e = .returned (.bool (xs.any p))/\Below w.heap.size w w':=by
 have H:=oH (IdxSo p A xs c w h hl hp);have E:=oH (zOy p xs);generalize xs.any p=r at *;generalize zOw p xs=i at *;clear h hp
 go_enter Tryz.func67,Tryz.ntmps67
 go_wp2_with fail;refine H.mono ?_;rintro e w' ⟨rfl,hb2⟩;have HB2:=oH hb2;clear hb2;go_wp2_with fail;go_ret
 exact ⟨by rw [<-E.out];rfl,HB2.out⟩
theorem form1 (s:ByteArray) (w:World) (hs:s.size<=4000000000) (henv:Env w):Calls Tryz.prog 76 #[.string s] w fun e w'=>e = .returned (.bool (!vR s))/\Below w.heap.size w w':=by
 have H:=oH (zFf s w hs henv);generalize vR s=b at *;clear henv
 go_enter Tryz.func76,Tryz.ntmps76
 go_wp2_with fail;refine H.mono ?_;rintro e w' ⟨rfl,hb⟩;have HB:=oH hb;clear hb;go_wp2_with fail;go_ret
 exact ⟨rfl,HB.out⟩
theorem dsolve1 (s:ByteArray) (w:World) (hs:s.size<=4000000000) (henv:Env w):Calls Tryz.prog 86 #[.string s] w fun e w'=>e = .returned (.bool (!vR s))/\Below w.heap.size w w':=by
 have H:=oH (zFf s w hs henv);generalize vR s=b at *;clear henv
 go_enter Tryz.func86,Tryz.ntmps86
 go_wp2_with fail;refine H.mono ?_;rintro e w' ⟨rfl,hb⟩;have HB:=oH hb;clear hb;go_wp2_with fail;go_ret
 exact ⟨rfl,HB.out⟩
theorem check1 (q:Rat) (w:World) (hf:zBt q) (henv:Env w):Calls Tryz.prog 68 #[.string (zYy q)] w fun e w'=>e = .returned (.bool (decide (sgR q<=0)))/\Below w.heap.size w w':=by
 have H:=oH (zFd q w hf henv);generalize sgR q=z at *;generalize zYy q=s at *;clear henv hf
 go_enter Tryz.func68,Tryz.ntmps68
 go_wp2_with fail;refine H.mono ?_;rintro e w' ⟨rfl,hb⟩;have HB:=oH hb;clear hb;go_wp2_with fail;go_ret
 exact ⟨rfl,HB.out⟩
theorem lower1 (s:ByteArray) (w:World):Calls Tryz.prog 141 #[.string s] w fun e w'=>e = .returned (.bool (!(s.toList==[48])))/\Below w.heap.size w w':=by
 generalize hbb:(s.toList==[48])=bb;have HBB:=oH hbb;have h0:=hbb;clear hbb
 go_enter Tryz.func141,Tryz.ntmps141
 go_wp2_with fail;go_ret
 exact ⟨rfl,bRx⟩
end Go.Proofs.YtfjjcoggoomlbaaGreatDoor
