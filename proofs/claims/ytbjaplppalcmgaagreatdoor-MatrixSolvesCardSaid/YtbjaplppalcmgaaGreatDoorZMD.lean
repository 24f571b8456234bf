import Derived.Test.YtbjaplppalcmgaaGreatDoorZMB
set_option maxHeartbeats 16000000
set_option maxRecDepth 100000
set_option linter.unusedVariables false
set_option linter.unusedSimpArgs false
set_option linter.unusedSectionVars false
namespace Go.Proofs.YtbjaplppalcmgaaGreatDoor
open Go.RowKit
theorem zCj.some {w:World} {A:oAx} {rs:List zGh} (h:zCj w A rs) (hn:rs≠[]):∃ b off,A=some ⟨b,off,none⟩/\b<w.heap.size/\∀ i,(h:i<rs.length)->w.cell? ⟨b,off+i,none⟩=some (.slice rs[i].ad rs[i].ss.length rs[i].cp):=by
 have hne:zXe rs≠[]:=by intro e;apply hn;have:=congrArg List.length e;rw [zXg] at this;exact List.eq_nil_of_length_eq_zero this
 obtain ⟨b,off,e,hb,hc⟩:=h.o hne;refine ⟨b,off,e,hb,fun i hi=>?_⟩;rw [hc i (by rw [zXg];exact hi)]
 simp [zXe]
theorem IdxNum (p:ByteArray->Bool) (A:oAx) (xs:List ByteArray) (c:Nat) (w:World) (h:zGx w A xs) (hl:xs.length<=1000000)
  (hp:∀ x∈xs,∀ W,Below w.heap.size w W->Calls Tryz.prog 67 #[.string x] W fun e w'=>e = .returned (.bool (p x))/\Below W.heap.size W w') :
  Calls Tryz.prog 104 #[.slice A xs.length c,.func (.func 67) #[] #[]] w fun e w'=>e = .returned (.int .i64 (zOl p xs))/\Below w.heap.size w w':=by
 have HM:=oH h;have HP:=oH hp;clear h hp
 go_enter Tryz.func104,Tryz.ntmps104
 go_wp2_with fail
 go_loopw [8] (fun iv wr=>∃ k:Nat,iv = .int .i64 (k:Int)/\k<=xs.length/\(∀ j,(hj:j<xs.length)->j<k->p xs[j]=false)/\Below w.heap.size w wr) (fun iv _=>xs.length-(intOf iv).toNat)
 ·exact ⟨0,rfl,oLx,fun j _ h=>absurd h oMx,bRx⟩
 obtain ⟨k,rfl,hk,hall,hbel⟩:=hrel;have HB:=oH hbel;have HALL:=oH hall;clear hbel hall
 by_cases hlt:k<xs.length
 ·obtain ⟨b,off,rfl,hb,hc⟩:=HM.out (by intro e;subst e;simp at hlt);have hci:=(HB.cell (p:=⟨b,off+k,none⟩) hb).trans (hc k hlt);have HC:=oH (HP.out _ (List.getElem_mem hlt) wr HB.out);have HN:=oH (fun (h:p xs[k]=true)=>zOm hlt h HALL.out)
  have HS:=oH (fun (h:p xs[k]=false) j (hj:j<xs.length) (hjk:j<k+1)=>show p xs[j]=false by
   rcases Nat.lt_or_ge j k with h1|h1
   ·exact HALL.out j hj h1
   obtain rfl:j=k:=by omega
   exact h)
  generalize p xs[k]=bb at *;clear hc;generalize xs[k]=s at *
  cases bb
  ·go_wp2_with fail;refine HC.mono ?_;rintro e w2 ⟨rfl,hb2⟩;have HB2:=bTx2 HB hb2;clear hb2;go_wp2_with fail;go_roundw
   ·exact ⟨k+1,by go_num,oMx,HS.out (by trivial),HB2.out⟩
   simp [intOf];omega
  go_wp2_with fail;refine HC.mono ?_;rintro e w2 ⟨rfl,hb2⟩;have HB2:=bTx2 HB hb2;clear hb2;go_wp2_with fail;go_ret
  exact ⟨by rw [HN.out (by trivial)];rfl,HB2.out⟩
 obtain rfl:k=xs.length:=by omega
 have E:=oH (zOo (p:=p) (l:=xs) (fun j hj=>HALL.out j hj hj));go_wp2_with fail;go_ret
 exact ⟨by rw [E.out];rfl,HB.out⟩
theorem ConNum (p:ByteArray->Bool) (A:oAx) (xs:List ByteArray) (c:Nat) (w:World) (h:zGx w A xs) (hl:xs.length<=1000000)
  (hp:∀ x∈xs,∀ W,Below w.heap.size w W->Calls Tryz.prog 67 #[.string x] W fun e w'=>e = .returned (.bool (p x))/\Below W.heap.size W w') :
  Calls Tryz.prog 66 #[.slice A xs.length c,.func (.func 67) #[] #[]] w fun e w'=>e = .returned (.bool (xs.any p))/\Below w.heap.size w w':=by
 have H:=oH (IdxNum p A xs c w h hl hp);have E:=oH (zOn p xs);generalize xs.any p=r at *;generalize zOl p xs=i at *;clear h hp
 go_enter Tryz.func66,Tryz.ntmps66
 go_wp2_with fail;refine H.mono ?_;rintro e w' ⟨rfl,hb2⟩;have HB2:=oH hb2;clear hb2;go_wp2_with fail;go_ret
 exact ⟨by rw [<-E.out];rfl,HB2.out⟩
theorem IdxSh1 (p:zGh->Bool) (A:oAx) (xs:List zGh) (c:Nat) (w:World) (h:zCj w A xs) (hl:xs.length<=1000000)
  (hp:∀ x∈xs,∀ W,Below w.heap.size w W->Calls Tryz.prog 101 #[.slice x.ad x.ss.length x.cp] W fun e w'=>e = .returned (.bool (p x))/\Below W.heap.size W w') :
  Calls Tryz.prog 126 #[.slice A xs.length c,.func (.func 101) #[] #[]] w fun e w'=>e = .returned (.int .i64 (zOl p xs))/\Below w.heap.size w w':=by
 have HM:=oH h;have HP:=oH hp;clear h hp
 go_enter Tryz.func126,Tryz.ntmps126
 go_wp2_with fail
 go_loopw [8] (fun iv wr=>∃ k:Nat,iv = .int .i64 (k:Int)/\k<=xs.length/\(∀ j,(hj:j<xs.length)->j<k->p xs[j]=false)/\Below w.heap.size w wr) (fun iv _=>xs.length-(intOf iv).toNat)
 ·exact ⟨0,rfl,oLx,fun j _ h=>absurd h oMx,bRx⟩
 obtain ⟨k,rfl,hk,hall,hbel⟩:=hrel;have HB:=oH hbel;have HALL:=oH hall;clear hbel hall
 by_cases hlt:k<xs.length
 ·obtain ⟨b,off,rfl,hb,hc⟩:=HM.some (by intro e;subst e;simp at hlt);have hci:=(HB.cell (p:=⟨b,off+k,none⟩) hb).trans (hc k hlt);have HC:=oH (HP.out _ (List.getElem_mem hlt) wr HB.out);have HN:=oH (fun (h:p xs[k]=true)=>zOm hlt h HALL.out)
  have HS:=oH (fun (h:p xs[k]=false) j (hj:j<xs.length) (hjk:j<k+1)=>show p xs[j]=false by
   rcases Nat.lt_or_ge j k with h1|h1
   ·exact HALL.out j hj h1
   obtain rfl:j=k:=by omega
   exact h)
  generalize p xs[k]=bb at *;clear hc;generalize xs[k]=r at *;obtain ⟨ad,cp,ss⟩:=r;simp only at hci HC
  cases bb
  ·go_wp2_with fail;refine HC.mono ?_;rintro e w2 ⟨rfl,hb2⟩;have HB2:=bTx2 HB hb2;clear hb2;go_wp2_with fail;go_roundw
   ·exact ⟨k+1,by go_num,oMx,HS.out (by trivial),HB2.out⟩
   simp [intOf];omega
  go_wp2_with fail;refine HC.mono ?_;rintro e w2 ⟨rfl,hb2⟩;have HB2:=bTx2 HB hb2;clear hb2;go_wp2_with fail;go_ret
  exact ⟨by rw [HN.out (by trivial)];rfl,HB2.out⟩
 obtain rfl:k=xs.length:=by omega
 have E:=oH (zOo (p:=p) (l:=xs) (fun j hj=>HALL.out j hj hj));go_wp2_with fail;go_ret
 exact ⟨by rw [E.out];rfl,HB.out⟩
theorem ConSh1 (p:zGh->Bool) (A:oAx) (xs:List zGh) (c:Nat) (w:World) (h:zCj w A xs) (hl:xs.length<=1000000)
  (hp:∀ x∈xs,∀ W,Below w.heap.size w W->Calls Tryz.prog 101 #[.slice x.ad x.ss.length x.cp] W fun e w'=>e = .returned (.bool (p x))/\Below W.heap.size W w') :
  Calls Tryz.prog 100 #[.slice A xs.length c,.func (.func 101) #[] #[]] w fun e w'=>e = .returned (.bool (xs.any p))/\Below w.heap.size w w':=by
 have H:=oH (IdxSh1 p A xs c w h hl hp);have E:=oH (zOn p xs);generalize xs.any p=r at *;generalize zOl p xs=i at *;clear h hp
 go_enter Tryz.func100,Tryz.ntmps100
 go_wp2_with fail;refine H.mono ?_;rintro e w' ⟨rfl,hb2⟩;have HB2:=oH hb2;clear hb2;go_wp2_with fail;go_ret
 exact ⟨by rw [<-E.out];rfl,HB2.out⟩
theorem IdxSh2 (g:Nat) (p:zGh->Bool) (A:oAx) (xs:List zGh) (c:Nat) (w:World) (h:zCj w A xs) (hl:xs.length<=1000000)
  (hp:∀ x∈xs,∀ W,Below w.heap.size w W->Calls Tryz.prog 102 #[.slice x.ad x.ss.length x.cp,.pointer (some ⟨g,0,none⟩)] W fun e w'=>e = .returned (.bool (p x))/\Below W.heap.size W w') :
  Calls Tryz.prog 126 #[.slice A xs.length c,.func (.func 102) #[] #[.pointer (some ⟨g,0,none⟩)]] w fun e w'=>e = .returned (.int .i64 (zOl p xs))/\Below w.heap.size w w':=by
 have HM:=oH h;have HP:=oH hp;clear h hp
 go_enter Tryz.func126,Tryz.ntmps126
 go_wp2_with fail
 go_loopw [8] (fun iv wr=>∃ k:Nat,iv = .int .i64 (k:Int)/\k<=xs.length/\(∀ j,(hj:j<xs.length)->j<k->p xs[j]=false)/\Below w.heap.size w wr) (fun iv _=>xs.length-(intOf iv).toNat)
 ·exact ⟨0,rfl,oLx,fun j _ h=>absurd h oMx,bRx⟩
 obtain ⟨k,rfl,hk,hall,hbel⟩:=hrel;have HB:=oH hbel;have HALL:=oH hall;clear hbel hall
 by_cases hlt:k<xs.length
 ·obtain ⟨b,off,rfl,hb,hc⟩:=HM.some (by intro e;subst e;simp at hlt);have hci:=(HB.cell (p:=⟨b,off+k,none⟩) hb).trans (hc k hlt);have HC:=oH (HP.out _ (List.getElem_mem hlt) wr HB.out);have HN:=oH (fun (h:p xs[k]=true)=>zOm hlt h HALL.out)
  have HS:=oH (fun (h:p xs[k]=false) j (hj:j<xs.length) (hjk:j<k+1)=>show p xs[j]=false by
   rcases Nat.lt_or_ge j k with h1|h1
   ·exact HALL.out j hj h1
   obtain rfl:j=k:=by omega
   exact h)
  generalize p xs[k]=bb at *;clear hc;generalize xs[k]=r at *;obtain ⟨ad,cp,ss⟩:=r;simp only at hci HC
  cases bb
  ·go_wp2_with fail;refine HC.mono ?_;rintro e w2 ⟨rfl,hb2⟩;have HB2:=bTx2 HB hb2;clear hb2;go_wp2_with fail;go_roundw
   ·exact ⟨k+1,by go_num,oMx,HS.out (by trivial),HB2.out⟩
   simp [intOf];omega
  go_wp2_with fail;refine HC.mono ?_;rintro e w2 ⟨rfl,hb2⟩;have HB2:=bTx2 HB hb2;clear hb2;go_wp2_with fail;go_ret
  exact ⟨by rw [HN.out (by trivial)];rfl,HB2.out⟩
 obtain rfl:k=xs.length:=by omega
 have E:=oH (zOo (p:=p) (l:=xs) (fun j hj=>HALL.out j hj hj));go_wp2_with fail;go_ret
 exact ⟨by rw [E.out];rfl,HB.out⟩
theorem ConSh2 (g:Nat) (p:zGh->Bool) (A:oAx) (xs:List zGh) (c:Nat) (w:World) (h:zCj w A xs) (hl:xs.length<=1000000)
  (hp:∀ x∈xs,∀ W,Below w.heap.size w W->Calls Tryz.prog 102 #[.slice x.ad x.ss.length x.cp,.pointer (some ⟨g,0,none⟩)] W fun e w'=>e = .returned (.bool (p x))/\Below W.heap.size W w') :
  Calls Tryz.prog 100 #[.slice A xs.length c,.func (.func 102) #[] #[.pointer (some ⟨g,0,none⟩)]] w fun e w'=>e = .returned (.bool (xs.any p))/\Below w.heap.size w w':=by
 have H:=oH (IdxSh2 g p A xs c w h hl hp);have E:=oH (zOn p xs);generalize xs.any p=r at *;generalize zOl p xs=i at *;clear h hp
 go_enter Tryz.func100,Tryz.ntmps100
 go_wp2_with fail;refine H.mono ?_;rintro e w' ⟨rfl,hb2⟩;have HB2:=oH hb2;clear hb2;go_wp2_with fail;go_ret
 exact ⟨by rw [<-E.out];rfl,HB2.out⟩
theorem IdxSh3 (p:zGh->Bool) (A:oAx) (xs:List zGh) (c:Nat) (w:World) (h:zCj w A xs) (hl:xs.length<=1000000)
  (hp:∀ x∈xs,∀ W,Below w.heap.size w W->Calls Tryz.prog 103 #[.slice x.ad x.ss.length x.cp] W fun e w'=>e = .returned (.bool (p x))/\Below W.heap.size W w') :
  Calls Tryz.prog 126 #[.slice A xs.length c,.func (.func 103) #[] #[]] w fun e w'=>e = .returned (.int .i64 (zOl p xs))/\Below w.heap.size w w':=by
 have HM:=oH h;have HP:=oH hp;clear h hp
 go_enter Tryz.func126,Tryz.ntmps126
 go_wp2_with fail
 go_loopw [8] (fun iv wr=>∃ k:Nat,iv = .int .i64 (k:Int)/\k<=xs.length/\(∀ j,(hj:j<xs.length)->j<k->p xs[j]=false)/\Below w.heap.size w wr) (fun iv _=>xs.length-(intOf iv).toNat)
 ·exact ⟨0,rfl,oLx,fun j _ h=>absurd h oMx,bRx⟩
 obtain ⟨k,rfl,hk,hall,hbel⟩:=hrel;have HB:=oH hbel;have HALL:=oH hall;clear hbel hall
 by_cases hlt:k<xs.length
 ·obtain ⟨b,off,rfl,hb,hc⟩:=HM.some (by intro e;subst e;simp at hlt);have hci:=(HB.cell (p:=⟨b,off+k,none⟩) hb).trans (hc k hlt);have HC:=oH (HP.out _ (List.getElem_mem hlt) wr HB.out);have HN:=oH (fun (h:p xs[k]=true)=>zOm hlt h HALL.out)
  have HS:=oH (fun (h:p xs[k]=false) j (hj:j<xs.length) (hjk:j<k+1)=>show p xs[j]=false by
   rcases Nat.lt_or_ge j k with h1|h1
   ·exact HALL.out j hj h1
   obtain rfl:j=k:=by omega
   exact h)
  generalize p xs[k]=bb at *;clear hc;generalize xs[k]=r at *;obtain ⟨ad,cp,ss⟩:=r;simp only at hci HC
  cases bb
  ·go_wp2_with fail;refine HC.mono ?_;rintro e w2 ⟨rfl,hb2⟩;have HB2:=bTx2 HB hb2;clear hb2;go_wp2_with fail;go_roundw
   ·exact ⟨k+1,by go_num,oMx,HS.out (by trivial),HB2.out⟩
   simp [intOf];omega
  go_wp2_with fail;refine HC.mono ?_;rintro e w2 ⟨rfl,hb2⟩;have HB2:=bTx2 HB hb2;clear hb2;go_wp2_with fail;go_ret
  exact ⟨by rw [HN.out (by trivial)];rfl,HB2.out⟩
 obtain rfl:k=xs.length:=by omega
 have E:=oH (zOo (p:=p) (l:=xs) (fun j hj=>HALL.out j hj hj));go_wp2_with fail;go_ret
 exact ⟨by rw [E.out];rfl,HB.out⟩
theorem ConSh3 (p:zGh->Bool) (A:oAx) (xs:List zGh) (c:Nat) (w:World) (h:zCj w A xs) (hl:xs.length<=1000000)
  (hp:∀ x∈xs,∀ W,Below w.heap.size w W->Calls Tryz.prog 103 #[.slice x.ad x.ss.length x.cp] W fun e w'=>e = .returned (.bool (p x))/\Below W.heap.size W w') :
  Calls Tryz.prog 100 #[.slice A xs.length c,.func (.func 103) #[] #[]] w fun e w'=>e = .returned (.bool (xs.any p))/\Below w.heap.size w w':=by
 have H:=oH (IdxSh3 p A xs c w h hl hp);have E:=oH (zOn p xs);generalize xs.any p=r at *;generalize zOl p xs=i at *;clear h hp
 go_enter Tryz.func100,Tryz.ntmps100
 go_wp2_with fail;refine H.mono ?_;rintro e w' ⟨rfl,hb2⟩;have HB2:=oH hb2;clear hb2;go_wp2_with fail;go_ret
 exact ⟨by rw [<-E.out];rfl,HB2.out⟩
theorem numbers1 (s:ByteArray) (w:World) (hs:s.size<=4000000000) (henv:Env w):Calls Tryz.prog 67 #[.string s] w fun e w'=>e = .returned (.bool (!vR s))/\Below w.heap.size w w':=by
 have H:=oH (zFd s w hs henv);generalize vR s=b at *;clear henv
 go_enter Tryz.func67,Tryz.ntmps67
 go_wp2_with fail;refine H.mono ?_;rintro e w' ⟨rfl,hb⟩;have HB:=oH hb;clear hb;go_wp2_with fail;go_ret
 exact ⟨rfl,HB.out⟩
theorem zTc (A:oAx) (ss:List ByteArray) (c:Nat) (w:World) (h:zGx w A ss) (hl:ss.length<=1000000) (hz:∀ s∈ss,s.size<=4000000000) (henv:Env w):Calls Tryz.prog 31 #[.slice A ss.length c] w fun e w'=>e = .returned (.bool (ss.all vR))/\Below w.heap.size w w':=by
 have H:=oH (ConNum (fun s => !vR s) A ss c w h hl (fun s hs W hW=>numbers1 s W (hz s hs) (henv.below hW)));have E:=oH (show (!ss.any (fun s => !vR s))=ss.all vR by rw [List.not_any_eq_all_not];simp);generalize ss.any (fun s => !vR s)=b at *;generalize ss.all vR=b2 at *;clear h henv hz
 go_enter Tryz.func31,Tryz.ntmps31
 go_wp2_with fail;refine H.mono ?_;rintro e w' ⟨rfl,hb⟩;have HB:=oH hb;clear hb;go_wp2_with fail;go_ret
 exact ⟨by rw [<-E.out];rfl,HB.out⟩
noncomputable def colsM (rs:List zGh):Nat:=match rs with|[]=>0|r::_=>r.ss.length
noncomputable def shapeE (rs:List zGh):Int :=
 if 12<rs.length\/rs.any (fun r=>decide (12<r.ss.length))=true then 3
 else if rs.any (fun r=>decide (r.ss.length≠colsM rs))=true then 5
 else if rs.any (fun r => !r.ss.all vR)=true then 1 else 0
structure zBb (rs:List zGh) (n:Nat):Prop where
 m:rs.length<=12
 n12:n<=12
 row:∀ r∈rs,r.ss.length=n
 txt:∀ r∈rs,∀ s∈r.ss,vR s=true/\s.size<=4000000000
 no:rs=[]->n=0
theorem shape1 (ad:oAx) (l cp:Nat) (w:World):Calls Tryz.prog 101 #[.slice ad l cp] w fun e w'=>e = .returned (.bool (decide (12<l)))/\Below w.heap.size w w':=by
 have E:=oH (show decide ((12:Int)<(l:Int))=decide (12<l) by rw [decide_eq_decide];omega)
 go_enter Tryz.func101,Tryz.ntmps101
 go_wp2_with fail;go_ret
 exact ⟨by rw [<-E.out];rfl,bRx⟩
theorem shape2 (ad:oAx) (l cp n g:Nat) (w:World) (hg:w.cell? ⟨g,0,none⟩=some (.int .i64 (n:Int))):Calls Tryz.prog 102 #[.slice ad l cp,.pointer (some ⟨g,0,none⟩)] w fun e w'=>e = .returned (.bool (decide (l≠n)))/\Below w.heap.size w w':=by
 have E:=oH (show ((l:Int) != (n:Int))=decide (l≠n) by rw [Bool.eq_iff_iff,bne_iff_ne,decide_eq_true_eq];omega)
 go_enter Tryz.func102,Tryz.ntmps102
 go_wp2_with fail;go_ret
 exact ⟨by rw [<-E.out];rfl,bRx⟩
theorem shape3 (A:oAx) (ss:List ByteArray) (c:Nat) (w:World) (h:zGx w A ss) (hl:ss.length<=1000000) (hz:∀ s∈ss,s.size<=4000000000) (henv:Env w):Calls Tryz.prog 103 #[.slice A ss.length c] w fun e w'=>e = .returned (.bool (!ss.all vR))/\Below w.heap.size w w':=by
 have H:=oH (zTc A ss c w h hl hz henv);generalize ss.all vR=b at *;clear h henv hz
 go_enter Tryz.func103,Tryz.ntmps103
 go_wp2_with fail;refine H.mono ?_;rintro e w' ⟨rfl,hb⟩;have HB:=oH hb;clear hb;go_wp2_with fail;go_ret
 exact ⟨rfl,HB.out⟩
theorem zGj (A:oAx) (rs:List zGh) (c n:Nat) (w:World) (h:zCj w A rs) (hf:zBb rs n) (henv:Env w):Calls Tryz.prog 65 #[.slice A rs.length c] w fun e w'=>e = .returned (.tuple #[.int .i64 (rs.length:Int),.int .i64 (n:Int),.int .i64 0])/\Below w.heap.size w w':=by
 have hm:=hf.m;have hn12:=hf.n12;have H1:=oH (fun W (hW:Below w.heap.size w W)=>ConSh1 (fun r=>decide (12<r.ss.length)) A rs c W (h.below hW) oMx (fun r _ W' _=>shape1 r.ad r.ss.length r.cp W'))
 have E1:rs.any (fun r=>decide (12<r.ss.length))=false:=by
  rw [List.any_eq_false]
  intro r hr
  rw [decide_eq_true_eq,hf.row r hr];omega
 have H2:=oH (fun W (hW:Below w.heap.size w W) (hg:W.cell? ⟨w.heap.size,0,none⟩=some (.int .i64 (n:Int))) (hl:w.heap.size<W.heap.size)=>ConSh2 w.heap.size (fun r=>decide (r.ss.length≠n)) A rs c W (h.below hW) oMx (fun r _ W' hW'=>shape2 r.ad r.ss.length r.cp n w.heap.size W' ((hW'.cell (p:=⟨w.heap.size,0,none⟩) hl).trans hg)))
 have E2:rs.any (fun r=>decide (r.ss.length≠n))=false:=by
  rw [List.any_eq_false]
  intro r hr
  rw [decide_eq_true_eq,hf.row r hr];omega
 have H3:=oH (fun W (hW:Below w.heap.size w W)=>ConSh3 (fun r => !r.ss.all vR) A rs c W (h.below hW) oMx (fun r hr W' hW'=>shape3 r.ad r.ss r.cp W' ((h.i r hr).below (hW.trans (hW'.mono hW.size))) (by rw [hf.row r hr];omega) (fun s hs=>(hf.txt r hr s hs).2) ((henv.below hW).below hW')))
 have E3:rs.any (fun r => !r.ss.all vR)=false:=by
  rw [List.any_eq_false]
  intro r hr
  rw [List.all_eq_true.2 (fun s hs=>(hf.txt r hr s hs).1)]
  simp
 rw [E1] at H1;rw [E2] at H2;rw [E3] at H3;have HM:=oH h;have HF:=oH hf;clear E1 E2 E3 h hf henv
 have h12:decide ((12:Int)<(rs.length:Int))=false:=by simp;omega
 go_enter Tryz.func65,Tryz.ntmps65
 go_wp2_with fail;clear h12;refine (H1.out _ (bA)).mono ?_;rintro e w1 ⟨rfl,hb⟩;have hk:=(Blk.new w 3 [.int .i64 0]).below hb;have HK:=oH hk;have HB:=oH (((Below.refl w.heap.size w).alloc lRx _).trans (hb.mono sMx));have k0:=hk.at_ (i:=0) rfl;have f0:=hk.fr 0;clear hb hk H1
 by_cases h0:0<rs.length
 ·obtain ⟨b,off,rfl,hbb,hc⟩:=HM.some (by intro e;subst e;simp at h0);have hc0:=(HB.cell (p:=⟨b,off+0,none⟩) hbb).trans (hc 0 h0);rw [HF.row _ (List.getElem_mem h0)] at hc0;generalize rs[0].ad=ad at *;generalize rs[0].cp=cp at *;rw [Nat.add_zero] at hc0;clear hc;go_wp2_with fail;have HK2:=oH (HK.set 0 (.int .i64 (n:Int)));have HB2:=oH (HB.setCell (p:=⟨w.heap.size,0,none⟩) lRx (.int .i64 (n:Int)));generalize w1.setCell ⟨w.heap.size,0,none⟩ (.int .i64 (n:Int))=w2 at *;have k2:=HK2.at_ (i:=0) rfl;refine (H2.out w2 HB2.out k2 HK2.lt).mono ?_;rintro e w3 ⟨rfl,hb⟩;have HK3:=oH (HK2.below hb);have HB3:=bTx2 HB2 hb;clear hb k2;go_wp2_with fail;refine (H3.out w3 HB3.out).mono ?_;rintro e w4 ⟨rfl,hb⟩;have HK4:=oH (HK3.below hb);have HB4:=bTx2 HB3 hb;have k4:=HK4.at_ (i:=0) rfl;have f4:=HK4.fr 0;clear hb;go_wp2_with fail
  go_region
  all_goals
   go_wp2_with fail;refine bodyPost_ret (v := .tuple #[.int .i64 (rs.length:Int),.int .i64 (n:Int),.int .i64 0]) (by simp [results,Tryz.results65,go_sem,k4]) rfl ⟨rfl,?_⟩
   first|exact HB4.setCell (p:=⟨w.heap.size,0,none⟩) lRx _|exact (HB4.setCell (p:=⟨w.heap.size,0,none⟩) lRx _).drew|exact (HB4.drew.setCell (p:=⟨w.heap.size,0,none⟩) lRx _)
 have hn0:n=0:=HF.no (List.eq_nil_of_length_eq_zero oMx);subst hn0;go_wp2_with fail;have HK2:=oH (HK.out);have HB2:=oH (HB.out);obtain ⟨w2,rfl⟩:=nWx w1;have k2:=HK2.at_ (i:=0) rfl;refine (H2.out w2 HB2.out k2 HK2.lt).mono ?_;rintro e w3 ⟨rfl,hb⟩;have HK3:=oH (HK2.below hb);have HB3:=bTx2 HB2 hb;clear hb k2;go_wp2_with fail;refine (H3.out w3 HB3.out).mono ?_;rintro e w4 ⟨rfl,hb⟩;have HK4:=oH (HK3.below hb);have HB4:=bTx2 HB3 hb;have k4:=HK4.at_ (i:=0) rfl;have f4:=HK4.fr 0;clear hb;go_wp2_with fail
 go_region
 all_goals
  go_wp2_with fail;refine bodyPost_ret (v := .tuple #[.int .i64 (rs.length:Int),.int .i64 ((0:Nat):Int),.int .i64 0]) (by simp [results,Tryz.results65,go_sem,k4]) rfl ⟨rfl,?_⟩
  first|exact HB4.setCell (p:=⟨w.heap.size,0,none⟩) lRx _|exact (HB4.setCell (p:=⟨w.heap.size,0,none⟩) lRx _).drew|exact (HB4.drew.setCell (p:=⟨w.heap.size,0,none⟩) lRx _)
theorem xFt (A:oAx) (rs:List zGh) (c n:Nat) (w:World) (h:zCj w A rs) (hf:zBb rs n) (henv:Env w):Calls Tryz.prog 56 #[.slice A rs.length c] w fun e w'=>e = .returned (.int .i64 (n:Int))/\Below w.heap.size w w':=by
 have H:=oH (zGj A rs c n w h hf henv);clear h henv
 go_enter Tryz.func56,Tryz.ntmps56
 go_wp2_with fail;refine H.mono ?_;rintro e w' ⟨rfl,hb⟩;have HB:=oH hb;clear hb;go_wp2_with fail;go_ret
 exact ⟨rfl,HB.out⟩
theorem xAo (A:oAx) (rs:List zGh) (c:Nat) (w:World) (h:zCj w A rs) (hf:zBb rs rs.length) (henv:Env w):Calls Tryz.prog 30 #[.slice A rs.length c] w fun e w'=>e = .returned (.int .i64 0)/\Below w.heap.size w w':=by
 have H:=oH (zGj A rs c rs.length w h hf henv);clear h henv hf
 go_enter Tryz.func30,Tryz.ntmps30
 go_wp2_with fail;refine H.mono ?_;rintro e w' ⟨rfl,hb⟩;have HB:=oH hb;clear hb;go_wp2_with fail;go_ret
 exact ⟨rfl,HB.out⟩
structure MatV where
 ad:Option Addr
 cp:Nat
 rs:List zGh
 n:Nat
def MatV.val (m:MatV):Value := .slice m.ad m.rs.length m.cp
theorem begin_ok (A:oAx) (c:Nat) (ms:List MatV) (w:World) (h:zHh w A (ms.map MatV.val)) (hm:∀ m∈ms,zCj w m.ad m.rs/\zBb m.rs m.n) (hl:ms.length<=1000) (henv:Env w) :
  Calls Tryz.prog 55 #[.slice A ms.length c] w fun e w'=>e = .returned (.int .i64 0)/\Below w.heap.size w w':=by
 have HV:=oH h;have HM:=oH hm;have HE:=oH henv;clear h hm henv
 go_enter Tryz.func55,Tryz.ntmps55
 go_wp2_with fail
 go_loopw [10] (fun iv wr=>∃ k:Nat,iv = .int .i64 (k:Int)/\k<=ms.length/\Below w.heap.size w wr) (fun iv _=>ms.length-(intOf iv).toNat)
 ·exact ⟨0,rfl,oLx,bRx⟩
 obtain ⟨k,rfl,hk,hb⟩:=hrel;have HB:=oH hb
 by_cases hlt:k<ms.length
 ·obtain ⟨b,off,rfl, -, -⟩:=HV.out (by intro e;rw [List.map_eq_nil_iff] at e;subst e;simp at hlt);have hci:=(HV.below hb).at_ (i:=k) (List.getElem?_eq_getElem (by simpa using hlt));rw [List.getElem_map] at hci;obtain ⟨h1,h2⟩:=HM.out _ (List.getElem_mem hlt);generalize ms[k]=m at *;obtain ⟨ad,cp,rs,n⟩:=m;have HSH:=oH (zGj ad rs cp n wr (h1.below hb) h2 (HE.below hb));simp only [MatV.val] at hci
  have hx1:(0:Int)<=(k:Int):=by omega
  have hx2:(k:Int)<(ms.length:Int):=by omega
  clear h1 h2 hb;go_wp2_with fail;refine HSH.mono ?_;rintro e w2 ⟨rfl,hb2⟩;have HB2:=bTx2 HB hb2;clear hb2;go_wp2_with fail;go_roundw
  ·exact ⟨k+1,by go_num,oMx,HB2.out⟩
  simp [intOf];omega
 obtain rfl:k=ms.length:=by omega
 go_wp2_with fail;go_ret
 exact ⟨rfl,HB.out⟩
theorem zIk (A:oAx) (rs:List zGh) (c n g:Nat) (w:World) (h:zCj w A rs) (hf:zBb rs n) (hg:w.cell? ⟨g,0,none⟩=some (.slice A rs.length c)) (henv:Env w) :
  Calls Tryz.prog 55 #[.slice (some ⟨g,0,none⟩) 1 1] w fun e w'=>e = .returned (.int .i64 0)/\Below w.heap.size w w' :=
 begin_ok (some ⟨g,0,none⟩) 1 [⟨A,c,rs,n⟩] w (fun _=>⟨g,0,rfl,World.block_lt_of_cell? _ _ hg,fun i hi=>by
  obtain rfl:i=0:=by simp at hi;omega
  simpa [MatV.val] using hg⟩) (fun m hm=>by simp at hm;subst hm;exact ⟨h,hf⟩) sMx henv
end Go.Proofs.YtbjaplppalcmgaaGreatDoor
