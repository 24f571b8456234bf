import Derived.Test.YtbjaplppalcmgaaGreatDoorZOW
set_option maxHeartbeats 16000000
set_option maxRecDepth 100000
set_option linter.unusedVariables false
set_option linter.unusedSimpArgs false
set_option linter.unusedSectionVars false
namespace Go.Proofs.YtbjaplppalcmgaaGreatDoor
open Go.RowKit
section
variable {rs:List zGh} {ss:List ByteArray} {A Ab:oAx} {c cb:Nat} {w:World}
theorem PSq (h:zCj w A rs) (hs:Sht rs) (henv:Env w):Calls Tryz.prog 30 #[.slice A rs.length c] w fun e w'=>e = .returned (.int .i64 (sqE rs))/\Below w.heap.size w w':=zDb A rs c w h hs.l1.1 hs.l1.2.1 hs.l1.2.2 henv
theorem PSol_bad (h:zCj w A rs) (hs:Sht rs) (hv:zGx w Ab ss) (hl:ss.length<=1000000) (hz:∀ s∈ss,s.size<=4000000000) (henv:Env w) (hbad:sqE rs≠0\/ss.length≠rs.length\/ss.all vR=false) :
  Calls Tryz.prog 13 #[.slice A rs.length c,.slice Ab ss.length cb] w fun e w'=>∃ ts er,zHo rs ss ts er/\zAu ts er w e w':=by
 have HSQ:=oH (PSq (c:=c) h hs henv);have HNU:=oH (fun W (hW:Below w.heap.size w W)=>zTc Ab ss cb W (hv.below hW) hl hz (henv.below hW));have HW1:=oH (fun (h:sqE rs≠0)=>(show zHo rs ss [] (sqE rs) from .inl ⟨h,rfl,rfl⟩));have HW2:=oH (fun (h:sqE rs=0) (h2:ss.length≠rs.length)=>(show zHo rs ss [] 5 from .inr (.inl ⟨h,h2,rfl,rfl⟩)));have HW3:=oH (fun (h:sqE rs=0) (h2:ss.length=rs.length) (h3:ss.all vR=false)=>(show zHo rs ss [] 1 from .inr (.inr (.inl ⟨h,h2,h3,rfl,rfl⟩))));have hsm:=hs.m;clear h hs hv hz henv;generalize zHo rs ss=WS at *;generalize sqE rs=q at *;generalize ss.all vR=bb at *
 go_enter Tryz.func13,Tryz.ntmps13
 go_wp2_with fail;refine HSQ.mono ?_;rintro e w1 ⟨rfl,hb1⟩;have HB1:=oH hb1;clear hb1
 by_cases h0:q=0
 ·have hq:(q != 0)=false:=by rw [h0];rfl
  have H0:=oH h0;clear h0
  by_cases h1:ss.length=rs.length
  ·have hnn:((ss.length:Int) != (rs.length:Int))=false:=by simp;omega
   have hbb:bb=false:=hbad.resolve_left (fun e=>e H0.out) |>.resolve_left (fun e=>e h1)
   subst hbb;have HW:=oH (HW3.out H0.out h1 rfl);clear hbad HW1 HW2 HW3 h1;go_wp2_with fail;refine (HNU.out w1 HB1.out).mono ?_;rintro e w2 ⟨rfl,hb2⟩;have HB2:=bTx2 HB1 hb2;clear hb2;go_wp2_with fail;go_ret2
   exact ⟨[],1,HW.out,zAu.err ⟨rfl,HB2.out⟩⟩
  have hnn:((ss.length:Int) != (rs.length:Int))=true:=by rw [bne_iff_ne];omega
  have HW:=oH (HW2.out H0.out h1);clear hbad HW1 HW2 HW3 h1;go_wp2_with fail;go_ret2
  exact ⟨[],5,HW.out,zAu.err ⟨rfl,HB1.out⟩⟩
 have hq:(q != 0)=true:=by rw [bne_iff_ne];exact h0
 have HW:=oH (HW1.out h0);clear hbad HW1 HW2 HW3 h0;go_wp2_with fail;go_ret2
 exact ⟨[],q,HW.out,zAu.err ⟨rfl,HB1.out⟩⟩
theorem PInv_bad (h:zCj w A rs) (hs:Sht rs) (henv:Env w) (hbad:sqE rs≠0):Calls Tryz.prog 16 #[.slice A rs.length c] w fun e w'=>∃ ts er,zHl rs ts er/\zAt ts er w e w':=by
 have HB0:=oH ((Below.refl w.heap.size w).alloc lRx (.cells #[.slice A rs.length c] 24));have HSQ:=oH (PSq (c:=c) (h.below HB0.out) hs (henv.below HB0.out));have HW:=oH (show zHl rs [] (sqE rs) from .inl ⟨hbad,rfl,rfl⟩)
 have hq:(sqE rs != 0)=true:=by rw [bne_iff_ne];exact hbad
 have hsm:=hs.m;clear h hs henv hbad;generalize zHl rs=WS at *;generalize sqE rs=q at *
 go_enter Tryz.func16,Tryz.ntmps16
 go_wp2_with fail;refine HSQ.mono ?_;rintro e w1 ⟨rfl,hb1⟩;have HB1:=bTx2 HB0 hb1;clear hb1;go_wp2_with fail;go_ret2
 exact ⟨[],q,HW.out,zAt.err ⟨rfl,HB1.out⟩⟩
theorem PDet_bad (h:zCj w A rs) (hs:Sht rs) (henv:Env w) (hbad:sqE rs≠0):Calls Tryz.prog 18 #[.slice A rs.length c] w fun e w'=>∃ s er,zHk rs s er/\e = .returned (.tuple #[.string s,.int .i64 er])/\Below w.heap.size w w':=by
 have HSQ:=oH (PSq (c:=c) h hs henv);have HW:=oH (show zHk rs ⟨#[]⟩ (sqE rs) from .inl ⟨hbad,rfl,rfl⟩)
 have hq:(sqE rs != 0)=true:=by rw [bne_iff_ne];exact hbad
 have hsm:=hs.m;clear h hs henv hbad;generalize zHk rs=WS at *;generalize sqE rs=q at *
 go_enter Tryz.func18,Tryz.ntmps18
 go_wp2_with fail;refine HSQ.mono ?_;rintro e w1 ⟨rfl,hb1⟩;have HB1:=oH hb1;clear hb1;go_wp2_with fail;go_ret2
 exact ⟨_,q,HW.out,rfl,HB1.out⟩
theorem zCx (h:zCj w A rs) (hs:Sht rs) (henv:Env w) (hbad:(zZm rs).2.2≠0):Calls Tryz.prog 20 #[.slice A rs.length c] w fun e w'=>∃ z er,zHn rs z er/\e = .returned (.tuple #[.int .i64 z,.int .i64 er])/\Below w.heap.size w w':=by
 have HB0:=oH ((Below.refl w.heap.size w).alloc lRx (.cells #[.slice A rs.length c] 24));have HBG:=oH (zCt A rs c w.heap.size (w.alloc (.cells #[.slice A rs.length c] 24)) (h.below HB0.out) hs.l1.1 hs.l1.2.1 hs.l1.2.2 ((Blk.new w 24 [.slice A rs.length c]).at_ (i:=0) rfl) (henv.below HB0.out));have HW:=oH (show zHn rs 0 (zZm rs).2.2 from .inl ⟨hbad,rfl,rfl⟩)
 have hq:((zZm rs).2.2 != 0)=true:=by rw [bne_iff_ne];exact hbad
 have hsm:=hs.m;clear h hs henv hbad;generalize zHn rs=WS at *;generalize (zZm rs).2.2=q at *
 go_enter Tryz.func20,Tryz.ntmps20
 go_wp2_with fail;refine HBG.mono ?_;rintro e w1 ⟨rfl,hb1⟩;have HB1:=bTx2 HB0 hb1;clear hb1;go_wp2_with fail;go_ret2
 exact ⟨0,q,HW.out,rfl,HB1.out⟩
theorem PKer_bad (h:zCj w A rs) (hs:Sht rs) (henv:Env w) (hbad:(zZm rs).2.2≠0):Calls Tryz.prog 22 #[.slice A rs.length c] w fun e w'=>∃ ts er,zHm rs ts er/\zAu ts er w e w':=by
 have HB0:=oH ((Below.refl w.heap.size w).alloc lRx (.cells #[.slice A rs.length c] 24));have HBG:=oH (zCt A rs c w.heap.size (w.alloc (.cells #[.slice A rs.length c] 24)) (h.below HB0.out) hs.l1.1 hs.l1.2.1 hs.l1.2.2 ((Blk.new w 24 [.slice A rs.length c]).at_ (i:=0) rfl) (henv.below HB0.out));have HW:=oH (show zHm rs [] (zZm rs).2.2 from .inl ⟨hbad,rfl,rfl⟩)
 have hq:((zZm rs).2.2 != 0)=true:=by rw [bne_iff_ne];exact hbad
 have hsm:=hs.m;clear h hs henv hbad;generalize zHm rs=WS at *;generalize (zZm rs).2.2=q at *
 go_enter Tryz.func22,Tryz.ntmps22
 go_wp2_with fail;refine HBG.mono ?_;rintro e w1 ⟨rfl,hb1⟩;have HB1:=bTx2 HB0 hb1;clear hb1;go_wp2_with fail;go_ret2
 exact ⟨[],q,HW.out,zAu.err ⟨rfl,HB1.out⟩⟩
end
section
variable {rs:List zGh} {ss:List ByteArray} {A Ab:oAx} {c cb:Nat} {w:World}
theorem xAm {rs:List zGh} {p q:Nat} {er:Int} (h:zZm rs=(p,q,er)):sqE rs=if er=0 then (if p=q then 0 else 5) else er:=by
 unfold sqE;rw [h]
theorem RSol_bad (h:zCj w A rs) (hs:Sht rs) (hv:zGx w Ab ss) (hl:ss.length<=1000000) (hz:∀ s∈ss,s.size<=4000000000) (hbad:sqE rs≠0\/ss.length≠rs.length\/ss.all vR=false) :
  Calls Tryz.prog 14 #[.slice A rs.length c,.slice Ab ss.length cb] w fun e w'=>∃ ts er,zHo rs ss ts er/\zAu ts er w e w':=by
 have HSH:=oH (zEw A rs c w h hs.l1.1 hs.l1.2.1 hs.l1.2.2);have HVA:=oH (fun (s:ByteArray) (hz:s.size<=4000000000) W=>zDw s W hz);have HS:=oH hv;have HZ:=oH hz;have HW1:=oH (fun (h:sqE rs≠0)=>(show zHo rs ss [] (sqE rs) from .inl ⟨h,rfl,rfl⟩));have HW2:=oH (fun (h:sqE rs=0) (h2:ss.length≠rs.length)=>(show zHo rs ss [] 5 from .inr (.inl ⟨h,h2,rfl,rfl⟩)));have HW3:=oH (fun (h:sqE rs=0) (h2:ss.length=rs.length) (h3:ss.all vR=false)=>(show zHo rs ss [] 1 from .inr (.inr (.inl ⟨h,h2,h3,rfl,rfl⟩))));have hsm:=hs.m;have HGD:=oH (fun (h:(zZm rs).2.2=0)=>(zZo h).1);obtain ⟨⟨p,q,er⟩,hsh⟩:∃ SS,zZm rs=SS:=⟨_,rfl⟩;have hsq:=xAm hsh;rw [hsh] at HSH HGD;have HSQ:=oH hsq;clear h hs hv hz hsh hsq;generalize zHo rs ss=WS at *;generalize sqE rs=sq at *
 have HAL:=oH (fun (h:∀ i,(hi:i<ss.length)->vR ss[i]=true)=>(show ss.all vR=true by
  rw [List.all_eq_true]
  intro s hs
  obtain ⟨i,hi,rfl⟩:=List.getElem_of_mem hs
  exact h i hi))
 have HAF:=oH (fun i (hi:i<ss.length) (h:vR ss[i]=false)=>(show ss.all vR=false by
  rw [List.all_eq_false]
  exact ⟨_,List.getElem_mem hi,by rw [h];decide⟩))
 have HBAD:=oH hbad;clear hbad
 go_enter Tryz.func14,Tryz.ntmps14
 go_wp2_with fail;refine HSH.mono ?_;rintro e w1 ⟨rfl,hb1⟩;have HB1:=oH hb1;clear hb1;simp only
 by_cases h0:er=0
 ·subst h0;have hg:=HGD.out rfl;injection hg with hp hg;injection hg with hq _;subst hp;have HC:=oH hq;clear hq
  by_cases h1:rs.length=q
  ·have H1:=oH h1
   have hpq:((rs.length:Int) != (q:Int))=false:=by simp;omega
   have HQ0:=oH (show sq=0 by rw [HSQ.out,if_pos rfl,if_pos h1])
   by_cases h2:ss.length=rs.length
   ·have hnn:((ss.length:Int) != (rs.length:Int))=false:=by simp;omega
    have H2:=oH h2;clear h1 h2;go_wp2_with fail;clear hpq hnn
    go_loopw [37] (fun iv wr=>∃ i:Nat,iv = .int .i64 (i:Int)/\i<=ss.length/\(∀ a,(ha:a<ss.length)->a<i->vR ss[a]=true)/\Below w.heap.size w wr) (fun iv _=>ss.length-(intOf iv).toNat)
    ·exact ⟨0,rfl,oLx,fun a _ h=>absurd h (Nat.not_lt_zero a),HB1.out⟩
    obtain ⟨i,rfl,him,hall,hb⟩:=hrel;have HB:=oH hb;have HL:=oH hall;clear hb hall
    by_cases hlt:i<ss.length
    ·obtain ⟨b,off,rfl,hbb,hc⟩:=HS.out (by intro e;subst e;simp at hlt);have hci:=(HB.cell (p:=⟨b,off+i,none⟩) hbb).trans (hc i hlt);have HVI:=oH (HVA.out ss[i] (HZ.out _ (List.getElem_mem hlt)) wr);have HAI:=oH (HAF.out i hlt)
     have HNX:=oH (fun (h:vR ss[i]=true)=>(show ∀ a,(ha:a<ss.length)->a<i+1->vR ss[a]=true from fun a ha h1=>by
      rcases Nat.lt_or_ge a i with h2|h2
      ·exact HL.out a ha h2
      obtain rfl:a=i:=by omega
      exact h))
     generalize vR ss[i]=vb at *;generalize ss[i]=s at *
     have x1:(0:Int)<=(i:Int):=by omega
     have x2:(i:Int)<(ss.length:Int):=by omega
     clear hc;go_wp2_with fail;refine HVI.mono ?_;rintro e w2 ⟨rfl,hb2⟩;have HB2:=bTx2 HB hb2;clear hb2 hci
     cases vb
     ·have HWW:=oH (HW3.out HQ0.out H2.out (HAI.out rfl));go_wp2_with fail;go_ret2
      exact ⟨[],1,HWW.out,zAu.err ⟨rfl,HB2.out⟩⟩
     have HN9:=oH (HNX.out rfl);go_wp2_with fail;go_roundw
     ·exact ⟨i+1,by go_num,oMx,HN9.out,HB2.out⟩
     simp [intOf];omega
    exfalso
    have h9:=HAL.out fun a ha=>HL.out a ha oMx
    rcases HBAD.out with h|h|h
    ·exact h HQ0.out
    ·exact h H2.out
    rw [h] at h9;cases h9
   have hnn:((ss.length:Int) != (rs.length:Int))=true:=by rw [bne_iff_ne];omega
   have HWW:=oH (HW2.out HQ0.out h2);clear h1 h2;go_wp2_with fail;go_ret2
   exact ⟨[],5,HWW.out,zAu.err ⟨rfl,HB1.out⟩⟩
  have hpq:((rs.length:Int) != (q:Int))=true:=by rw [bne_iff_ne];omega
  have hs5:sq=5:=by rw [HSQ.out,if_pos rfl,if_neg h1]
  have HWW:=oH (HW1.out (by rw [hs5];decide));have H5:=oH hs5;clear h1 hs5;go_wp2_with fail;go_ret2
  exact ⟨[],5,by rw [<-H5.out];exact HWW.out,zAu.err ⟨rfl,HB1.out⟩⟩
 have hq:(er != 0)=true:=by rw [bne_iff_ne];exact h0
 have hs5:sq=er:=by rw [HSQ.out,if_neg h0]
 have HWW:=oH (HW1.out (by rw [hs5];exact h0));have H5:=oH hs5;clear h0 hs5;go_wp2_with fail;go_ret2
 exact ⟨[],er,by rw [<-H5.out];exact HWW.out,zAu.err ⟨rfl,HB1.out⟩⟩
theorem RInv_bad (h:zCj w A rs) (hs:Sht rs) (hbad:sqE rs≠0):Calls Tryz.prog 17 #[.slice A rs.length c] w fun e w'=>∃ ts er,zHl rs ts er/\zAt ts er w e w':=by
 have HSH:=oH (zEw A rs c w h hs.l1.1 hs.l1.2.1 hs.l1.2.2);have HW:=oH (show zHl rs [] (sqE rs) from .inl ⟨hbad,rfl,rfl⟩);have hsm:=hs.m;obtain ⟨⟨p,q,er⟩,hsh⟩:∃ SS,zZm rs=SS:=⟨_,rfl⟩;have hsq:=xAm hsh;rw [hsh] at HSH;rw [hsq] at HW hbad;clear h hs hsh hsq;generalize zHl rs=WS at *
 go_enter Tryz.func17,Tryz.ntmps17
 go_wp2_with fail;refine HSH.mono ?_;rintro e w1 ⟨rfl,hb1⟩;have HB1:=oH hb1;clear hb1 HSH;simp only
 by_cases h0:er=0
 ·subst h0
  by_cases h1:p=q
  ·exact absurd (by rw [if_pos rfl,if_pos h1]) hbad
  have hpq:((p:Int) != (q:Int))=true:=by rw [bne_iff_ne];omega
  rw [if_pos rfl,if_neg h1] at HW;replace HW:=oH HW.out;clear hbad h1;go_wp2_with fail;go_ret2
  exact ⟨[],5,HW.out,zAt.err ⟨rfl,HB1.out⟩⟩
 have hq:(er != 0)=true:=by rw [bne_iff_ne];exact h0
 rw [if_neg h0] at HW;replace HW:=oH HW.out;clear hbad h0;go_wp2_with fail;go_ret2
 exact ⟨[],er,HW.out,zAt.err ⟨rfl,HB1.out⟩⟩
theorem RDet_bad (h:zCj w A rs) (hs:Sht rs) (hbad:sqE rs≠0):Calls Tryz.prog 19 #[.slice A rs.length c] w fun e w'=>∃ s er,zHk rs s er/\e = .returned (.tuple #[.string s,.int .i64 er])/\Below w.heap.size w w':=by
 have HSH:=oH (zEw A rs c w h hs.l1.1 hs.l1.2.1 hs.l1.2.2);have HW:=oH (show zHk rs ⟨#[]⟩ (sqE rs) from .inl ⟨hbad,rfl,rfl⟩);have hsm:=hs.m;obtain ⟨⟨p,q,er⟩,hsh⟩:∃ SS,zZm rs=SS:=⟨_,rfl⟩;have hsq:=xAm hsh;rw [hsh] at HSH;rw [hsq] at HW hbad;clear h hs hsh hsq;generalize zHk rs=WS at *
 go_enter Tryz.func19,Tryz.ntmps19
 go_wp2_with fail;refine HSH.mono ?_;rintro e w1 ⟨rfl,hb1⟩;have HB1:=oH hb1;clear hb1 HSH;simp only
 by_cases h0:er=0
 ·subst h0
  by_cases h1:p=q
  ·exact absurd (by rw [if_pos rfl,if_pos h1]) hbad
  have hpq:((p:Int) != (q:Int))=true:=by rw [bne_iff_ne];omega
  rw [if_pos rfl,if_neg h1] at HW;replace HW:=oH HW.out;clear hbad h1;go_wp2_with fail;go_ret2
  exact ⟨_,5,HW.out,rfl,HB1.out⟩
 have hq:(er != 0)=true:=by rw [bne_iff_ne];exact h0
 rw [if_neg h0] at HW;replace HW:=oH HW.out;clear hbad h0;go_wp2_with fail;go_ret2
 exact ⟨_,er,HW.out,rfl,HB1.out⟩
theorem zEp (h:zCj w A rs) (hs:Sht rs) (hbad:(zZm rs).2.2≠0):Calls Tryz.prog 21 #[.slice A rs.length c] w fun e w'=>∃ z er,zHn rs z er/\e = .returned (.tuple #[.int .i64 z,.int .i64 er])/\Below w.heap.size w w':=by
 have HSH:=oH (zEw A rs c w h hs.l1.1 hs.l1.2.1 hs.l1.2.2);have HW:=oH (show zHn rs 0 (zZm rs).2.2 from .inl ⟨hbad,rfl,rfl⟩);have hsm:=hs.m;obtain ⟨⟨p,q,er⟩,hsh⟩:∃ SS,zZm rs=SS:=⟨_,rfl⟩;rw [hsh] at HSH HW hbad;simp only at HW hbad
 have hq:(er != 0)=true:=by rw [bne_iff_ne];exact hbad
 clear h hs hsh hbad;generalize zHn rs=WS at *
 go_enter Tryz.func21,Tryz.ntmps21
 go_wp2_with fail;refine HSH.mono ?_;rintro e w1 ⟨rfl,hb1⟩;have HB1:=oH hb1;clear hb1 HSH;simp only;go_wp2_with fail;go_ret2
 exact ⟨0,er,HW.out,rfl,HB1.out⟩
theorem RKer_bad (h:zCj w A rs) (hs:Sht rs) (hbad:(zZm rs).2.2≠0):Calls Tryz.prog 23 #[.slice A rs.length c] w fun e w'=>∃ ts er,zHm rs ts er/\zAu ts er w e w':=by
 have HSH:=oH (zEw A rs c w h hs.l1.1 hs.l1.2.1 hs.l1.2.2);have HW:=oH (show zHm rs [] (zZm rs).2.2 from .inl ⟨hbad,rfl,rfl⟩);have hsm:=hs.m;obtain ⟨⟨p,q,er⟩,hsh⟩:∃ SS,zZm rs=SS:=⟨_,rfl⟩;rw [hsh] at HSH HW hbad;simp only at HW hbad
 have hq:(er != 0)=true:=by rw [bne_iff_ne];exact hbad
 clear h hs hsh hbad;generalize zHm rs=WS at *
 go_enter Tryz.func23,Tryz.ntmps23
 go_wp2_with fail;refine HSH.mono ?_;rintro e w1 ⟨rfl,hb1⟩;have HB1:=oH hb1;clear hb1 HSH;simp only;go_wp2_with fail;go_ret2
 exact ⟨[],er,HW.out,zAu.err ⟨rfl,HB1.out⟩⟩
end
def zAs (i:Nat) (xs:List Value):Prop:=xs.length=i/\∀ y∈xs,∃ ad cp,y = .slice ad 0 cp
theorem zAs.nil:zAs 0 []:=⟨rfl,fun y hy=>by cases hy⟩
theorem zAs.push {i:Nat} {xs:List Value} (h:zAs i xs) (ad:oAx) (cp:Nat):zAs (i+1) (xs++[.slice ad 0 cp]):=⟨by rw [List.length_append,h.1];rfl,fun y hy=>by
 rcases List.mem_append.1 hy with h1|h1
 ·exact h.2 y h1
 rw [List.mem_singleton] at h1
 exact ⟨ad,cp,h1⟩⟩
theorem zAs.at_ {i:Nat} {xs:List Value} (h:zAs i xs) {j:Nat} (hj:j<i):∃ ad cp,xs[j]? = some (.slice ad 0 cp):=by
 obtain ⟨ad,cp,e⟩:=h.2 _ (List.getElem_mem (show j<xs.length by rw [h.1];exact hj));exact ⟨ad,cp,by rw [List.getElem?_eq_getElem (by rw [h.1];exact hj),e]⟩
theorem own_emp {B e i c:Nat} {w:World} {A:oAx} {xs:List Value} (h:w.ownsRow B e 1 (.slice A i c) i xs) (hx:zAs i xs):Emp w A i:=by
 rcases Nat.eq_zero_or_pos i with h0|h0
 ·exact .inl h0
 obtain ⟨g,rfl⟩:=zUi h h0;refine .inr ⟨g,0,rfl,(h.lt g rfl).2,fun j hj=>?_⟩;obtain ⟨ad,cp,hj2⟩:=hx.at_ hj;exact ⟨ad,cp,by rw [Nat.zero_add,h.cellAt j oMx,hj2]⟩
theorem POf_z (A:oAx) (c m:Nat) (w:World) (h:Emp w A m) (hm:m<=12) (henv:Env w) :
  Calls Tryz.prog 34 #[.slice A m c] w fun e w'=>∃ (R:oAx) (cR:Nat) (dv:zCq),e = .returned (.agg #[.bool dv.nb,.slice dv.ad dv.l dv.c,.slice R m cR])/\zBs w' dv.val 1/\Emp w' R m/\Below w.heap.size w w':=by
 obtain ⟨i0,hi,hz0,hz1,hz2⟩:=info_parts Tryz.infoFrs;obtain ⟨j0,hj,hy0,hy1,hy2⟩:=info_parts Tryz.infoNums;have HM:=oH h;have HE:=oH henv;clear h henv
 go_enter Tryz.func34,Tryz.ntmps34
 go_wp2_with fail;refine (zCb _).mono ?_;rintro e w2 ⟨v2,rfl,hv2,hb2⟩;have HV2:=oH hv2;have HB2:=oH (((Below.refl w.heap.size w).alloc lRx (.cells #[.bool false,.slice none 0 0,.slice none 0 0] 65)).trans (hb2.mono sMx));have HR2:=oH ((Blk.new w 65 [.bool false,.slice none 0 0,.slice none 0 0]).below hb2);obtain ⟨na,A1,l1,c1,rfl⟩:=hv2.slice;clear hv2 hb2;go_wp2_with fail;have HX0:=oH (Blk.new w2 65 [.bool na,.slice A1 l1 c1,.slice none 0 0]);have HBb:=oH ((Below.refl w2.heap.size w2).alloc lRx (.cells #[.bool na,.slice A1 l1 c1,.slice none 0 0] 65));have HSb:=oH (show (w2.alloc (.cells #[.bool na,.slice A1 l1 c1,.slice none 0 0] 65)).heap.size=w2.heap.size+1 by simp);have hxw:w.heap.size<w2.heap.size:=HR2.lt;generalize w2.alloc (.cells #[.bool na,.slice A1 l1 c1,.slice none 0 0] 65)=wb at *;obtain ⟨x,hx⟩:=eXx (w2.heap.size);rw [hx] at HX0 HBb HSb hxw ⊢;have HXE:=oH hx;clear hx
 go_loopw [4,6,7,9,21] (fun v _ _ _ iv wr=>∃ (i:Nat) (xs:List Value),iv = .int .i64 (i:Int)/\i<=m/\zAs i xs/\wr.ownsRow (x+1) 71 1 v i xs/\Below wb.heap.size wb wr) (fun _ _ _ _ iv _=>m-(intOf iv).toNat)
 ·exact ⟨0,[],rfl,oLx,zAs.nil,World.ownsRow_nil _ _ _ _,bRx⟩
 obtain ⟨i,xs,rfl,him,hem,hown,hbr⟩:=hrel;obtain ⟨wi,rfl⟩:=nWx wr;obtain ⟨AV,cV,rfl, -⟩:=zUj hown;have HO:=oH hown;have HX:=oH hem;have HBW:=oH (HBb.trans (hbr.mono (by rw [HSb.out];omega)));have HBr:=oH (HB2.trans (HBW.mono oMx));have HBI:=oH hbr;have hsz:=hbr.size;rw [HSb.out] at hsz;clear hbr hown hem
 by_cases hlt:i<m
 ·obtain ⟨b,off,rfl,hb1,hc⟩:=HM.resolve_left oMx;obtain ⟨ad,cp,hcc⟩:=hc i hlt;have cR:=(HBr.cell (p:=⟨b,off+i,none⟩) hb1).trans hcc;have HFL:=oH (zAx ad [] cp wi (fun h=>absurd rfl h) dCx (fun s hs=>by cases hs) (HE.below HBr.out))
  have x1:(0:Int)<=(i:Int):=by omega
  have x2:(i:Int)<(m:Int):=by omega
  clear hc hcc;go_wp2_with fail;refine HFL.mono ?_;rintro e w3 ⟨v3,us,rfl,hown3, -,hfr,hb3⟩;obtain rfl:us=[]:=List.eq_nil_of_length_eq_zero (by have:=hfr.1;simpa using this);obtain ⟨A3,c3,rfl, -⟩:=zUj hown3;have HB3:=oH (HBI.trans (hb3.mono (by rw [HSb.out];omega)));have HO3:=oH (zUm HO.out hb3);have hs3:=hb3.size;simp only [List.length_nil] at *;clear hown3 hfr hb3 cR;go_wp2_with fail
  go_loopw [9,29] (fun _ kv wr=>kv = .int .i64 (0:Int)/\w3=wr) (fun _ _ _=>0)
  ·exact ⟨rfl,rfl⟩
  obtain ⟨rfl,rfl⟩:=hrel
  go_wp2_with (at_builtin;refine wpList_append_own _ rfl _ _ 112 rfl (x+1) 71 i0 (.slice none 0 0) 1 24 Tryz.underlying112 hi hz0 hz1 hz2 rfl dCx _ _ _ rfl (HO3.alloc _) ⟨w3.heap.size,0,none⟩ 1 1 [_] rfl rfl zTu zZu (by unfold maxLen;omega) oMx (by simp;omega) ?_)
  intro v' w6 hown6 hgrow6 _
  have HB6:=oH (zIl HB3.out HB3.size hgrow6 fun k hk=>by rw [HSb.out];exact (HO3.lt k hk).1);have HO6:=oH hown6;have HX6:=oH (HX.push A3 c3);clear hown6 hgrow6;go_wp2_with fail;go_roundw
  ·exact ⟨i+1,_,by go_num,oMx,HX6.out,HO6.out,HB6.out⟩
  simp [intOf];omega
 obtain rfl:i=m:=by omega
 have x2:¬(i:Int)<(i:Int):=by omega
 have HBK:=oH (HX0.below HBI.out);go_wp2_with fail
 go_loopw [47] (fun iv wr=>∃ (k:Nat) (C:Value) (ys:List Value),iv = .int .i64 (k:Int)/\k<=i/\zAs k ys/\wr.ownsRow (x+1) 67 1 C k ys/\wr.ownsRow (x+1) 71 1 (.slice AV i cV) i xs/\Blk wr x 65 [.bool na,.slice A1 l1 c1,C]/\Below w2.heap.size w2 wr/\x+1<=wr.heap.size) (fun iv _=>i-(intOf iv).toNat)
 ·exact ⟨0,.slice none 0 0,[],rfl,oLx,zAs.nil,World.ownsRow_nil _ _ _ _,HO.out,HBK.out,by rw [HXE.out];exact HBW.out,hsz⟩
 obtain ⟨k,C,ys,rfl,hki,hem,hown,hrows,hbk,hbel,hsk⟩:=hrel;obtain ⟨wo,rfl⟩:=nWx wr;obtain ⟨AC,cC,rfl, -⟩:=zUj hown
 by_cases hlk:k<i
 ·obtain ⟨R1,rfl⟩:=zUi hrows oMx;obtain ⟨ad,cp,hcy⟩:=HX.at_ hlk;have c0:wo.cell? ⟨R1,k,none⟩=some (.slice ad 0 cp):=(hrows.cellAt k oMx).trans hcy
  have hmk:∀ w,(Instr.makeSlice 67 (.int .i64 0) (.int .i64 0)).run Tryz.prog w = .ok (.slice (some ⟨w.heap.size,0,none⟩) 0 0) (w.alloc (.cells #[] 62)):=fun w=>zYl 0 oMx w
  have y1:(0:Int)<=(k:Int):=by omega
  have y2:(k:Int)<(i:Int):=by omega
  have hb0:Below wo.heap.size wo (wo.alloc (.cells #[] 62)):=bA;have HC0:=oH (zUm hown hb0);have HR0:=oH (zUm hrows hb0);have HK0:=oH (hbk.below hb0);have HB0:=bTx2 hbel hb0;have hs0:x+1<=(wo.alloc (.cells #[] 62)).heap.size:=Nat.le_trans hsk hb0.size;have HEK:=oH hem;clear hown hrows hbk hbel hb0 hcy hem hsk;go_wp2_with fail;clear hmk c0;generalize wo.alloc (.cells #[] 62)=w0 at *;generalize wo.heap.size=go at *
  go_loopw [56] (fun jv wr=>jv = .int .i64 (0:Int)/\w0=wr) (fun _ _=>0)
  ·exact ⟨rfl,rfl⟩
  obtain ⟨rfl,rfl⟩:=hrel;have k2:=HK0.at_ (i:=2) rfl
  go_wp2_with (at_builtin;refine wpList_append_own _ rfl _ _ 63 rfl (x+1) 67 j0 (.slice none 0 0) 1 24 Tryz.underlying63 hj hy0 hy1 hy2 rfl dCx _ _ _ rfl (HC0.alloc _) ⟨w0.heap.size,0,none⟩ 1 1 [_] rfl rfl zTu zZu (by unfold maxLen;omega) oMx (by simp;omega) ?_)
  intro v' w6 hown6 hgrow6 _
  obtain ⟨A6,c6,rfl, -⟩:=zUj hown6
  have hlo:∀ k',(Value.slice AC k cC).ownBlock=some k'->x+1<=k':=fun k' hk'=>(HC0.lt k' hk').1
  have hbl:Below w2.heap.size w2 w6:=zIl HB0.out HB0.size hgrow6 fun k' hk'=>by have:=hlo k' hk';rw [HXE.out];omega
  have hne:some x≠(Value.slice AC k cC).ownBlock:=fun e=>by have:=hlo x e.symm;omega
  have hbk:=(HK0.alloc (.cells #[.slice (some ⟨go,0,none⟩) 0 0] 67)).grown hgrow6 hne;have hrw:=(HR0.alloc (.cells #[.slice (some ⟨go,0,none⟩) 0 0] 67)).kept hgrow6 (zUr (HR0.alloc (.cells #[.slice (some ⟨go,0,none⟩) 0 0] 67)) (HC0.alloc _) dCx);have k7:=hbk.at_ (i:=2) rfl;have f7:=hbk.fr 2
  have hs6:x+1<=w6.heap.size:=by have:=hgrow6.size;simp at this;omega
  have HK6:=oH (hbk.set 2 (.slice A6 (k+1) c6));have HC6:=oH (ownsRow_setCell_below hown6 (a:=⟨x,2,none⟩) (Nat.lt_succ_self x) (.slice A6 (k+1) c6));have HR6:=oH (ownsRow_setCell_below hrw (a:=⟨x,2,none⟩) (Nat.lt_succ_self x) (.slice A6 (k+1) c6));have HB6:=oH (hbl.setCell (p:=⟨x,2,none⟩) (by show w2.heap.size<=x;rw [HXE.out];exact lRx) (.slice A6 (k+1) c6));have HX6:=oH (HEK.push (some ⟨go,0,none⟩) 0);clear hown6 hgrow6 hlo hbl hne hbk hrw k2;go_wp2_with fail;go_roundw
  ·exact ⟨k+1,_,_,by go_num,oMx,HX6.out,HC6.out,HR6.out,HK6.out,HB6.out,by simp;omega⟩
  simp [intOf];omega
 obtain rfl:k=i:=by omega
 have k0:=hbk.at_ (i:=0) rfl;have k1:=hbk.at_ (i:=1) rfl;have k2:=hbk.at_ (i:=2) rfl;have hr:=HR2.below hbel;have r0:=hr.at_ (i:=0) rfl;have r1:=hr.at_ (i:=1) rfl;have r2:=hr.at_ (i:=2) rfl;have f0:=hr.fr 0;have f1:=hr.fr 1;have f2:=hr.fr 2;have HV:=oH (HV2.below hbel);have HBf:=oH (HB2.trans (hbel.mono (by rw [HXE.out];omega)));have HRb:=oH hr;have HOC:=oH hown;have HEC:=oH hem;clear hr hown hrows hbk hbel hem;go_wp2_with fail;refine bodyPost_ret (v := .agg #[.bool na,.slice A1 l1 c1,.slice AC k cC]) (by simp [results,Tryz.results34,go_sem,r0,r1,r2]) rfl ?_;have b1:=HRb.set 0 (.bool na);have b2:=b1.set 1 (.slice A1 l1 c1);refine ⟨AC,cC,⟨na,A1,l1,c1⟩,rfl,((HV.box HRb.out xCy (zOc w.heap.size 0 _)).box b1 xCy (zOc w.heap.size 1 _)).box b2 xCy (zOc w.heap.size 2 _),own_emp (ownsRow_setCell_below (ownsRow_setCell_below (ownsRow_setCell_below HOC.out (a:=⟨w.heap.size,0,none⟩) (by show w.heap.size<x+1;omega) _) (a:=⟨w.heap.size,1,none⟩) (by show w.heap.size<x+1;omega) _) (a:=⟨w.heap.size,2,none⟩) (by show w.heap.size<x+1;omega) _) HEC.out,((HBf.setCell (p:=⟨w.heap.size,0,none⟩) lRx _).setCell (p:=⟨w.heap.size,1,none⟩) lRx _).setCell (p:=⟨w.heap.size,2,none⟩) lRx _⟩
theorem zCu (dv:zCq) (R:oAx) (c m:Nat) (w:World) (h:Emp w R m) (hm:m<=12) (hd:zBs w dv.val 1) (henv:Env w) :
  Calls Tryz.prog 69 #[.agg #[.bool dv.nb,.slice dv.ad dv.l dv.c,.slice R m c]] w fun e w'=>e = .returned (.int .i64 1)/\Below w.heap.size w w':=by
 have HM:=oH h;have HB1:=oH ((Below.refl w.heap.size w).alloc lRx (.cells #[.bool dv.nb,.slice dv.ad dv.l dv.c,.slice R m c] 65));have HD:=oH (zAm (.agg #[.bool dv.nb,.slice dv.ad dv.l dv.c]) 1 _ (show zBs _ _ 1 from hd.below HB1.out) (by have:=zBz;unfold LL at this;omega) (henv.below HB1.out).tab);have hbk:=Blk.new w 65 [.bool dv.nb,.slice dv.ad dv.l dv.c,.slice R m c];have H1:=oH (show ((Lib.nDigits (1:Int).natAbs:Nat):Int)=1 by rw [show (1:Int).natAbs=1 from rfl,Lib.nDigits_small dCx];rfl);clear h hd henv
 go_enter Tryz.func69,Tryz.ntmps69
 go_wp2_with fail;refine HD.mono ?_;rintro e w2 ⟨rfl,hb2⟩;rw [H1.out];have k2:=(hbk.below hb2).at_ (i:=2) rfl;have HB2:=bTx2 HB1 hb2;clear hbk hb2;go_wp2_with fail;clear k2
 go_loopw [3,14] (fun v iv wr=>∃ i:Nat,iv = .int .i64 (i:Int)/\i<=m/\v = .int .i64 1/\Below w.heap.size w wr) (fun _ iv _=>m-(intOf iv).toNat)
 ·exact ⟨0,rfl,oLx,rfl,HB2.out⟩
 obtain ⟨i,rfl,hi,rfl,hb⟩:=hrel;obtain ⟨wi,rfl⟩:=nWx wr;have HB:=oH hb;clear hb
 by_cases hlt:i<m
 ·obtain ⟨b,off,rfl,hb1,hc⟩:=HM.resolve_left oMx;obtain ⟨ad,cp,hcc⟩:=hc i hlt;have cR:=(HB.cell (p:=⟨b,off+i,none⟩) hb1).trans hcc
  have hx1:(0:Int)<=(i:Int):=by omega
  have hx2:(i:Int)<(m:Int):=by omega
  clear hc hcc;go_wp2_with fail;clear cR
  go_loopw [3,20] (fun v jv wr=>jv = .int .i64 (0:Int)/\v = .int .i64 1/\wi=wr) (fun _ _ _=>0)
  ·exact ⟨rfl,rfl,rfl⟩
  obtain ⟨rfl,rfl,rfl⟩:=hrel;go_wp2_with fail;go_roundw
  ·exact ⟨i+1,by go_num,oMx,rfl,HB.out⟩
  simp [intOf];omega
 have hx2:¬(i:Int)<(m:Int):=by omega
 go_wp2_with fail;go_ret
 exact ⟨rfl,HB.out⟩
theorem zCw (A:oAx) (c m:Nat) (w:World) (h:Emp w A m) (hm:m<=12) (henv:Env w) :
  Calls Tryz.prog 32 #[.slice A m c] w fun e w'=>e = .returned (.bool false)/\Below w.heap.size w w':=by
 have HO:=oH (POf_z A c m w h hm henv);have HDG:=oH (fun dv R cR W (hb:Below w.heap.size w W) (hR:Emp W R m) (hd:zBs W dv.val 1)=>zCu dv R cR m W hR hm hd (henv.below hb));have HM:=oH h;clear h henv
 go_enter Tryz.func32,Tryz.ntmps32
 rcases Nat.eq_zero_or_pos m with h0|h0
 ·subst h0;go_wp2_with fail;refine HO.mono ?_;rintro e w2 ⟨R,cR,dv,rfl,hd,hR,hb⟩;have HB:=oH hb;have HG:=oH (HDG.out dv R cR w2 hb hR hd);clear hd hR hb;go_wp2_with fail;refine HG.mono ?_;rintro e w3 ⟨rfl,hb3⟩;have HB3:=bTx2 HB hb3;clear hb3;go_wp2_with fail;go_ret
  exact ⟨rfl,HB3.out⟩
 obtain ⟨b,off,rfl,hb1,hc⟩:=HM.resolve_left oMx;obtain ⟨ad,cp,hc0⟩:=hc 0 h0;rw [Nat.add_zero] at hc0
 have hd:decide ((m:Int)>0)=true:=by simp;omega
 have hmax:max (m:Int) ((0:Nat):Int)=(m:Int):=by omega
 have hmax2:max (m:Int) 0=(m:Int):=by omega
 clear hc;go_wp2_with fail;refine HO.mono ?_;rintro e w2 ⟨R,cR,dv,rfl,hd,hR,hb⟩;have HB:=oH hb;have HG:=oH (HDG.out dv R cR w2 hb hR hd);clear hd hR hb;go_wp2_with fail;refine HG.mono ?_;rintro e w3 ⟨rfl,hb3⟩;have HB3:=bTx2 HB hb3;clear hb3
 have hw:wrap64 (m:Int)=(m:Int):=by unfold wrap64;omega
 have hdd:decide ((m:Int)>600)=false:=by simp;omega
 go_wp2_with fail;go_ret
 exact ⟨by first|rfl|(congr 2;simp;omega),HB3.out⟩
theorem xAz {P:Program} {w:World} {ops:Array Oper} {o:Oper} {a:Act} {K:Act->World->Prop} {Q:Exit->Act->World->Prop} {E:Prop} (hgd:o.guard=none) (s x:Operand) (t:TypeId)
  (ho:o.op = .call { callee := .builtin .append,args:=#[s,x],argTypes:=#[t,t] }) (e:TypeId) (i:TypeInfo) (ht:P.underlying t=some (.slice e)) (hi:P.info? e=some i)
  (hs:a.eval s = .slice none 0 0) (ad:oAx) (cp:Nat) (hx:a.eval x = .slice ad 0 cp) (h:K (a.put o.dst (.slice none 0 0)) w) :
  if Region.wanted o (yielded ops a.tmps)=true then Oper.wp P o a w K Q else E:=by
 have hw:Region.wanted o (yielded ops a.tmps)=true:=by simp [Region.wanted,hgd]
 rw [if_pos hw]
 have hrun:(Builtin.append_ #[t,t] o.type #[.slice none 0 0,.slice ad 0 cp]).run P w = .ok (.slice none 0 0) w:=by
  cases ad<;>simp [Builtin.append_,run_underlying ht,sizeOf,typeInfo,hi,Builtin.lenOf,Builtin.firstCells,loadCells,loadCellsFrom]
 unfold Oper.wp
 simp [execOp,ho,resolve,invoke,builtin,hs,hx,hrun,Result.andThen]
 exact h
theorem zCz (A:oAx) (c m:Nat) (w:World) (h:Emp w A m) (hm:m<=12) :
  Calls Tryz.prog 35 #[.slice A m c,.int .i64 0] w fun e w'=>∃ (R:oAx) (cR:Nat) (v:zCq),e = .returned (.agg #[.slice R m cR,.slice none 0 0,.bool v.nb,.slice v.ad v.l v.c,.bool false])/\zBs w' v.val 1/\Below w.heap.size w w':=by
 obtain ⟨i0,hi,hz0,hz1,hz2⟩:=info_parts Tryz.infoNum;obtain ⟨j0,hj,hy0,hy1,hy2⟩:=info_parts Tryz.infoNums;have HM:=oH h;clear h
 go_enter Tryz.func35,Tryz.ntmps35
 go_wp2_with fail;refine (zCb _).mono ?_;rintro e w2 ⟨v2,rfl,hv2,hb2⟩;have HV2:=oH hv2;have HB2:=oH (((Below.refl w.heap.size w).alloc lRx (.cells #[.slice none 0 0,.slice none 0 0,.bool false,.slice none 0 0,.bool false] 69)).trans (hb2.mono sMx));have HR2:=oH ((Blk.new w 69 [.slice none 0 0,.slice none 0 0,.bool false,.slice none 0 0,.bool false]).below hb2);obtain ⟨na,A1,l1,c1,rfl⟩:=hv2.slice;clear hv2 hb2;go_wp2_with fail;have HX0:=oH (Blk.new w2 69 [.slice none 0 0,.slice none 0 0,.bool na,.slice A1 l1 c1,.bool false]);have HBb:=oH ((Below.refl w2.heap.size w2).alloc lRx (.cells #[.slice none 0 0,.slice none 0 0,.bool na,.slice A1 l1 c1,.bool false] 69));have HSb:=oH (show w2.heap.size+1<=(w2.alloc (.cells #[.slice none 0 0,.slice none 0 0,.bool na,.slice A1 l1 c1,.bool false] 69)).heap.size by simp);have hxw:w.heap.size<w2.heap.size:=HR2.lt;generalize w2.alloc (.cells #[.slice none 0 0,.slice none 0 0,.bool na,.slice A1 l1 c1,.bool false] 69)=wb at *
 obtain ⟨x,hx⟩:=eXx (w2.heap.size);rw [hx] at HX0 HBb HSb hxw ⊢;have HXE:=oH hx;clear hx
 go_loopw [13] (fun iv wr=>∃ (i:Nat) (V:Value) (xs:List Value),iv = .int .i64 (i:Int)/\i<=m/\wr.ownsRow (x+1) 67 1 V i xs/\Blk wr x 69 [V,.slice none 0 0,.bool na,.slice A1 l1 c1,.bool false]/\Below w2.heap.size w2 wr/\x+1<=wr.heap.size) (fun iv _=>m-(intOf iv).toNat)
 ·exact ⟨0,_,[],rfl,oLx,World.ownsRow_nil _ _ _ _,HX0.out,by rw [HXE.out];exact HBb.out,HSb.out⟩
 obtain ⟨i,V,xs,rfl,him,hown,hbk,hbel,hsz⟩:=hrel;obtain ⟨wi,rfl⟩:=nWx wr;obtain ⟨AV,cV,rfl, -⟩:=zUj hown;have HO:=oH hown;have HK:=oH hbk;have HB:=oH hbel;clear hown hbk hbel
 by_cases hlt:i<m
 ·obtain ⟨b,off,rfl,hb1,hc⟩:=HM.resolve_left oMx;obtain ⟨ad,cp,hcc⟩:=hc i hlt;have HBw:=HB2.trans (HB.mono (by rw [HXE.out];omega));have cR:=(HBw.cell (p:=⟨b,off+i,none⟩) hb1).trans hcc
  have x1:(0:Int)<=(i:Int):=by omega
  have x2:(i:Int)<(m:Int):=by omega
  have k0:wi.cell? ⟨x,0,none⟩=some (.slice AV i cV):=HK.at_ (i:=0) rfl;have k0a:(wi.alloc (.cells #[.slice none 0 0] 67)).drew.cell? ⟨x,0,none⟩=some (.slice AV i cV):=(HK.below bA.drew).at_ (i:=0) rfl;have f0:=HK.fr 0;have hbA:Below wi.heap.size wi (wi.alloc (.cells #[.slice none 0 0] 67)).drew:=bA.drew;have HOA:=oH (zUm HO.out hbA);have HKA:=oH (HK.below hbA);have HBA:=bTx2 HB hbA
  have HF6:=oH (fun (w6:World) (hg:(wi.alloc (.cells #[.slice none 0 0] 67)).drew.grownBy w6 (Value.slice AV i cV).ownBlock)=>(show w6.cell? ⟨x,0,none⟩=some (.slice AV i cV)/\w6.frozen? ⟨x,0,none⟩=false from by
   have h9:=HKA.grown hg (fun e=>by have:=(HO.lt x e.symm).1;omega)
   exact ⟨h9.at_ (i:=0) rfl,h9.fr 0⟩))
  have HGR:=oH (fun (w6:World) (V6:Value) (h1:w6.ownsRow (x+1) 67 1 V6 (i+1) (xs++[.slice none 0 0])) (hg:(wi.alloc (.cells #[.slice none 0 0] 67)).drew.grownBy w6 (Value.slice AV i cV).ownBlock)=>(show (w6.setCell ⟨x,0,none⟩ V6).ownsRow (x+1) 67 1 V6 (i+1) (xs++[.slice none 0 0])/\Blk (w6.setCell ⟨x,0,none⟩ V6) x 69 [V6,.slice none 0 0,.bool na,.slice A1 l1 c1,.bool false]/\Below w2.heap.size w2 (w6.setCell ⟨x,0,none⟩ V6)/\x+1<=(w6.setCell ⟨x,0,none⟩ V6).heap.size from by
   have h9:=HKA.grown hg (fun e=>by have:=(HO.lt x e.symm).1;omega);have hs:=hg.size
   refine ⟨ownsRow_setCell_below h1 (a:=⟨x,0,none⟩) (Nat.lt_succ_self x) _,h9.set 0 _,(HBA.grown hg HBA.size (fun k hk=>by have:=(HO.lt k hk).1;rw [HXE.out];omega)).setCell (p:=⟨x,0,none⟩) (by show w2.heap.size<=x;rw [HXE.out];exact lRx) _,by simp at hs ⊢;omega⟩))
  clear hc hcc HBw hbA;go_wp2_with fail;refine xGe (S:=(fun w'=>w'.cell? ⟨x,0,none⟩=some (.slice AV i cV))) 7 (by kernel_rfl) rfl (by kernel_rfl) (by kernel_rfl) rfl (by exact k0) (fun hHeld=>?_);simp only [List.pop_toArray,List.dropLast_cons_cons,List.dropLast_singleton];refine tkH 0 ?_;refine tkH 1 ?_;refine tkH 2 ?_
  try simp only [Act.put,tkA,tkB,tkC]
  refine tkS 3 fun K hK=>?_
  (refine xAz (by rfl) _ _ _ (by rfl) 62 i0 Tryz.underlying67 hi (by go_simp) ad cp (by go_simp) ?_)
  refine hK.out _ _ ?_ (fun hHeld=>?_)
  ·first|exact k0|exact k0a|exact k6
  clear hK K
  try simp only [Act.put,tkA,tkB,tkC]
  refine tkS 4 fun K hK=>?_
  go_simp
  refine hK.out _ _ ?_ (fun hHeld=>?_)
  ·first|exact k0|exact k0a|exact k6
  clear hK K
  try simp only [Act.put,tkA,tkB,tkC]
  refine tkS 5 fun K hK=>?_
  (refine step_append_lies _ (by rfl) _ _ _ (by rfl) (x+1) 67 j0 _ 1 24 Tryz.underlying63 hj hy0 hy1 hy2 rfl dCx (.slice AV i cV) i xs (by go_simp) HOA.out ⟨wi.heap.size,0,none⟩ 1 1 [.slice none 0 0] (by go_simp) rfl (World.news_of_block (cs:=#[.slice none 0 0]) (t:=67) (fr:=(0,0)) (heap_alloc_new wi _)) zZu oMx (by unfold maxLen;omega) oMx (by simp;omega) _ rfl ?_;intro g6 cap6 w6 hown6 hgrow6 _ _;have HG6:=oH (HGR.out w6 _ hown6 hgrow6);obtain ⟨k6,f6⟩:=HF6.out w6 hgrow6;clear hown6 hgrow6)
  refine hK.out _ _ ?_ (fun hHeld=>?_)
  ·first|exact k0|exact k0a|exact k6
  clear hK K
  try simp only [Act.put,tkA,tkB,tkC]
  refine tkH 6 ?_
  try simp only [Act.put,tkA,tkB,tkC]
  refine wpAnyH_done (by kernel_rfl) ?_ _;simp only [xCo,List.getElem_toArray,List.getElem_cons_succ,List.getElem_cons_zero]
  all_goals
   go_wp2_with fail;go_roundw
   ·exact ⟨i+1,_,_,by go_num,oMx,HG6.1,HG6.2.1,HG6.2.2.1,HG6.2.2.2⟩
   simp [intOf];omega
 obtain rfl:i=m:=by omega
 have x2:¬(i:Int)<(i:Int):=by omega
 go_wp2_with fail
 go_loopw [8] (fun iv wr=>iv = .int .i64 (0:Int)/\wi=wr) (fun _ _=>0)
 ·exact ⟨rfl,rfl⟩
 obtain ⟨rfl,rfl⟩:=hrel;have k0:=HK.at_ (i:=0) rfl;have k1:=HK.at_ (i:=1) rfl;have k2:=HK.at_ (i:=2) rfl;have k3:=HK.at_ (i:=3) rfl;have k4:=HK.at_ (i:=4) rfl;have hr:=HR2.below HB.out;have HR:=oH hr;have r0:=hr.at_ (i:=0) rfl;have r1:=hr.at_ (i:=1) rfl;have r2:=hr.at_ (i:=2) rfl;have r3:=hr.at_ (i:=3) rfl;have r4:=hr.at_ (i:=4) rfl;have f0:=hr.fr 0;have f1:=hr.fr 1;have f2:=hr.fr 2;have f3:=hr.fr 3;have f4:=hr.fr 4;have HV:=oH (HV2.below HB.out);have HBf:=oH (HB2.trans (HB.mono (by rw [HXE.out];omega)));clear hr;go_wp2_with fail;refine bodyPost_ret (v := .agg #[.slice AV i cV,.slice none 0 0,.bool na,.slice A1 l1 c1,.bool false]) (by simp [results,Tryz.results35,go_sem,r0,r1,r2,r3,r4]) rfl ?_;refine ⟨AV,cV,⟨na,A1,l1,c1⟩,rfl,?_,((((HBf.setCell (p:=⟨w.heap.size,0,none⟩) lRx _).setCell (p:=⟨w.heap.size,1,none⟩) lRx _).setCell (p:=⟨w.heap.size,2,none⟩) lRx _).setCell (p:=⟨w.heap.size,3,none⟩) lRx _).setCell (p:=⟨w.heap.size,4,none⟩) lRx _⟩
 have z0:∀ y∈([.slice none 0 0,.slice none 0 0,.bool false,.slice none 0 0,.bool false]:List Value),∀ z,y ≠ .int .u64 z:=zIw (fun z e=>by cases e) (fun z e=>by cases e);have b0:=HR.set 0 (.slice AV i cV);have z1:=zSl (j:=0) z0 (show ∀ z,(Value.slice AV i cV) ≠ .int .u64 z from fun z e=>by cases e);have b1:=b0.set 1 (.slice none 0 0);have z2:=zSl (j:=1) z1 (show ∀ z,(Value.slice none 0 0) ≠ .int .u64 z from fun z e=>by cases e);have b2:=b1.set 2 (.bool na);have z3:=zSl (j:=2) z2 (show ∀ z,(Value.bool na) ≠ .int .u64 z from fun z e=>by cases e);have b3:=b2.set 3 (.slice A1 l1 c1);have z4:=zSl (j:=3) z3 (show ∀ z,(Value.slice A1 l1 c1) ≠ .int .u64 z from fun z e=>by cases e);exact ((((HV.box HR.out z0 (zOc w.heap.size 0 _)).box b0 z1 (zOc w.heap.size 1 _)).box b1 z2 (zOc w.heap.size 2 _)).box b2 z3 (zOc w.heap.size 3 _)).box b3 z4 (zOc w.heap.size 4 _)
end Go.Proofs.YtbjaplppalcmgaaGreatDoor
