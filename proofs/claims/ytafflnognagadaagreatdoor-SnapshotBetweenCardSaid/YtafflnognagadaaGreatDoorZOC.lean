import Derived.Test.YtafflnognagadaaGreatDoorZOB
set_option maxHeartbeats 16000000
set_option maxRecDepth 100000
set_option linter.unusedVariables false
set_option linter.unusedSimpArgs false
set_option linter.unusedSectionVars false
namespace Go.Proofs.YtafflnognagadaaGreatDoor
open Go.RowKit
abbrev Tbl:=List zGg
abbrev Dlt:=Int × List zGg
abbrev Chn:=Int × List Dlt
def LitD (D:List Tbl):Prop:=D.length<=1000/\∀ T∈D,Lit T
def LitL (l:List Dlt):Prop:=l.length<=1000/\∀ d∈l,Lit d.2
def LitC (l:List Chn):Prop:=l.length<=1000/\∀ c∈l,LitL c.2
def IsChg (w:World) (v:Value) (c:Chn):Prop:=∃ u,v = .agg #[.int .i64 c.1,u]/\Sl zOd w u c.2
theorem zAp {va:Value} {D:List Tbl} {w:World} (ha:Sl zOf w va D) (hD:LitD D):Calls Tryz.prog 46 #[va] w (zFr zOf w D):=by
 obtain ⟨A,c,rfl, -⟩:=ha.form;have HA:=oH ha;have HT:=oH hD.2;have htl:=hD.1;clear ha hD
 go_enter Tryz.func46,Tryz.ntmps46
 go_wp2_with fail
 go_loopw [3,8] (fun v iv wr=>∃ k:Nat,iv = .int .i64 (k:Int)/\k<=D.length/\zCo zOf w.heap.size wr v (D.take k)/\Below w.heap.size w wr) (fun _ iv _=>D.length-(intOf iv).toNat)
 ·exact ⟨0,rfl,oLx,.nil _ _ _,bRx⟩
 obtain ⟨k,rfl,hk,hown,hbel⟩:=hrel;obtain ⟨Av,cv,rfl, -⟩:=hown.form;have HOWN:=oH hown;have HBEL:=oH hbel;have hsz:=hbel.size;clear hbel
 by_cases hlt:k<D.length
 ·obtain ⟨b,off,rfl,hb,hc⟩:=(HA.below HBEL.out).sl1 (by intro e;subst e;simp at hlt);obtain ⟨u,c0,hu⟩:=hc k hlt;have HTK:=oH (List.take_succ_eq_append_getElem hlt);have HLE:=oH (show (D.take k).length=k by simp;omega);generalize D.take k=L at *;have HCALL:=oH (zAr hu (HT.out _ (List.getElem_mem hlt)));generalize D[k]=T at *;obtain ⟨Au,cu,rfl, -⟩:=hu.form;clear hu hown hc hb;go_wp2_with fail;refine HCALL.mono ?_;rintro e w2 ⟨v2,rfl,ho,hb⟩;obtain ⟨A2,c2,rfl, -⟩:=ho.form;have HO2:=oH (HOWN.below hb);have HN2:=oH ho.sl;have hb2:=HBEL.trans (hb.mono hsz);have HB2:=oH hb2;have hs2:=hb2.size;clear ho hb hb2
  go_wp2_with (at_builtin;refine xAn _ _ _ rfl rfl Tryz.underlying34 Tryz.kiTab (HO2.alloc _) (Sl.new (K:=zOf) (x:=T) rfl ⟨_,rfl,HN2.out⟩) (by have:=HLE.out;simp only [List.length_singleton];omega) (by simp;omega) ?_)
  intro v' w3 hap
  have HAP:Hid (zCo zOf w.heap.size w3 v' (L++[T])):=oH hap.own;have HB3:=oH (hap.bel (HB2.alloc hs2 _));clear hap;go_wp2_with fail;go_roundw
  ·exact ⟨k+1,by go_num,oMx,by rw [HTK.out];exact HAP.out,HB3.out⟩
  simp [intOf];omega
 have HLM:=oH (show D.take k=D from List.take_of_length_le oMx);go_wp2_with fail;go_ret
 exact ⟨_,rfl,by rw [HLM.out] at hown ⊢;exact hown,HBEL.out⟩
theorem zDx {va:Value} {D:List Tbl} {w:World} (ha:Sl zOf w va D) (hD:LitD D):Calls Tryz.prog 49 #[va] w (zFr zOf w D):=by
 obtain ⟨A,c,rfl, -⟩:=ha.form;have HA:=oH ha;have HT:=oH hD.2;have htl:=hD.1;clear ha hD
 go_enter Tryz.func49,Tryz.ntmps49
 go_wp2_with fail
 go_loopw [3,8] (fun v iv wr=>∃ k:Nat,iv = .int .i64 (k:Int)/\k<=D.length/\zCo zOf w.heap.size wr v (D.take k)/\Below w.heap.size w wr) (fun _ iv _=>D.length-(intOf iv).toNat)
 ·exact ⟨0,rfl,oLx,.nil _ _ _,bRx⟩
 obtain ⟨k,rfl,hk,hown,hbel⟩:=hrel;obtain ⟨Av,cv,rfl, -⟩:=hown.form;have HOWN:=oH hown;have HBEL:=oH hbel;have hsz:=hbel.size;clear hbel
 by_cases hlt:k<D.length
 ·obtain ⟨b,off,rfl,hb,hc⟩:=(HA.below HBEL.out).sl1 (by intro e;subst e;simp at hlt);obtain ⟨u,c0,hu⟩:=hc k hlt;have HTK:=oH (List.take_succ_eq_append_getElem hlt);have HLE:=oH (show (D.take k).length=k by simp;omega);generalize D.take k=L at *;have HCALL:=oH (zEl hu (HT.out _ (List.getElem_mem hlt)));generalize D[k]=T at *;obtain ⟨Au,cu,rfl, -⟩:=hu.form;clear hu hown hc hb;go_wp2_with fail;refine HCALL.mono ?_;rintro e w2 ⟨v2,rfl,ho,hb⟩;obtain ⟨A2,c2,rfl, -⟩:=ho.form;have HO2:=oH (HOWN.below hb);have HN2:=oH ho.sl;have hb2:=HBEL.trans (hb.mono hsz);have HB2:=oH hb2;have hs2:=hb2.size;clear ho hb hb2
  go_wp2_with (at_builtin;refine xAn _ _ _ rfl rfl Tryz.underlying34 Tryz.kiTab (HO2.alloc _) (Sl.new (K:=zOf) (x:=T) rfl ⟨_,rfl,HN2.out⟩) (by have:=HLE.out;simp only [List.length_singleton];omega) (by simp;omega) ?_)
  intro v' w3 hap
  have HAP:Hid (zCo zOf w.heap.size w3 v' (L++[T])):=oH hap.own;have HB3:=oH (hap.bel (HB2.alloc hs2 _));clear hap;go_wp2_with fail;go_roundw
  ·exact ⟨k+1,by go_num,oMx,by rw [HTK.out];exact HAP.out,HB3.out⟩
  simp [intOf];omega
 have HLM:=oH (show D.take k=D from List.take_of_length_le oMx);go_wp2_with fail;go_ret
 exact ⟨_,rfl,by rw [HLM.out] at hown ⊢;exact hown,HBEL.out⟩
theorem zAo {t:Int} {u:Value} {l:List Dlt} {w:World} (hu:Sl zOd w u l) (hL:LitL l):Calls Tryz.prog 41 #[.agg #[.int .i64 t,u]] w fun e w'=>∃ v,e = .returned (.agg #[.int .i64 t,v])/\zCo zOd w.heap.size w' v l/\Below w.heap.size w w':=by
 obtain ⟨A,c,rfl, -⟩:=hu.form;have HA:=oH hu;have HT:=oH hL.2;have htl:=hL.1;clear hu hL
 go_enter Tryz.func41,Tryz.ntmps41
 go_wp2_with fail
 go_loopw [12] (fun iv wr=>∃ (k:Nat) (v:Value),iv = .int .i64 (k:Int)/\k<=l.length/\Blk wr (w.heap.size+1) 54 [.int .i64 0,.slice none 0 0]/\Blk wr (w.heap.size+1+1) 54 [.int .i64 t,v]/\zCo zOd w.heap.size wr v (l.take k)/\Below w.heap.size w wr) (fun iv _=>l.length-(intOf iv).toNat)
 case atStart =>
  refine ⟨0,_,rfl,oLx,((Blk.new' sMx _ _).alloc _),Blk.new' sMx _ [_,_],.nil _ _ _,((bA).alloc sMx _).alloc (by simp;omega) _⟩
 obtain ⟨k,v,rfl,hk,hg1,hg2,hown,hbel⟩:=hrel;obtain ⟨Av,cv,rfl, -⟩:=hown.form;have hsz:=hbel.size;have hg2l:=hg2.lt
 by_cases hlt:k<l.length
 ·obtain ⟨b,off,rfl,hb,hc⟩:=(HA.below hbel).isl2 (by intro e;subst e;simp at hlt);obtain ⟨u,c0,c1,hu⟩:=hc k hlt;have HTK:=oH (List.take_succ_eq_append_getElem hlt);have HLE:=oH (show (l.take k).length=k by simp;omega);have HTL:=oH (HT.out _ (List.getElem_mem hlt));generalize l.take k=L at *;generalize l[k]=d at *;obtain ⟨d1,T⟩:=d;simp only at c0 hu HTL;obtain ⟨Ar,cr,rfl, -⟩:=hu.form;have HNB:=oH (fun j hj=>(hown.blk j hj).2.1);have hba:Below wr.heap.size wr (wr.alloc (.cells #[.int .i64 d1,.slice Ar T.length cr] 45)):=bA
  have hz:Blk (wr.alloc (.cells #[.int .i64 d1,.slice Ar T.length cr] 45)) wr.heap.size 45 [.int .i64 d1,.slice Ar T.length cr]/\Blk (wr.alloc (.cells #[.int .i64 d1,.slice Ar T.length cr] 45)) (w.heap.size+1) 54 [.int .i64 0,.slice none 0 0]/\Blk (wr.alloc (.cells #[.int .i64 d1,.slice Ar T.length cr] 45)) (w.heap.size+1+1) 54 [.int .i64 t,.slice Av L.length cv]/\zCo zOd w.heap.size (wr.alloc (.cells #[.int .i64 d1,.slice Ar T.length cr] 45)) (.slice Av L.length cv) L/\Sl zOe (wr.alloc (.cells #[.int .i64 d1,.slice Ar T.length cr] 45)) (.slice Ar T.length cr) T/\Below w.heap.size w (wr.alloc (.cells #[.int .i64 d1,.slice Ar T.length cr] 45))/\w.heap.size<=(wr.alloc (.cells #[.int .i64 d1,.slice Ar T.length cr] 45)).heap.size :=
   ⟨Blk.new wr _ [_,_],hg1.below hba,hg2.below hba,hown.below hba,hu.below hba,hbel.trans (hba.mono hsz),by simp;omega⟩
  have HZ:=oH hz;clear hu hown hc hb hg1 hg2 hbel hba hz;go_wp2_with fail;generalize wr.alloc (.cells #[.int .i64 d1,.slice Ar T.length cr] 45)=wz at HZ ⊢;obtain ⟨hbx,hg1,hg2,hown,hu,hbel,hsz2⟩:=HZ.out;have HBX:=oH hbx;have HG1:=oH hg1;have HG2:=oH hg2;have HOWN:=oH hown;have HU:=oH hu;have HBEL:=oH hbel;have HSZ:=oH hsz2;have HWz:=oH (Below.refl wz.heap.size wz).drew
  have KB:Hid (∀ W,Below wz.heap.size wz W->W.cell? ⟨w.heap.size+1+1,1,none⟩=some (.slice Av L.length cv)/\W.cell? ⟨wr.heap.size,0,none⟩=some (.int .i64 d1)/\W.cell? ⟨wr.heap.size,1,none⟩=some (.slice Ar T.length cr)):=oH fun W hW=>⟨(hg2.below hW).at_ (i:=1) rfl,(hbx.below hW).at_ (i:=0) rfl,(hbx.below hW).at_ (i:=1) rfl⟩
  clear hu hown hg1 hg2 hbel hsz2 HZ hbx;refine xAq (S:=(fun w'=>w'.cell? ⟨w.heap.size+1+1,1,none⟩=some (.slice Av L.length cv)/\w'.cell? ⟨wr.heap.size,0,none⟩=some (.int .i64 d1)/\w'.cell? ⟨wr.heap.size,1,none⟩=some (.slice Ar T.length cr))) 11 (by kernel_rfl) rfl (by kernel_rfl) (by kernel_rfl) rfl (by exact KB.out _ HWz.out) (fun hHeld=>?_);simp only [List.pop_toArray,List.dropLast_cons_cons,List.dropLast_singleton];refine tkH 0 ?_;refine tkH 1 ?_;refine tkH 2 ?_;refine tkH 3 ?_;refine tkH 4 ?_;refine tkH 5 ?_
  try simp only [Act.put,tkA,tkB,tkC]
  refine tkS 6 fun K hK=>?_
  go_simp
  (go_at_call 61;(with_reducible refine (zAr (HU.out.below HWz.out) HTL.out).mono ?_);rintro e wa ⟨va,rfl,ho,hb⟩;have hw:Below wz.heap.size wz wa:=HWz.out.trans (hb.mono HWz.out.size);have HWa:=oH hw;obtain ⟨Aa,ca,rfl, -⟩:=ho.form;have HVa:=oH ho.sl;clear ho;clear hb hw)
  go_wp2_with fail;refine hK.out _ _ ?_ (fun hHeld=>?_)
  ·first|with_reducible exact KB.out _ HWa.out|with_reducible exact KB.out _ HWm.out|with_reducible exact KSc.out
  clear hK K
  try simp only [Act.put,tkA,tkB,tkC]
  refine tkH 7 ?_
  try simp only [Act.put,tkA,tkB,tkC]
  refine tkS 8 fun K hK=>?_
  go_simp
  have HWm:=oH (HWa.alloc HWa.size (.cells #[.int .i64 d1,.slice Aa T.length ca] 45));refine hK.out _ _ ?_ (fun hHeld=>?_)
  ·first|with_reducible exact KB.out _ HWa.out|with_reducible exact KB.out _ HWm.out|with_reducible exact KSc.out
  clear hK K
  try simp only [Act.put,tkA,tkB,tkC]
  refine tkS 9 fun K hK=>?_
  (refine zWf _ _ _ (by rfl) (by rfl) Tryz.underlying49 Tryz.kiDel (by go_simp) (HOWN.below HWm.out) (by go_simp) (Sl.new (K:=zOd) (x:=(d1,T)) rfl ⟨_,rfl,HVa.out⟩) (by have:=HLE.out;simp only [List.length_singleton];omega) (Nat.le_trans HSZ.out HWm.size) ?_;intro v' wc hap;obtain ⟨Ac,cc,hv, -⟩:=hap.own.form;rw [List.length_append,List.length_singleton] at hv;subst hv;have HAP:=oH hap.own;have HBP:=oH (hap.bel (HBEL.trans (HWm.mono HSZ.out)));have HG1c:=oH ((HG1.below HWm.out).app hap dCx);have hg2:=(HG2.below HWm.out).app hap dCx;have HG2c:=oH hg2;have hbc:=(HBX.below HWm.out).app' hap HNB.out;have kc:=hg2.at_ (i:=1) rfl;have fc:=hg2.fr 1;have KSc:Hid (wc.cell? ⟨w.heap.size+1+1,1,none⟩=some (.slice Av L.length cv)/\wc.cell? ⟨wr.heap.size,0,none⟩=some (.int .i64 d1)/\wc.cell? ⟨wr.heap.size,1,none⟩=some (.slice Ar T.length cr)):=oH ⟨kc,hbc.at_ (i:=0) rfl,hbc.at_ (i:=1) rfl⟩;clear hbc hg2;clear hap)
  refine hK.out _ _ ?_ (fun hHeld=>?_)
  ·first|with_reducible exact KB.out _ HWa.out|with_reducible exact KB.out _ HWm.out|with_reducible exact KSc.out
  clear hK K
  try simp only [Act.put,tkA,tkB,tkC]
  refine tkH 10 ?_
  try simp only [Act.put,tkA,tkB,tkC]
  refine wpAnyH_done (by kernel_rfl) ?_ _;simp only [zWx,List.getElem_toArray,List.getElem_cons_succ,List.getElem_cons_zero];go_wp2_with fail;go_roundw
  ·exact ⟨k+1,_,by go_num,oMx,HG1c.far (by show w.heap.size+1≠w.heap.size+1+1;omega) _,HG2c.set 1 _,by rw [HTK.out];exact HAP.store HG2c.out dCx,HBP.setCell (by show w.heap.size<=w.heap.size+1+1;omega) _⟩
  simp [intOf];omega
 have HLM:=oH (show l.take k=l from List.take_of_length_le oMx);rw [HLM.out] at hown hg2;have k0:=hg2.at_ (i:=0) rfl;have k1:=hg2.at_ (i:=1) rfl;have r0:=hg1.at_ (i:=0) rfl;have r1:=hg1.at_ (i:=1) rfl;have f0:=hg1.fr 0;have f1:=hg1.fr 1;have HR:=oH ((hg1.set 0 (.int .i64 t)).set 1 (.slice Av l.length cv));have HO:=oH ((hown.store hg1 (u := .int .i64 t) (i:=0) dCx).store (u := .slice Av l.length cv) (i:=1) (hg1.set 0 (.int .i64 t)) dCx);have HB:=oH ((hbel.setCell (p:=⟨w.heap.size+1,0,none⟩) (by show w.heap.size<=w.heap.size+1;omega) (.int .i64 t)).setCell (p:=⟨w.heap.size+1,1,none⟩) (by show w.heap.size<=w.heap.size+1;omega) (.slice Av l.length cv));clear hg1 hg2 hown hbel HLM;go_wp2_with fail;have q0:=HR.at_ (i:=0) rfl;have q1:=HR.at_ (i:=1) rfl;exact bodyPost_ret (v := .agg #[.int .i64 t,.slice Av l.length cv]) (by simp [results,Tryz.results41,go_sem,q0,q1]) rfl ⟨_,rfl,HO.out,HB.out⟩
theorem zAq {fi:Int} {ub uc:Value} {D:List Tbl} {l:List Chn} {w:World} (hb:Sl zOf w ub D) (hu:Sl zOc w uc l) (hD:LitD D) (hL:LitC l):Calls Tryz.prog 40 #[.agg #[.int .i64 fi,ub,uc]] w fun e w'=>∃ vb vc,e = .returned (.agg #[.int .i64 fi,vb,vc])/\zCo zOf w.heap.size w' vb D/\zCo zOc w.heap.size w' vc l/\Below w.heap.size w w':=by
 obtain ⟨Ab,cb,rfl, -⟩:=hb.form;obtain ⟨A,c,rfl, -⟩:=hu.form;have HA:=oH hu;have HT:=oH hL.2;have htl:=hL.1;have HLD:=oH hD;have HDB0:=oH hb;clear hu hL hD hb
 go_enter Tryz.func40,Tryz.ntmps40
 go_upto_region 1 with (fail)
 go_cut [3] (fun v wc=>∃ (gx:Nat) (vb:Value),v = .pointer (some ⟨gx,0,none⟩)/\w.heap.size+1<gx/\Blk wc gx 37 [.int .i64 fi,vb,.slice none 0 0]/\zCo zOf w.heap.size wc vb D/\Blk wc w.heap.size 37 [.int .i64 fi,.slice Ab D.length cb,.slice A l.length c]/\Blk wc (w.heap.size+1) 37 [.int .i64 0,.slice none 0 0,.slice none 0 0]/\Below w.heap.size w wc)
 case first =>
  have hba:Below w.heap.size w ((w.alloc (.cells #[.int .i64 fi,.slice Ab D.length cb,.slice A l.length c] 37)).alloc (.cells #[.int .i64 0,.slice none 0 0,.slice none 0 0] 37)):=(bA).alloc sMx _
  have hz:Blk ((w.alloc (.cells #[.int .i64 fi,.slice Ab D.length cb,.slice A l.length c] 37)).alloc (.cells #[.int .i64 0,.slice none 0 0,.slice none 0 0] 37)) w.heap.size 37 [.int .i64 fi,.slice Ab D.length cb,.slice A l.length c]/\Blk ((w.alloc (.cells #[.int .i64 fi,.slice Ab D.length cb,.slice A l.length c] 37)).alloc (.cells #[.int .i64 0,.slice none 0 0,.slice none 0 0] 37)) (w.heap.size+1) 37 [.int .i64 0,.slice none 0 0,.slice none 0 0]/\Sl zOf ((w.alloc (.cells #[.int .i64 fi,.slice Ab D.length cb,.slice A l.length c] 37)).alloc (.cells #[.int .i64 0,.slice none 0 0,.slice none 0 0] 37)) (.slice Ab D.length cb) D/\Below w.heap.size w ((w.alloc (.cells #[.int .i64 fi,.slice Ab D.length cb,.slice A l.length c] 37)).alloc (.cells #[.int .i64 0,.slice none 0 0,.slice none 0 0] 37))/\w.heap.size+1<((w.alloc (.cells #[.int .i64 fi,.slice Ab D.length cb,.slice A l.length c] 37)).alloc (.cells #[.int .i64 0,.slice none 0 0,.slice none 0 0] 37)).heap.size :=
   ⟨(Blk.new w _ [_,_,_]).alloc _,Blk.new' sMx _ [_,_,_],HDB0.below hba,hba,by simp⟩
  generalize (w.alloc (.cells #[.int .i64 fi,.slice Ab D.length cb,.slice A l.length c] 37)).alloc (.cells #[.int .i64 0,.slice none 0 0,.slice none 0 0] 37)=wz at hz ⊢;obtain ⟨hb0,hb1,hdb,hbel,hsz⟩:=hz;have HB0:=oH hb0;have HB1:=oH hb1;have HDB:=oH hdb;have HBEL:=oH hbel;have HZ1:=oH hsz;have HZ:=oH hbel.size;have HWz:=oH (Below.refl wz.heap.size wz).drew
  have KB:Hid (∀ W,Below wz.heap.size wz W->W.cell? ⟨w.heap.size,0,none⟩=some (.int .i64 fi)/\W.cell? ⟨w.heap.size,1,none⟩=some (.slice Ab D.length cb)):=oH fun W hW=>⟨(hb0.below hW).at_ (i:=0) rfl,(hb0.below hW).at_ (i:=1) rfl⟩
  clear hb0 hb1 hdb hbel hsz hba;refine xAq (S:=(fun w'=>w'.cell? ⟨w.heap.size,0,none⟩=some (.int .i64 fi)/\w'.cell? ⟨w.heap.size,1,none⟩=some (.slice Ab D.length cb))) 7 (by kernel_rfl) rfl (by kernel_rfl) (by kernel_rfl) rfl (by exact KB.out _ HWz.out) (fun hHeld=>?_);simp only [List.pop_toArray,List.dropLast_cons_cons,List.dropLast_singleton];refine tkH 0 ?_;refine tkH 1 ?_;refine tkH 2 ?_;refine tkH 3 ?_
  try simp only [Act.put,tkA,tkB,tkC]
  refine wpAnyH_ready (rs:=[4,6]) (by kernel_rfl) sMx ?_;refine AllReadyH.cons rfl (fun K hK=>?_) ?_
  ·clear hHeld
   go_simp
   (go_at_call 46;(with_reducible refine (zAp (HDB.out.below HWz.out) HLD.out).mono ?_);rintro e wa ⟨va,rfl,ho,hb⟩;have hw:Below wz.heap.size wz wa:=HWz.out.trans (hb.mono HWz.out.size);have HWa:=oH hw;obtain ⟨Aa,ca,rfl, -⟩:=ho.form;have HVa:=oH (ho.low (B':=w.heap.size) (Nat.le_trans HZ.out HWz.out.size));clear ho;clear hb hw)
   go_wp2_with fail;refine hK.out _ _ ?_ (fun hHeld=>?_)
   ·first|with_reducible exact KB.out _ HWa.out|with_reducible exact KB.out _ HWm.out
   clear hK K
   try simp only [Act.put,tkA,tkB,tkC]
   refine tkH 5 ?_
   try simp only [Act.put,tkA,tkB,tkC]
   refine tkS 6 fun K hK=>?_
   go_simp
   have HWm:=oH (HWa.alloc HWa.size (.cells #[.int .i64 0,.slice none 0 0,.slice none 0 0] 37));refine hK.out _ _ ?_ (fun hHeld=>?_)
   ·first|with_reducible exact KB.out _ HWa.out|with_reducible exact KB.out _ HWm.out
   clear hK K
   try simp only [Act.put,tkA,tkB,tkC]
   refine wpAnyH_done (by kernel_rfl) ?_ _;simp only [zWx,List.getElem_toArray,List.getElem_cons_succ,List.getElem_cons_zero];go_wp2_with fail
   go_meet
   first
    | exact ⟨wz.heap.size,_,rfl,by have:=HZ1.out;omega,((HBA.set 0 (.int .i64 fi)).set 1 (.slice Aa D.length ca)).set 2 (.slice none 0 0),((HVa.store HBA.out dCx).store (HBA.set 0 _) dCx).store ((HBA.set 0 _).set 1 _) dCx,((HB0.below HWa.out).far (by have:=HZ1.out;show w.heap.size≠wz.heap.size;omega) _ |>.far (by have:=HZ1.out;show w.heap.size≠wz.heap.size;omega) _ |>.far (by have:=HZ1.out;show w.heap.size≠wz.heap.size;omega) _),((HB1.below HWa.out).far (by have:=HZ1.out;show w.heap.size+1≠wz.heap.size;omega) _ |>.far (by have:=HZ1.out;show w.heap.size+1≠wz.heap.size;omega) _ |>.far (by have:=HZ1.out;show w.heap.size+1≠wz.heap.size;omega) _),((HBEL.trans (HWa.mono HZ.out)).setCell (p:=⟨wz.heap.size,0,none⟩) HZ.out _).setCell (p:=⟨wz.heap.size,1,none⟩) HZ.out _ |>.setCell (p:=⟨wz.heap.size,2,none⟩) HZ.out _⟩
    | exact ⟨wa.heap.size,_,rfl,by have:=HZ1.out;have:=HWa.size;omega,Blk.new wa 37 [_,_,_],HVa.alloc _,(HB0.below HWa.out).alloc _,(HB1.below HWa.out).alloc _,(HBEL.trans (HWa.mono HZ.out)).alloc (Nat.le_trans HZ.out HWa.size) _⟩
  refine AllReadyH.cons rfl (fun K hK=>?_) AllReadyH.nil
  go_simp
  have HWm:=oH ((Below.refl wz.heap.size wz).alloc lRx (.cells #[.int .i64 0,.slice none 0 0,.slice none 0 0] 37)).drew;have HBM:=oH (Blk.new wz 37 [.int .i64 0,.slice none 0 0,.slice none 0 0]).drew
  refine hK.out _ _ ?_ (fun hHeld=>?_)
  ·first|with_reducible exact KB.out _ HWa.out|with_reducible exact KB.out _ HWm.out
  clear hK K
  try simp only [Act.put,tkA,tkB,tkC]
  refine tkS 4 fun K hK=>?_
  go_simp
  (go_at_call 46;(with_reducible refine (zAp (HDB.out.below HWm.out) HLD.out).mono ?_);rintro e wa ⟨va,rfl,ho,hb⟩;have hw:Below wz.heap.size wz wa:=HWm.out.trans (hb.mono HWm.out.size);have HWa:=oH hw;obtain ⟨Aa,ca,rfl, -⟩:=ho.form;have HVa:=oH (ho.low (B':=w.heap.size) (Nat.le_trans HZ.out HWm.out.size));have hbx:=HBM.out.below hb;have kc0:=hbx.at_ (i:=0) rfl;have kc1:=hbx.at_ (i:=1) rfl;have kc2:=hbx.at_ (i:=2) rfl;have kf0:=hbx.fr 0;have kf1:=hbx.fr 1;have kf2:=hbx.fr 2;have HBA:=oH hbx;clear hbx;clear ho;clear hb hw)
  go_wp2_with fail;refine hK.out _ _ ?_ (fun hHeld=>?_)
  ·first|with_reducible exact KB.out _ HWa.out|with_reducible exact KB.out _ HWm.out
  clear hK K
  try simp only [Act.put,tkA,tkB,tkC]
  refine tkH 5 ?_
  try simp only [Act.put,tkA,tkB,tkC]
  refine wpAnyH_done (by kernel_rfl) ?_ _;simp only [zWx,List.getElem_toArray,List.getElem_cons_succ,List.getElem_cons_zero];go_wp2_with fail
  go_meet
  first
   | exact ⟨wz.heap.size,_,rfl,by have:=HZ1.out;omega,((HBA.set 0 (.int .i64 fi)).set 1 (.slice Aa D.length ca)).set 2 (.slice none 0 0),((HVa.store HBA.out dCx).store (HBA.set 0 _) dCx).store ((HBA.set 0 _).set 1 _) dCx,((HB0.below HWa.out).far (by have:=HZ1.out;show w.heap.size≠wz.heap.size;omega) _ |>.far (by have:=HZ1.out;show w.heap.size≠wz.heap.size;omega) _ |>.far (by have:=HZ1.out;show w.heap.size≠wz.heap.size;omega) _),((HB1.below HWa.out).far (by have:=HZ1.out;show w.heap.size+1≠wz.heap.size;omega) _ |>.far (by have:=HZ1.out;show w.heap.size+1≠wz.heap.size;omega) _ |>.far (by have:=HZ1.out;show w.heap.size+1≠wz.heap.size;omega) _),((HBEL.trans (HWa.mono HZ.out)).setCell (p:=⟨wz.heap.size,0,none⟩) HZ.out _).setCell (p:=⟨wz.heap.size,1,none⟩) HZ.out _ |>.setCell (p:=⟨wz.heap.size,2,none⟩) HZ.out _⟩
   | exact ⟨wa.heap.size,_,rfl,by have:=HZ1.out;have:=HWa.size;omega,Blk.new wa 37 [_,_,_],HVa.alloc _,(HB0.below HWa.out).alloc _,(HB1.below HWa.out).alloc _,(HBEL.trans (HWa.mono HZ.out)).alloc (Nat.le_trans HZ.out HWa.size) _⟩
 case rest =>
  obtain ⟨gx,vb,rfl,hgx,hg2,hdo,hg0,hg1,hbel⟩:=hcut;have k0:=hg0.at_ (i:=2) rfl;have HIN:=oH (show Blk wc gx 37 [.int .i64 fi,vb,.slice none 0 0]/\zCo zOf w.heap.size wc vb D/\Blk wc (w.heap.size+1) 37 [.int .i64 0,.slice none 0 0,.slice none 0 0]/\Below w.heap.size w wc from ⟨hg2,hdo,hg1,hbel⟩);clear hg0 hg2 hdo hg1 hbel;go_wp2_with fail;clear k0
  go_loopw [15] (fun iv wr=>∃ (k:Nat) (v:Value),iv = .int .i64 (k:Int)/\k<=l.length/\Blk wr (w.heap.size+1) 37 [.int .i64 0,.slice none 0 0,.slice none 0 0]/\Blk wr gx 37 [.int .i64 fi,vb,v]/\zCo zOf w.heap.size wr vb D/\zCo zOc w.heap.size wr v (l.take k)/\Below w.heap.size w wr) (fun iv _=>l.length-(intOf iv).toNat)
  ·exact ⟨0,_,rfl,oLx,HIN.2.2.1,HIN.1,HIN.2.1,.nil _ _ _,HIN.2.2.2⟩
  clear HIN;obtain ⟨k,v,rfl,hk,hg1,hg2,hdo,hown,hbel⟩:=hrel;obtain ⟨Av,cv,rfl, -⟩:=hown.form;obtain ⟨Avb,cvb,rfl, -⟩:=hdo.form;have hsz:=hbel.size;have hg2l:=hg2.lt
  by_cases hlt:k<l.length
  ·obtain ⟨b,off,rfl,hb,hc⟩:=(HA.below hbel).isl2 (by intro e;subst e;simp at hlt);obtain ⟨u,c0,c1,hu⟩:=hc k hlt;have HTK:=oH (List.take_succ_eq_append_getElem hlt);have HLE:=oH (show (l.take k).length=k by simp;omega);have HTL:=oH (HT.out _ (List.getElem_mem hlt));generalize l.take k=L at *;generalize l[k]=d at *;obtain ⟨tm,ds⟩:=d;simp only at c0 hu HTL;obtain ⟨Ad,cd,rfl, -⟩:=hu.form;have HNB:=oH (fun j hj=>(hown.blk j hj).2.1);have hba:Below wr.heap.size wr (wr.alloc (.cells #[.int .i64 tm,.slice Ad ds.length cd] 54)):=bA
   have hz:Blk (wr.alloc (.cells #[.int .i64 tm,.slice Ad ds.length cd] 54)) wr.heap.size 54 [.int .i64 tm,.slice Ad ds.length cd]/\Blk (wr.alloc (.cells #[.int .i64 tm,.slice Ad ds.length cd] 54)) (w.heap.size+1) 37 [.int .i64 0,.slice none 0 0,.slice none 0 0]/\Blk (wr.alloc (.cells #[.int .i64 tm,.slice Ad ds.length cd] 54)) gx 37 [.int .i64 fi,.slice Avb D.length cvb,.slice Av L.length cv]/\zCo zOf w.heap.size (wr.alloc (.cells #[.int .i64 tm,.slice Ad ds.length cd] 54)) (.slice Avb D.length cvb) D/\zCo zOc w.heap.size (wr.alloc (.cells #[.int .i64 tm,.slice Ad ds.length cd] 54)) (.slice Av L.length cv) L/\Sl zOd (wr.alloc (.cells #[.int .i64 tm,.slice Ad ds.length cd] 54)) (.slice Ad ds.length cd) ds/\Below w.heap.size w (wr.alloc (.cells #[.int .i64 tm,.slice Ad ds.length cd] 54))/\w.heap.size<=(wr.alloc (.cells #[.int .i64 tm,.slice Ad ds.length cd] 54)).heap.size :=
    ⟨Blk.new wr _ [_,_],hg1.below hba,hg2.below hba,hdo.below hba,hown.below hba,hu.below hba,hbel.trans (hba.mono hsz),by simp;omega⟩
   have HZ:=oH hz;clear hu hown hc hb hg1 hg2 hdo hbel hba hz;go_wp2_with fail;generalize wr.alloc (.cells #[.int .i64 tm,.slice Ad ds.length cd] 54)=wz at HZ ⊢;obtain ⟨hbx,hg1,hg2,hdo,hown,hu,hbel,hsz2⟩:=HZ.out;have HBX:=oH hbx;have HG1:=oH hg1;have HG2:=oH hg2;have HDo:=oH hdo;have HOWN:=oH hown;have HU:=oH hu;have HBEL:=oH hbel;have HSZ:=oH hsz2;have HWz:=oH (Below.refl wz.heap.size wz).drew
   have KB:Hid (∀ W,Below wz.heap.size wz W->W.cell? ⟨gx,2,none⟩=some (.slice Av L.length cv)/\W.cell? ⟨wr.heap.size,0,none⟩=some (.int .i64 tm)/\W.cell? ⟨wr.heap.size,1,none⟩=some (.slice Ad ds.length cd)):=oH fun W hW=>⟨(hg2.below hW).at_ (i:=2) rfl,(hbx.below hW).at_ (i:=0) rfl,(hbx.below hW).at_ (i:=1) rfl⟩
   clear hu hown hg1 hg2 hdo hbel hsz2 HZ hbx;refine xAq (S:=(fun w'=>w'.cell? ⟨gx,2,none⟩=some (.slice Av L.length cv)/\w'.cell? ⟨wr.heap.size,0,none⟩=some (.int .i64 tm)/\w'.cell? ⟨wr.heap.size,1,none⟩=some (.slice Ad ds.length cd))) 7 (by kernel_rfl) rfl (by kernel_rfl) (by kernel_rfl) rfl (by exact KB.out _ HWz.out) (fun hHeld=>?_);simp only [List.pop_toArray,List.dropLast_cons_cons,List.dropLast_singleton];refine tkH 0 ?_;refine tkH 1 ?_;refine tkH 2 ?_
   try simp only [Act.put,tkA,tkB,tkC]
   refine tkS 3 fun K hK=>?_
   go_simp
   (go_at_call 41;(with_reducible refine (zAo (HU.out.below HWz.out) HTL.out).mono ?_);rintro e wa ⟨va,rfl,ho,hb⟩;have hw:Below wz.heap.size wz wa:=HWz.out.trans (hb.mono HWz.out.size);have HWa:=oH hw;obtain ⟨Aa,ca,rfl, -⟩:=ho.form;have HVa:=oH ho.sl;clear ho;clear hb hw)
   go_wp2_with fail;refine hK.out _ _ ?_ (fun hHeld=>?_)
   ·first|with_reducible exact KB.out _ HWa.out|with_reducible exact KB.out _ HWm.out|with_reducible exact KSc.out
   clear hK K
   try simp only [Act.put,tkA,tkB,tkC]
   refine tkS 4 fun K hK=>?_
   go_simp
   have HWm:=oH (HWa.alloc HWa.size (.cells #[.int .i64 tm,.slice Aa ds.length ca] 54));refine hK.out _ _ ?_ (fun hHeld=>?_)
   ·first|with_reducible exact KB.out _ HWa.out|with_reducible exact KB.out _ HWm.out|with_reducible exact KSc.out
   clear hK K
   try simp only [Act.put,tkA,tkB,tkC]
   refine tkS 5 fun K hK=>?_
   (refine zWf _ _ _ (by rfl) (by rfl) Tryz.underlying35 Tryz.kiChg (by go_simp) (HOWN.below HWm.out) (by go_simp) (Sl.new (K:=zOc) (x:=(tm,ds)) rfl ⟨_,rfl,HVa.out⟩) (by have:=HLE.out;simp only [List.length_singleton];omega) (Nat.le_trans HSZ.out HWm.size) ?_;intro v' wc hap;obtain ⟨Ac,cc,hv, -⟩:=hap.own.form;rw [List.length_append,List.length_singleton] at hv;subst hv;have HAP:=oH hap.own;have HBP:=oH (hap.bel (HBEL.trans (HWm.mono HSZ.out)));have HDc:=oH ((HDo.below HWm.out).app hap (HOWN.below HWm.out) dCx);have HG1c:=oH ((HG1.below HWm.out).app hap dCx);have hg2:=(HG2.below HWm.out).app hap dCx;have HG2c:=oH hg2;have hbc:=(HBX.below HWm.out).app' hap HNB.out;have kc:=hg2.at_ (i:=2) rfl;have fc:=hg2.fr 2;have KSc:Hid (wc.cell? ⟨gx,2,none⟩=some (.slice Av L.length cv)/\wc.cell? ⟨wr.heap.size,0,none⟩=some (.int .i64 tm)/\wc.cell? ⟨wr.heap.size,1,none⟩=some (.slice Ad ds.length cd)):=oH ⟨kc,hbc.at_ (i:=0) rfl,hbc.at_ (i:=1) rfl⟩;clear hbc hg2;clear hap)
   refine hK.out _ _ ?_ (fun hHeld=>?_)
   ·first|with_reducible exact KB.out _ HWa.out|with_reducible exact KB.out _ HWm.out|with_reducible exact KSc.out
   clear hK K
   try simp only [Act.put,tkA,tkB,tkC]
   refine tkH 6 ?_
   try simp only [Act.put,tkA,tkB,tkC]
   refine wpAnyH_done (by kernel_rfl) ?_ _;simp only [zWx,List.getElem_toArray,List.getElem_cons_succ,List.getElem_cons_zero];go_wp2_with fail;go_roundw
   ·exact ⟨k+1,_,by go_num,oMx,HG1c.far (by show w.heap.size+1≠gx;omega) _,HG2c.set 2 _,HDc.store HG2c.out dCx,by rw [HTK.out];exact HAP.store HG2c.out dCx,HBP.setCell (by show w.heap.size<=gx;omega) _⟩
   simp [intOf];omega
  have HLM:=oH (show l.take k=l from List.take_of_length_le oMx);rw [HLM.out] at hown hg2;have k0:=hg2.at_ (i:=0) rfl;have k1:=hg2.at_ (i:=1) rfl;have k2:=hg2.at_ (i:=2) rfl;have r0:=hg1.at_ (i:=0) rfl;have r1:=hg1.at_ (i:=1) rfl;have r2:=hg1.at_ (i:=2) rfl;have f0:=hg1.fr 0;have f1:=hg1.fr 1;have f2:=hg1.fr 2;have hs0:=hg1.set 0 (.int .i64 fi);have hs1:=hs0.set 1 (.slice Avb D.length cvb);have HR:=oH (hs1.set 2 (.slice Av l.length cv));have HO:=oH (((hown.store (i:=0) (u := .int .i64 fi) hg1 dCx).store (i:=1) (u := .slice Avb D.length cvb) hs0 dCx).store (i:=2) (u := .slice Av l.length cv) hs1 dCx);have HD:=oH (((hdo.store (i:=0) (u := .int .i64 fi) hg1 dCx).store (i:=1) (u := .slice Avb D.length cvb) hs0 dCx).store (i:=2) (u := .slice Av l.length cv) hs1 dCx);have HB:=oH (((hbel.setCell (p:=⟨w.heap.size+1,0,none⟩) (by show w.heap.size<=w.heap.size+1;omega) (.int .i64 fi)).setCell (p:=⟨w.heap.size+1,1,none⟩) (by show w.heap.size<=w.heap.size+1;omega) (.slice Avb D.length cvb)).setCell (p:=⟨w.heap.size+1,2,none⟩) (by show w.heap.size<=w.heap.size+1;omega) (.slice Av l.length cv))
  clear hg1 hg2 hdo hown hbel HLM hs0 hs1;go_wp2_with fail;have q0:=HR.at_ (i:=0) rfl;have q1:=HR.at_ (i:=1) rfl;have q2:=HR.at_ (i:=2) rfl;exact bodyPost_ret (v := .agg #[.int .i64 fi,.slice Avb D.length cvb,.slice Av l.length cv]) (by simp [results,Tryz.results40,go_sem,q0,q1,q2]) rfl ⟨_,_,rfl,HD.out,HO.out,HB.out⟩
theorem zAh {va:Value} {l:List Chn} {w:World} (ha:Sl zOc w va l) (hl:l.length<=1000):Calls Tryz.prog 50 #[va] w (zFr zOc w l):=by
 obtain ⟨A,c,rfl, -⟩:=ha.form;have HA:=oH ha
 rcases A with _|A
 ·have hn:l=[]:=by
   rcases l with _|⟨x,l⟩
   ·rfl
   obtain ⟨b,off,e, -⟩:=ha.isl2 sMx;cases e
  subst hn;clear ha
  have hq:∀ (w:World),(binOp .eql 35 (.slice none 0 c) (.slice none 0 0)).run Tryz.prog w = .ok (.bool true) w:=fun w=>Lib.run_eql_slice_nil w _ _ none _ _ 0 0 Tryz.underlying35
  go_enter Tryz.func50,Tryz.ntmps50
  go_wp2_with fail;go_ret
  exact ⟨_,rfl,.nil _ _ _,bRx⟩
 have hq:∀ (w:World),(binOp .eql 35 (.slice (some A) l.length c) (.slice none 0 0)).run Tryz.prog w = .ok (.bool false) w:=fun w=>Lib.run_eql_slice_nil w _ _ (some A) _ _ 0 0 Tryz.underlying35
 have HO:=oH (show zCo zOc w.heap.size (w.alloc (.cells #[] 54)) (.slice (some ⟨w.heap.size,0,none⟩) 0 0) [] from ⟨[],trivial,World.ownsRow_made w #[] 0 lRx oLx rfl⟩);clear ha
 go_enter Tryz.func50,Tryz.ntmps50
 go_wp2_with (at_builtin;refine xAn _ _ _ rfl rfl Tryz.underlying35 Tryz.kiChg HO.out (HA.below (bA)) (by simp;omega) sMx ?_)
 intro v' w3 hap
 have HAP:=oH hap.own;have HB:=oH (hap.bel ((Below.refl w.heap.size w).alloc lRx _));clear hap;go_wp2_with fail;go_ret
 exact ⟨_,rfl,HAP.out,HB.out⟩
theorem zSr {P:Program} {f:FuncId} {args:Array Value} {w:World} {m n:Nat} {v:Value} (h:Calls P f args (w.drewN (m+n)) fun e w'=>e = .returned v/\∃ q,w'=(w.drewN (m+n)).drewN q):Calls P f args (w.drewN (m+n)) fun e w''=>e = .returned v/\∃ q,w''=w.drewN (m+q) :=
 h.mono fun _ _ ⟨he,q,hq⟩=>⟨he,n+q,by rw [hq,World.drewN_drewN,Nat.add_assoc]⟩
theorem Sl.drewN {α:Type} {K:Kind α} {w:World} {v:Value} {xs:List α} (h:Sl K w v xs) (n:Nat):Sl K (w.drewN n) v xs:=h.below (below_drewN bRx n)
theorem zEj {va vb:Value} {xs:List zGg} {w:World} (ha:Sl zOe w va xs) (hb:Sl zOe w vb xs) (hL:Lit xs):Calls Tryz.prog 44 #[va,vb] w fun e w'=>e = .returned (.bool true)/\∃ q,w'=w.drewN q:=by
 obtain ⟨A,c,rfl, -⟩:=ha.form;obtain ⟨A2,c2,rfl, -⟩:=hb.form;have HA:=oH ha;have HB:=oH hb;have HL:=oH hL.2;have hl:=hL.1;clear ha hb hL
 go_enter Tryz.func44,Tryz.ntmps44
 go_wp2_with fail
 go_loopw [13] (fun iv wq=>∃ k m:Nat,iv = .int .i64 (k:Int)/\k<=xs.length/\wq=w.drewN m) (fun iv _=>xs.length-(intOf iv).toNat)
 ·exact ⟨0,0,rfl,oLx,rfl⟩
 obtain ⟨k,m,rfl,hk,rfl⟩:=hrel
 by_cases hlt:k<xs.length
 ·obtain ⟨b1,o1,rfl, -,hc1⟩:=HA.sli2 (by intro e;subst e;simp at hlt);obtain ⟨b2,o2,rfl, -,hc2⟩:=HB.sli2 (by intro e;subst e;simp at hlt);obtain ⟨u1,q1,p1,hu1⟩:=hc1 k hlt;obtain ⟨u2,q2,p2,hu2⟩:=hc2 k hlt;have HLX:=oH (HL.out _ (List.getElem_mem hlt));obtain ⟨x,hx⟩:=eXx (xs[k]);rw [hx] at hu1 hu2 HLX p1 p2;have HC:=oH (fun n=>zGj true (hu1.drewN (m+n)) (hu2.drewN (m+n)) sMx HLX.1 HLX.1);clear hc1 hc2 hu1 hu2 hx
  have hz:(x.2 != x.2)=false:=by simp
  go_wp2_with fail
  go_quiet ((go_at_call 59;exact zSr (HC.out _)))
  go_wp2_with fail;go_roundw
  ·exact ⟨k+1,_,by go_num,oMx,rfl⟩
  simp [intOf];omega
 obtain rfl:k=xs.length:=by omega
 go_wp2_with fail;go_ret
 exact ⟨rfl,_,rfl⟩
theorem zEn {va vb:Value} {xs:List Tbl} {w:World} (ha:Sl zOf w va xs) (hb:Sl zOf w vb xs) (hL:LitD xs):Calls Tryz.prog 19 #[va,vb] w fun e w'=>e = .returned (.bool true)/\∃ q,w'=w.drewN q:=by
 obtain ⟨A,c,rfl, -⟩:=ha.form;obtain ⟨A2,c2,rfl, -⟩:=hb.form;have HA:=oH ha;have HB:=oH hb;have HL:=oH hL.2;have hl:=hL.1;clear ha hb hL
 go_enter Tryz.func19,Tryz.ntmps19
 go_wp2_with fail
 go_loopw [13] (fun iv wq=>∃ k m:Nat,iv = .int .i64 (k:Int)/\k<=xs.length/\wq=w.drewN m) (fun iv _=>xs.length-(intOf iv).toNat)
 ·exact ⟨0,0,rfl,oLx,rfl⟩
 obtain ⟨k,m,rfl,hk,rfl⟩:=hrel
 by_cases hlt:k<xs.length
 ·obtain ⟨b1,o1,rfl, -,hc1⟩:=HA.sl1 (by intro e;subst e;simp at hlt);obtain ⟨b2,o2,rfl, -,hc2⟩:=HB.sl1 (by intro e;subst e;simp at hlt);obtain ⟨u1,q1,hu1⟩:=hc1 k hlt;obtain ⟨u2,q2,hu2⟩:=hc2 k hlt;have HLX:=oH (HL.out _ (List.getElem_mem hlt));obtain ⟨x,hx⟩:=eXx (xs[k]);rw [hx] at hu1 hu2 HLX;have HC:=oH (fun n=>zEj (hu1.drewN (m+n)) (hu2.drewN (m+n)) HLX.out);clear hc1 hc2 hu1 hu2 hx;go_wp2_with fail
  go_quiet ((go_at_call 44;exact zSr (HC.out _)))
  go_wp2_with fail;go_roundw
  ·exact ⟨k+1,_,by go_num,oMx,rfl⟩
  simp [intOf];omega
 obtain rfl:k=xs.length:=by omega
 go_wp2_with fail;go_ret
 exact ⟨rfl,_,rfl⟩
theorem zDz {va vb:Value} {xs:List Dlt} {w:World} (ha:Sl zOd w va xs) (hb:Sl zOd w vb xs) (hL:LitL xs):Calls Tryz.prog 51 #[va,vb] w fun e w'=>e = .returned (.bool true)/\∃ q,w'=w.drewN q:=by
 obtain ⟨A,c,rfl, -⟩:=ha.form;obtain ⟨A2,c2,rfl, -⟩:=hb.form;have HA:=oH ha;have HB:=oH hb;have HL:=oH hL.2;have hl:=hL.1;clear ha hb hL
 go_enter Tryz.func51,Tryz.ntmps51
 go_wp2_with fail
 go_loopw [13] (fun iv wq=>∃ k m:Nat,iv = .int .i64 (k:Int)/\k<=xs.length/\wq=w.drewN m) (fun iv _=>xs.length-(intOf iv).toNat)
 ·exact ⟨0,0,rfl,oLx,rfl⟩
 obtain ⟨k,m,rfl,hk,rfl⟩:=hrel
 by_cases hlt:k<xs.length
 ·obtain ⟨b1,o1,rfl, -,hc1⟩:=HA.isl2 (by intro e;subst e;simp at hlt);obtain ⟨b2,o2,rfl, -,hc2⟩:=HB.isl2 (by intro e;subst e;simp at hlt);obtain ⟨u1,p1,q1,hu1⟩:=hc1 k hlt;obtain ⟨u2,p2,q2,hu2⟩:=hc2 k hlt;have HLX:=oH (HL.out _ (List.getElem_mem hlt));obtain ⟨x,hx⟩:=eXx (xs[k]);rw [hx] at hu1 hu2 HLX p1 p2;have HC:=oH (fun n=>zEj (hu1.drewN (m+n)) (hu2.drewN (m+n)) HLX.out);clear hc1 hc2 hu1 hu2 hx
  have hz:(x.1 != x.1)=false:=by simp
  go_wp2_with fail
  go_quiet ((go_at_call 44;exact zSr (HC.out _)))
  go_wp2_with fail;go_roundw
  ·exact ⟨k+1,_,by go_num,oMx,rfl⟩
  simp [intOf];omega
 obtain rfl:k=xs.length:=by omega
 go_wp2_with fail;go_ret
 exact ⟨rfl,_,rfl⟩
theorem zBh {fi:Int} {ub uc ub2 uc2:Value} {D:List Tbl} {l:List Chn} {w:World} (ha:Sl zOf w ub D) (hb:Sl zOf w ub2 D) (hc:Sl zOc w uc l) (hd:Sl zOc w uc2 l) (hD:LitD D) (hL:LitC l):Calls Tryz.prog 26 #[.agg #[.int .i64 fi,ub,uc],.agg #[.int .i64 fi,ub2,uc2]] w fun e w'=>e = .returned (.bool true)/\Below w.heap.size w w':=by
 obtain ⟨Ab,cb,rfl, -⟩:=ha.form;obtain ⟨Ab2,cb2,rfl, -⟩:=hb.form;obtain ⟨Ac,cc,rfl, -⟩:=hc.form;obtain ⟨Ac2,cc2,rfl, -⟩:=hd.form;have hba:Below w.heap.size w ((w.alloc (.cells #[.int .i64 fi,.slice Ab D.length cb,.slice Ac l.length cc] 37)).alloc (.cells #[.int .i64 fi,.slice Ab2 D.length cb2,.slice Ac2 l.length cc2] 37)):=(bA).alloc sMx _
 have hz:Below w.heap.size w ((w.alloc (.cells #[.int .i64 fi,.slice Ab D.length cb,.slice Ac l.length cc] 37)).alloc (.cells #[.int .i64 fi,.slice Ab2 D.length cb2,.slice Ac2 l.length cc2] 37))/\Blk ((w.alloc (.cells #[.int .i64 fi,.slice Ab D.length cb,.slice Ac l.length cc] 37)).alloc (.cells #[.int .i64 fi,.slice Ab2 D.length cb2,.slice Ac2 l.length cc2] 37)) w.heap.size 37 [.int .i64 fi,.slice Ab D.length cb,.slice Ac l.length cc]/\Blk ((w.alloc (.cells #[.int .i64 fi,.slice Ab D.length cb,.slice Ac l.length cc] 37)).alloc (.cells #[.int .i64 fi,.slice Ab2 D.length cb2,.slice Ac2 l.length cc2] 37)) (w.heap.size+1) 37 [.int .i64 fi,.slice Ab2 D.length cb2,.slice Ac2 l.length cc2] :=
  ⟨hba,(Blk.new w _ [_,_,_]).alloc _,Blk.new' sMx _ [_,_,_]⟩
 have HRS:=oH (zEn (ha.below hba) (hb.below hba) hD);have HC:=oH (hc.below hba);have HD:=oH (hd.below hba);have HT:=oH hL.2;have htl:=hL.1;have HZ:=oH hz;clear ha hb hc hd hba hz hD hL
 go_enter Tryz.func26,Tryz.ntmps26
 go_wp2_with fail;refine HRS.mono ?_;generalize (w.alloc (.cells #[.int .i64 fi,.slice Ab D.length cb,.slice Ac l.length cc] 37)).alloc (.cells #[.int .i64 fi,.slice Ab2 D.length cb2,.slice Ac2 l.length cc2] 37)=wz at *;rintro e w2 ⟨rfl,m0,rfl⟩;obtain ⟨hbel,hg0,hg1⟩:=HZ.out;have k0:=hg0.at_ (i:=0) rfl;have k1:=hg1.at_ (i:=0) rfl;have k2:=hg0.at_ (i:=2) rfl;have k3:=hg1.at_ (i:=2) rfl;have HB:=oH hbel;clear hbel hg0 hg1;go_wp2_with fail
 go_loopw [31] (fun iv wq=>∃ k m:Nat,iv = .int .i64 (k:Int)/\k<=l.length/\wq=wz.drewN m) (fun iv _=>l.length-(intOf iv).toNat)
 ·exact ⟨0,_,rfl,oLx,rfl⟩
 obtain ⟨k,m,rfl,hk,rfl⟩:=hrel
 by_cases hlt:k<l.length
 ·obtain ⟨b1,o1,rfl, -,hc1⟩:=HC.isl2 (by intro e;subst e;simp at hlt);obtain ⟨b2,o2,rfl, -,hc2⟩:=HD.isl2 (by intro e;subst e;simp at hlt);obtain ⟨u1,p1,q1,hu1⟩:=hc1 k hlt;obtain ⟨u2,p2,q2,hu2⟩:=hc2 k hlt;have HLX:=oH (HT.out _ (List.getElem_mem hlt));obtain ⟨x,hx⟩:=eXx (l[k]);rw [hx] at hu1 hu2 HLX p1 p2;have HCA:=oH (fun n=>zDz (hu1.drewN (m+n)) (hu2.drewN (m+n)) HLX.out);clear hc1 hc2 hu1 hu2 hx
  have hz:(x.1 != x.1)=false:=by simp
  go_wp2_with fail
  go_quiet ((go_at_call 51;exact zSr (HCA.out _)))
  go_wp2_with fail;go_roundw
  ·exact ⟨k+1,_,by go_num,oMx,rfl⟩
  simp [intOf];omega
 go_wp2_with fail;go_ret
 exact ⟨rfl,below_drewN HB.out _⟩
end Go.Proofs.YtafflnognagadaaGreatDoor
