import Derived.Test.YtafflnognagadaaGreatDoorZOK
set_option maxHeartbeats 16000000
set_option maxRecDepth 100000
set_option linter.unusedVariables false
set_option linter.unusedSimpArgs false
set_option linter.unusedSectionVars false
namespace Go.Proofs.YtafflnognagadaaGreatDoor
open Go.RowKit
def zSw:List Tbl->List Chn->Int
 | _,[]=>0
 | D,c::l=>if zJj D c.2=0 then zSw (zJi D c.2) l else zJj D c.2
theorem zSx:∀ {l:List Chn} {D:List Tbl} {k:Nat} (h:k<l.length),(∀ j (hj:j<l.length),j<k->zJj (zZm D l j) l[j].2=0)->zJj (zZm D l k) l[k].2≠0->zSw D l=zJj (zZm D l k) l[k].2
 | c::l,D,0,_,_,h2=>by unfold zSw;exact if_neg h2
 | c::l,D,k+1,h,h1,h2=>by
  unfold zSw;rw [if_pos (show zJj D c.2=0 from h1 0 sMx oMx)];exact zSx (l:=l) (k:=k) (by simpa using h) (fun j hj hjk=>h1 (j+1) (by simp;omega) oMx) h2
theorem zSy:∀ {l:List Chn} {D:List Tbl},(∀ j (hj:j<l.length),zJj (zZm D l j) l[j].2=0)->zSw D l=0
 | [],_,_=>rfl
 | c::l,D,h=>by
  unfold zSw;rw [if_pos (show zJj D c.2=0 from h 0 sMx)]
  exact zSy (l:=l) fun j hj=>h (j+1) (by simp;omega)
theorem zGz.rch {D:List Tbl} {l:List Chn} (h:zGz D l):zSw D l=0:=zSy fun j hj=>h.at_ j hj
theorem zSz {D:List Tbl} {l:List Chn} {c:Chn} (h:zGz D l):zSw D (l++[c])=zJj (zZm D l l.length) c.2:=by
 by_cases h0:zJj (zZm D l l.length) c.2=0
 ·rw [h0];exact (h.snoc h0).rch
 have h1:zJj (zZm D (l++[c]) l.length) ((l++[c])[l.length]'sMx).2=zJj (zZm D l l.length) c.2:=by rw [zZn lRx];simp
 rw [zSx (l:=l++[c]) (k:=l.length) sMx (fun j hj hjk=>?_) (by rw [h1];exact h0),h1];rw [zZn oMx,List.getElem_append_left hjk];exact h.at_ j hjk
def zZw (D:List Tbl) (l:List Chn) (k:Nat):List (List Tbl):=(List.range (k+1)).map (zZm D l)
theorem zZy (D:List Tbl) (l:List Chn) (k:Nat):(zZw D l k).length=k+1:=by simp [zZw]
theorem zZx {D:List Tbl} {l:List Chn} {k j:Nat} (h:j<(zZw D l k).length):(zZw D l k)[j]=zZm D l j:=by simp [zZw]
theorem zZz (D:List Tbl) (l:List Chn) (k:Nat):zZw D l (k+1)=zZw D l k++[zZm D l (k+1)]:=by simp [zZw,List.range_succ]
structure HisP (S:zFv) (fi:Int) (D:List Tbl) (l:List Chn):Prop where
 base:DbK S D
 f0:0<=fi
 f1:fi<=1000000
 len:l.length<=24
 t0:∀ c∈l,0<=c.1/\c.1<=1099511627776
 asc:l.Pairwise fun a b=>a.1<=b.1
 chg:∀ c∈l,zAg S c.2
theorem zBj.p {S:zFv} {fi:Int} {D:List Tbl} {l:List Chn} (h:zBj S fi D l):HisP S fi D l:=⟨h.base,h.f0,h.f1,h.len,h.t0,h.asc,h.chg⟩
theorem zBj.psnoc {S:zFv} {fi:Int} {D:List Tbl} {l:List Chn} (h:zBj S fi D l) {c:Chn} (hl:l.length<24) (ht:zOi l<=c.1) (ht2:c.1<=1099511627776) (hc:zAg S c.2):HisP S fi D (l++[c]):=by
 have hL:=h.last;refine ⟨h.base,h.f0,h.f1,by rw [List.length_append,List.length_singleton];omega,fun x hx=>?_,List.pairwise_append.2 ⟨h.asc,List.pairwise_singleton _ _,fun a ha b hb=>?_⟩,fun x hx=>?_⟩
 ·rcases List.mem_append.1 hx with hx|hx
  ·exact h.t0 x hx
  rw [List.mem_singleton] at hx;subst hx;exact ⟨oMx,ht2⟩
 ·rw [List.mem_singleton] at hb;subst hb;have:=hL.2.2 a ha;omega
 rcases List.mem_append.1 hx with hx|hx
 ·exact h.chg x hx
 rw [List.mem_singleton] at hx;subst hx;exact hc
def RetRch (w:World) (D:List Tbl) (l:List Chn) (e:Ending) (w':World):Prop:=∃ v,e = .returned (.tuple #[v,.int .i64 (zSw D l)])/\(zSw D l=0->Sl kDb w' v (zZw D l l.length))/\Below w.heap.size w w'/\∃ A n c,v = .slice A n c
theorem zEg {S:zFv} {fi:Int} {ub uc:Value} {D:List Tbl} {l:List Chn} {w:World} (hin:zBp w S) (hok:zFu S) (hlow:zCg S) (hub:Sl zOf w ub D) (huc:Sl zOc w uc l) (hH:HisP S fi D l) :
  Calls Tryz.prog 48 #[.agg S.cells,.agg #[.int .i64 fi,ub,uc]] w (RetRch w D l):=by
 obtain ⟨Ab,cb,rfl, -⟩:=hub.form;obtain ⟨Ac,cc,rfl, -⟩:=huc.form;have hba:Below w.heap.size w ((w.alloc (.cells S.cells 31)).alloc (.cells #[.int .i64 fi,.slice Ab D.length cb,.slice Ac l.length cc] 37)):=(bA).alloc sMx _;have HCH:=oH (zDs (hin.below hba) hok hlow (hub.below hba) hH.base);have HCG:=oH (fun (W:World) (Dk:List Tbl) (c:Chn) (vd ud:Value) (tb:Int) (hW:Below w.heap.size w W) (hD:DbK S Dk) (h1:Sl zOf W vd Dk) (h2:Sl zOd W ud c.2) (hc:c∈l) (h3:0<=tb) (h4:tb<=c.1)=>RChg_of (hin.below hW) hok hlow h1 hD h2 (hH.chg c hc) h3 h4 (hH.t0 c hc).2);have HSB:=oH (show Blk ((w.alloc (.cells S.cells 31)).alloc (.cells #[.int .i64 fi,.slice Ab D.length cb,.slice Ac l.length cc] 37)) w.heap.size 31 S.cells.toList from (Blk.new w _ S.cells.toList).alloc _);have HHB:=oH (show Blk ((w.alloc (.cells S.cells 31)).alloc (.cells #[.int .i64 fi,.slice Ab D.length cb,.slice Ac l.length cc] 37)) (w.heap.size+1) 37 [.int .i64 fi,.slice Ab D.length cb,.slice Ac l.length cc] from Blk.new' sMx _ [_,_,_])
 have HBA:=oH hba;have HUB:=oH hub;have HU:=oH huc;have HHK:=oH hH;have hf0:=hH.f0;have hf1:=hH.f1;have hll:=hH.len;have d0:decide (fi<0)=false:=decide_eq_false oMx;have d1:decide (1000000<fi)=false:=decide_eq_false oMx;have d2:decide ((24:Int)<(l.length:Int))=false:=decide_eq_false oMx;have d3:decide (24<l.length)=false:=decide_eq_false oMx;clear hin hok hlow hub huc hH hba;generalize hcs:S.cells=cs at HCH HCG HSB HHB HBA ⊢;obtain ⟨q0,q1,q2,q3,hq⟩:∃ a b c d,cs=#[a,b,c,d]:=⟨_,_,_,_,hcs.symm⟩;subst hq;clear hcs
 go_enter Tryz.func48,Tryz.ntmps48
 go_wp2_with fail;generalize ((w.alloc (.cells #[q0,q1,q2,q3] 31)).alloc (.cells #[.int .i64 fi,.slice Ab D.length cb,.slice Ac l.length cc] 37))=wz at *;refine HCH.mono ?_;rintro e w1 ⟨rfl,hb1⟩;have HW1:=bTx2 HBA hb1;have HS1:=oH (HSB.below hb1);have HH1:=oH (HHB.below hb1);have k0:=HH1.at_ (i:=0) rfl;have k1:=HH1.at_ (i:=1) rfl;have k2:=HH1.at_ (i:=2) rfl;have hbl:w.heap.size+1<w1.heap.size:=HH1.lt;have hA0:Below w1.heap.size w1 (w1.alloc (.cells #[.slice Ab D.length cb] 34)):=bA;have HZ:=oH (show zCo kDb w1.heap.size (w1.alloc (.cells #[.slice Ab D.length cb] 34)) (.slice (some ⟨w1.heap.size,0,none⟩) 1 1) [D]/\Below w1.heap.size w1 (w1.alloc (.cells #[.slice Ab D.length cb] 34)) from ⟨zCo.new (K:=kDb) (x:=D) rfl lRx ⟨_,rfl,HUB.below HW1.out⟩,hA0⟩);clear hb1 hA0 HCH HSB HHB HBA;go_wp2_with fail;clear k0 k1 k2 d0 d1 d2 d3
 go_loopw [7,8,38] (fun vo tv iv wr=>∃ (k:Nat) (tb:Int),tv = .int .i64 tb/\iv = .int .i64 (k:Int)/\k<=l.length/\zCo kDb w1.heap.size wr vo (zZw D l k)/\DbK S (zZm D l k)/\0<=tb/\(∀ c∈l.drop k,tb<=c.1)/\(∀ j,(hj:j<l.length)->j<k->zJj (zZm D l j) l[j].2=0)/\Below w1.heap.size w1 wr) (fun _ _ iv _=>l.length-(intOf iv).toNat)
 ·exact ⟨0,0,rfl,rfl,oLx,HZ.1,HHK.base,Int.le_refl _,fun c hc=>(HHK.t0 c hc).1,fun _ _ h=>absurd h oMx,HZ.2⟩
 obtain ⟨k,tb,rfl,rfl,hk,hown,hdk,htb,hall,hno,hbel⟩:=hrel;obtain ⟨Av,cv,rfl, -⟩:=hown.form;have HOWN:=oH hown;have HDK:=oH hdk;have HNO:=oH hno;have HALL:=oH hall;have HBEL:=oH hbel;have HBW:=bTx2 HW1 hbel;have HYS:=oH (HS1.below hbel);have HLE:Hid ((zZw D l k).length=k+1):=oH (zZy D l k);have hsz:=hbel.size;clear hown hdk hno hall hbel HZ
 by_cases hlt:k<l.length
 ·obtain ⟨b,off,rfl,hb,hc⟩:=HU.isl2 (by intro e;subst e;simp at hlt);obtain ⟨u1,p0,p1,hu1⟩:=hc k hlt;have c0:=(HBW.cell (p:=⟨b,off+k*2,none⟩) hb).trans p0;have c1:wr.cell? ⟨b,off+k*2+1,none⟩=_:=(HBW.cell (p:=⟨b,off+k*2+1,none⟩) hb).trans p1;have htk:tb<=l[k].1:=HALL.out _ (by rw [List.drop_eq_getElem_cons hlt];exact List.mem_cons_self)
  have HTN:=oH (show 0<=l[k].1/\∀ c∈l.drop (k+1),l[k].1<=c.1 from ⟨(HHK.t0 _ (List.getElem_mem hlt)).1,fun c hc=>by
   have h:=HHK.asc.sublist (List.drop_sublist k l);rw [List.drop_eq_getElem_cons hlt] at h
   exact (List.pairwise_cons.1 h).1 c hc⟩)
  obtain ⟨b3,off3,rfl,hb3,hc3⟩:=HOWN.sl.sl1 (by intro e;have h:=HLE.out;rw [e] at h;simp at h);obtain ⟨ud,r3,hud⟩:=hc3 k (by rw [HLE.out];omega);rw [zZx] at hud;have HCALL:=oH (fun (W:World) (hW:Below wr.heap.size wr W)=>HCG.out W (zZm D l k) l[k] ud u1 tb (HBW.trans (hW.mono HBW.size)) HDK.out (hud.below hW) ((hu1.below HBW.out).below hW) (List.getElem_mem hlt) htb htk);have HSUC:=oH (zZz D l k);rw [zZt hlt] at HSUC;have HSD:=oH (zZt (D:=D) hlt);have HDN:=oH (fun (h:zJj (zZm D l k) l[k].2=0)=>HDK.chg (HHK.chg _ (List.getElem_mem hlt)) h);have HRE:=oH (fun (h:zJj (zZm D l k) l[k].2≠0)=>zSx hlt HNO.out h)
  have HN2:=oH (fun (h:zJj (zZm D l k) l[k].2=0)=>(show ∀ j,(hj:j<l.length)->j<k+1->zJj (zZm D l j) l[j].2=0 from fun j hj hjk=>by
   by_cases e:j=k
   ·subst e;exact h
   exact HNO.out j hj oMx))
  obtain ⟨Ad,cd,rfl, -⟩:=hud.form;obtain ⟨Au,cu,rfl, -⟩:=hu1.form;have HXE:=oH (show ∀ x:Nat,x=x from fun _=>rfl);obtain ⟨er,her⟩:=eXx (zJj (zZm D l k) l[k].2);obtain ⟨DN,hDN⟩:=eXx (zJi (zZm D l k) l[k].2);rw [her,hDN] at HCALL;rw [her] at HDN HRE HN2;rw [hDN] at HSUC HSD HDN;clear her hDN hc hc3 p0 p1 hu1 hud htk htb HALL;generalize l[k].1=t at *;generalize l[k].2.length=m at *;generalize (zZm D l k)=DK at *;obtain ⟨n1,hn1⟩:=eXx ((zZw D l k).length)
  have hg:IntKind.i64.wrap ((n1:Int)-1)=((k:Nat):Int):=by have:=HLE.out;rw [IntWalk.i64_in _ oMx];omega
  have hgl:k<n1:=by have:=HLE.out;omega
  rw [hn1] at HOWN HLE ⊢;have HN1:=oH hn1;clear hn1;have hbr3:b3<wr.heap.size:=hb3;have hbs:w.heap.size<wr.heap.size:=HYS.lt;have hba:Below wr.heap.size wr (wr.alloc (.cells #[.int .i64 t,.slice Au m cu] 54)):=bA;have HZ:=oH (show Below wr.heap.size wr (wr.alloc (.cells #[.int .i64 t,.slice Au m cu] 54))/\Blk (wr.alloc (.cells #[.int .i64 t,.slice Au m cu] 54)) wr.heap.size 54 [.int .i64 t,.slice Au m cu] from ⟨hba,Blk.new wr _ [_,_]⟩);clear hba;go_wp2_with fail;generalize wr.alloc (.cells #[.int .i64 t,.slice Au m cu] 54)=wz at HZ ⊢;obtain ⟨hz1,hz2⟩:=HZ.out;have HZ1:=oH hz1;have HZ2:=oH hz2;have hys:=HYS.below hz1;have HCALL:=oH (fun (W:World) (hW:Below wz.heap.size wz W)=>HCALL.out W (HZ1.trans (hW.mono HZ1.size)));have q4:=(hz1.cell (p:=⟨b3,off3+k,none⟩) hbr3).trans r3;have hb4:b3<wz.heap.size:=Nat.lt_of_lt_of_le hbr3 hz1.size
  have KB:Hid (∀ W,Below wz.heap.size wz W->W.cell? ⟨w.heap.size,0,none⟩=some (q0)/\W.cell? ⟨w.heap.size,1,none⟩=some (q1)/\W.cell? ⟨w.heap.size,2,none⟩=some (q2)/\W.cell? ⟨w.heap.size,3,none⟩=some (q3)/\W.cell? ⟨b3,off3+k,none⟩=some (.slice Ad DK.length cd)/\W.cell? ⟨wr.heap.size,0,none⟩=some (.int .i64 t)/\W.cell? ⟨wr.heap.size,1,none⟩=some (.slice Au m cu)):=oH fun W hW=>⟨(hys.below hW).at_ (i:=0) rfl,(hys.below hW).at_ (i:=1) rfl,(hys.below hW).at_ (i:=2) rfl,(hys.below hW).at_ (i:=3) rfl,(hW.cell (p:=⟨b3,off3+k,none⟩) hb4).trans q4,(hz2.below hW).at_ (i:=0) rfl,(hz2.below hW).at_ (i:=1) rfl⟩
  have HWz:=oH (Below.refl wz.heap.size wz).drew;clear hz1 hz2 hys q4 c0 c1 r3 HZ;refine wp_region_held_drew (S:=(fun w'=>w'.cell? ⟨w.heap.size,0,none⟩=some (q0)/\w'.cell? ⟨w.heap.size,1,none⟩=some (q1)/\w'.cell? ⟨w.heap.size,2,none⟩=some (q2)/\w'.cell? ⟨w.heap.size,3,none⟩=some (q3)/\w'.cell? ⟨b3,off3+k,none⟩=some (.slice Ad DK.length cd)/\w'.cell? ⟨wr.heap.size,0,none⟩=some (.int .i64 t)/\w'.cell? ⟨wr.heap.size,1,none⟩=some (.slice Au m cu))) (by kernel_rfl) (by exact KB.out _ HWz.out) (fun hHeld=>?_);refine tkH 0 ?_;refine tkH 1 ?_;refine tkH 2 ?_;refine tkH 3 ?_;refine tkH 4 ?_;refine tkH 5 ?_;refine tkH 6 ?_;refine tkH 7 ?_;refine tkH 8 ?_
  try simp only [Act.put,tkA,tkB,tkC]
  refine tkS 9 fun K hK=>?_
  go_simp
  (go_at_call 67;(with_reducible refine (HCALL.out _ HWz.out).mono ?_);rintro e wa ⟨va,rfl,hs,hb⟩;have hw:Below wz.heap.size wz wa:=HWz.out.trans (hb.mono HWz.out.size);have HWa:=oH hw;obtain ⟨An,cn,rfl, -⟩:=hs.form;have HSa:=oH hs;clear hs;clear hb hw)
  go_wp2_with fail;refine hK.out _ _ ?_ (fun hHeld=>?_)
  ·first|with_reducible exact KB.out _ HWa.out
  clear hK K
  try simp only [Act.put,tkA,tkB,tkC]
  refine tkH 10 ?_;refine tkH 11 ?_;refine tkH 12 ?_;refine tkH 13 ?_;refine tkH 14 ?_
  try simp only [Act.put,tkA,tkB,tkC]
  refine wpAnyH_done (by kernel_rfl) ?_ _;have HXA:=bTx2 HZ1 HWa;have HGC:=oH (HZ2.below HWa.out);clear KB HWz HCALL
  by_cases her:er=0
  ·have HDN0:=oH (HDN.out her);have HNN:=oH (HN2.out her);have HOWa:=oH (HOWN.below HXA.out);have HBL:=oH (HBEL.trans (HXA.mono hsz));have HSZ:Hid (w1.heap.size<=wa.heap.size):=oH HBL.size;subst her;generalize zZw D l k=LL at *;have HLE:Hid (LL.length<=k+1):=oH (by rw [HN1.out,HLE.out];exact lRx)
   have KB:Hid (∀ W,Below wa.heap.size wa W->W.cell? ⟨wr.heap.size,0,none⟩=some (.int .i64 t)):=oH fun W hW=>(HGC.below hW).at_ (i:=0) rfl
   have HWz:=oH (Below.refl wa.heap.size wa).drew;go_wp2_with fail;refine wp_region_held_drew (S:=(fun w'=>w'.cell? ⟨wr.heap.size,0,none⟩=some (.int .i64 t))) (by kernel_rfl) (by exact KB.out _ HWz.out) (fun hHeld=>?_);refine tkH 0 ?_;refine tkH 1 ?_;refine tkH 4 ?_;refine tkH 5 ?_
   try simp only [Act.put,tkA,tkB,tkC]
   refine tkS 2 fun K hK=>?_
   go_simp
   have HWm:=oH ((Below.refl wa.heap.size wa).alloc lRx (.cells #[.slice An DN.length cn] 34)).drew;refine hK.out _ _ ?_ (fun hHeld=>?_)
   ·first|with_reducible exact KB.out _ HWm.out|with_reducible exact KSc.out
   clear hK K
   try simp only [Act.put,tkA,tkB,tkC]
   refine tkS 3 fun K hK=>?_
   (refine zWf _ _ _ (by rfl) (by rfl) Tryz.underlying88 Tryz.kiDb (by go_simp) (HOWa.below HWm.out) (by go_simp) (Sl.new (K:=kDb) (x:=DN) rfl ⟨_,rfl,HSa.out⟩) (by have:=HLE.out;simp only [List.length_singleton];omega) (Nat.le_trans HSZ.out HWm.size) ?_;intro v' wc hap;have HAP:Hid (zCo kDb w1.heap.size wc v' (LL++[DN])):=oH hap.own;have HBP:Hid (Below w1.heap.size w1 wc):=oH (hap.bel (HBL.trans (HWm.mono HSZ.out)));have KSc:Hid (wc.cell? ⟨wr.heap.size,0,none⟩=some (.int .i64 t)):=oH (((HGC.below HWm.out).app hap dCx).at_ (i:=0) rfl);clear hap)
   refine hK.out _ _ ?_ (fun hHeld=>?_)
   ·first|with_reducible exact KB.out _ HWm.out|with_reducible exact KSc.out
   clear hK K
   try simp only [Act.put,tkA,tkB,tkC]
   refine tkH 6 ?_;refine tkH 7 ?_
   try simp only [Act.put,tkA,tkB,tkC]
   refine wpAnyH_done (by kernel_rfl) ?_ _;go_wp2_with fail;go_roundw
   ·exact ⟨k+1,t,rfl,by go_num,oMx,by rw [HSUC.out];exact HAP.out,by rw [HSD.out];exact HDN0.out,HTN.1,HTN.2,HNN.out,HBP.out⟩
   simp [intOf];omega
  have E:=oH (HRE.out her);have HER:=oH her
  have hq:(er==0)=false:=by rw [beq_eq_false_iff_ne];exact her
  clear her;go_wp2_with fail;go_ret2
  exact ⟨_,by rw [E.out];rfl,fun h=>absurd (E.symm.trans h) HER.out,HBW.trans (HXA.mono HBW.size),_,_,_,rfl⟩
 obtain rfl:k=l.length:=by omega
 have E:=oH (zSy (D:=D) (l:=l) fun j hj=>HNO.out j hj hj);go_wp2_with fail;go_ret2
 exact ⟨_,by rw [E.out];rfl,fun _=>HOWN.sl,HBW.out,_,_,_,rfl⟩
theorem zDq {S:zFv} {fi:Int} {ub uc:Value} {D:List Tbl} {l:List Chn} {w:World} (hin:zBp w S) (hok:zFu S) (hlow:zCg S) (hub:Sl zOf w ub D) (huc:Sl zOc w uc l) (hH:HisP S fi D l) :
  Calls Tryz.prog 55 #[.agg S.cells,.agg #[.int .i64 fi,ub,uc]] w fun e w'=>e = .returned (.int .i64 (zSw D l))/\Below w.heap.size w w':=by
 obtain ⟨Ab,cb,rfl, -⟩:=hub.form;obtain ⟨Ac,cc,rfl, -⟩:=huc.form;have hba:Below w.heap.size w ((w.alloc (.cells S.cells 31)).alloc (.cells #[.int .i64 fi,.slice Ab D.length cb,.slice Ac l.length cc] 37)):=(bA).alloc sMx _;have HC:=oH (zEg (hin.below hba) hok hlow (hub.below hba) (huc.below hba) hH);have HBA:=oH hba;clear hin hok hlow hub huc hH hba;generalize hcs:S.cells=cs at HC HBA ⊢;obtain ⟨q0,q1,q2,q3,hq⟩:∃ a b c d,cs=#[a,b,c,d]:=⟨_,_,_,_,hcs.symm⟩;subst hq;clear hcs
 go_enter Tryz.func55,Tryz.ntmps55
 go_wp2_with fail;refine HC.mono ?_;rintro e w2 ⟨vd,rfl, -,hb,A2,n2,c2,rfl⟩;have HB:=bTx2 HBA hb;clear hb HC;go_wp2_with fail;go_ret
 exact ⟨rfl,HB.out⟩
theorem zDp {S:zFv} {fi v:Int} {ub uc:Value} {D:List Tbl} {l:List Chn} {w:World} (hin:zBp w S) (hok:zFu S) (hlow:zCg S) (hub:Sl zOf w ub D) (huc:Sl zOc w uc l) (hH:zBj S fi D l) :
  Calls Tryz.prog 23 #[.agg S.cells,.agg #[.int .i64 fi,ub,uc],.int .i64 v] w (zFk w (if atB fi l v then 0 else 64) (atD fi D l v)):=by
 obtain ⟨Ab,cb,rfl, -⟩:=hub.form;obtain ⟨Ac,cc,rfl, -⟩:=huc.form;have hba:Below w.heap.size w ((w.alloc (.cells S.cells 31)).alloc (.cells #[.int .i64 fi,.slice Ab D.length cb,.slice Ac l.length cc] 37)):=(bA).alloc sMx _;have HC:=oH ((zEg (hin.below hba) hok hlow (hub.below hba) (huc.below hba) hH.p).mono (R':=fun e w'=>∃ v,e = .returned (.tuple #[v,.int .i64 0])/\Sl kDb w' v (zZw D l l.length)/\Below ((w.alloc (.cells S.cells 31)).alloc (.cells #[.int .i64 fi,.slice Ab D.length cb,.slice Ac l.length cc] 37)).heap.size ((w.alloc (.cells S.cells 31)).alloc (.cells #[.int .i64 fi,.slice Ab D.length cb,.slice Ac l.length cc] 37)) w'/\∃ A n c,v = .slice A n c) fun e w' ⟨v,he,hs,hb,hf⟩=>⟨v,by rw [he,hH.ok.rch],hs hH.ok.rch,hb,hf⟩);have HBA:=oH hba;have HHB:=oH (show Blk ((w.alloc (.cells S.cells 31)).alloc (.cells #[.int .i64 fi,.slice Ab D.length cb,.slice Ac l.length cc] 37)) (w.heap.size+1) 37 [.int .i64 fi,.slice Ab D.length cb,.slice Ac l.length cc] from Blk.new' sMx _ [_,_,_])
 have HHK:=oH hH;have HSO:=oH hok;have hf0:=hH.f0;have hf1:=hH.f1;have hll:=hH.len;clear hin hok hlow hub huc hH hba;generalize hcs:S.cells=cs at HC HBA HHB ⊢;obtain ⟨q0,q1,q2,q3,hq⟩:∃ a b c d,cs=#[a,b,c,d]:=⟨_,_,_,_,hcs.symm⟩;subst hq;clear hcs;obtain ⟨er,her⟩:∃ er:Int,(if atB fi l v=true then 0 else 64)=er:=⟨_,rfl⟩;have HER:=oH her;rw [her];clear her
 go_enter Tryz.func23,Tryz.ntmps23
 go_wp2_with fail;generalize ((w.alloc (.cells #[q0,q1,q2,q3] 31)).alloc (.cells #[.int .i64 fi,.slice Ab D.length cb,.slice Ac l.length cc] 37))=wz at *;refine HC.mono ?_;rintro e w2 ⟨vd,rfl,hs,hb,A2,n2,c2,rfl⟩;have HS:=oH hs;have HB:=bTx2 HBA hb;have hh:=HHB.below hb;have k0:=hh.at_ (i:=0) rfl;have k1:=hh.at_ (i:=1) rfl;have k2:=hh.at_ (i:=2) rfl;clear hs hb HC
 by_cases hlt:v<fi
 ·have E0:Hid (atB fi l v=false):=oH (decide_eq_false oMx);have E:=oH (show atD fi D l v=[] from if_neg (of_decide_eq_false E0.out));have hd:=decide_eq_true hlt;rw [E0.out] at HER;clear hh;go_wp2_with fail;go_ret2
  exact ⟨_,by rw [<-HER.out];rfl,by rw [E.out];exact .nil _ _ _ _,HB.out⟩
 have hd:=decide_eq_false hlt;have HL:=oH (zEe (ub := .slice Ab D.length cb) (A:=Ac) (n:=l.length) (c:=cc) (w:=w2) hf0 hf1 oMx)
 by_cases hgt:fi+(l.length:Int)<v
 ·have E0:Hid (atB fi l v=false):=oH (decide_eq_false oMx);have E:=oH (show atD fi D l v=[] from if_neg (of_decide_eq_false E0.out));have hd2:=decide_eq_true hgt;rw [E0.out] at HER;clear hh;go_wp2_with fail;refine HL.mono ?_;rintro e w3 ⟨rfl,hb3⟩;have HB3:=bTx2 HB hb3;clear hb3;go_wp2_with fail;go_ret2
  exact ⟨_,by rw [<-HER.out];rfl,by rw [E.out];exact .nil _ _ _ _,HB3.out⟩
 have E0:Hid (atB fi l v=true):=oH (decide_eq_true oMx);have hd2:=decide_eq_false hgt;rw [E0.out] at HER;obtain ⟨i,hvi,hil⟩:=zHg E0.out;have HVI:=oH hvi;have E:=oH (show atD fi D l v=zZm D l i by rw [hvi];exact zHk hil);have HLIT:=oH ((HHK.db hil).lit HSO.out)
 have hg:IntKind.i64.wrap (v-fi)=((i:Nat):Int):=by rw [IntWalk.i64_in _ oMx];omega
 obtain ⟨b3,off3,hA2,hb3,hc3⟩:=HS.sl1 (by intro e;have h:=zZy D l l.length;rw [e] at h;simp at h);obtain ⟨ud,r3,hud⟩:=hc3 i (by rw [zZy];omega);rw [zZx] at hud;subst hA2;obtain ⟨Ax,cx,hn2, -⟩:=HS.form;injection hn2 with e1 e2 e3;rw [zZy] at e2;subst e2;clear e1 e3;obtain ⟨Ad,cd,rfl, -⟩:=hud.form;have HUD:=oH hud
 have hil2:i<l.length+1:=by omega
 clear hvi hud hc3;generalize zZm D l i=DV at *;go_wp2_with fail;refine HL.mono ?_;rintro e w3 ⟨rfl,hb4⟩;have HB3:=bTx2 HB hb4;have HCP:=oH (zDx (HUD.below hb4) HLIT.out);have r4:=(hb4.cell (p:=⟨b3,off3+i,none⟩) hb3).trans r3;have k3:=(hh.below hb4).at_ (i:=0) rfl;clear hb4 hh k0 k1 k2 r3;go_wp2_with fail;refine HCP.mono ?_;rintro e w5 ⟨v5,rfl,ho5,hb5⟩;obtain ⟨A5,c5,rfl, -⟩:=ho5.form;have HB5:=bTx2 HB3 hb5;have HO:=oH ho5.sl;clear ho5 hb5 r4 k3;go_wp2_with fail;go_ret2
 exact ⟨_,by rw [<-HER.out];rfl,by rw [E.out];exact HO.out,HB5.out⟩
theorem zDw {S:zFv} {fi v:Int} {ub uc:Value} {D:List Tbl} {l:List Chn} {w:World} (hin:zBp w S) (hok:zFu S) (hlow:zCg S) (hub:Sl zOf w ub D) (huc:Sl zOc w uc l) (hH:zBj S fi D l) :
  Calls Tryz.prog 35 #[.agg S.cells,.agg #[.int .i64 fi,ub,uc],.int .i64 v] w (zFm w (atB fi l v) v (atD fi D l v) (l.drop (v-fi).toNat)):=by
 obtain ⟨Ab,cb,rfl, -⟩:=hub.form;obtain ⟨Ac,cc,rfl,hcc⟩:=huc.form;have hba:Below w.heap.size w (((w.alloc (.cells S.cells 31)).alloc (.cells #[.int .i64 fi,.slice Ab D.length cb,.slice Ac l.length cc] 37)).alloc (.cells #[.int .i64 0,.slice none 0 0,.slice none 0 0] 37)):=((bA).alloc sMx _).alloc (by simp;omega) _;have HAT:=oH (zDp (v:=v) (hin.below hba) hok hlow (hub.below hba) (huc.below hba) hH);have HHB:=oH (show Blk (((w.alloc (.cells S.cells 31)).alloc (.cells #[.int .i64 fi,.slice Ab D.length cb,.slice Ac l.length cc] 37)).alloc (.cells #[.int .i64 0,.slice none 0 0,.slice none 0 0] 37)) (w.heap.size+1) 37 [.int .i64 fi,.slice Ab D.length cb,.slice Ac l.length cc] from (Blk.new' sMx _ [_,_,_]).alloc _);have HRB:=oH (show Blk (((w.alloc (.cells S.cells 31)).alloc (.cells #[.int .i64 fi,.slice Ab D.length cb,.slice Ac l.length cc] 37)).alloc (.cells #[.int .i64 0,.slice none 0 0,.slice none 0 0] 37)) (w.heap.size+1+1) 37 [.int .i64 0,.slice none 0 0,.slice none 0 0] from Blk.new' sMx _ [_,_,_])
 have HBA:=oH hba;have HUC:=oH huc;have hf0:=hH.f0;have hf1:=hH.f1;have hll:=hH.len;obtain ⟨bq,hbq⟩:=eXx (atB fi l v);have HBQ:=oH hbq;rw [hbq] at HAT ⊢;generalize atD fi D l v=Dv at *;obtain ⟨er,her⟩:∃ er:Int,(if bq=true then 0 else 64)=er:=⟨_,rfl⟩;have HER:=oH her;rw [her] at HAT;clear hin hok hlow hub huc hH hba hbq her;generalize hcs:S.cells=cs at HAT HBA HHB HRB ⊢;obtain ⟨q0,q1,q2,q3,hq⟩:∃ a b c d,cs=#[a,b,c,d]:=⟨_,_,_,_,hcs.symm⟩;subst hq;clear hcs
 go_enter Tryz.func35,Tryz.ntmps35
 go_wp2_with fail;generalize (((w.alloc (.cells #[q0,q1,q2,q3] 31)).alloc (.cells #[.int .i64 fi,.slice Ab D.length cb,.slice Ac l.length cc] 37)).alloc (.cells #[.int .i64 0,.slice none 0 0,.slice none 0 0] 37))=wz at *;refine HAT.mono ?_;rintro e w1 ⟨vd,rfl,hs,hb⟩;obtain ⟨Ad,cd,rfl, -⟩:=hs.form;have HX1:=oH hb;have HW1:=bTx2 HBA HX1;have HS1:=oH hs;have hh:=HHB.below HX1.out;have hr:=HRB.below HX1.out;clear hs hb HAT
 cases bq
 ·obtain rfl:er=64:=HER.symm;have f0:=hr.fr 0;have f1:=hr.fr 1;have f2:=hr.fr 2;have k0:=hr.at_ (i:=0) rfl;have k1:=hr.at_ (i:=1) rfl;have k2:=hr.at_ (i:=2) rfl;have H3:=oH (zIc hr (.int .i64 0) (.slice none 0 0) (.slice none 0 0));clear hh hr;go_wp2_with fail;have e0:=H3.1.at_ (i:=0) rfl;have e1:=H3.1.at_ (i:=1) rfl;have e2:=H3.1.at_ (i:=2) rfl;exact bodyPost_ret (v := .tuple #[.agg #[.int .i64 0,.slice none 0 0,.slice none 0 0],.int .i64 64]) (by simp [results,Tryz.results35,go_sem,e0,e1,e2]) rfl (by unfold zFm;rw [if_neg dCx];exact ⟨_,_,rfl,.nil _ _ _ _,.nil _ _ _ _,HW1.trans (H3.2.2 _ oMx)⟩)
 obtain rfl:er=0:=HER.symm;obtain ⟨i,hvi,hil⟩:=zHg HBQ.out;have HVI:=oH hvi;have HR1:=oH hr;have k0:=hh.at_ (i:=0) rfl;have k1:=hh.at_ (i:=1) rfl;have k2:=hh.at_ (i:=2) rfl;have HEI:=oH (show i=(v-fi).toNat by have:=HVI.out;omega)
 have hg:IntKind.i64.wrap (v-fi)=((i:Nat):Int):=by have:=HVI.out;rw [IntWalk.i64_in _ oMx];omega
 have HSL:=oH ((HUC.below HW1.out).slicedC hil);clear hh hr hvi
 by_cases hci:cc=i
 ·have hci':=hci.symm;subst hci';simp only [if_true,Nat.sub_self] at HSL
  have hli:l.length-i=0:=by omega
  rw [hli] at HSL
  go_wp2_with (at_builtin;refine xAn _ _ _ rfl rfl Tryz.underlying35 Tryz.kiChg (zCo.nil zOc w1.heap.size w1) HSL.out (by simp;omega) lRx ?_)
  intro v5 w5 hap
  obtain ⟨A5,c5,hv5, -⟩:=hap.own.form
  have hv6:v5 = .slice A5 (0) c5:=by rw [hv5];simp;omega
  subst hv6;have ho6:Sl zOc w5 (.slice A5 (0) c5) (l.drop i):=hap.own.sl;have hb5:Below w1.heap.size w1 w5:=hap.bel bRx;have HX5:=oH hb5;have hr5:=HR1.below hb5;have r0:=hr5.at_ (i:=0) rfl;have r1:=hr5.at_ (i:=1) rfl;have r2:=hr5.at_ (i:=2) rfl;have f0:=hr5.fr 0;have f1:=hr5.fr 1;have f2:=hr5.fr 2;have H3:=oH (zIc hr5 (.int .i64 v) (.slice Ad Dv.length cd) (.slice A5 (0) c5));have HF1:=oH ((HS1.below hb5).kp H3.2.1 dCx);have HF2:=oH (ho6.kp H3.2.1 dCx);clear hap hv5 ho6 hb5 hr5 k0 k1 k2;go_wp2_with fail;have e0:=H3.1.at_ (i:=0) rfl;have e1:=H3.1.at_ (i:=1) rfl;have e2:=H3.1.at_ (i:=2) rfl;exact bodyPost_ret (v := .tuple #[.agg #[.int .i64 v,.slice Ad Dv.length cd,.slice A5 (0) c5],.int .i64 0]) (by simp [results,Tryz.results35,go_sem,e0,e1,e2]) rfl (by unfold zFm;rw [if_pos rfl];exact ⟨_,_,rfl,HF1.out,(by rw [<-HEI.out];exact HF2.out),(HW1.trans (HX5.mono HW1.size)).trans (H3.2.2 _ oMx)⟩)
 rw [if_neg hci] at HSL
 go_wp2_with (at_builtin;refine xAn _ _ _ rfl rfl Tryz.underlying35 Tryz.kiChg (zCo.nil zOc w1.heap.size w1) HSL.out (by simp;omega) lRx ?_)
 intro v5 w5 hap
 obtain ⟨A5,c5,hv5, -⟩:=hap.own.form
 have hv6:v5 = .slice A5 (l.length-i) c5:=by rw [hv5];simp
 subst hv6;have ho6:Sl zOc w5 (.slice A5 (l.length-i) c5) (l.drop i):=hap.own.sl;have hb5:Below w1.heap.size w1 w5:=hap.bel bRx;have HX5:=oH hb5;have hr5:=HR1.below hb5;have r0:=hr5.at_ (i:=0) rfl;have r1:=hr5.at_ (i:=1) rfl;have r2:=hr5.at_ (i:=2) rfl;have f0:=hr5.fr 0;have f1:=hr5.fr 1;have f2:=hr5.fr 2;have H3:=oH (zIc hr5 (.int .i64 v) (.slice Ad Dv.length cd) (.slice A5 (l.length-i) c5));have HF1:=oH ((HS1.below hb5).kp H3.2.1 dCx);have HF2:=oH (ho6.kp H3.2.1 dCx);clear hap hv5 ho6 hb5 hr5 k0 k1 k2;go_wp2_with fail;have e0:=H3.1.at_ (i:=0) rfl;have e1:=H3.1.at_ (i:=1) rfl;have e2:=H3.1.at_ (i:=2) rfl;exact bodyPost_ret (v := .tuple #[.agg #[.int .i64 v,.slice Ad Dv.length cd,.slice A5 (l.length-i) c5],.int .i64 0]) (by simp [results,Tryz.results35,go_sem,e0,e1,e2]) rfl (by unfold zFm;rw [if_pos rfl];exact ⟨_,_,rfl,HF1.out,(by rw [<-HEI.out];exact HF2.out),(HW1.trans (HX5.mono HW1.size)).trans (H3.2.2 _ oMx)⟩)
end Go.Proofs.YtafflnognagadaaGreatDoor
