import Derived.Test.YtafflnognagadaaGreatDoorZOG
set_option maxHeartbeats 16000000
set_option maxRecDepth 100000
set_option linter.unusedVariables false
set_option linter.unusedSimpArgs false
set_option linter.unusedSectionVars false
namespace Go.Proofs.YtafflnognagadaaGreatDoor
open Go.RowKit
def zCc (at1:List (ByteArray × Int)) (xs:List Nat) (ks:List ByteArray):Prop:=ks.length=xs.length/\∀ i,(hi:i<ks.length)->∃ h:nth xs i<at1.length,zBg at1[nth xs i].2 ks[i]
def zGh (at1:List (ByteArray × Int)) (xs:List Nat) (T:List zGg):Prop:=∀ r∈T,zCc at1 xs r.1
def zHv (low:Int) (r:zGg):Bool:=decide (r.2<low) || decide (100<r.2)
def zLo (low:Int) (T:List zGg):Int:=if T.any (zHv low) then 11 else 0
theorem zLp {low:Int} {T:List zGg} {r:zGg} (hr:r∈T) (h:r.2<low\/100<r.2):zLo low T=11:=if_pos (List.any_eq_true.2 ⟨r,hr,by
 unfold zHv
 rcases h with h|h
 ·rw [decide_eq_true h];rfl
 rw [decide_eq_true h,Bool.or_true]⟩)
theorem zLq {low:Int} {T:List zGg} (h:∀ r∈T,low<=r.2/\r.2<=100):zLo low T=0:=if_neg fun h2=>by
 obtain ⟨r,hr,h3⟩:=List.any_eq_true.1 h2;have:=h r hr;unfold zHv at h3;rw [decide_eq_false oMx,decide_eq_false oMx] at h3
 cases h3
theorem srt_at {T:List zGg} (h:Srt T) {i:Nat} (hi:i+1<T.length):ltL T[i].1 T[i+1].1=true:=List.pairwise_iff_getElem.1 h i (i+1) oMx hi oMx
theorem zDl {S:zFv} {r:zFg} {ks:List ByteArray} {z:Int} {u:Value} {w:World} (henv:Env w) (hin:zBp w S) (hr:zAe .i64 w r.ad r.xs) (hl:r.xs.length<=1000) (hk:zCc S.at1 r.xs ks) (hu:Sl zOg w u ks) :
  Calls Tryz.prog 94 #[.agg S.cells,.agg #[.string r.nm,.slice r.ad r.xs.length r.cp],.agg #[u,.int .i64 z]] w fun e w'=>e = .returned (.bool true)/\Below w.heap.size w w':=by
 have HEV:=oH henv;have HA:=oH hin.a;have HR:=oH hr;have HU:=oH hu;have hkl:=hk.1;have HK:=oH hk.2;obtain ⟨Au,cu,rfl, -⟩:=hu.form;unfold zFv.cells;obtain ⟨at1,aa,ca,rs,ar,cr,fs,af,cf,lb⟩:=S;obtain ⟨nm,ad,cp,xs⟩:=r;simp only at hkl HK HR HA hl ⊢;rw [hkl];clear henv hin hr hu hk
 have hz:Below w.heap.size w (((w.alloc (.cells #[.slice aa at1.length ca,.slice ar rs.length cr,.slice af fs.length cf,.int .i64 lb] 31)).alloc (.cells #[.string nm,.slice ad xs.length cp] 68)).alloc (.cells #[.slice Au xs.length cu,.int .i64 z] 64)) /\
   Blk (((w.alloc (.cells #[.slice aa at1.length ca,.slice ar rs.length cr,.slice af fs.length cf,.int .i64 lb] 31)).alloc (.cells #[.string nm,.slice ad xs.length cp] 68)).alloc (.cells #[.slice Au xs.length cu,.int .i64 z] 64)) w.heap.size 31 [.slice aa at1.length ca,.slice ar rs.length cr,.slice af fs.length cf,.int .i64 lb] /\
   Blk (((w.alloc (.cells #[.slice aa at1.length ca,.slice ar rs.length cr,.slice af fs.length cf,.int .i64 lb] 31)).alloc (.cells #[.string nm,.slice ad xs.length cp] 68)).alloc (.cells #[.slice Au xs.length cu,.int .i64 z] 64)) (w.heap.size+1+1) 64 [.slice Au xs.length cu,.int .i64 z] :=
  ⟨((bA).alloc sMx _).alloc (by simp;omega) _,((Blk.new w _ [_,_,_,_]).alloc _).alloc _,Blk.new' sMx _ [_,_]⟩
 have HZ:=oH hz;clear hz
 go_enter Tryz.func94,Tryz.ntmps94
 go_wp2_with fail;generalize ((w.alloc (.cells #[.slice aa at1.length ca,.slice ar rs.length cr,.slice af fs.length cf,.int .i64 lb] 31)).alloc (.cells #[.string nm,.slice ad xs.length cp] 68)).alloc (.cells #[.slice Au xs.length cu,.int .i64 z] 64)=wz at *
 go_loopw [12] (fun iv wr=>∃ k:Nat,iv = .int .i64 (k:Int)/\k<=xs.length/\Below wz.heap.size wz wr) (fun iv _=>xs.length-(intOf iv).toNat)
 ·exact ⟨0,rfl,oLx,bRx⟩
 obtain ⟨k,rfl,hk,hbel⟩:=hrel;obtain ⟨hzb,hz0,hz1⟩:=HZ.out;have hbw:Below w.heap.size w wr:=hzb.trans (hbel.mono hzb.size);have HBEL:=oH hbel;have HBW:=oH hbw
 by_cases hlt:k<xs.length
 ·have HX:=oH (hz0.below hbel);have HY:=oH (hz1.below hbel);obtain ⟨b3,off3,rfl,hb3,hcx⟩:=HR.out (by intro e;subst e;simp at hlt);have hcxk:=(hbw.cell (p:=⟨b3,off3+k,none⟩) hb3).trans (hcx k hlt);obtain ⟨b5,off5,rfl,hb5,hcu⟩:=Sl.txt (n:=xs.length) (hkl▸HU.out) (by intro e;subst e;simp at hkl;omega);have hcuk:=(hbw.cell (p:=⟨b5,off5+k,none⟩) hb5).trans (hcu k oMx);obtain ⟨hx,hg⟩:=HK.out k oMx;obtain ⟨b,off,rfl,hb,hrow⟩:=HA.some (zHq (by intro e;subst e;simp at hx));have ha1:=(hbw.cell (p:=⟨b,off+nth xs k*2,none⟩) hb).trans (hrow.at_ (zHp hx).1);have ha2:=(hbw.cell (p:=⟨b,off+(nth xs k*2+1),none⟩) hb).trans (hrow.at_ (zHp hx).2);rw [<-Nat.add_assoc] at ha2;obtain ⟨s,hs⟩:=eXx (ks[k]);rw [hs] at hcuk hg;have hbl:=hbw.size;clear hcx hcu hrow hs hz0 hz1 hzb;generalize at1[nth xs k].1=an at *;generalize at1[nth xs k].2=ak at *;generalize nth xs k=x at *;have HV:=oH (fun W (hW:Below wr.heap.size wr W)=>zDk an s ak W (HEV.below (hbw.trans (hW.mono hbl))) hg)
  have KB:Hid (∀ W,Below wr.heap.size wr W->W.cell? ⟨w.heap.size,0,none⟩=some (.slice (some ⟨b,off,none⟩) at1.length ca)/\W.cell? ⟨b,off+x*2,none⟩=some (.string an)/\W.cell? ⟨b,off+x*2+1,none⟩=some (.int .i64 ak)/\W.cell? ⟨w.heap.size+1+1,0,none⟩=some (.slice (some ⟨b5,off5,none⟩) xs.length cu)/\W.cell? ⟨b5,off5+k,none⟩=some (.string s)):=oH fun W hW=>⟨(HX.below hW).at_ (i:=0) rfl,(hW.cell (p:=⟨b,off+x*2,none⟩) (by simp;omega)).trans ha1,(hW.cell (p:=⟨b,off+x*2+1,none⟩) (by simp;omega)).trans ha2,(HY.below hW).at_ (i:=0) rfl,(hW.cell (p:=⟨b5,off5+k,none⟩) (by simp;omega)).trans hcuk⟩
  have HWz:=oH (Below.refl wr.heap.size wr).drew
  have hb3r:b3<wr.heap.size:=by omega
  clear hbel hbw hg ha1 ha2 hcuk;go_wp2_with fail;refine wp_region_held_drew (S:=(fun w'=>w'.cell? ⟨w.heap.size,0,none⟩=some (.slice (some ⟨b,off,none⟩) at1.length ca)/\w'.cell? ⟨b,off+x*2,none⟩=some (.string an)/\w'.cell? ⟨b,off+x*2+1,none⟩=some (.int .i64 ak)/\w'.cell? ⟨w.heap.size+1+1,0,none⟩=some (.slice (some ⟨b5,off5,none⟩) xs.length cu)/\w'.cell? ⟨b5,off5+k,none⟩=some (.string s))) (by kernel_rfl) (by exact KB.out _ HWz.out) (fun hHeld=>?_);refine tkH 0 ?_;refine tkH 1 ?_;refine tkH 2 ?_;refine tkH 3 ?_;refine tkH 4 ?_;refine tkH 5 ?_;refine tkH 6 ?_;refine tkH 7 ?_;refine tkH 8 ?_;refine tkH 9 ?_
  try simp only [Act.put,tkA,tkB,tkC]
  refine tkS 10 fun K hK=>?_
  go_simp
  (go_at_call 109;(with_reducible refine (HV.out _ HWz.out).mono ?_);rintro e wa ⟨rfl,hb⟩;have hw:Below wr.heap.size wr wa:=HWz.out.trans (hb.mono HWz.out.size);have HWa:=oH hw;clear hb hw)
  go_wp2_with fail;refine hK.out _ _ ?_ (fun hHeld=>?_)
  ·first|with_reducible exact KB.out _ HWa.out
  clear hK K
  try simp only [Act.put,tkA,tkB,tkC]
  refine tkH 11 ?_
  try simp only [Act.put,tkA,tkB,tkC]
  refine wpAnyH_done (by kernel_rfl) ?_ _;have HB2:=bTx2 HBEL HWa;go_wp2_with fail;go_roundw
  ·exact ⟨k+1,by go_num,oMx,HB2.out⟩
  simp [intOf];omega
 obtain rfl:k=xs.length:=by omega
 clear hzb hz0 hz1 hbel hbw;go_wp2_with fail;go_ret
 exact ⟨rfl,HBW.out⟩
theorem zDi {S:zFv} {rel:Nat} {v:Value} {T:List zGg} {most low:Int} {w:World} (henv:Env w) (hin:zBp w S) (hok:zFu S) (hv:Sl zOe w v T) (hrel:rel<S.rs.length) (hT:zGh S.at1 S.rs[rel].xs T) (hs:Srt T) (hz:NZ T) (hl:(T.length:Int)<=most) (hl2:T.length<=1000) :
  Calls Tryz.prog 81 #[.agg S.cells,.int .i64 (rel:Int),v,.int .i64 most,.int .i64 low] w fun e w'=>e = .returned (.int .i64 (zLo low T))/\Below w.heap.size w w':=by
 have hba:Below w.heap.size w (w.alloc (.cells S.cells 31)):=bA;have HCH:=oH (zAf S (w.alloc (.cells S.cells 31)) (hin.below hba) hok);have HEV:=oH henv;have HIN:=oH hin;have HV:=oH hv;have HT:=oH hT;have HS:=oH hs;have HNZ:=oH hz;have HFINE:=oH (hok.fine.rel _ (List.getElem_mem hrel));have HCELL:=oH (hin.x _ (List.getElem_mem hrel));obtain ⟨A,c,rfl, -⟩:=hv.form;obtain ⟨er,her⟩:=eXx (zLo low T);have HER:=oH her;rw [her];obtain ⟨b2,off2,hb2a,hb2,hrow2⟩:=hin.r.some (zTg (by intro e;rw [e] at hrel;simp at hrel));have hr1:=hrow2.at_ (zTf hrel).1;have hr2:w.cell? ⟨b2,off2+rel*2+1,none⟩=_:=hrow2.at_ (zTf hrel).2;have HSB:=oH (Blk.new w 31 S.cells.toList);obtain ⟨r,hr⟩:=eXx (S.rs[rel]);rw [hr] at HT HFINE HCELL hr1 hr2;have HPV:=oH (fun (ks:List ByteArray) (z:Int) (u:Value) (W:World) (hW:Below w.heap.size w W) (hk:zCc S.at1 r.xs ks) (hu:Sl zOg W u ks)=>zDl (S:=S) (r:=r) (z:=z) (henv.below hW) (hin.below hW) (HCELL.below hW) HFINE.short hk hu)
 clear henv hin hv hT hs hz hba her hrow2 hok hr;unfold zFv.cells at HCH HPV HSB ⊢;obtain ⟨at1,aa,ca,rs,ar,cr,fs,af,cf,lb⟩:=S;obtain ⟨nm,ad,cp,xs⟩:=r;simp only at hrel HT HIN HFINE HCELL HCH HPV HSB hr1 hr2 hb2a ⊢;subst hb2a;have d1:decide ((rel:Int)<0)=false:=decide_eq_false oMx;have d2:decide (rs.length<=rel)=false:=decide_eq_false oMx;have d3:decide (most<(T.length:Int))=false:=decide_eq_false oMx
 go_enter Tryz.func81,Tryz.ntmps81
 go_wp2_with fail;refine HCH.mono ?_;rintro e w1 ⟨rfl,hb1⟩;have hbl:=hb1.size;rw [World.size_alloc] at hbl;have hblk:=HSB.below hb1;have s0:=hblk.at_ (i:=0) rfl;have s1:=hblk.at_ (i:=1) rfl;have s2:=hblk.at_ (i:=2) rfl;have s3:=hblk.at_ (i:=3) rfl;have hw1:Below w.heap.size w w1:=(bA).trans (hb1.mono sMx);have c1:=(hw1.cell (p:=⟨b2,off2+rel*2,none⟩) hb2).trans hr1;have c2:w1.cell? ⟨b2,off2+rel*2+1,none⟩=_:=(hw1.cell (p:=⟨b2,off2+rel*2+1,none⟩) hb2).trans hr2;have HSB1:=oH hblk;have HW1:=oH hw1;have hl3:rel<rs.length:=hrel;clear hblk hb1 hw1 hr1 hr2 HSB HCH;go_wp2_with fail;clear s0 s1 s2 s3 c1 c2 d1 d2 d3;have hzz:Below w.heap.size w (w1.alloc (.cells #[.string nm,.slice ad xs.length cp] 68))/\Blk (w1.alloc (.cells #[.string nm,.slice ad xs.length cp] 68)) w.heap.size 31 [.slice aa at1.length ca,.slice (some ⟨b2,off2,none⟩) rs.length cr,.slice af fs.length cf,.int .i64 lb]/\Blk (w1.alloc (.cells #[.string nm,.slice ad xs.length cp] 68)) w1.heap.size 68 [.string nm,.slice ad xs.length cp]:=⟨HW1.alloc oMx _,HSB1.alloc _,Blk.new w1 _ [_,_]⟩
 have hg1:w1.heap.size<(w1.alloc (.cells #[.string nm,.slice ad xs.length cp] 68)).heap.size:=by simp
 generalize w1.alloc (.cells #[.string nm,.slice ad xs.length cp] 68)=wz at *;generalize w1.heap.size=g1 at *;clear HW1 HSB1;obtain ⟨hzw,hzs,hzr⟩:=hzz;have HZS:=oH hzs;have HZR:=oH hzr;have HZW:=oH hzw;have hzsz:=hzw.size;have hwz:w.heap.size<wz.heap.size:=hzs.lt;clear hzw hzs hzr
 go_loopw [42] (fun iv wr=>∃ k:Nat,iv = .int .i64 (k:Int)/\k<=T.length/\(∀ i,(hi:i<T.length)->i<k->low<=T[i].2/\T[i].2<=100)/\Below wz.heap.size wz wr) (fun iv _=>T.length-(intOf iv).toNat)
 ·exact ⟨0,rfl,oLx,fun i _ h=>absurd h oMx,bRx⟩
 obtain ⟨k,rfl,hk,hok,hbel⟩:=hrel;have HOK:=oH hok;have HBEL:=oH hbel;have hbw:Below w.heap.size w wr:=HZW.trans (hbel.mono hzsz);have HBW:=oH hbw;have hrsz:=hbel.size
 by_cases hlt:k<T.length
 ·obtain ⟨b6,off6,rfl,hb6,hcr⟩:=HV.sli2 (by intro e;subst e;simp at hlt);obtain ⟨u,q1,q2,hu⟩:=hcr k hlt;have hkey:=HT.out _ (List.getElem_mem hlt);have hkl:=hkey.1;have hnz:=HNZ.out _ (List.getElem_mem hlt);have q1':=(hbw.cell (p:=⟨b6,off6+k*2,none⟩) hb6).trans q1;have q2':wr.cell? ⟨b6,off6+k*2+1,none⟩=_:=(hbw.cell (p:=⟨b6,off6+k*2+1,none⟩) hb6).trans q2;have HU:=oH (hu.below hbw);obtain ⟨Au,cu,rfl, -⟩:=hu.form
  have HPREV:Hid (1<=k->∃ Ap lp cpp,wr.cell? ⟨b6,off6+(k-1)*2,none⟩=some (.slice Ap lp cpp)/\∀ W,Below wr.heap.size wr W->Calls Tryz.prog 95 #[.slice Ap lp cpp,.slice Au (T[k].1).length cu] W fun e w'=>e = .returned (.bool true)/\W=w'):=oH fun h1=>by
   obtain ⟨u',p1, -,hu'⟩:=hcr (k-1) oMx;obtain ⟨A',c',rfl, -⟩:=hu'.form;refine ⟨A',_,c',(hbw.cell (p:=⟨b6,off6+(k-1)*2,none⟩) hb6).trans p1,fun W hW=>?_⟩
   have hlen:∀ i,(hi:i<T.length)->(T[i].1).length<=1000:=fun i hi=>by have:=(HT.out _ (List.getElem_mem hi)).1;have:=HFINE.short;simp only at this;omega
   have:=JLess_of ((hu'.below hbw).below hW) (HU.below hW) (hlen _ _) (hlen _ _);have h2:=srt_at HS.out (i:=k-1) oMx;simp only [show k-1+1=k by omega] at h2;rw [h2] at this;exact this
  have HNX:=oH (fun (h:low<=T[k].2/\T[k].2<=100)=>(show ∀ i,(hi:i<T.length)->i<k+1->low<=T[i].2/\T[i].2<=100 from fun i hi h1=>by
   rcases Nat.lt_or_ge i k with h2|h2
   ·exact hok i hi h2
   obtain rfl:i=k:=by omega
   exact h))
  have HBAD:=oH (fun (h:T[k].2<low\/100<T[k].2)=>(show er=11 by rw [<-HER.out];exact zLp (List.getElem_mem hlt) h));have HKEY:=oH hkey
  have hb6r:b6<wr.heap.size:=by omega
  clear hcr hu hkey q1 q2 hok hbw;obtain ⟨row,hrow⟩:=eXx (T[k]);rw [hrow] at q2' hkl hnz HU HPREV HNX HBAD HKEY q1';obtain ⟨ks,z⟩:=row;simp only at q1' q2' hkl hnz HU HPREV HNX HBAD HKEY;rw [hkl] at q1' HPREV HU;clear hrow
  have hz0:(z==0)=false:=by rw [beq_eq_false_iff_ne];exact hnz
  have z0:=(HZS.below hbel).at_ (i:=0) rfl;have z1:=(HZS.below hbel).at_ (i:=1) rfl;have z2:=(HZS.below hbel).at_ (i:=2) rfl;have z3:=(HZS.below hbel).at_ (i:=3) rfl;have y0:=(HZR.below hbel).at_ (i:=0) rfl;have y1:=(HZR.below hbel).at_ (i:=1) rfl
  have hg2:g1<wr.heap.size:=by omega
  have hg3:w.heap.size<wr.heap.size:=by omega
  have hba:Below wr.heap.size wr (wr.alloc (.cells #[.slice Au xs.length cu,.int .i64 z] 64)):=bA;have HCALL:=oH (HPV.out ks z (.slice Au xs.length cu) _ (HBW.trans (hba.mono oMx)) HKEY.out (HU.below hba));have HRB:=oH (Blk.new wr 64 [.slice Au xs.length cu,.int .i64 z]);clear hbel hba;go_wp2_with fail;refine HCALL.mono ?_;rintro e w3 ⟨rfl,hb3⟩;have hrb:=HRB.below hb3;have e0:=hrb.at_ (i:=0) rfl;have e1:=hrb.at_ (i:=1) rfl;have hw3:Below wr.heap.size wr w3:=(bA).trans (hb3.mono sMx);have HW3:=oH hw3;have hsz3:wr.heap.size<w3.heap.size:=hrb.lt;clear hrb hb3 HRB HCALL z0 z1 z2 z3 y0 y1 q1' q2'
  by_cases hlo:z<low
  ·have l1:decide (z<low)=true:=decide_eq_true hlo;have E:=oH (HBAD.out (.inl hlo));clear hw3;go_wp2_with fail;go_ret
   exact ⟨by rw [E.out];rfl,HBW.trans (HW3.mono oMx)⟩
  have l1:decide (z<low)=false:=decide_eq_false hlo
  by_cases hhi:100<z
  ·have l2:decide ((100:Int)<z)=true:=decide_eq_true hhi;have E:=oH (HBAD.out (.inr hhi));clear hw3;go_wp2_with fail;go_ret
   exact ⟨by rw [E.out];rfl,HBW.trans (HW3.mono oMx)⟩
  have l2:decide ((100:Int)<z)=false:=decide_eq_false hhi;have HN2:=oH (HNX.out ⟨oMx,oMx⟩)
  by_cases h1:1<=k
  ·obtain ⟨Ap,lp,cpp,p1,hcall⟩:=HPREV.out h1;have p1':=(hw3.cell (p:=⟨b6,off6+(k-1)*2,none⟩) hb6r).trans p1;have HC:=oH (fun W (hW:Below w3.heap.size w3 W)=>hcall W (hw3.trans (hW.mono oMx)));have g0:decide (0<k)=true:=decide_eq_true oMx
   have g1:IntKind.i64.wrap ((k:Int)-1)=((k-1:Nat):Int):=by rw [IntWalk.i64_in _ oMx];omega
   have g2:k-1<T.length:=by omega
   clear p1 hcall hw3;go_wp2_with fail
   go_quiet ((go_at_call 95;exact ((HC.out _ (below_drewN bRx _)).mono fun e w' h=>⟨h.1,_,h.2.symm⟩)))
   have HB4:=oH (HBEL.trans (HW3.mono hrsz));go_wp2_with fail;go_roundw
   ·exact ⟨k+1,by go_num,oMx,HN2.out,below_drewN HB4.out _⟩
   simp [intOf];omega
  have g0:decide (0<k)=false:=decide_eq_false oMx;have HB4:=oH (HBEL.trans (HW3.mono hrsz));clear hw3;go_wp2_with fail
  go_quiet (fail)
  go_wp2_with fail;go_roundw
  ·exact ⟨k+1,by go_num,oMx,HN2.out,below_drewN HB4.out _⟩
  simp [intOf];omega
 obtain rfl:k=T.length:=by omega
 have E:=oH (show er=0 by
  rw [<-HER.out]
  exact zLq fun r hr=>by
   obtain ⟨i,hi,rfl⟩:=List.getElem_of_mem hr
   exact hok i hi hi)
 clear hbel hbw hok;go_wp2_with fail;go_ret
 exact ⟨by rw [E.out];rfl,HBW.out⟩
theorem zEk {S:zFv} {rel:Nat} {v:Value} {T:List zGg} {most low:Int} {w:World} (hin:zBp w S) (hok:zFu S) (hlow:zCg S) (hv:Sl zOe w v T) (hrel:rel<S.rs.length) (hT:zGh S.at1 S.rs[rel].xs T) (hs:Srt T) (hz:NZ T) (hl:(T.length:Int)<=most) (hl2:T.length<=1000) :
  Calls Tryz.prog 64 #[.agg S.cells,.int .i64 (rel:Int),v,.int .i64 low,.int .i64 most] w fun e w'=>e = .returned (.int .i64 (zLo low T))/\Below w.heap.size w w':=by
 have hba:Below w.heap.size w (w.alloc (.cells S.cells 31)):=bA;have HCH:=oH (zDt S (w.alloc (.cells S.cells 31)) (hin.below hba) hok hlow);have HATT:=oH hin.a;have HIN:=oH hin;have HV:=oH hv;have HT:=oH hT;have HS:=oH hs;have HNZ:=oH hz;have HFINE:=oH (hok.fine.rel _ (List.getElem_mem hrel));have HCELL:=oH (hin.x _ (List.getElem_mem hrel));obtain ⟨A,c,rfl, -⟩:=hv.form;obtain ⟨er,her⟩:=eXx (zLo low T);have HER:=oH her;rw [her];obtain ⟨b2,off2,hb2a,hb2,hrow2⟩:=hin.r.some (zTg (by intro e;rw [e] at hrel;simp at hrel));have hr1:=hrow2.at_ (zTf hrel).1;have hr2:w.cell? ⟨b2,off2+rel*2+1,none⟩=_:=hrow2.at_ (zTf hrel).2;have HSB:=oH (Blk.new w 31 S.cells.toList);obtain ⟨r,hr⟩:=eXx (S.rs[rel]);rw [hr] at HT HFINE HCELL hr1 hr2;clear hin hv hT hs hz hba her hrow2 hok hr hlow;unfold zFv.cells at HCH HSB ⊢;obtain ⟨at1,aa,ca,rs,ar,cr,fs,af,cf,lb⟩:=S;obtain ⟨nm,ad,cp,xs⟩:=r;simp only at hrel HT HIN HFINE HCELL HCH HSB hr1 hr2 hb2a HATT ⊢
 subst hb2a;have d1:decide ((rel:Int)<0)=false:=decide_eq_false oMx;have d2:decide (rs.length<=rel)=false:=decide_eq_false oMx;have d3:decide (most<(T.length:Int))=false:=decide_eq_false oMx
 go_enter Tryz.func64,Tryz.ntmps64
 go_wp2_with fail;refine HCH.mono ?_;rintro e w1 ⟨rfl,hb1⟩;have hbl:=hb1.size;rw [World.size_alloc] at hbl;have hblk:=HSB.below hb1;have s0:=hblk.at_ (i:=0) rfl;have s1:=hblk.at_ (i:=1) rfl;have s2:=hblk.at_ (i:=2) rfl;have s3:=hblk.at_ (i:=3) rfl;have hw1:Below w.heap.size w w1:=(bA).trans (hb1.mono sMx);have c1:=(hw1.cell (p:=⟨b2,off2+rel*2,none⟩) hb2).trans hr1;have c2:w1.cell? ⟨b2,off2+rel*2+1,none⟩=_:=(hw1.cell (p:=⟨b2,off2+rel*2+1,none⟩) hb2).trans hr2;have HSB1:=oH hblk;have HW1:=oH hw1;have hl3:rel<rs.length:=hrel;clear hblk hb1 hw1 hr1 hr2 HSB HCH;go_wp2_with fail;clear s0 s1 s2 s3 c1 c2 d1 d2 d3;have hzz:Below w.heap.size w (w1.alloc (.cells #[.string nm,.slice ad xs.length cp] 68))/\Blk (w1.alloc (.cells #[.string nm,.slice ad xs.length cp] 68)) w.heap.size 31 [.slice aa at1.length ca,.slice (some ⟨b2,off2,none⟩) rs.length cr,.slice af fs.length cf,.int .i64 lb]/\Blk (w1.alloc (.cells #[.string nm,.slice ad xs.length cp] 68)) w1.heap.size 68 [.string nm,.slice ad xs.length cp]:=⟨HW1.alloc oMx _,HSB1.alloc _,Blk.new w1 _ [_,_]⟩
 have hg1:w1.heap.size<(w1.alloc (.cells #[.string nm,.slice ad xs.length cp] 68)).heap.size:=by simp
 generalize w1.alloc (.cells #[.string nm,.slice ad xs.length cp] 68)=wz at *;generalize w1.heap.size=gr at *;clear HW1 HSB1;obtain ⟨hzw,hzs,hzr⟩:=hzz;have HZS:=oH hzs;have HZR:=oH hzr;have HZW:=oH hzw;have hzsz:=hzw.size;have hwz:w.heap.size<wz.heap.size:=hzs.lt;clear hzw hzs hzr
 go_loopw [42] (fun iv wr=>∃ k:Nat,iv = .int .i64 (k:Int)/\k<=T.length/\(∀ i,(hi:i<T.length)->i<k->low<=T[i].2/\T[i].2<=100)/\Below wz.heap.size wz wr) (fun iv _=>T.length-(intOf iv).toNat)
 ·exact ⟨0,rfl,oLx,fun i _ h=>absurd h oMx,bRx⟩
 obtain ⟨k,rfl,hk,hok,hbel⟩:=hrel;obtain ⟨wo,rfl⟩:=nWx wr;have HOK:=oH hok;have HBEL:=oH hbel;have hbw:Below w.heap.size w wo:=HZW.trans (hbel.mono hzsz);have HBW:=oH hbw;have hrsz:=hbel.size
 by_cases hlt:k<T.length
 ·obtain ⟨b6,off6,rfl,hb6,hcr⟩:=HV.sli2 (by intro e;subst e;simp at hlt);obtain ⟨u,q1,q2,hu⟩:=hcr k hlt;have hkey:=HT.out _ (List.getElem_mem hlt);have hkl:=hkey.1;have hnz:=HNZ.out _ (List.getElem_mem hlt);have q1':=(hbw.cell (p:=⟨b6,off6+k*2,none⟩) hb6).trans q1;have q2':wo.cell? ⟨b6,off6+k*2+1,none⟩=_:=(hbw.cell (p:=⟨b6,off6+k*2+1,none⟩) hb6).trans q2;have HU:=oH (hu.below hbw);obtain ⟨Au,cu,rfl, -⟩:=hu.form
  have HPREV:Hid (1<=k->∃ Ap lp cpp,wo.cell? ⟨b6,off6+(k-1)*2,none⟩=some (.slice Ap lp cpp)/\∀ W,Below wo.heap.size wo W->Calls Tryz.prog 58 #[.slice Ap lp cpp,.slice Au (T[k].1).length cu] W fun e w'=>e = .returned (.bool true)/\∃ q,w'=W.drewN q):=oH fun h1=>by
   obtain ⟨u',p1, -,hu'⟩:=hcr (k-1) oMx;obtain ⟨A',c',rfl, -⟩:=hu'.form;refine ⟨A',_,c',(hbw.cell (p:=⟨b6,off6+(k-1)*2,none⟩) hb6).trans p1,fun W hW=>?_⟩
   have hlen:∀ i,(hi:i<T.length)->(T[i].1).length<=1000:=fun i hi=>by have:=(HT.out _ (List.getElem_mem hi)).1;have:=HFINE.short;simp only at this;omega
   have:=zEf ((hu'.below hbw).below hW) (HU.below hW) (hlen _ _) (hlen _ _);have h2:=srt_at HS.out (i:=k-1) oMx;simp only [show k-1+1=k by omega] at h2;rw [h2] at this;exact this
  have HNX:=oH (fun (h:low<=T[k].2/\T[k].2<=100)=>(show ∀ i,(hi:i<T.length)->i<k+1->low<=T[i].2/\T[i].2<=100 from fun i hi h1=>by
   rcases Nat.lt_or_ge i k with h2|h2
   ·exact hok i hi h2
   obtain rfl:i=k:=by omega
   exact h))
  have HBAD:=oH (fun (h:T[k].2<low\/100<T[k].2)=>(show er=11 by rw [<-HER.out];exact zLp (List.getElem_mem hlt) h));have HKEY:=oH hkey
  have hb6r:b6<wo.heap.size:=by omega
  clear hcr hu hkey q1 q2 hok hbw;obtain ⟨row,hrow⟩:=eXx (T[k]);rw [hrow] at q2' hkl hnz HU HPREV HNX HBAD HKEY q1';obtain ⟨ks,z⟩:=row;simp only at q1' q2' hkl hnz HU HPREV HNX HBAD HKEY;rw [hkl] at q1' HPREV HU;clear hrow
  have hz0:(z==0)=false:=by rw [beq_eq_false_iff_ne];exact hnz
  have z0:=(HZS.below hbel).at_ (i:=0) rfl;have z1:=(HZS.below hbel).at_ (i:=1) rfl;have z2:=(HZS.below hbel).at_ (i:=2) rfl;have z3:=(HZS.below hbel).at_ (i:=3) rfl;have y0:=(HZR.below hbel).at_ (i:=0) rfl;have y1:=(HZR.below hbel).at_ (i:=1) rfl
  have hg2:gr<wo.heap.size:=by omega
  have hg3:w.heap.size<wo.heap.size:=by omega
  obtain ⟨w2,hw2⟩:∃ w2,w2=wo.alloc (.cells #[.slice Au xs.length cu,.int .i64 z] 64):=⟨_,rfl⟩
  have hba:Below wo.heap.size wo w2:=by rw [hw2];exact bA
  have HRB:=oH (show Blk w2 wo.heap.size 64 [.slice Au xs.length cu,.int .i64 z] by rw [hw2];exact Blk.new wo _ [_,_]);have HB2:=oH hba;have hxl:xs.length<=1000:=HFINE.short;have hsz2:wo.heap.size<w2.heap.size:=HRB.lt;have HZS2:=oH ((HZS.below hbel).below hba);have HZR2:=oH ((HZR.below hbel).below hba);have HW2:=oH hw2;clear hbel hba hw2;go_wp2_with fail;rw [<-HW2.out];clear HW2 z0 z1 z2 z3 y0 y1
  go_loopw [57] (fun iv wq=>∃ j:Nat,iv = .int .i64 (j:Int)/\j<=xs.length/\Below w2.heap.size w2 wq) (fun iv _=>xs.length-(intOf iv).toNat)
  ·exact ⟨0,rfl,oLx,bRx⟩
  case round =>
  obtain ⟨j,rfl,hj,hbel2⟩:=hrel;obtain ⟨w3,rfl⟩:=nWx wr;have HBEL2:=oH hbel2;have hw3:Below wo.heap.size wo w3:=HB2.trans (hbel2.mono oMx);have HW3:=oH hw3;have hbl3:=hbel2.size
  by_cases hltj:j<xs.length
  ·have hbw3:Below w.heap.size w w3:=HBW.trans (hw3.mono oMx);obtain ⟨b3,off3,rfl,hb3,hcx⟩:=HCELL.out (by intro e;subst e;simp at hltj);have hcxk:=(hbw3.cell (p:=⟨b3,off3+j,none⟩) hb3).trans (hcx j hltj);obtain ⟨b5,off5,rfl,hb5,hcu⟩:=HU.txt (by intro e;subst e;simp at hkl;omega);have hcuk:=(hw3.cell (p:=⟨b5,off5+j,none⟩) hb5).trans (hcu j oMx);obtain ⟨hx,hg⟩:=HKEY.2 j oMx;obtain ⟨b,off,rfl,hb,hrow⟩:=HATT.some (zHq (by intro e;subst e;simp at hx));have ha1:=(hbw3.cell (p:=⟨b,off+nth xs j*2,none⟩) hb).trans (hrow.at_ (zHp hx).1);have ha2:=(hbw3.cell (p:=⟨b,off+(nth xs j*2+1),none⟩) hb).trans (hrow.at_ (zHp hx).2);rw [<-Nat.add_assoc] at ha2;have hz0':=(HZS2.below hbel2).at_ (i:=0) rfl;have hz1':=(HZR2.below hbel2).at_ (i:=1) rfl;obtain ⟨s,hs⟩:=eXx (ks[j]);rw [hs] at hcuk hg;clear hcx hcu hrow hs;generalize at1[nth xs j].1=an at *;generalize at1[nth xs j].2=ak at *;generalize nth xs j=x at *
   have HV2:=oH (fun W=>zEs an s ak W hg);have hbl:=hbw3.size
   have KB:Hid (∀ W,Below w3.heap.size w3 W->W.cell? ⟨w.heap.size,0,none⟩=some (.slice (some ⟨b,off,none⟩) at1.length ca)/\W.cell? ⟨gr,1,none⟩=some (.slice (some ⟨b3,off3,none⟩) xs.length cp)/\W.cell? ⟨b3,off3+j,none⟩=some (.int .i64 (x:Int))/\W.cell? ⟨b,off+x*2,none⟩=some (.string an)/\W.cell? ⟨b,off+x*2+1,none⟩=some (.int .i64 ak)):=oH fun W hW=>⟨(hW.cell (p:=⟨w.heap.size,0,none⟩) (by simp;omega)).trans hz0',(hW.cell (p:=⟨gr,1,none⟩) (by simp;omega)).trans hz1',(hW.cell (p:=⟨b3,off3+j,none⟩) (by simp;omega)).trans hcxk,(hW.cell (p:=⟨b,off+x*2,none⟩) (by simp;omega)).trans ha1,(hW.cell (p:=⟨b,off+x*2+1,none⟩) (by simp;omega)).trans ha2⟩
   have HWz:=oH (Below.refl w3.heap.size w3).drew;clear hbel2 hbw3 hg ha1 ha2 hw3 hcxk hz0' hz1';go_wp2_with fail;refine wp_region_held_drew (S:=(fun w'=>w'.cell? ⟨w.heap.size,0,none⟩=some (.slice (some ⟨b,off,none⟩) at1.length ca)/\w'.cell? ⟨gr,1,none⟩=some (.slice (some ⟨b3,off3,none⟩) xs.length cp)/\w'.cell? ⟨b3,off3+j,none⟩=some (.int .i64 (x:Int))/\w'.cell? ⟨b,off+x*2,none⟩=some (.string an)/\w'.cell? ⟨b,off+x*2+1,none⟩=some (.int .i64 ak))) (by kernel_rfl) (by exact KB.out _ HWz.out) (fun hHeld=>?_);refine tkH 0 ?_;refine tkH 1 ?_;refine tkH 2 ?_;refine tkH 3 ?_;refine tkH 4 ?_;refine tkH 5 ?_;refine tkH 6 ?_;refine tkH 7 ?_;refine tkH 8 ?_;refine tkH 9 ?_
   try simp only [Act.put,tkA,tkB,tkC]
   refine tkS 10 fun K hK=>?_
   go_simp
   (go_at_call 77;(with_reducible refine (HV2.out _).mono ?_);rintro e wa ⟨rfl,hb⟩;have hw:Below w3.heap.size w3 wa:=HWz.out.trans (hb.mono HWz.out.size);have HWa:=oH hw;clear hb hw)
   go_wp2_with fail;refine hK.out _ _ ?_ (fun hHeld=>?_)
   ·first|with_reducible exact KB.out _ HWa.out
   clear hK K
   try simp only [Act.put,tkA,tkB,tkC]
   refine tkH 11 ?_
   try simp only [Act.put,tkA,tkB,tkC]
   refine wpAnyH_done (by kernel_rfl) ?_ _;have HB5:=oH (HBEL2.trans (HWa.mono hbl3));go_wp2_with fail;go_roundw
   ·exact ⟨j+1,by go_num,oMx,HB5.out⟩
   simp [intOf];omega
  obtain rfl:j=xs.length:=by omega
  have hsz3:wo.heap.size<w3.heap.size:=by omega
  have e1:=(HRB.below hbel2).at_ (i:=1) rfl;have e0:=(HRB.below hbel2).at_ (i:=0) rfl;clear hbel2
  by_cases hlo:z<low
  ·have l1:decide (z<low)=true:=decide_eq_true hlo;have E:=oH (HBAD.out (.inl hlo));clear hw3;go_wp2_with fail;go_ret
   exact ⟨by rw [E.out];rfl,HBW.trans (HW3.mono oMx)⟩
  have l1:decide (z<low)=false:=decide_eq_false hlo
  by_cases hhi:100<z
  ·have l2:decide ((100:Int)<z)=true:=decide_eq_true hhi;have E:=oH (HBAD.out (.inr hhi));clear hw3;go_wp2_with fail;go_ret
   exact ⟨by rw [E.out];rfl,HBW.trans (HW3.mono oMx)⟩
  have l2:decide ((100:Int)<z)=false:=decide_eq_false hhi;have HN2:=oH (HNX.out ⟨oMx,oMx⟩)
  by_cases h1:1<=k
  ·obtain ⟨Ap,lp,cpp,p1,hcall⟩:=HPREV.out h1;have p1':=(hw3.cell (p:=⟨b6,off6+(k-1)*2,none⟩) hb6r).trans p1;have HC:=oH (fun W (hW:Below w3.heap.size w3 W)=>hcall W (hw3.trans (hW.mono oMx)));have g0:decide (0<k)=true:=decide_eq_true oMx
   have g1:IntKind.i64.wrap ((k:Int)-1)=((k-1:Nat):Int):=by rw [IntWalk.i64_in _ oMx];omega
   have g2:k-1<T.length:=by omega
   clear p1 hcall hw3;go_wp2_with fail
   go_quiet ((go_at_call 58;exact zSs (HC.out _ (below_drewN bRx _))))
   have HB4:=oH (HBEL.trans (HW3.mono hrsz));go_wp2_with fail;go_roundw
   ·exact ⟨k+1,by go_num,oMx,HN2.out,below_drewN HB4.out _⟩
   simp [intOf];omega
  have g0:decide (0<k)=false:=decide_eq_false oMx;have HB4:=oH (HBEL.trans (HW3.mono hrsz));clear hw3;go_wp2_with fail
  go_quiet (fail)
  go_wp2_with fail;go_roundw
  ·exact ⟨k+1,by go_num,oMx,HN2.out,below_drewN HB4.out _⟩
  simp [intOf];omega
 obtain rfl:k=T.length:=by omega
 have E:=oH (show er=0 by
  rw [<-HER.out]
  exact zLq fun r hr=>by
   obtain ⟨i,hi,rfl⟩:=List.getElem_of_mem hr
   exact hok i hi hi)
 clear hbel hbw hok;go_wp2_with fail;go_ret
 exact ⟨by rw [E.out];rfl,HBW.out⟩
structure zGi (S:zFv) (rel:Nat) (T:List zGg):Prop where
 lt:rel<S.rs.length
 g:zGh S.at1 S.rs[rel].xs T
 srt:Srt T
 nz:NZ T
structure DbK (S:zFv) (D:List Tbl):Prop where
 len:D.length=S.rs.length
 tab:∀ i,(hi:i<D.length)->zGi S i D[i]/\D[i].length<=60/\∀ r∈D[i],1<=r.2/\r.2<=100
theorem zDj {S:zFv} {rel:Nat} {v:Value} {T:List zGg} {w:World} (henv:Env w) (hin:zBp w S) (hok:zFu S) (hv:Sl zOe w v T) (hT:zGi S rel T) (hl:T.length<=60) :
  Calls Tryz.prog 66 #[.agg S.cells,.int .i64 (rel:Int),v] w fun e w'=>e = .returned (.int .i64 (zLo 1 T))/\Below w.heap.size w w':=by
 have hba:Below w.heap.size w (w.alloc (.cells S.cells 31)):=bA;have HC:=oH (zDi (henv.below hba) (hin.below hba) hok (hv.below hba) hT.lt hT.g hT.srt hT.nz oMx oMx (low:=1) (most:=60));obtain ⟨A,c,rfl, -⟩:=hv.form;clear hin hok hv hT hba henv;unfold zFv.cells at *;generalize zLo 1 T=er at *
 go_enter Tryz.func66,Tryz.ntmps66
 go_wp2_with fail;refine HC.mono ?_;rintro e w1 ⟨rfl,hb1⟩;have HB:=oH (((Below.refl w.heap.size w).alloc lRx (.cells #[.slice S.aa S.at1.length S.ca,.slice S.ar S.rs.length S.cr,.slice S.af S.fs.length S.cf,.int .i64 S.lb] 31)).trans (hb1.mono sMx));clear hb1;go_wp2_with fail;go_ret
 exact ⟨rfl,HB.out⟩
theorem zDf {S:zFv} {rel:Nat} {v:Value} {T:List zGg} {w:World} (henv:Env w) (hin:zBp w S) (hok:zFu S) (hv:Sl zOe w v T) (hT:zGi S rel T) (hl:T.length<=120) :
  Calls Tryz.prog 72 #[.agg S.cells,.agg #[.int .i64 (rel:Int),v]] w fun e w'=>e = .returned (.int .i64 (zLo (-100) T))/\Below w.heap.size w w':=by
 have hba:Below w.heap.size w ((w.alloc (.cells S.cells 31)).alloc (.cells #[.int .i64 (rel:Int),v] 45)):=(bA).alloc sMx _;have HC:=oH (zDi (henv.below hba) (hin.below hba) hok (hv.below hba) hT.lt hT.g hT.srt hT.nz oMx oMx (low := -100) (most:=120));have HBA:=oH hba;obtain ⟨A,c,rfl, -⟩:=hv.form;clear hin hok hv hT hba henv;unfold zFv.cells at *;generalize zLo (-100) T=er at *
 go_enter Tryz.func72,Tryz.ntmps72
 go_wp2_with fail;refine HC.mono ?_;rintro e w1 ⟨rfl,hb1⟩;have HB:=bTx2 HBA hb1;clear hb1;go_wp2_with fail;go_ret
 exact ⟨rfl,HB.out⟩
theorem zEq {S:zFv} {rel:Nat} {v:Value} {T:List zGg} {w:World} (hin:zBp w S) (hok:zFu S) (hlow:zCg S) (hv:Sl zOe w v T) (hT:zGi S rel T) (hl:T.length<=60) :
  Calls Tryz.prog 63 #[.agg S.cells,.int .i64 (rel:Int),v] w fun e w'=>e = .returned (.int .i64 (zLo 1 T))/\Below w.heap.size w w':=by
 have hba:Below w.heap.size w (w.alloc (.cells S.cells 31)):=bA;have HC:=oH (zEk (hin.below hba) hok hlow (hv.below hba) hT.lt hT.g hT.srt hT.nz oMx oMx (low:=1) (most:=60));obtain ⟨A,c,rfl, -⟩:=hv.form;clear hin hok hv hT hba hlow;unfold zFv.cells at *;generalize zLo 1 T=er at *
 go_enter Tryz.func63,Tryz.ntmps63
 go_wp2_with fail;refine HC.mono ?_;rintro e w1 ⟨rfl,hb1⟩;have HB:=oH (((Below.refl w.heap.size w).alloc lRx (.cells #[.slice S.aa S.at1.length S.ca,.slice S.ar S.rs.length S.cr,.slice S.af S.fs.length S.cf,.int .i64 S.lb] 31)).trans (hb1.mono sMx));clear hb1;go_wp2_with fail;go_ret
 exact ⟨rfl,HB.out⟩
theorem zDy {S:zFv} {rel:Nat} {v:Value} {T:List zGg} {w:World} (hin:zBp w S) (hok:zFu S) (hlow:zCg S) (hv:Sl zOe w v T) (hT:zGi S rel T) (hl:T.length<=120) :
  Calls Tryz.prog 43 #[.agg S.cells,.agg #[.int .i64 (rel:Int),v]] w fun e w'=>e = .returned (.int .i64 (zLo (-100) T))/\Below w.heap.size w w':=by
 have hba:Below w.heap.size w ((w.alloc (.cells S.cells 31)).alloc (.cells #[.int .i64 (rel:Int),v] 45)):=(bA).alloc sMx _;have HC:=oH (zEk (hin.below hba) hok hlow (hv.below hba) hT.lt hT.g hT.srt hT.nz oMx oMx (low := -100) (most:=120));have HBA:=oH hba;obtain ⟨A,c,rfl, -⟩:=hv.form;clear hin hok hv hT hba hlow;unfold zFv.cells at *;generalize zLo (-100) T=er at *
 go_enter Tryz.func43,Tryz.ntmps43
 go_wp2_with fail;refine HC.mono ?_;rintro e w1 ⟨rfl,hb1⟩;have HB:=bTx2 HBA hb1;clear hb1;go_wp2_with fail;go_ret
 exact ⟨rfl,HB.out⟩
theorem zCx {S:zFv} {v:Value} {D:List Tbl} {w:World} (henv:Env w) (hin:zBp w S) (hok:zFu S) (hv:Sl zOf w v D) (hD:DbK S D) :
  Calls Tryz.prog 45 #[.agg S.cells,v] w fun e w'=>e = .returned (.int .i64 0)/\Below w.heap.size w w':=by
 have hba:Below w.heap.size w (w.alloc (.cells S.cells 31)):=bA;have HCH:=oH (zAf S _ (hin.below hba) hok);have HSB:=oH (Blk.new w 31 S.cells.toList);have HIN:=oH hin;have HSO:=oH hok;have HV:=oH hv;have HDB:=oH hD;have hlen:=hD.len;have hr6:=hok.fine.r2;have HEV:=oH henv;obtain ⟨A,c,rfl, -⟩:=hv.form;clear hin hok hv hD hba henv;unfold zFv.cells at HCH HSB ⊢;obtain ⟨at1,aa,ca,rs,ar,cr,fs,af,cf,lb⟩:=S;simp only at hlen HCH HSB hr6 ⊢
 go_enter Tryz.func45,Tryz.ntmps45
 go_wp2_with fail;refine HCH.mono ?_;rintro e w1 ⟨rfl,hb1⟩;have hblk:=HSB.below hb1;have s1:=hblk.at_ (i:=1) rfl;have HS1:=oH hblk;have HW1:=oH (((Below.refl w.heap.size w).alloc lRx (.cells #[.slice aa at1.length ca,.slice ar rs.length cr,.slice af fs.length cf,.int .i64 lb] 31)).trans (hb1.mono sMx))
 have hne:((D.length:Int) != (rs.length:Int))=false:=by rw [bne,Bool.not_eq_false',beq_iff_eq];omega
 have hne2:(D.length != rs.length)=false:=by rw [bne,Bool.not_eq_false',beq_iff_eq];omega
 clear hblk hb1 HSB HCH;go_wp2_with fail;clear hne hne2 s1
 go_loopw [22] (fun iv wr=>∃ k:Nat,iv = .int .i64 (k:Int)/\k<=D.length/\Below w1.heap.size w1 wr) (fun iv _=>D.length-(intOf iv).toNat)
 ·exact ⟨0,rfl,oLx,bRx⟩
 obtain ⟨k,rfl,hk,hbel⟩:=hrel;have HBEL:=oH hbel;have hbw:Below w.heap.size w wr:=HW1.trans (hbel.mono HW1.size);have HBW:=oH hbw
 by_cases hlt:k<D.length
 ·obtain ⟨b6,off6,rfl,hb6,hcr⟩:=HV.sl1 (by intro e;subst e;simp at hlt);obtain ⟨u,q1,hu⟩:=hcr k hlt;replace q1:=(hbw.cell (p:=⟨b6,off6+k,none⟩) hb6).trans q1;have HU:=oH (hu.below hbw);have HX:=oH (HS1.below hbel);have s0:=HX.at_ (i:=0) rfl;have s1:=HX.at_ (i:=1) rfl;have s2:=HX.at_ (i:=2) rfl;have s3:=HX.at_ (i:=3) rfl;have hbl:=hbw.size
  have hb6r:b6<wr.heap.size:=by omega
  clear hcr hu hbel hbw
  have HCT:=oH (fun W (hW:Below w.heap.size w W) (hu:Sl zOe W u D[k])=>by
   have hT:=(HDB.tab k hlt).1;have hl:=(HDB.tab k hlt).2.1;have:=zDj (HEV.below hW) (HIN.below hW) HSO.out hu hT hl;rw [zLq (HDB.tab k hlt).2.2] at this
   exact this)
  unfold zFv.cells at HCT;simp only at HCT;go_wp2_with fail;refine (HCT.out _ HBW.out HU.out).mono ?_;rintro e wa ⟨rfl,hba⟩;have HB2:=bTx2 HBEL hba;clear hba;go_wp2_with fail;go_roundw
  ·exact ⟨k+1,by go_num,oMx,HB2.out⟩
  simp [intOf];omega
 obtain rfl:k=D.length:=by omega
 clear hbel hbw;go_wp2_with fail;go_ret
 exact ⟨rfl,HBW.out⟩
theorem zDs {S:zFv} {v:Value} {D:List Tbl} {w:World} (hin:zBp w S) (hok:zFu S) (hlow:zCg S) (hv:Sl zOf w v D) (hD:DbK S D) :
  Calls Tryz.prog 42 #[.agg S.cells,v] w fun e w'=>e = .returned (.int .i64 0)/\Below w.heap.size w w':=by
 have hba:Below w.heap.size w (w.alloc (.cells S.cells 31)):=bA;have HCH:=oH (zDt S _ (hin.below hba) hok hlow);have HSB:=oH (Blk.new w 31 S.cells.toList);have HIN:=oH hin;have HSO:=oH hok;have HV:=oH hv;have HDB:=oH hD;have hlen:=hD.len;have hr6:=hok.fine.r2;have HLOW:=oH hlow;obtain ⟨A,c,rfl, -⟩:=hv.form;clear hin hok hv hD hba hlow;unfold zFv.cells at HCH HSB ⊢;obtain ⟨at1,aa,ca,rs,ar,cr,fs,af,cf,lb⟩:=S;simp only at hlen HCH HSB hr6 ⊢
 go_enter Tryz.func42,Tryz.ntmps42
 go_wp2_with fail;refine HCH.mono ?_;rintro e w1 ⟨rfl,hb1⟩;have hblk:=HSB.below hb1;have s1:=hblk.at_ (i:=1) rfl;have HS1:=oH hblk;have HW1:=oH (((Below.refl w.heap.size w).alloc lRx (.cells #[.slice aa at1.length ca,.slice ar rs.length cr,.slice af fs.length cf,.int .i64 lb] 31)).trans (hb1.mono sMx))
 have hne:((D.length:Int) != (rs.length:Int))=false:=by rw [bne,Bool.not_eq_false',beq_iff_eq];omega
 have hne2:(D.length != rs.length)=false:=by rw [bne,Bool.not_eq_false',beq_iff_eq];omega
 clear hblk hb1 HSB HCH;go_wp2_with fail;clear hne hne2 s1
 go_loopw [21] (fun iv wr=>∃ k:Nat,iv = .int .i64 (k:Int)/\k<=D.length/\Below w1.heap.size w1 wr) (fun iv _=>D.length-(intOf iv).toNat)
 ·exact ⟨0,rfl,oLx,bRx⟩
 obtain ⟨k,rfl,hk,hbel⟩:=hrel;have HBEL:=oH hbel;have hbw:Below w.heap.size w wr:=HW1.trans (hbel.mono HW1.size);have HBW:=oH hbw
 by_cases hlt:k<D.length
 ·obtain ⟨b6,off6,rfl,hb6,hcr⟩:=HV.sl1 (by intro e;subst e;simp at hlt);obtain ⟨u,q1,hu⟩:=hcr k hlt;replace q1:=(hbw.cell (p:=⟨b6,off6+k,none⟩) hb6).trans q1;have HU:=oH (hu.below hbw);have HX:=oH (HS1.below hbel);have s0:=HX.at_ (i:=0) rfl;have s1:=HX.at_ (i:=1) rfl;have s2:=HX.at_ (i:=2) rfl;have s3:=HX.at_ (i:=3) rfl;have hbl:=hbw.size
  have hb6r:b6<wr.heap.size:=by omega
  clear hcr hu hbel hbw
  have HCT:=oH (fun W (hW:Below w.heap.size w W) (hu:Sl zOe W u D[k])=>by
   have hT:=(HDB.tab k hlt).1;have hl:=(HDB.tab k hlt).2.1;have:=zEq (HIN.below hW) HSO.out HLOW.out hu hT hl;rw [zLq (HDB.tab k hlt).2.2] at this
   exact this)
  unfold zFv.cells at HCT;simp only at HCT
  have KB:Hid (∀ W,Below wr.heap.size wr W->W.cell? ⟨w.heap.size,0,none⟩=some (.slice aa at1.length ca)/\W.cell? ⟨w.heap.size,1,none⟩=some (.slice ar rs.length cr)/\W.cell? ⟨w.heap.size,2,none⟩=some (.slice af fs.length cf)/\W.cell? ⟨w.heap.size,3,none⟩=some (.int .i64 lb)/\W.cell? ⟨b6,off6+k,none⟩=some (u)):=oH fun W hW=>⟨(HX.below hW).at_ (i:=0) rfl,(HX.below hW).at_ (i:=1) rfl,(HX.below hW).at_ (i:=2) rfl,(HX.below hW).at_ (i:=3) rfl,(hW.cell (p:=⟨b6,off6+k,none⟩) hb6r).trans q1⟩
  have HWz:=oH (Below.refl wr.heap.size wr).drew;clear s0 s1 s2 s3 q1;go_wp2_with fail;refine wp_region_held_drew (S:=(fun w'=>w'.cell? ⟨w.heap.size,0,none⟩=some (.slice aa at1.length ca)/\w'.cell? ⟨w.heap.size,1,none⟩=some (.slice ar rs.length cr)/\w'.cell? ⟨w.heap.size,2,none⟩=some (.slice af fs.length cf)/\w'.cell? ⟨w.heap.size,3,none⟩=some (.int .i64 lb)/\w'.cell? ⟨b6,off6+k,none⟩=some (u))) (by kernel_rfl) (by exact KB.out _ HWz.out) (fun hHeld=>?_);refine tkH 0 ?_;refine tkH 1 ?_;refine tkH 2 ?_;refine tkH 3 ?_;refine tkH 4 ?_;refine tkH 5 ?_
  try simp only [Act.put,tkA,tkB,tkC]
  refine tkS 6 fun K hK=>?_
  go_simp
  (go_at_call 63;(with_reducible refine (HCT.out _ (HBW.out.trans (HWz.out.mono HBW.out.size)) (HU.out.below HWz.out)).mono ?_);rintro e wa ⟨rfl,hb⟩;have hw:Below wr.heap.size wr wa:=HWz.out.trans (hb.mono HWz.out.size);have HWa:=oH hw;clear hb hw)
  go_wp2_with fail;refine hK.out _ _ ?_ (fun hHeld=>?_)
  ·first|with_reducible exact KB.out _ HWa.out
  clear hK K
  try simp only [Act.put,tkA,tkB,tkC]
  refine tkH 7 ?_
  try simp only [Act.put,tkA,tkB,tkC]
  refine wpAnyH_done (by kernel_rfl) ?_ _;have HB2:=bTx2 HBEL HWa;go_wp2_with fail;go_roundw
  ·exact ⟨k+1,by go_num,oMx,HB2.out⟩
  simp [intOf];omega
 obtain rfl:k=D.length:=by omega
 clear hbel hbw;go_wp2_with fail;go_ret
 exact ⟨rfl,HBW.out⟩
end Go.Proofs.YtafflnognagadaaGreatDoor
