import Derived.Test.YtafflnognagadaaGreatDoorZOH
set_option maxHeartbeats 16000000
set_option maxRecDepth 100000
set_option linter.unusedVariables false
set_option linter.unusedSimpArgs false
set_option linter.unusedSectionVars false
namespace Go.Proofs.YtafflnognagadaaGreatDoor
open Go.RowKit
def zQh (D:List Tbl) (rel:Nat) (T:Tbl):Tbl:=norm (D.getD rel []++T)
def zHd (D:List Tbl) (rel:Nat) (T:Tbl):Int:=if zLo (-100) T=11 then 11 else if (zQh D rel T).any (zHv 0) then 11 else if 60<(zQh D rel T).length then 3 else 0
def zHc (D:List Tbl) (rel:Nat) (T:Tbl):List Tbl:=if zHd D rel T=0 then D.set rel (zQh D rel T) else []
theorem zLs (low:Int) (T:List zGg):zLo low T=11\/zLo low T=0:=by unfold zLo;split<;>simp
section
variable {D:List Tbl} {rel:Nat} {T:Tbl} {S:zFv}
theorem zKk (h:zLo (-100) T=11):zHd D rel T=11/\zHc D rel T=[]:=by
 have e:zHd D rel T=11:=if_pos h;exact ⟨e,if_neg (by rw [e];decide)⟩
theorem zKl (h:zLo (-100) T=0) (h2:(zQh D rel T).any (zHv 0)=true):zHd D rel T=11/\zHc D rel T=[]:=by
 have e:zHd D rel T=11:=by unfold zHd;rw [if_neg (by rw [h];decide),if_pos h2]
 exact ⟨e,if_neg (by rw [e];decide)⟩
theorem zKm (h:zLo (-100) T=0) (h2:(zQh D rel T).any (zHv 0)=false) (h3:60<(zQh D rel T).length):zHd D rel T=3/\zHc D rel T=[]:=by
 have e:zHd D rel T=3:=by unfold zHd;rw [if_neg (by rw [h];decide),if_neg (by rw [h2];decide),if_pos h3]
 exact ⟨e,if_neg (by rw [e];decide)⟩
theorem zKn (h:zLo (-100) T=0) (h2:(zQh D rel T).any (zHv 0)=false) (h3:¬60<(zQh D rel T).length):zHd D rel T=0/\zHc D rel T=D.set rel (zQh D rel T):=by
 have e:zHd D rel T=0:=by unfold zHd;rw [if_neg (by rw [h];decide),if_neg (by rw [h2];decide),if_neg h3]
 exact ⟨e,if_pos e⟩
theorem dap_inv (h:zHd D rel T=0):zLo (-100) T=0/\(zQh D rel T).any (zHv 0)=false/\(zQh D rel T).length<=60/\zHc D rel T=D.set rel (zQh D rel T):=by
 rcases zLs (-100) T with h1|h1
 ·rw [(zKk h1).1] at h;cases h
 cases h2:(zQh D rel T).any (zHv 0) with
 | true=>rw [(zKl h1 h2).1] at h;cases h
 | false =>
  by_cases h3:60<(zQh D rel T).length
  ·rw [(zKm h1 h2 h3).1] at h;cases h
  exact ⟨h1,rfl,oMx,(zKn h1 h2 h3).2⟩
theorem zLt {low:Int} (h:zLo low T=0):∀ r∈T,low<=r.2/\r.2<=100:=fun r hr=>by
 refine ⟨?_,?_⟩
 ·rcases Int.lt_or_le r.2 low with h1|h1
  ·rw [zLp hr (.inl h1)] at h;cases h
  exact h1
 rcases Int.lt_or_le 100 r.2 with h1|h1
 ·rw [zLp hr (.inr h1)] at h;cases h
 exact h1
theorem any_false {low:Int} (h:T.any (zHv low)=false):∀ r∈T,low<=r.2/\r.2<=100:=zLt (by unfold zLo;rw [h];rfl)
theorem zGi.keys (h:zGi S rel T) (hok:zFu S):∀ r∈T,r.1.length<=1000:=fun r hr=>by
 have:=(h.g r hr).1;have:=(hok.fine.rel _ (List.getElem_mem h.lt)).short;omega
theorem DbK.get (h:DbK S D) (hr:rel<S.rs.length):D.getD rel []=D[rel]'(by rw [h.len];exact hr):=by
 rw [List.getD_eq_getElem?_getD,List.getElem?_eq_getElem (by rw [h.len];exact hr)]
 rfl
theorem DbK.litT (h:DbK S D) (hok:zFu S) {i:Nat} (hi:i<D.length):Lit D[i]:=⟨by have:=(h.tab i hi).2.1;omega,fun r hr=>⟨(h.tab i hi).1.keys hok r hr,by have:=(h.tab i hi).2.2 r hr;omega,by have:=(h.tab i hi).2.2 r hr;omega⟩⟩
theorem DbK.lit (h:DbK S D) (hok:zFu S):LitD D:=⟨by have:=h.len;have:=hok.fine.r2;omega,fun T hT=>by
 obtain ⟨i,hi,rfl⟩:=List.getElem_of_mem hT
 exact h.litT hok hi⟩
theorem zGi.lit (h:zGi S rel T) (hok:zFu S) (hl:T.length<=120) (hw:zLo (-100) T=0):Lit T:=⟨oMx,fun r hr=>⟨h.keys hok r hr,by have:=zLt hw r hr;omega,by have:=zLt hw r hr;omega⟩⟩
theorem Lit.append {A B:List zGg} (ha:Lit A) (hb:Lit B) (hl:A.length+B.length<=1000):Lit (A++B):=⟨by rw [List.length_append];exact hl,fun r hr=>(List.mem_append.1 hr).elim (ha.2 r) (hb.2 r)⟩
theorem zGh.norm {at1:List (ByteArray × Int)} {xs:List Nat} {A:List zGg} (h:zGh at1 xs A):zGh at1 xs (norm A):=fun r hr=>by
 obtain ⟨y,hy,e⟩:=zQn hr;rw [e];exact h y hy
theorem zGh.append {at1:List (ByteArray × Int)} {xs:List Nat} {A B:List zGg} (ha:zGh at1 xs A) (hb:zGh at1 xs B):zGh at1 xs (A++B):=fun r hr=>(List.mem_append.1 hr).elim (ha r) (hb r)
theorem zQi (hD:DbK S D) (hT:zGi S rel T):zGi S rel (zQh D rel T):=⟨hT.lt,by
 unfold zQh;rw [hD.get hT.lt]
 exact ((hD.tab rel (by rw [hD.len];exact hT.lt)).1.g.append hT.g).norm,zQr _,zQp _⟩
theorem DbK.apply (hD:DbK S D) (hT:zGi S rel T) (h:zHd D rel T=0):DbK S (zHc D rel T):=by
 obtain ⟨-,h2,h3,h4⟩:=dap_inv h;rw [h4];refine ⟨by rw [List.length_set];exact hD.len,fun i hi=>?_⟩;rw [List.getElem_set]
 split
 ·rename_i e
  subst e;have ht:=zQi hD hT;refine ⟨ht,h3,fun r hr=>?_⟩;have:=any_false h2 r hr;have:=ht.nz r hr;omega
 exact hD.tab i (by rw [List.length_set] at hi;exact hi)
end
def zFk (w:World) (er:Int) (D:List Tbl) (e:Ending) (w':World):Prop:=∃ v,e = .returned (.tuple #[v,.int .i64 er])/\Sl zOf w' v D/\Below w.heap.size w w'
theorem zMk:∀ {css:List (List Value)} (i:Nat) (u:Value),(∀ cs∈css,cs.length=1)->(css.set i [u]).flatten=css.flatten.set i u
 | [],_,_,_=>rfl
 | c::css,0,u,h=>by
  obtain ⟨x,rfl⟩:=List.length_eq_one_iff.1 (h c sMx)
  rfl
 | c::css,i+1,u,h=>by
  obtain ⟨x,rfl⟩:=List.length_eq_one_iff.1 (h c sMx);rw [List.set_cons_succ,List.flatten_cons,List.flatten_cons,zMk i u fun cs hcs=>h cs (by simp [hcs])]
  rfl
theorem zCo.putT {B g n c i:Nat} {w:World} {D:List Tbl} {T:Tbl} {u:Value} (h:zCo zOf B w (.slice (some ⟨g,0,none⟩) n c) D) (hi:i<D.length) (hu:Sl zOe w u T) :
  zCo zOf B (w.setCell ⟨g,i,none⟩ u) (.slice (some ⟨g,0,none⟩) n c) (D.set i T)/\Below B w (w.setCell ⟨g,i,none⟩ u):=by
 obtain ⟨css,ha,ho⟩:=h
 have hn:n=D.length:=by
  rcases ho.2 with ⟨hv,h2⟩|⟨g',cap,cur,hv, -⟩
  ·cases hv
  injection hv
 subst hn;have s1:=ho.stored i u;have hk:KpT [zOf.t] w (w.setCell ⟨g,i,none⟩ u):=KpT.of_own ho s1.2;refine ⟨⟨css.set i [u],(ha.imp fun _ _ hE=>zOf.kp hE hk dCx).set i ⟨u,rfl,hu.kp hk dCx⟩,?_⟩,(Below.refl B w).setCell (p:=⟨g,i,none⟩) (ho.lt g rfl).1 u⟩;rw [zMk i u ha.lens,List.length_set];exact s1.1
theorem zCo.at1 {B g n c i:Nat} {w:World} {D:List Tbl} (h:zCo zOf B w (.slice (some ⟨g,0,none⟩) n c) D) (hi:i<D.length):(∃ u,w.cell? ⟨g,i,none⟩=some u/\Sl zOe w u D[i])/\w.frozen? ⟨g,i,none⟩=false:=by
 obtain ⟨css,ha,ho⟩:=h;have hs:Sl zOf w (.slice (some ⟨g,0,none⟩) n c) D:=zCo.sl ⟨css,ha,ho⟩
 have hn:n=D.length:=by
  rcases ho.2 with ⟨hv,h2⟩|⟨g',cap,cur,hv, -⟩
  ·cases hv
  injection hv
 subst hn;refine ⟨?_,?_⟩
 ·obtain ⟨b,off,e, -,hx⟩:=Sl.sl1 (K:=zOe) hs (by intro e;subst e;simp at hi);injection e with e;injection e with e1 e2;subst e1 e2;obtain ⟨u,h1,h2⟩:=hx i hi;exact ⟨u,by rw [Nat.zero_add] at h1;exact h1,h2⟩
 rcases ho.2 with ⟨hv,h2⟩|⟨g',cap,cur,hv, -,hg, -⟩
 ·cases hv
 injection hv with hv;injection hv with hv;injection hv with hv;subst hv
 simp [World.frozen?,hg]
theorem next_ok {D:List Tbl} {rel:Nat} {T:Tbl} {S:zFv} (hD:DbK S D) (hT:zGi S rel T) (hok:zFu S) (h2:(zQh D rel T).any (zHv 0)=false) (h3:¬60<(zQh D rel T).length):Lit (zQh D rel T) :=
 ⟨oMx,fun r hr=>⟨(zQi hD hT).keys hok r hr,by have:=any_false h2 r hr;omega,by have:=any_false h2 r hr;omega⟩⟩
theorem zCp {S:zFv} {rel:Nat} {v u:Value} {D:List Tbl} {T:List zGg} {w:World} (henv:Env w) (hin:zBp w S) (hok:zFu S) (hv:Sl zOf w v D) (hD:DbK S D) (hu:Sl zOe w u T) (hT:zGi S rel T) (hl:T.length<=120) :
  Calls Tryz.prog 60 #[.agg S.cells,v,.agg #[.int .i64 (rel:Int),u]] w (zFk w (zHd D rel T) (zHc D rel T)):=by
 obtain ⟨A,c,rfl, -⟩:=hv.form;obtain ⟨Au,cu,rfl, -⟩:=hu.form;have hba:Below w.heap.size w ((w.alloc (.cells S.cells 31)).alloc (.cells #[.int .i64 (rel:Int),.slice Au T.length cu] 45)):=(bA).alloc sMx _;have HCH:=oH (zCx (henv.below hba) (hin.below hba) hok (hv.below hba) hD);have hb0:Blk ((w.alloc (.cells S.cells 31)).alloc (.cells #[.int .i64 (rel:Int),.slice Au T.length cu] 45)) w.heap.size 31 S.cells.toList:=(Blk.new w 31 S.cells.toList).alloc _;have hb1:Blk ((w.alloc (.cells S.cells 31)).alloc (.cells #[.int .i64 (rel:Int),.slice Au T.length cu] 45)) (w.heap.size+1) 45 [.int .i64 (rel:Int),.slice Au T.length cu]:=Blk.new' sMx _ [_,_];have HBA:=oH hba;have HB0:=oH hb0;have HB1:=oH hb1;have HIN:=oH hin;have HSO:=oH hok;have HV:=oH hv;have HU:=oH hu;have HDB:=oH hD;have HTK:=oH hT;have HEV:=oH henv;have hDl:=hD.len;have hrl:=hT.lt;have hr6:=hok.fine.r2;have HDL:=oH (fun W (hW:Below w.heap.size w W)=>zDf (HEV.below hW) (HIN.below hW) HSO.out (HU.below hW) HTK.out hl)
 obtain ⟨e1,he1⟩:=eXx (zLo (-100) T);have HE1:=oH he1;rw [he1] at HDL
 have hrD:rel<D.length:=by omega
 have hDs:D.length<=1000:=by omega
 have HGET:=oH (show D.getD rel []=D[rel]'hrD from hD.get hT.lt);clear hin hok hv hu hD hT hba hb0 hb1 he1 hDl henv;unfold zFv.cells at HCH HB0 HB1 HBA HDL ⊢;obtain ⟨at1,aa,ca,rs,ar,cr,fs,af,cf,lb⟩:=S;simp only at HCH HB0 HB1 HBA HDL hrl hr6 ⊢;obtain ⟨b6,off6,rfl,hb6,hcr⟩:=HV.sl1 (by intro e;subst e;simp at hrD);obtain ⟨u0,q1,hu0⟩:=hcr rel hrD;have HL0:=oH (HDB.litT HSO.out hrD)
 go_enter Tryz.func60,Tryz.ntmps60
 go_wp2_with fail;generalize ((w.alloc (.cells #[.slice aa at1.length ca,.slice ar rs.length cr,.slice af fs.length cf,.int .i64 lb] 31)).alloc (.cells #[.int .i64 (rel:Int),.slice Au T.length cu] 45))=wy at *;refine HCH.mono ?_;rintro e w1 ⟨rfl,hb1⟩;have hw1:Below w.heap.size w w1:=HBA.trans (hb1.mono HBA.size);have HX1:=oH (HB0.below hb1);have HY1:=oH (HB1.below hb1);have s0:=HX1.at_ (i:=0) rfl;have s1:=HX1.at_ (i:=1) rfl;have s2:=HX1.at_ (i:=2) rfl;have s3:=HX1.at_ (i:=3) rfl;have d0:=HY1.at_ (i:=0) rfl;have d1:=HY1.at_ (i:=1) rfl;have HW1:=oH hw1;clear hb1 hw1 HB0 HB1 HBA HCH;go_wp2_with fail;refine (HDL.out _ HW1.out).mono ?_;rintro e w2 ⟨rfl,hb2⟩;have HW2:=bTx2 HW1 hb2;have HY2:=oH (HY1.below hb2);clear hb2 s0 s1 s2 s3 d0 d1 HX1 HY1
 rcases zLs (-100) T with h1|h1
 ·rw [HE1.out] at h1;have E:=oH (zKk (D:=D) (rel:=rel) (h1▸HE1.out));subst h1;go_wp2_with fail;go_ret2
  exact ⟨_,by rw [E.1];rfl,by rw [E.2];exact .nil _ _ _ _,HW2.out⟩
 rw [HE1.out] at h1;subst h1;have HT0:=oH (hu0.below HW2.out);have HLT:=oH (HTK.lit HSO.out hl HE1.out);have HUz:=oH (HU.below HW2.out);have hz:D.getD rel []=D[rel]:=HGET.out;have q2:=(HW2.cell (p:=⟨b6,off6+rel,none⟩) hb6).trans q1;have hT0l:=(HDB.tab rel hrD).2.1;obtain ⟨N,hN⟩:=eXx (zQh D rel T);have HN:=oH hN;have HNX:=oH (show norm (D[rel]++T)=N by rw [<-hN];unfold zQh;rw [hz]);obtain ⟨T0,hT0⟩:=eXx (D[rel]);rw [hT0] at HT0 HL0 HNX hT0l;have HLA:=oH (HL0.append HLT.out oMx);have HCR:=oH hcr;clear hu0 hcr hz q1 hT0 hN;obtain ⟨A0,c0,rfl, -⟩:=HT0.form;have hbl:=HW2.size
 have KB:Hid (∀ W,Below w2.heap.size w2 W->W.cell? ⟨w.heap.size+1,0,none⟩=some (.int .i64 (rel:Int))/\W.cell? ⟨w.heap.size+1,1,none⟩=some (.slice Au T.length cu)/\W.cell? ⟨b6,off6+rel,none⟩=some (.slice A0 T0.length c0)):=oH fun W hW=>⟨(HY2.below hW).at_ (i:=0) rfl,(HY2.below hW).at_ (i:=1) rfl,(hW.cell (p:=⟨b6,off6+rel,none⟩) (by simp;omega)).trans q2⟩
 have HWz:=oH (Below.refl w2.heap.size w2).drew;clear q2;go_wp2_with fail;refine wp_region_held_drew (S:=(fun w'=>w'.cell? ⟨w.heap.size+1,0,none⟩=some (.int .i64 (rel:Int))/\w'.cell? ⟨w.heap.size+1,1,none⟩=some (.slice Au T.length cu)/\w'.cell? ⟨b6,off6+rel,none⟩=some (.slice A0 T0.length c0))) (by kernel_rfl) (by exact KB.out _ HWz.out) (fun hHeld=>?_);refine tkH 0 ?_;refine tkH 1 ?_;refine tkH 2 ?_;refine tkH 3 ?_;refine tkH 4 ?_;refine tkH 6 ?_;refine tkH 7 ?_
 try simp only [Act.put,tkA,tkB,tkC]
 refine tkS 5 fun K hK=>?_
 go_simp
 (go_at_call 69;(with_reducible refine (zAn 1 (.inl rfl) (HT0.out.below HWz.out) HL0.out).mono ?_);rintro e wa ⟨va,rfl,ho,hb⟩;have hw:Below w2.heap.size w2 wa:=HWz.out.trans (hb.mono HWz.out.size);have HWa:=oH hw;rw [zQd] at ho;obtain ⟨Aa,cva,rfl, -⟩:=ho.form;have HOa:=oH ho;clear ho;clear hb hw)
 go_wp2_with fail;refine hK.out _ _ ?_ (fun hHeld=>?_)
 ·first|with_reducible exact KB.out _ HWc.out|with_reducible exact KB.out _ HWb.out|with_reducible exact KB.out _ HWa.out
 clear hK K
 try simp only [Act.put,tkA,tkB,tkC]
 refine tkS 8 fun K hK=>?_
 (refine zWf _ _ _ (by rfl) (by rfl) Tryz.underlying43 Tryz.kiRow (by go_simp) (HOa.out) (by go_simp) (HUz.below HWa.out) (by have:=HL0.1;have:=HLT.1;omega) (HWa.size) ?_;intro v' wb hap;have HOb:=oH hap.own;have HWb:Hid (Below w2.heap.size w2 wb):=oH (hap.bel HWa.out);clear hap)
 refine hK.out _ _ ?_ (fun hHeld=>?_)
 ·first|with_reducible exact KB.out _ HWc.out|with_reducible exact KB.out _ HWb.out|with_reducible exact KB.out _ HWa.out
 clear hK K
 try simp only [Act.put,tkA,tkB,tkC]
 refine tkS 9 fun K hK=>?_
 go_simp
 (go_at_call 68;(with_reducible refine (zCa HOb.out.sl HLA.out).mono ?_);rintro e wc ⟨vc,rfl,ho,hb⟩;have hw:Below w2.heap.size w2 wc:=HWb.out.trans (hb.mono HWb.out.size);have HWc:=oH hw;rw [HNX.out] at ho;obtain ⟨An,cn,rfl, -⟩:=ho.form;have HOc:=oH ho.sl;clear ho;clear hb hw)
 go_wp2_with fail;refine hK.out _ _ ?_ (fun hHeld=>?_)
 ·first|with_reducible exact KB.out _ HWc.out|with_reducible exact KB.out _ HWb.out|with_reducible exact KB.out _ HWa.out
 clear hK K
 try simp only [Act.put,tkA,tkB,tkC]
 refine tkH 10 ?_
 try simp only [Act.put,tkA,tkB,tkC]
 refine wpAnyH_done (by kernel_rfl) ?_ _;have HWC:=oH (HW2.trans (HWc.mono hbl));have HY3:=oH (HY2.below HWc.out);have HNL:=oH (zQo (T0++T))
 have hnl:N.length<=1000:=by rw [<-HNX.out];exact Nat.le_trans HNL.out (by rw [List.length_append];omega)
 clear HNX HNL HLA HL0 HT0 HUz KB HWz HWb HWa HOb HOa;have HCON:Hid (Calls Tryz.prog 73 #[.slice An N.length cn,.func (.func 74) #[] #[]] wc fun e w'=>e = .returned (.bool (N.any (zHv 0)))/\Below wc.heap.size wc w'):=oH (ConR_of zAb HOc.out hnl);obtain ⟨q,hq⟩:=eXx (N.any (zHv 0));rw [hq] at HCON;have HQ:=oH hq;clear hq;go_wp2_with fail;refine HCON.mono ?_;rintro e w4 ⟨rfl,hb4⟩;have HW4:=bTx2 HWC hb4;have HY4:=oH (HY3.below hb4);have HN4:=oH (HOc.below hb4);clear hb4 HCON HWc HY3 HOc HWC HY2 HW2
 cases q
 ·by_cases hl60:60<N.length
  ·have E:=oH (zKm (D:=D) (rel:=rel) HE1.out (by rw [HN.out];exact HQ.out) (by rw [HN.out];exact hl60));go_wp2_with fail;go_ret2
   exact ⟨_,by rw [E.1];rfl,by rw [E.2];exact .nil _ _ _ _,HW4.out⟩
  have E:=oH (zKn (D:=D) (rel:=rel) HE1.out (by rw [HN.out];exact HQ.out) (by rw [HN.out];exact hl60));have HLN:Hid (Lit N):=oH (by have h:=next_ok HDB.out HTK.out HSO.out (by rw [HN.out];exact HQ.out) (by rw [HN.out];exact hl60);rw [HN.out] at h;exact h);go_wp2_with fail
  go_loopw [11,43] (fun v iv wr=>∃ k:Nat,iv = .int .i64 (k:Int)/\k<=D.length/\zCo zOf w4.heap.size wr v ((D.set rel N).take k)/\Below w4.heap.size w4 wr) (fun _ iv _=>D.length-(intOf iv).toNat)
  ·exact ⟨0,rfl,oLx,.nil _ _ _,bRx⟩
  obtain ⟨k,rfl,hk,hown,hbel⟩:=hrel;obtain ⟨Av,cv,rfl, -⟩:=hown.form;have HOWN:=oH hown;have HBEL:=oH hbel;have hsz:=hbel.size;have d0:=(HY4.below hbel).at_ (i:=0) rfl;clear hbel
  by_cases hlt:k<D.length
  ·obtain ⟨u,c0,hu⟩:=HCR.out k hlt;have hbw:=HW4.trans (HBEL.mono HW4.size);have c1:=(hbw.cell (p:=⟨b6,off6+k,none⟩) hb6).trans c0
   have hlt2:k<(D.set rel N).length:=by rw [List.length_set];exact hlt
   have HTK:=oH (List.take_succ_eq_append_getElem hlt2);have HLE:=oH (show ((D.set rel N).take k).length=k by simp;omega);have hu4:=hu.below hbw;obtain ⟨Au1,cu1,rfl, -⟩:=hu.form;have HGS:=oH (List.getElem_set (l:=D) (i:=rel) (a:=N) hlt2);generalize (D.set rel N)[k]=G at *;generalize (D.set rel N).take k=L at *
   by_cases he:k=rel
   ·have hq:((k:Int)==(rel:Int))=true:=by rw [beq_iff_eq];omega
    have HGK:Hid (G=N):=oH (by rw [HGS.out,if_pos he.symm]);have HCALL:=oH (zAn 1 (.inl rfl) (HN4.below HBEL.out) HLN.out);rw [zQd] at HCALL;clear hu hu4 hown hbw c0 he HGS;go_wp2_with fail;refine HCALL.mono ?_;rintro e w5 ⟨v2,rfl,ho,hb⟩;obtain ⟨A2,c2,rfl, -⟩:=ho.form;have HO2:=oH (HOWN.below hb);have HN2:=oH ho.sl;have hb2:=HBEL.trans (hb.mono hsz);have HB2:=oH hb2;have hs2:=hb2.size;clear ho hb hb2
    go_wp2_with (at_builtin;refine xAn _ _ _ rfl rfl Tryz.underlying34 Tryz.kiTab (HO2.alloc _) (Sl.new (K:=zOf) (x:=N) rfl ⟨_,rfl,HN2.out⟩) (by have:=HLE.out;simp only [List.length_singleton];omega) (by simp;omega) ?_)
    intro v' w3 hap
    have HAP:Hid (zCo zOf w4.heap.size w3 v' (L++[N])):=oH hap.own;have HB3:=oH (hap.bel (HB2.alloc hs2 _));clear hap;go_wp2_with fail;go_roundw
    ·exact ⟨k+1,by go_num,oMx,by rw [HTK.out,HGK.out];exact HAP.out,HB3.out⟩
    simp [intOf];omega
   have hq:((k:Int)==(rel:Int))=false:=by rw [beq_eq_false_iff_ne];omega
   have HGK:Hid (G=D[k]):=oH (by rw [HGS.out,if_neg (fun h=>he h.symm)]);have HCALL:=oH (zAn 1 (.inl rfl) hu4 (HDB.litT HSO.out hlt));rw [zQd] at HCALL;clear hu hu4 hown hbw c0 he HGS;generalize D[k]=T1 at *;go_wp2_with fail;refine HCALL.mono ?_;rintro e w5 ⟨v2,rfl,ho,hb⟩;obtain ⟨A2,c2,rfl, -⟩:=ho.form;have HO2:=oH (HOWN.below hb);have HN2:=oH ho.sl;have hb2:=HBEL.trans (hb.mono hsz);have HB2:=oH hb2;have hs2:=hb2.size;clear ho hb hb2
   go_wp2_with (at_builtin;refine xAn _ _ _ rfl rfl Tryz.underlying34 Tryz.kiTab (HO2.alloc _) (Sl.new (K:=zOf) (x:=T1) rfl ⟨_,rfl,HN2.out⟩) (by have:=HLE.out;simp only [List.length_singleton];omega) (by simp;omega) ?_)
   intro v' w3 hap
   have HAP:Hid (zCo zOf w4.heap.size w3 v' (L++[T1])):=oH hap.own;have HB3:=oH (hap.bel (HB2.alloc hs2 _));clear hap;go_wp2_with fail;go_roundw
   ·exact ⟨k+1,by go_num,oMx,by rw [HTK.out,HGK.out];exact HAP.out,HB3.out⟩
   simp [intOf];omega
  have HLM:=oH (show (D.set rel N).take k=D.set rel N from List.take_of_length_le (by rw [List.length_set];omega));go_wp2_with fail;go_ret2
  exact ⟨_,by rw [E.1];rfl,by rw [E.2,HN.out];rw [HLM.out] at hown ⊢;exact hown.sl,HW4.trans (HBEL.mono HW4.size)⟩
 have E:=oH (zKl (D:=D) (rel:=rel) HE1.out (by rw [HN.out];exact HQ.out));go_wp2_with fail;go_ret2
 exact ⟨_,by rw [E.1];rfl,by rw [E.2];exact .nil _ _ _ _,HW4.out⟩
theorem zDo {S:zFv} {rel:Nat} {v u:Value} {D:List Tbl} {T:List zGg} {w:World} (hin:zBp w S) (hok:zFu S) (hlow:zCg S) (hv:Sl zOf w v D) (hD:DbK S D) (hu:Sl zOe w u T) (hT:zGi S rel T) (hl:T.length<=120) :
  Calls Tryz.prog 18 #[.agg S.cells,v,.agg #[.int .i64 (rel:Int),u]] w (zFk w (zHd D rel T) (zHc D rel T)):=by
 obtain ⟨A,c,rfl, -⟩:=hv.form;obtain ⟨Au,cu,rfl, -⟩:=hu.form;have hba:Below w.heap.size w ((w.alloc (.cells S.cells 31)).alloc (.cells #[.int .i64 (rel:Int),.slice Au T.length cu] 45)):=(bA).alloc sMx _;have HCH:=oH (zDs (hin.below hba) hok hlow (hv.below hba) hD);have hb0:Blk ((w.alloc (.cells S.cells 31)).alloc (.cells #[.int .i64 (rel:Int),.slice Au T.length cu] 45)) w.heap.size 31 S.cells.toList:=(Blk.new w 31 S.cells.toList).alloc _;have hb1:Blk ((w.alloc (.cells S.cells 31)).alloc (.cells #[.int .i64 (rel:Int),.slice Au T.length cu] 45)) (w.heap.size+1) 45 [.int .i64 (rel:Int),.slice Au T.length cu]:=Blk.new' sMx _ [_,_];have HBA:=oH hba;have HB0:=oH hb0;have HB1:=oH hb1;have HIN:=oH hin;have HSO:=oH hok;have HV:=oH hv;have HU:=oH hu;have HDB:=oH hD;have HTK:=oH hT;have HLOW:=oH hlow;have hDl:=hD.len;have hrl:=hT.lt;have hr6:=hok.fine.r2;have HDL:=oH (fun W (hW:Below w.heap.size w W)=>zDy (HIN.below hW) HSO.out HLOW.out (HU.below hW) HTK.out hl)
 obtain ⟨e1,he1⟩:=eXx (zLo (-100) T);have HE1:=oH he1;rw [he1] at HDL
 have hrD:rel<D.length:=by omega
 have hDs:D.length<=1000:=by omega
 have HGET:=oH (show D.getD rel []=D[rel]'hrD from hD.get hT.lt);clear hin hok hv hu hD hT hba hb0 hb1 he1 hDl hlow;unfold zFv.cells at HCH HB0 HB1 HBA HDL ⊢;obtain ⟨at1,aa,ca,rs,ar,cr,fs,af,cf,lb⟩:=S;simp only at HCH HB0 HB1 HBA HDL hrl hr6 ⊢;obtain ⟨b6,off6,rfl,hb6,hcr⟩:=HV.sl1 (by intro e;subst e;simp at hrD);obtain ⟨u0,q1,hu0⟩:=hcr rel hrD;have HL0:=oH (HDB.litT HSO.out hrD)
 go_enter Tryz.func18,Tryz.ntmps18
 go_wp2_with fail;generalize ((w.alloc (.cells #[.slice aa at1.length ca,.slice ar rs.length cr,.slice af fs.length cf,.int .i64 lb] 31)).alloc (.cells #[.int .i64 (rel:Int),.slice Au T.length cu] 45))=wy at *;refine HCH.mono ?_;rintro e w1 ⟨rfl,hb1⟩;have hw1:Below w.heap.size w w1:=HBA.trans (hb1.mono HBA.size);have HX1:=oH (HB0.below hb1);have HY1:=oH (HB1.below hb1);have s0:=HX1.at_ (i:=0) rfl;have s1:=HX1.at_ (i:=1) rfl;have s2:=HX1.at_ (i:=2) rfl;have s3:=HX1.at_ (i:=3) rfl;have d0:=HY1.at_ (i:=0) rfl;have d1:=HY1.at_ (i:=1) rfl;have HW1:=oH hw1;clear hb1 hw1 HB0 HB1 HBA HCH;go_wp2_with fail;refine (HDL.out _ HW1.out).mono ?_;rintro e w2 ⟨rfl,hb2⟩;have HW2:=bTx2 HW1 hb2;have HY2:=oH (HY1.below hb2);clear hb2 s0 s1 s2 s3 d0 d1 HX1 HY1
 rcases zLs (-100) T with h1|h1
 ·rw [HE1.out] at h1;have E:=oH (zKk (D:=D) (rel:=rel) (h1▸HE1.out));subst h1;go_wp2_with fail;go_ret2
  exact ⟨_,by rw [E.1];rfl,by rw [E.2];exact .nil _ _ _ _,HW2.out⟩
 rw [HE1.out] at h1;subst h1;have HT0:=oH (hu0.below HW2.out);have HLT:=oH (HTK.lit HSO.out hl HE1.out);have HUz:=oH (HU.below HW2.out);have hz:D.getD rel []=D[rel]:=HGET.out;have q2:=(HW2.cell (p:=⟨b6,off6+rel,none⟩) hb6).trans q1;have hT0l:=(HDB.tab rel hrD).2.1;obtain ⟨N,hN⟩:=eXx (zQh D rel T);have HN:=oH hN;have HNX:=oH (show norm (D[rel]++T)=N by rw [<-hN];unfold zQh;rw [hz]);obtain ⟨T0,hT0⟩:=eXx (D[rel]);rw [hT0] at HT0 HL0 HNX hT0l;have HLA:=oH (HL0.append HLT.out oMx);have HCR:=oH hcr;clear hu0 hcr hz q1 hT0 hN;obtain ⟨A0,c0,rfl, -⟩:=HT0.form;have hbl:=HW2.size
 have KB:Hid (∀ W,Below w2.heap.size w2 W->W.cell? ⟨w.heap.size+1,0,none⟩=some (.int .i64 (rel:Int))/\W.cell? ⟨w.heap.size+1,1,none⟩=some (.slice Au T.length cu)/\W.cell? ⟨b6,off6+rel,none⟩=some (.slice A0 T0.length c0)):=oH fun W hW=>⟨(HY2.below hW).at_ (i:=0) rfl,(HY2.below hW).at_ (i:=1) rfl,(hW.cell (p:=⟨b6,off6+rel,none⟩) (by simp;omega)).trans q2⟩
 have HWz:=oH (Below.refl w2.heap.size w2).drew;clear q2;go_wp2_with fail;refine wp_region_held_drew (S:=(fun w'=>w'.cell? ⟨w.heap.size+1,0,none⟩=some (.int .i64 (rel:Int))/\w'.cell? ⟨w.heap.size+1,1,none⟩=some (.slice Au T.length cu)/\w'.cell? ⟨b6,off6+rel,none⟩=some (.slice A0 T0.length c0))) (by kernel_rfl) (by exact KB.out _ HWz.out) (fun hHeld=>?_);refine tkH 0 ?_;refine tkH 1 ?_;refine tkH 2 ?_;refine tkH 3 ?_;refine tkH 4 ?_;refine tkH 6 ?_;refine tkH 7 ?_
 try simp only [Act.put,tkA,tkB,tkC]
 refine tkS 5 fun K hK=>?_
 (refine zWf _ _ _ (by rfl) (by rfl) Tryz.underlying43 Tryz.kiRow (by go_simp) (zCo.nil zOe w2.heap.size _) (by go_simp) (HT0.below HWz.out) (by have:=HL0.1;simp;omega) (HWz.size) ?_;intro v1 wa hap;have HOa:Hid (zCo zOe w2.heap.size wa v1 T0):=oH hap.own;have HWa:Hid (Below w2.heap.size w2 wa):=oH (hap.bel HWz.out);clear hap)
 refine hK.out _ _ ?_ (fun hHeld=>?_)
 ·first|with_reducible exact KB.out _ HWc.out|with_reducible exact KB.out _ HWb.out|with_reducible exact KB.out _ HWa.out
 clear hK K
 try simp only [Act.put,tkA,tkB,tkC]
 refine tkS 8 fun K hK=>?_
 (refine zWf _ _ _ (by rfl) (by rfl) Tryz.underlying43 Tryz.kiRow (by go_simp) (HOa.out) (by go_simp) (HUz.below HWa.out) (by have:=HL0.1;have:=HLT.1;simp;omega) (HWa.size) ?_;intro v' wb hap;have HOb:=oH hap.own;have HWb:Hid (Below w2.heap.size w2 wb):=oH (hap.bel HWa.out);clear hap)
 refine hK.out _ _ ?_ (fun hHeld=>?_)
 ·first|with_reducible exact KB.out _ HWc.out|with_reducible exact KB.out _ HWb.out|with_reducible exact KB.out _ HWa.out
 clear hK K
 try simp only [Act.put,tkA,tkB,tkC]
 refine tkS 9 fun K hK=>?_
 go_simp
 (go_at_call 38;(with_reducible refine (zEp HOb.out.sl HLA.out).mono ?_);rintro e wc ⟨vc,rfl,ho,hb⟩;have hw:Below w2.heap.size w2 wc:=HWb.out.trans (hb.mono HWb.out.size);have HWc:=oH hw;rw [HNX.out] at ho;obtain ⟨An,cn,rfl, -⟩:=ho.form;have HOc:=oH ho.sl;clear ho;clear hb hw)
 go_wp2_with fail;refine hK.out _ _ ?_ (fun hHeld=>?_)
 ·first|with_reducible exact KB.out _ HWc.out|with_reducible exact KB.out _ HWb.out|with_reducible exact KB.out _ HWa.out
 clear hK K
 try simp only [Act.put,tkA,tkB,tkC]
 refine tkH 10 ?_
 try simp only [Act.put,tkA,tkB,tkC]
 refine wpAnyH_done (by kernel_rfl) ?_ _;have HWC:=oH (HW2.trans (HWc.mono hbl));have HY3:=oH (HY2.below HWc.out);have HNL:=oH (zQo (T0++T))
 have hnl:N.length<=1000:=by rw [<-HNX.out];exact Nat.le_trans HNL.out (by rw [List.length_append];omega)
 clear HNX HNL HLA HL0 HT0 HUz KB HWz HWb HWa HOb HOa;go_wp2_with fail
 go_loopw [38] (fun iv wr=>∃ k:Nat,iv = .int .i64 (k:Int)/\k<=N.length/\(∀ j,(hj:j<N.length)->j<k->zHv 0 N[j]=false)/\Below wc.heap.size wc wr) (fun iv _=>N.length-(intOf iv).toNat)
 ·exact ⟨0,rfl,oLx,fun _ _ h=>absurd h oMx,bRx⟩
 obtain ⟨k,rfl,hk,hno,hbel⟩:=hrel;have HNO:=oH hno;have HBEL:=oH hbel;have hsz:=hbel.size;clear hbel hno
 by_cases hlt:k<N.length
 ·obtain ⟨b,off,rfl,hb,hc⟩:=(HOc.below HBEL.out).sli2 (by intro e;subst e;simp at hlt);obtain ⟨u,c0,c1,hu⟩:=hc k hlt;obtain ⟨z,hz⟩:=eXx (N[k].2);rw [hz] at c1;have HZ:=oH hz;obtain ⟨Au1,cu1,rfl, -⟩:=hu.form;generalize N[k].1.length=m1 at *;have HBA:=oH (HBEL.alloc hsz (.cells #[.slice Au1 m1 cu1,.int .i64 z] 64));clear hu hc hb hz
  by_cases h1:z<0
  ·have hd:=decide_eq_true h1;have E:=oH (zKl (D:=D) (rel:=rel) HE1.out (by rw [HN.out];exact List.any_eq_true.2 ⟨N[k],List.getElem_mem hlt,by unfold zHv;rw [HZ.out,hd];rfl⟩));go_wp2_with fail;go_ret2
   exact ⟨_,by rw [E.1];rfl,by rw [E.2];exact .nil _ _ _ _,HWC.trans (HBA.mono HWC.size)⟩
  have hd:=decide_eq_false h1
  by_cases h2:100<z
  ·have hd2:=decide_eq_true h2;have E:=oH (zKl (D:=D) (rel:=rel) HE1.out (by rw [HN.out];exact List.any_eq_true.2 ⟨N[k],List.getElem_mem hlt,by unfold zHv;rw [HZ.out,hd2,Bool.or_true]⟩));go_wp2_with fail;go_ret2
   exact ⟨_,by rw [E.1];rfl,by rw [E.2];exact .nil _ _ _ _,HWC.trans (HBA.mono HWC.size)⟩
  have hd2:=decide_eq_false h2;have HBB:=oH (show zHv 0 N[k]=false by unfold zHv;rw [HZ.out,hd,hd2];rfl);go_wp2_with fail;go_roundw
  ·exact ⟨k+1,by go_num,oMx,fun j hj hjk=>by
   by_cases e:j=k
   ·subst e;exact HBB.out
   exact HNO.out j hj oMx,HBA.out⟩
  simp [intOf];omega
 obtain rfl:k=N.length:=by omega
 have HQ:=oH (show N.any (zHv 0)=false by
  rw [List.any_eq_false]
  intro r hr
  obtain ⟨j,hj,rfl⟩:=List.getElem_of_mem hr;rw [HNO.out j hj hj]
  decide)
 by_cases hl60:60<N.length
 ·have E:=oH (zKm (D:=D) (rel:=rel) HE1.out (by rw [HN.out];exact HQ.out) (by rw [HN.out];exact hl60));go_wp2_with fail;go_ret2
  exact ⟨_,by rw [E.1];rfl,by rw [E.2];exact .nil _ _ _ _,HWC.trans (HBEL.mono HWC.size)⟩
 have E:=oH (zKn (D:=D) (rel:=rel) HE1.out (by rw [HN.out];exact HQ.out) (by rw [HN.out];exact hl60));have HWR:=bTx2 HWC HBEL;have HVR:=oH (HV.below HWR.out);have HNR:=oH (HOc.below HBEL.out);have HYR:=oH (HY3.below HBEL.out)
 go_wp2_with (at_builtin;refine xAn _ _ _ rfl rfl Tryz.underlying34 Tryz.kiTab (zCo.nil zOf wr.heap.size wr) HVR.out (by simp;omega) lRx ?_)
 intro v' w3 hap
 have ho:=hap.own;obtain ⟨Ax,cx,rfl, -⟩:=ho.form;obtain ⟨gx,rfl,hgB,hgl⟩:=ho.some_ (by intro e;subst e;simp at hrD);obtain ⟨⟨u1,k1, -⟩,f1⟩:=ho.at1 hrD;have hb3:=hap.bel (Below.refl wr.heap.size wr);have HP:=oH (ho.putT hrD (HNR.below hb3));have HB3:=oH hb3;have d0:=(HYR.below hb3).at_ (i:=0) rfl;clear hap ho hb3;go_wp2_with fail;go_ret2
 exact ⟨_,by rw [E.1];rfl,by rw [E.2,HN.out];exact HP.1.sl,HWR.trans ((HB3.trans HP.2).mono HWR.size)⟩
def zJj:List Tbl->List Dlt->Int
 | _,[]=>0
 | D,x::l=>if x.2=[] then 12 else if zHd D x.1.toNat x.2=0 then zJj (zHc D x.1.toNat x.2) l else zHd D x.1.toNat x.2
def zJi:List Tbl->List Dlt->List Tbl
 | D,[]=>D
 | D,x::l=>if x.2=[] then [] else if zHd D x.1.toNat x.2=0 then zJi (zHc D x.1.toNat x.2) l else []
structure DltK (S:zFv) (x:Dlt):Prop where
 rel:∃ rel:Nat,x.1=(rel:Int)/\zGi S rel x.2
 short:x.2.length<=120
 lit:Lit x.2
structure zAg (S:zFv) (l:List Dlt):Prop where
 all:∀ x∈l,DltK S x
 asc:l.Pairwise fun a b=>a.1<b.1
 len:l.length<=100
theorem zAg.nil (S:zFv):zAg S []:=⟨(fun _ h=>by cases h),.nil,dCx⟩
theorem zAg.one {S:zFv} {x:Dlt} (h:DltK S x):zAg S [x]:=⟨fun y hy=>by rw [List.mem_singleton] at hy;rw [hy];exact h,List.pairwise_singleton _ _,by simp⟩
theorem zAg.tail {S:zFv} {x:Dlt} {l:List Dlt} (h:zAg S (x::l)):zAg S l:=⟨fun y hy=>h.all y (List.mem_cons_of_mem _ hy),(List.pairwise_cons.1 h.asc).2,by have:=h.len;rw [List.length_cons] at this;omega⟩
theorem zAg.lit {S:zFv} {l:List Dlt} (h:zAg S l):LitL l:=⟨by have:=h.len;omega,fun x hx=>(h.all x hx).lit⟩
theorem DbK.chg {S:zFv}:∀ {l:List Dlt} {D:List Tbl},DbK S D->zAg S l->zJj D l=0->DbK S (zJi D l)
 | [],D,h,_,_=>h
 | x::l,D,h,hc,he=>by
  obtain ⟨rel,hr,ht⟩:=(hc.all x sMx).rel
  have hn:x.1.toNat=rel:=by omega
  unfold zJj at he;unfold zJi
  split at he
  ·cases he
  rename_i hx
  split at he
  ·rename_i h2
   rw [if_neg hx,if_pos h2];rw [hn] at h2 he ⊢;exact (h.apply ht h2).chg hc.tail he
  rename_i h2;exact absurd he h2
def zZm (D:List Tbl) (l:List Chn) (k:Nat):List Tbl:=(l.take k).foldl (fun d c=>zJi d c.2) D
def zGz:List Tbl->List Chn->Prop
 | _,[]=>True
 | D,c::l=>zJj D c.2=0/\zGz (zJi D c.2) l
theorem zZv (D:List Tbl) (l:List Chn):zZm D l 0=D:=rfl
theorem zZt {D:List Tbl} {l:List Chn} {k:Nat} (h:k<l.length):zZm D l (k+1)=zJi (zZm D l k) l[k].2:=by
 unfold zZm;rw [List.take_succ_eq_append_getElem h,List.foldl_append]
 rfl
theorem zZo {D:List Tbl} {c:Chn} {l:List Chn} {k:Nat}:zZm D (c::l) (k+1)=zZm (zJi D c.2) l k:=rfl
theorem zZn {D:List Tbl} {l l2:List Chn} {k:Nat} (h:k<=l.length):zZm D (l++l2) k=zZm D l k:=by
 unfold zZm;rw [List.take_append_of_le_length h]
theorem zZq {D:List Tbl} {l:List Chn} {c:Chn}:zZm D (l++[c]) (l.length+1)=zJi (zZm D l l.length) c.2:=by
 rw [zZt sMx,zZn lRx]
 simp
theorem zZp {D:List Tbl} {l:List Chn} {i k:Nat}:zZm (zZm D l i) (l.drop i) k=zZm D l (i+k):=by
 unfold zZm;rw [<-List.foldl_append,List.take_add]
theorem zGz.at_:∀ {l:List Chn} {D:List Tbl},zGz D l->∀ k (h:k<l.length),zJj (zZm D l k) l[k].2=0
 | c::l,D,h,0,_=>h.1
 | c::l,D,h,k+1,hk=>by
  rw [zZo];exact h.2.at_ k (by rw [List.length_cons] at hk;omega)
theorem zGz.of_at:∀ {l:List Chn} {D:List Tbl},(∀ k (h:k<l.length),zJj (zZm D l k) l[k].2=0)->zGz D l
 | [],_,_=>trivial
 | c::l,D,h=>⟨h 0 sMx,zGz.of_at fun k hk=>by
   have:=h (k+1) (by simp;omega);rw [zZo] at this
   exact this⟩
theorem zGz.snoc {D:List Tbl} {l:List Chn} {c:Chn} (h:zGz D l) (hc:zJj (zZm D l l.length) c.2=0):zGz D (l++[c]):=zGz.of_at fun k hk=>by
 rw [List.length_append,List.length_singleton] at hk;rw [zZn oMx]
 by_cases h1:k<l.length
 ·rw [List.getElem_append_left h1];exact h.at_ k h1
 obtain rfl:k=l.length:=by omega
 rw [List.getElem_append_right lRx]
 simpa using hc
theorem zGz.drop {D:List Tbl} {l:List Chn} (i:Nat) (h:zGz D l):zGz (zZm D l i) (l.drop i):=zGz.of_at fun k hk=>by
 rw [zZp,List.getElem_drop];rw [List.length_drop] at hk;exact h.at_ (i+k) oMx
structure zBj (S:zFv) (fi:Int) (D:List Tbl) (l:List Chn):Prop where
 base:DbK S D
 f0:0<=fi
 f1:fi<=1000000
 len:l.length<=24
 t0:∀ c∈l,0<=c.1/\c.1<=1099511627776
 asc:l.Pairwise fun a b=>a.1<=b.1
 chg:∀ c∈l,zAg S c.2
 ok:zGz D l
section
variable {S:zFv} {fi:Int} {D:List Tbl} {l:List Chn}
theorem zBj.db (h:zBj S fi D l):∀ {k:Nat},k<=l.length->DbK S (zZm D l k)
 | 0,_=>h.base
 | k+1,hk=>by
  rw [zZt oMx];exact (h.db (k:=k) oMx).chg (h.chg _ (List.getElem_mem oMx)) (h.ok.at_ k oMx)
theorem zBj.lit (h:zBj S fi D l):LitC l:=⟨by have:=h.len;omega,fun c hc=>(h.chg c hc).lit⟩
theorem zBj.new (h:DbK S D):zBj S 0 D []:=⟨h,dCx,dCx,dCx,(fun _ h=>by cases h),.nil,(fun _ h=>by cases h),trivial⟩
def zOi (l:List Chn):Int:=(l.getLast?.map (·.1)).getD 0
theorem zBj.last (h:zBj S fi D l):0<=zOi l/\zOi l<=1099511627776/\∀ c∈l,c.1<=zOi l:=by
 unfold zOi
 rcases List.eq_nil_or_concat l with rfl|⟨l',c,rfl⟩
 ·simp
 have ha:=h.asc;rw [List.concat_eq_append] at *;rw [List.getLast?_append];have:=h.t0 c sMx;refine ⟨this.1,this.2,fun x hx=>?_⟩
 rcases List.mem_append.1 hx with hx|hx
 ·exact (List.pairwise_append.1 ha).2.2 x hx c sMx
 rw [List.mem_singleton] at hx;rw [hx];exact Int.le_refl _
theorem zBj.snoc (h:zBj S fi D l) {c:Chn} (hl:l.length<24) (ht:zOi l<=c.1) (ht2:c.1<=1099511627776) (hc:zAg S c.2) (he:zJj (zZm D l l.length) c.2=0):zBj S fi D (l++[c]):=by
 have hL:=h.last;refine ⟨h.base,h.f0,h.f1,by rw [List.length_append,List.length_singleton];omega,fun x hx=>?_,List.pairwise_append.2 ⟨h.asc,List.pairwise_singleton _ _,fun a ha b hb=>?_⟩,fun x hx=>?_,h.ok.snoc he⟩
 ·rcases List.mem_append.1 hx with hx|hx
  ·exact h.t0 x hx
  rw [List.mem_singleton] at hx;subst hx;exact ⟨oMx,ht2⟩
 ·rw [List.mem_singleton] at hb;subst hb;have:=hL.2.2 a ha;omega
 rcases List.mem_append.1 hx with hx|hx
 ·exact h.chg x hx
 rw [List.mem_singleton] at hx;subst hx;exact hc
theorem zBj.cut (h:zBj S fi D l) {i:Nat} (hi:i<=l.length) (hf:fi+i<=1000000):zBj S (fi+i) (zZm D l i) (l.drop i) :=
 ⟨h.db hi,by have:=h.f0;omega,hf,by rw [List.length_drop];have:=h.len;omega,fun c hc=>h.t0 c (List.mem_of_mem_drop hc),h.asc.sublist (List.drop_sublist _ _),fun c hc=>h.chg c (List.mem_of_mem_drop hc),h.ok.drop i⟩
end
section
variable {D:List Tbl} {r:Nat} {T:Tbl} {l:List Dlt}
theorem zJn:zJj D (((r:Int),[])::l)=12/\zJi D (((r:Int),[])::l)=[]:=⟨rfl,rfl⟩
theorem zJm (hT:T≠[]) (h:zHd D r T≠0):zJj D (((r:Int),T)::l)=zHd D r T/\zJi D (((r:Int),T)::l)=[]:=by
 unfold zJj zJi;simp only [Int.toNat_natCast,if_neg hT,if_neg h,and_self]
theorem zJo (hT:T≠[]) (h:zHd D r T=0):zJj D (((r:Int),T)::l)=zJj (zHc D r T) l/\zJi D (((r:Int),T)::l)=zJi (zHc D r T) l:=by
 refine ⟨?_,?_⟩
 ·rw [zJj];simp only [Int.toNat_natCast,if_neg hT,if_pos h]
 rw [zJi];simp only [Int.toNat_natCast,if_neg hT,if_pos h]
end
theorem zCy {S:zFv} {t before:Int} {v u:Value} {D:List Tbl} {l:List Dlt} {w:World} (henv:Env w) (hin:zBp w S) (hok:zFu S) (hv:Sl zOf w v D) (hD:DbK S D) (hu:Sl zOd w u l) (hl:zAg S l) (hb0:0<=before) (ht1:before<=t) (ht2:t<=1099511627776) :
  Calls Tryz.prog 39 #[.agg S.cells,v,.int .i64 before,.agg #[.int .i64 t,u]] w (zFk w (zJj D l) (zJi D l)):=by
 obtain ⟨A,c,rfl, -⟩:=hv.form;obtain ⟨Au,cu,rfl, -⟩:=hu.form;have hba:Below w.heap.size w ((w.alloc (.cells S.cells 31)).alloc (.cells #[.int .i64 t,.slice Au l.length cu] 54)):=(bA).alloc sMx _;have hk0:Blk ((w.alloc (.cells S.cells 31)).alloc (.cells #[.int .i64 t,.slice Au l.length cu] 54)) w.heap.size 31 S.cells.toList:=(Blk.new w 31 S.cells.toList).alloc _;have hk1:Blk ((w.alloc (.cells S.cells 31)).alloc (.cells #[.int .i64 t,.slice Au l.length cu] 54)) (w.heap.size+1) 54 [.int .i64 t,.slice Au l.length cu]:=Blk.new' sMx _ [_,_];have HBA:=oH hba;have HB0:=oH hk0;have HB1:=oH hk1;have HIN:=oH hin;have HSO:=oH hok;have HU:=oH hu;have HV:=oH hv;have HDB:=oH hD;have HCH:=oH hl;have HEV:=oH henv;have hll:=hl.len;have HAPG:=oH (fun (W:World) (vd ud:Value) (Dk:List Tbl) (rel:Nat) (T:Tbl) (hW:Below w.heap.size w W) (h1:Sl zOf W vd Dk) (h2:DbK S Dk) (h3:Sl zOe W ud T) (h4:zGi S rel T) (h5:T.length<=120)=>zCp (HEV.below hW) (HIN.below hW) HSO.out h1 h2 h3 h4 h5)
 have d0:decide (t<0)=false:=decide_eq_false oMx;have d1:decide (t<before)=false:=decide_eq_false oMx;have d2:decide (1099511627776<t)=false:=decide_eq_false oMx;clear hin hok hv hu hD hl hba hk0 hk1 hb0 ht1 ht2 henv;unfold zFv.cells at HB0 HB1 HBA HAPG ⊢;obtain ⟨at1,aa,ca,rs,ar,cr,fs,af,cf,lb⟩:=S;simp only at HB0 HB1 HBA HAPG ⊢
 go_enter Tryz.func39,Tryz.ntmps39
 go_wp2_with fail;generalize ((w.alloc (.cells #[.slice aa at1.length ca,.slice ar rs.length cr,.slice af fs.length cf,.int .i64 lb] 31)).alloc (.cells #[.int .i64 t,.slice Au l.length cu] 54))=wy at *;clear d0 d1 d2
 go_loopw [1,26] (fun v iv wr=>∃ (k:Nat) (Dk:List Tbl),iv = .int .i64 (k:Int)/\k<=l.length/\Sl zOf wr v Dk/\DbK ⟨at1,aa,ca,rs,ar,cr,fs,af,cf,lb⟩ Dk/\zJj D l=zJj Dk (l.drop k)/\zJi D l=zJi Dk (l.drop k)/\Below wy.heap.size wy wr) (fun _ iv _=>l.length-(intOf iv).toNat)
 ·exact ⟨0,D,rfl,oLx,HV.below HBA.out,HDB.out,rfl,rfl,bRx⟩
 obtain ⟨k,Dk,rfl,hk,hsl,hdk,hE,hD2,hbel⟩:=hrel;obtain ⟨Ad,cd,rfl, -⟩:=hsl.form;have HSL:=oH hsl;have HDK:=oH hdk;have HE:Hid (zJj D l=zJj Dk (l.drop k)/\zJi D l=zJi Dk (l.drop k)):=oH ⟨hE,hD2⟩;have HBEL:=oH hbel;have HBW:=bTx2 HBA hbel;have HYS:=oH (HB0.below hbel);have b0:=(HB1.below hbel).at_ (i:=0) rfl;have b1:=(HB1.below hbel).at_ (i:=1) rfl;clear hsl hdk hE hD2 hbel
 by_cases hlt:k<l.length
 ·obtain ⟨b,off,rfl,hb,hc⟩:=HU.isl2 (by intro e;subst e;simp at hlt);obtain ⟨u1,p0,p1,hu1⟩:=hc k hlt;have c0:=(HBW.cell (p:=⟨b,off+k*2,none⟩) hb).trans p0;have c1:wr.cell? ⟨b,off+k*2+1,none⟩=_:=(HBW.cell (p:=⟨b,off+k*2+1,none⟩) hb).trans p1;have hx:=HCH.all _ (List.getElem_mem hlt);obtain ⟨rel,hrel,htab⟩:=hx.rel;have hshort:=hx.short;have HDR:=oH (zLn hlt)
  have HPV:Hid (1<=k->∃ x1:Int,wr.cell? ⟨b,off+(k-1)*2,none⟩=some (.int .i64 x1)/\x1<rel):=oH fun h1=>by
   obtain ⟨u2,p2, -, -⟩:=hc (k-1) oMx;refine ⟨_,(HBW.cell (p:=⟨b,off+(k-1)*2,none⟩) hb).trans p2,?_⟩;have h2:=List.pairwise_iff_getElem.1 HCH.asc (k-1) k oMx hlt oMx;omega
  have hu2:=hu1.below HBW.out;obtain ⟨Ar,ct,rfl, -⟩:=hu1.form;have HUR:=oH hu2;have HTAB:=oH htab;clear hc hx p0 p1 hu1 hu2 htab;obtain ⟨x,hx⟩:=eXx (l[k]);rw [hx] at c0 c1 hrel hshort HDR HUR HTAB;obtain ⟨r0,T⟩:=x;simp only at c0 c1 hrel hshort HUR HTAB;subst hrel;clear hx;have HZ:=oH (show Below wr.heap.size wr (wr.alloc (.cells #[.int .i64 (rel:Int),.slice Ar T.length ct] 45))/\Blk (wr.alloc (.cells #[.int .i64 (rel:Int),.slice Ar T.length ct] 45)) wr.heap.size 45 [.int .i64 (rel:Int),.slice Ar T.length ct] from ⟨bA,Blk.new wr _ [_,_]⟩);have hbr:b<wr.heap.size:=Nat.lt_of_lt_of_le hb HBW.size;have hwr:w.heap.size+1<wr.heap.size:=Nat.lt_of_lt_of_le HB1.lt HBEL.size
  by_cases h1:1<=k
  ·obtain ⟨x1,c2,hx1⟩:=HPV.out h1;have g0:decide (0<k)=true:=decide_eq_true oMx
   have g1:IntKind.i64.wrap ((k:Int)-1)=((k-1:Nat):Int):=by rw [IntWalk.i64_in _ oMx];omega
   have g2:k-1<l.length:=by omega
   have g3:decide ((rel:Int)<=x1)=false:=decide_eq_false oMx;clear hx1;go_wp2_with fail;generalize wr.alloc (.cells #[.int .i64 (rel:Int),.slice Ar T.length ct] 45)=wz at *;obtain ⟨hz1,hz2⟩:=HZ.out;have x0:=hz2.at_ (i:=0) rfl;have x1:=hz2.at_ (i:=1) rfl;have y1:=(hz1.cell (p:=⟨w.heap.size+1,1,none⟩) hwr).trans b1;have c3:=(hz1.cell (p:=⟨b,off+(k-1)*2,none⟩) (by simp;omega)).trans c2;clear c2
   go_quiet (fail)
   clear c3;have HG:Hid True:=oH trivial;obtain ⟨w5,hw5⟩:=eXx (wz.drewN nq)
   have hzr:Below wr.heap.size wr w5:=by rw [<-hw5];exact below_drewN hz1 _
   have hzb:Blk w5 wr.heap.size 45 [.int .i64 (rel:Int),.slice Ar T.length ct]:=by rw [<-hw5];exact hz2.drewN _
   rw [hw5];clear hw5 c0 c1 b0 b1 y1 x0 x1 hz1 hz2 HZ;have HZR:=oH hzr;have HZB:=oH hzb;have e0:=hzb.at_ (i:=0) rfl;have e1:=hzb.at_ (i:=1) rfl;have hys:=HYS.below hzr;have s0:=hys.at_ (i:=0) rfl;have s1:=hys.at_ (i:=1) rfl;have s2:=hys.at_ (i:=2) rfl;have s3:=hys.at_ (i:=3) rfl;clear hzr hzb hys
   by_cases hT:T=[]
   ·have E:=oH (show zJj D l=12/\zJi D l=[] by rw [HE.1,HE.2,HDR.out];subst hT;exact zJn)
    have hT0:((T.length:Int)==0)=true:=by subst hT;rfl
    go_wp2_with fail;go_ret2
    exact ⟨_,by rw [E.1];rfl,by rw [E.2];exact .nil _ _ _ _,HBW.trans (HZR.mono HBW.size)⟩
   have hT0:((T.length:Int)==0)=false:=by rw [beq_eq_false_iff_ne];have:=List.length_pos_iff.2 hT;omega
   have HCALL:=oH (HAPG.out w5 (.slice Ad Dk.length cd) (.slice Ar T.length ct) Dk rel T (HBW.trans (HZR.mono HBW.size)) (HSL.below HZR.out) HDK.out (HUR.below HZR.out) HTAB.out hshort);have HOK:=oH (fun (h:zHd Dk rel T=0)=>(show DbK _ (zHc Dk rel T)/\zJj D l=zJj (zHc Dk rel T) (l.drop (k+1))/\zJi D l=zJi (zHc Dk rel T) (l.drop (k+1)) from ⟨HDK.apply HTAB.out h,HE.1.trans (by rw [HDR.out];exact (zJo hT h).1),HE.2.trans (by rw [HDR.out];exact (zJo hT h).2)⟩));have HBAD:=oH (fun (h:zHd Dk rel T≠0)=>(show zJj D l=zHd Dk rel T/\zJi D l=[] from ⟨HE.1.trans (by rw [HDR.out];exact (zJm hT h).1),HE.2.trans (by rw [HDR.out];exact (zJm hT h).2)⟩));generalize zHd Dk rel T=er at *;generalize zHc Dk rel T=Dn at *;clear hT;go_wp2_with fail;refine HCALL.mono ?_;rintro e w6 ⟨v2,rfl,hs2,hb2⟩;obtain ⟨A2,c2,rfl, -⟩:=hs2.form;have HS2:=oH hs2;have HW6:=bTx2 HZR hb2;clear hs2 hb2 e0 e1 s0 s1 s2 s3 HZB HCALL
   by_cases her:er=0
   ·have HN:=oH (HOK.out her);subst her;go_wp2_with fail;go_roundw
    ·exact ⟨k+1,Dn,by go_num,oMx,HS2.out,HN.1,HN.2.1,HN.2.2,HBEL.trans (HW6.mono HBEL.size)⟩
    simp [intOf];omega
   have E:=oH (HBAD.out her)
   have hq:(er==0)=false:=by rw [beq_eq_false_iff_ne];exact her
   clear her;go_wp2_with fail;go_ret2
   exact ⟨_,by rw [E.1];rfl,by rw [E.2];exact .nil _ _ _ _,HBW.trans (HW6.mono HBW.size)⟩
  have g0:decide (0<k)=false:=decide_eq_false oMx;go_wp2_with fail;generalize wr.alloc (.cells #[.int .i64 (rel:Int),.slice Ar T.length ct] 45)=wz at *;obtain ⟨hz1,hz2⟩:=HZ.out;have x0:=hz2.at_ (i:=0) rfl;have x1:=hz2.at_ (i:=1) rfl;have y1:=(hz1.cell (p:=⟨w.heap.size+1,1,none⟩) hwr).trans b1
  go_quiet (fail)
  have HG:Hid True:=oH trivial;obtain ⟨w5,hw5⟩:=eXx (wz.drewN nq)
  have hzr:Below wr.heap.size wr w5:=by rw [<-hw5];exact below_drewN hz1 _
  have hzb:Blk w5 wr.heap.size 45 [.int .i64 (rel:Int),.slice Ar T.length ct]:=by rw [<-hw5];exact hz2.drewN _
  rw [hw5];clear hw5 c0 c1 b0 b1 y1 x0 x1 hz1 hz2 HZ;have HZR:=oH hzr;have HZB:=oH hzb;have e0:=hzb.at_ (i:=0) rfl;have e1:=hzb.at_ (i:=1) rfl;have hys:=HYS.below hzr;have s0:=hys.at_ (i:=0) rfl;have s1:=hys.at_ (i:=1) rfl;have s2:=hys.at_ (i:=2) rfl;have s3:=hys.at_ (i:=3) rfl;clear hzr hzb hys
  by_cases hT:T=[]
  ·have E:=oH (show zJj D l=12/\zJi D l=[] by rw [HE.1,HE.2,HDR.out];subst hT;exact zJn)
   have hT0:((T.length:Int)==0)=true:=by subst hT;rfl
   go_wp2_with fail;go_ret2
   exact ⟨_,by rw [E.1];rfl,by rw [E.2];exact .nil _ _ _ _,HBW.trans (HZR.mono HBW.size)⟩
  have hT0:((T.length:Int)==0)=false:=by rw [beq_eq_false_iff_ne];have:=List.length_pos_iff.2 hT;omega
  have HCALL:=oH (HAPG.out w5 (.slice Ad Dk.length cd) (.slice Ar T.length ct) Dk rel T (HBW.trans (HZR.mono HBW.size)) (HSL.below HZR.out) HDK.out (HUR.below HZR.out) HTAB.out hshort);have HOK:=oH (fun (h:zHd Dk rel T=0)=>(show DbK _ (zHc Dk rel T)/\zJj D l=zJj (zHc Dk rel T) (l.drop (k+1))/\zJi D l=zJi (zHc Dk rel T) (l.drop (k+1)) from ⟨HDK.apply HTAB.out h,HE.1.trans (by rw [HDR.out];exact (zJo hT h).1),HE.2.trans (by rw [HDR.out];exact (zJo hT h).2)⟩));have HBAD:=oH (fun (h:zHd Dk rel T≠0)=>(show zJj D l=zHd Dk rel T/\zJi D l=[] from ⟨HE.1.trans (by rw [HDR.out];exact (zJm hT h).1),HE.2.trans (by rw [HDR.out];exact (zJm hT h).2)⟩));generalize zHd Dk rel T=er at *;generalize zHc Dk rel T=Dn at *;clear hT;go_wp2_with fail;refine HCALL.mono ?_;rintro e w6 ⟨v2,rfl,hs2,hb2⟩;obtain ⟨A2,c2,rfl, -⟩:=hs2.form;have HS2:=oH hs2;have HW6:=bTx2 HZR hb2;clear hs2 hb2 e0 e1 s0 s1 s2 s3 HZB HCALL
  by_cases her:er=0
  ·have HN:=oH (HOK.out her);subst her;go_wp2_with fail;go_roundw
   ·exact ⟨k+1,Dn,by go_num,oMx,HS2.out,HN.1,HN.2.1,HN.2.2,HBEL.trans (HW6.mono HBEL.size)⟩
   simp [intOf];omega
  have E:=oH (HBAD.out her)
  have hq:(er==0)=false:=by rw [beq_eq_false_iff_ne];exact her
  clear her;go_wp2_with fail;go_ret2
  exact ⟨_,by rw [E.1];rfl,by rw [E.2];exact .nil _ _ _ _,HBW.trans (HW6.mono HBW.size)⟩
 have HLE:Hid (zJj D l=0/\zJi D l=Dk):=oH (by have h:=HE.out;rw [List.drop_eq_nil_of_le oMx] at h;exact h);go_wp2_with fail;go_ret2
 exact ⟨_,by rw [HLE.1];rfl,by rw [HLE.2];exact HSL.out,HBW.out⟩
theorem RChg_of {S:zFv} {t before:Int} {v u:Value} {D:List Tbl} {l:List Dlt} {w:World} (hin:zBp w S) (hok:zFu S) (hlow:zCg S) (hv:Sl zOf w v D) (hD:DbK S D) (hu:Sl zOd w u l) (hl:zAg S l) (hb0:0<=before) (ht1:before<=t) (ht2:t<=1099511627776) :
  Calls Tryz.prog 67 #[.agg S.cells,v,.int .i64 before,.agg #[.int .i64 t,u]] w (zFk w (zJj D l) (zJi D l)):=by
 obtain ⟨A,c,rfl, -⟩:=hv.form;obtain ⟨Au,cu,rfl, -⟩:=hu.form;have hba:Below w.heap.size w ((w.alloc (.cells S.cells 31)).alloc (.cells #[.int .i64 t,.slice Au l.length cu] 54)):=(bA).alloc sMx _;have hk0:Blk ((w.alloc (.cells S.cells 31)).alloc (.cells #[.int .i64 t,.slice Au l.length cu] 54)) w.heap.size 31 S.cells.toList:=(Blk.new w 31 S.cells.toList).alloc _;have hk1:Blk ((w.alloc (.cells S.cells 31)).alloc (.cells #[.int .i64 t,.slice Au l.length cu] 54)) (w.heap.size+1) 54 [.int .i64 t,.slice Au l.length cu]:=Blk.new' sMx _ [_,_];have HBA:=oH hba;have HB0:=oH hk0;have HB1:=oH hk1;have HIN:=oH hin;have HSO:=oH hok;have HU:=oH hu;have HV:=oH hv;have HDB:=oH hD;have HCH:=oH hl;have HLOW:=oH hlow;have hll:=hl.len;have HAPG:=oH (fun (W:World) (vd ud:Value) (Dk:List Tbl) (rel:Nat) (T:Tbl) (hW:Below w.heap.size w W) (h1:Sl zOf W vd Dk) (h2:DbK S Dk) (h3:Sl zOe W ud T) (h4:zGi S rel T) (h5:T.length<=120)=>zDo (HIN.below hW) HSO.out HLOW.out h1 h2 h3 h4 h5)
 have d0:decide (t<0)=false:=decide_eq_false oMx;have d1:decide (t<before)=false:=decide_eq_false oMx;have d2:decide (1099511627776<t)=false:=decide_eq_false oMx;clear hin hok hv hu hD hl hba hk0 hk1 hb0 ht1 ht2 hlow;unfold zFv.cells at HB0 HB1 HBA HAPG ⊢;obtain ⟨at1,aa,ca,rs,ar,cr,fs,af,cf,lb⟩:=S;simp only at HB0 HB1 HBA HAPG ⊢
 go_enter Tryz.func67,Tryz.ntmps67
 go_wp2_with fail;generalize ((w.alloc (.cells #[.slice aa at1.length ca,.slice ar rs.length cr,.slice af fs.length cf,.int .i64 lb] 31)).alloc (.cells #[.int .i64 t,.slice Au l.length cu] 54))=wy at *;clear d0 d1 d2
 go_loopw [1,31] (fun v iv wr=>∃ (k:Nat) (Dk:List Tbl),iv = .int .i64 (k:Int)/\k<=l.length/\Sl zOf wr v Dk/\DbK ⟨at1,aa,ca,rs,ar,cr,fs,af,cf,lb⟩ Dk/\zJj D l=zJj Dk (l.drop k)/\zJi D l=zJi Dk (l.drop k)/\Below wy.heap.size wy wr) (fun _ iv _=>l.length-(intOf iv).toNat)
 ·exact ⟨0,D,rfl,oLx,HV.below HBA.out,HDB.out,rfl,rfl,bRx⟩
 obtain ⟨k,Dk,rfl,hk,hsl,hdk,hE,hD2,hbel⟩:=hrel;obtain ⟨Ad,cd,rfl, -⟩:=hsl.form;have HSL:=oH hsl;have HDK:=oH hdk;have HE:Hid (zJj D l=zJj Dk (l.drop k)/\zJi D l=zJi Dk (l.drop k)):=oH ⟨hE,hD2⟩;have HBEL:=oH hbel;have HBW:=bTx2 HBA hbel;have HYS:=oH (HB0.below hbel);have b0:=(HB1.below hbel).at_ (i:=0) rfl;have b1:=(HB1.below hbel).at_ (i:=1) rfl;clear hsl hdk hE hD2 hbel
 by_cases hlt:k<l.length
 ·obtain ⟨b,off,rfl,hb,hc⟩:=HU.isl2 (by intro e;subst e;simp at hlt);obtain ⟨u1,p0,p1,hu1⟩:=hc k hlt;have c0:=(HBW.cell (p:=⟨b,off+k*2,none⟩) hb).trans p0;have c1:wr.cell? ⟨b,off+k*2+1,none⟩=_:=(HBW.cell (p:=⟨b,off+k*2+1,none⟩) hb).trans p1;have hx:=HCH.all _ (List.getElem_mem hlt);obtain ⟨rel,hrel,htab⟩:=hx.rel;have hshort:=hx.short;have HDR:=oH (zLn hlt)
  have HPV:Hid (1<=k->∃ x1:Int,wr.cell? ⟨b,off+(k-1)*2,none⟩=some (.int .i64 x1)/\x1<rel):=oH fun h1=>by
   obtain ⟨u2,p2, -, -⟩:=hc (k-1) oMx;refine ⟨_,(HBW.cell (p:=⟨b,off+(k-1)*2,none⟩) hb).trans p2,?_⟩;have h2:=List.pairwise_iff_getElem.1 HCH.asc (k-1) k oMx hlt oMx;omega
  have hu2:=hu1.below HBW.out;obtain ⟨Ar,ct,rfl, -⟩:=hu1.form;have HUR:=oH hu2;have HTAB:=oH htab;clear hc hx p0 p1 hu1 hu2 htab;obtain ⟨x,hx⟩:=eXx (l[k]);rw [hx] at c0 c1 hrel hshort HDR HUR HTAB;obtain ⟨r0,T⟩:=x;simp only at c0 c1 hrel hshort HUR HTAB;subst hrel;clear hx;have HZ:=oH (show Below wr.heap.size wr (wr.alloc (.cells #[.int .i64 (rel:Int),.slice Ar T.length ct] 45))/\Blk (wr.alloc (.cells #[.int .i64 (rel:Int),.slice Ar T.length ct] 45)) wr.heap.size 45 [.int .i64 (rel:Int),.slice Ar T.length ct] from ⟨bA,Blk.new wr _ [_,_]⟩);have hbr:b<wr.heap.size:=Nat.lt_of_lt_of_le hb HBW.size;have hwr:w.heap.size+1<wr.heap.size:=Nat.lt_of_lt_of_le HB1.lt HBEL.size
  by_cases h1:1<=k
  ·obtain ⟨x1,c2,hx1⟩:=HPV.out h1;have g0:decide (0<k)=true:=decide_eq_true oMx
   have g1:IntKind.i64.wrap ((k:Int)-1)=((k-1:Nat):Int):=by rw [IntWalk.i64_in _ oMx];omega
   have g2:k-1<l.length:=by omega
   have g3:decide ((rel:Int)<=x1)=false:=decide_eq_false oMx;clear hx1;go_wp2_with fail;generalize wr.alloc (.cells #[.int .i64 (rel:Int),.slice Ar T.length ct] 45)=wz at *;obtain ⟨hz1,hz2⟩:=HZ.out;have x0:=hz2.at_ (i:=0) rfl;have x1:=hz2.at_ (i:=1) rfl;have y1:=(hz1.cell (p:=⟨w.heap.size+1,1,none⟩) hwr).trans b1;have c3:=(hz1.cell (p:=⟨b,off+(k-1)*2,none⟩) (by simp;omega)).trans c2;clear c2
   go_quiet (fail)
   clear c3;have HG:Hid True:=oH trivial;obtain ⟨w5,hw5⟩:=eXx (wz.drewN nq)
   have hzr:Below wr.heap.size wr w5:=by rw [<-hw5];exact below_drewN hz1 _
   have hzb:Blk w5 wr.heap.size 45 [.int .i64 (rel:Int),.slice Ar T.length ct]:=by rw [<-hw5];exact hz2.drewN _
   rw [hw5];clear hw5 c0 c1 b0 b1 y1 x0 x1 hz1 hz2 HZ;have HZR:=oH hzr;have HZB:=oH hzb;have e0:=hzb.at_ (i:=0) rfl;have e1:=hzb.at_ (i:=1) rfl;have hys:=HYS.below hzr;have s0:=hys.at_ (i:=0) rfl;have s1:=hys.at_ (i:=1) rfl;have s2:=hys.at_ (i:=2) rfl;have s3:=hys.at_ (i:=3) rfl;clear hzr hzb hys
   by_cases hT:T=[]
   ·have E:=oH (show zJj D l=12/\zJi D l=[] by rw [HE.1,HE.2,HDR.out];subst hT;exact zJn)
    have hT0:((T.length:Int)==0)=true:=by subst hT;rfl
    go_wp2_with fail;go_ret2
    exact ⟨_,by rw [E.1];rfl,by rw [E.2];exact .nil _ _ _ _,HBW.trans (HZR.mono HBW.size)⟩
   have hT0:((T.length:Int)==0)=false:=by rw [beq_eq_false_iff_ne];have:=List.length_pos_iff.2 hT;omega
   have HCALL:=oH (HAPG.out w5 (.slice Ad Dk.length cd) (.slice Ar T.length ct) Dk rel T (HBW.trans (HZR.mono HBW.size)) (HSL.below HZR.out) HDK.out (HUR.below HZR.out) HTAB.out hshort);have HOK:=oH (fun (h:zHd Dk rel T=0)=>(show DbK _ (zHc Dk rel T)/\zJj D l=zJj (zHc Dk rel T) (l.drop (k+1))/\zJi D l=zJi (zHc Dk rel T) (l.drop (k+1)) from ⟨HDK.apply HTAB.out h,HE.1.trans (by rw [HDR.out];exact (zJo hT h).1),HE.2.trans (by rw [HDR.out];exact (zJo hT h).2)⟩));have HBAD:=oH (fun (h:zHd Dk rel T≠0)=>(show zJj D l=zHd Dk rel T/\zJi D l=[] from ⟨HE.1.trans (by rw [HDR.out];exact (zJm hT h).1),HE.2.trans (by rw [HDR.out];exact (zJm hT h).2)⟩));generalize zHd Dk rel T=er at *;generalize zHc Dk rel T=Dn at *;clear hT;go_wp2_with fail;refine HCALL.mono ?_;rintro e w6 ⟨v2,rfl,hs2,hb2⟩;obtain ⟨A2,c2,rfl, -⟩:=hs2.form;have HS2:=oH hs2;have HW6:=bTx2 HZR hb2;clear hs2 hb2 e0 e1 s0 s1 s2 s3 HZB HCALL
   by_cases her:er=0
   ·have HN:=oH (HOK.out her);subst her;go_wp2_with fail;go_roundw
    ·exact ⟨k+1,Dn,by go_num,oMx,HS2.out,HN.1,HN.2.1,HN.2.2,HBEL.trans (HW6.mono HBEL.size)⟩
    simp [intOf];omega
   have E:=oH (HBAD.out her)
   have hq:(er==0)=false:=by rw [beq_eq_false_iff_ne];exact her
   clear her;go_wp2_with fail;go_ret2
   exact ⟨_,by rw [E.1];rfl,by rw [E.2];exact .nil _ _ _ _,HBW.trans (HW6.mono HBW.size)⟩
  have g0:decide (0<k)=false:=decide_eq_false oMx;go_wp2_with fail;generalize wr.alloc (.cells #[.int .i64 (rel:Int),.slice Ar T.length ct] 45)=wz at *;obtain ⟨hz1,hz2⟩:=HZ.out;have x0:=hz2.at_ (i:=0) rfl;have x1:=hz2.at_ (i:=1) rfl;have y1:=(hz1.cell (p:=⟨w.heap.size+1,1,none⟩) hwr).trans b1
  go_quiet (fail)
  have HG:Hid True:=oH trivial;obtain ⟨w5,hw5⟩:=eXx (wz.drewN nq)
  have hzr:Below wr.heap.size wr w5:=by rw [<-hw5];exact below_drewN hz1 _
  have hzb:Blk w5 wr.heap.size 45 [.int .i64 (rel:Int),.slice Ar T.length ct]:=by rw [<-hw5];exact hz2.drewN _
  rw [hw5];clear hw5 c0 c1 b0 b1 y1 x0 x1 hz1 hz2 HZ;have HZR:=oH hzr;have HZB:=oH hzb;have e0:=hzb.at_ (i:=0) rfl;have e1:=hzb.at_ (i:=1) rfl;have hys:=HYS.below hzr;have s0:=hys.at_ (i:=0) rfl;have s1:=hys.at_ (i:=1) rfl;have s2:=hys.at_ (i:=2) rfl;have s3:=hys.at_ (i:=3) rfl;clear hzr hzb hys
  by_cases hT:T=[]
  ·have E:=oH (show zJj D l=12/\zJi D l=[] by rw [HE.1,HE.2,HDR.out];subst hT;exact zJn)
   have hT0:((T.length:Int)==0)=true:=by subst hT;rfl
   go_wp2_with fail;go_ret2
   exact ⟨_,by rw [E.1];rfl,by rw [E.2];exact .nil _ _ _ _,HBW.trans (HZR.mono HBW.size)⟩
  have hT0:((T.length:Int)==0)=false:=by rw [beq_eq_false_iff_ne];have:=List.length_pos_iff.2 hT;omega
  have HCALL:=oH (HAPG.out w5 (.slice Ad Dk.length cd) (.slice Ar T.length ct) Dk rel T (HBW.trans (HZR.mono HBW.size)) (HSL.below HZR.out) HDK.out (HUR.below HZR.out) HTAB.out hshort);have HOK:=oH (fun (h:zHd Dk rel T=0)=>(show DbK _ (zHc Dk rel T)/\zJj D l=zJj (zHc Dk rel T) (l.drop (k+1))/\zJi D l=zJi (zHc Dk rel T) (l.drop (k+1)) from ⟨HDK.apply HTAB.out h,HE.1.trans (by rw [HDR.out];exact (zJo hT h).1),HE.2.trans (by rw [HDR.out];exact (zJo hT h).2)⟩));have HBAD:=oH (fun (h:zHd Dk rel T≠0)=>(show zJj D l=zHd Dk rel T/\zJi D l=[] from ⟨HE.1.trans (by rw [HDR.out];exact (zJm hT h).1),HE.2.trans (by rw [HDR.out];exact (zJm hT h).2)⟩));generalize zHd Dk rel T=er at *;generalize zHc Dk rel T=Dn at *;clear hT;go_wp2_with fail;refine HCALL.mono ?_;rintro e w6 ⟨v2,rfl,hs2,hb2⟩;obtain ⟨A2,c2,rfl, -⟩:=hs2.form;have HS2:=oH hs2;have HW6:=bTx2 HZR hb2;clear hs2 hb2 e0 e1 s0 s1 s2 s3 HZB HCALL
  by_cases her:er=0
  ·have HN:=oH (HOK.out her);subst her;go_wp2_with fail;go_roundw
   ·exact ⟨k+1,Dn,by go_num,oMx,HS2.out,HN.1,HN.2.1,HN.2.2,HBEL.trans (HW6.mono HBEL.size)⟩
   simp [intOf];omega
  have E:=oH (HBAD.out her)
  have hq:(er==0)=false:=by rw [beq_eq_false_iff_ne];exact her
  clear her;go_wp2_with fail;go_ret2
  exact ⟨_,by rw [E.1];rfl,by rw [E.2];exact .nil _ _ _ _,HBW.trans (HW6.mono HBW.size)⟩
 have HLE:Hid (zJj D l=0/\zJi D l=Dk):=oH (by have h:=HE.out;rw [List.drop_eq_nil_of_le oMx] at h;exact h);go_wp2_with fail;go_ret2
 exact ⟨_,by rw [HLE.1];rfl,by rw [HLE.2];exact HSL.out,HBW.out⟩
end Go.Proofs.YtafflnognagadaaGreatDoor
