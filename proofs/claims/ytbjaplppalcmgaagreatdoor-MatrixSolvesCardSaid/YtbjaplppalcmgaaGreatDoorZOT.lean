import Derived.Test.YtbjaplppalcmgaaGreatDoorZNZ
import Derived.Test.YtbjaplppalcmgaaGreatDoorZNS
set_option maxHeartbeats 16000000
set_option maxRecDepth 100000
set_option linter.unusedVariables false
set_option linter.unusedSimpArgs false
set_option linter.unusedSectionVars false
namespace Go.Proofs.YtbjaplppalcmgaaGreatDoor
open Go.RowKit
theorem zFr.texts {w0 w w':World} {n:Nat} {q:Nat->Rat} {e:Ending} (h:zFr w n q e w') (hb:Below w0.heap.size w0 w):zGc w0 ((List.range n).map q) e w':=by
 rcases h with ⟨hf,A,c,ss,he,hl,hss,how,hb2⟩|⟨⟨k,hk,hn⟩,he,hb2⟩
 ·refine .inl ⟨A,c,fun p hp=>?_,?_,?_,hb.trans (hb2.mono hb.size)⟩
  ·obtain ⟨k,hk,rfl⟩:=List.mem_map.mp hp;exact hf k (List.mem_range.mp hk)
  ·rw [he,List.length_map,List.length_range]
  have hse:ss=((List.range n).map q).map zXl:=List.ext_getElem (by simpa using hl) fun i h1 h2=>by
   rw [hss i h1]
   simp
  rw [<-hse];rw [<-hl] at how;obtain ⟨A',c',e9, -,h9, -⟩:=zUw how;injection e9 with e9;rw [e9];exact h9
 exact .inr ⟨⟨q k,List.mem_map.mpr ⟨k,List.mem_range.mpr hk,rfl⟩,hn⟩,he,hb.trans (hb2.mono hb.size)⟩
open Classical in
theorem RSol_sp {A Ab:oAx} {c cb n:Nat} {M:mRx} {bq:Nat->Rat} {w:World} (h:zCm w A n n M) (hbv:VcIn w Ab n bq) (hn1:1<=n) (hn:n<=5) (hd:DigM 30 n n M) (hdb:∀ i,i<n->zAl 30 (bq i)) :
  Calls Tryz.prog 14 #[.slice A n c,.slice Ab n cb] w (zGv n M bq w):=by
 obtain ⟨rs,h,hmf⟩:=h;obtain ⟨ss,hs,hv⟩:=hbv;obtain ⟨j0,hj,hy0,hy1,hy2⟩:=info_parts Tryz.infoRF;generalize hQ:zGv n M bq w=Q;replace hQ:=oH hQ;obtain ⟨l1,l2,l3⟩:=hmf.len1000 oMx oMx;have HSH:=zEw A rs c w h l1 l2 l3;rw [hmf.shape hn1 oMx oMx,hmf.len] at HSH;replace HSH:=oH HSH;have HHV:=oH (fun W (hW:Below w.heap.size w W)=>zEh (c:=c) (N:=n) (h.below hW) hmf hn1 hn hn1 oMx hd hn1 oMx);have hsl:ss.length=n:=hv.len;have HCO:=oH (fun W (hW:Below w.heap.size w W)=>(show Calls Tryz.prog 42 #[.slice Ab n cb] W (zFn W ss) by rw [<-hsl];exact zDh Ab ss cb W (hs.below hW) oMx));have HH2:=oH (fun W A5 c5 rs5 (hm:zCj W A5 rs5) (h5:rs5.map (·.ss)=ss.map (fun s=>[s]))=>zEh (c:=c5) (N:=n) hm (col_matF h5 hv) hn1 hn dCx dCx (fun i _ hi _=>hdb i hi) hn1 oMx);have HRD3:=oH (fun W (hW:Below w.heap.size w W)=>zEq A rs c n n M W (h.below hW) hmf hn1 oMx hn1 oMx);have hda:=augQ_dig hd hdb;have HDA:=oH hda;have HIN:=oH (fun i k (hk:k<n)=>(show augQ n M bq i k=M i k from zId hk))
 have HLA:=oH (fun i=>(show augQ n M bq i n=bq i from zIe));have HFV:=oH hv.fit;have HCE:=oH hv.cel;have HSA:=oH (fun (e:Ending) (w':World) (h1:hvR n n n M\/hvR n n 1 fun i _=>bq i) h2 h3=>(show zGv n M bq w e w' from .inl ⟨h1,h2,h3⟩));have HSB:=oH (fun (e:Ending) (w':World) (h1:¬(hvR n n n M\/hvR n n 1 fun i _=>bq i)) r (hr:Rk n n M r) (hlt:r<n) h2 h3=>(show zGv n M bq w e w' from .inr ⟨h1,r,hr,.inl ⟨hlt,h2,h3⟩⟩));have HSC:=oH (fun (e:Ending) (w':World) (h1:¬(hvR n n n M\/hvR n n 1 fun i _=>bq i)) r (hr:Rk n n M r) (he:r=n) (x:Nat->Rat) (hx:∀ i,i<n->zHy n M x i=bq i) h2=>(show zGv n M bq w e w' from .inr ⟨h1,r,hr,.inr ⟨he,x,hx,h2⟩⟩));rw [hQ.out] at HSA HSB HSC;have HRK:=oH (fun r (h:Rk n n (augQ n M bq) r)=>(show Rk n n M r from h.congr fun i k _ hk=>zId hk))
 have HSO:=oH (fun (x:Nat->Rat) (hx:∀ i,i<n->xBt n (fun j=>augQ n M bq i j*x j)=augQ n M bq i n)=>(show ∀ i,i<n->zHy n M x i=bq i from fun i hi=>by
  rw [<-zIe (n:=n) (M:=M) (b:=bq) (i:=i),<-hx i hi]
  exact xBv fun j hj=>by rw [zId hj]))
 generalize hvR n n n M=H1 at *;generalize (hvR n n 1 fun i _=>bq i)=H2 at *;generalize Rk n n M=RKM at *;obtain ⟨bb,ob,rfl,hbb,hcb⟩:=hs (by intro e;rw [e] at hsl;simp at hsl;omega);have HCB:=oH hcb;clear h hmf l1 l2 l3 hd hdb hda hs hv hcb;generalize augQ n M bq=X at *
 go_enter Tryz.func14,Tryz.ntmps14
 go_wp2_with fail;refine HSH.mono ?_;rintro e w1 ⟨rfl,hb1⟩;have HB1:=oH hb1;clear hb1;simp only
 have hnn:((n:Int) != (n:Int))=false:=by simp
 go_wp2_with fail
 go_loopw [37] (fun iv wr=>∃ i:Nat,iv = .int .i64 (i:Int)/\i<=n/\Below w.heap.size w wr) (fun iv _=>n-(intOf iv).toNat)
 ·exact ⟨0,rfl,oLx,HB1.out⟩
 clear HB1;obtain ⟨i,rfl,hin,hbr⟩:=hrel;obtain ⟨wi,rfl⟩:=nWx wr;have HBR:=oH hbr;clear hbr
 by_cases hlt:i<n
 ·have hi5:i<ss.length:=by omega
  have c0:=(HBR.cell (p:=⟨bb,ob+i,none⟩) hbb).trans (HCB.out i hi5);rw [HCE.out i hi5] at c0;have HVD:=oH (zDx (bq i) wi (HFV.out i hlt));generalize zXl (bq i)=sq at *
  have x1:(0:Int)<=(i:Int):=by omega
  have x2:(i:Int)<(n:Int):=by omega
  go_wp2_with fail;refine HVD.mono ?_;rintro e w2 ⟨rfl,hb⟩;have HB2:=bTx2 HBR hb;clear hb c0 HBR HVD;go_wp2_with fail;go_roundw
  ·exact ⟨i+1,by go_num,oMx,HB2.out⟩
  simp [intOf];omega
 go_wp2_with fail;refine (HHV.out wi HBR.out).mono ?_;rintro e w2 ⟨rfl,hb⟩;have HB2:=bTx2 HBR hb;clear hb HBR HHV HSH
 by_cases hH1:H1
 ·have hdt:=decide_eq_true hH1;rw [hdt];go_wp2_with fail;exact HSA.out _ _ (.inl hH1) rfl HB2.out
 have hdf:=decide_eq_false hH1;rw [hdf];clear hdf;go_wp2_with fail;refine (HCO.out w2 HB2.out).mono ?_;rintro e w3 ⟨v5,rs5,rfl,hrs5,hmo5,hb⟩;obtain ⟨A5,c5,rfl, -⟩:=zUj hmo5.o;have HB3:=bTx2 HB2 hb
 have hl5:rs5.length=n:=by have:=congrArg List.length hrs5;simp at this;omega
 have HH5:=oH (HH2.out w3 A5 c5 rs5 hmo5.read hrs5);rw [hl5];clear hb hmo5 hrs5 HCO HH2 hl5;go_wp2_with fail;refine HH5.mono ?_;rintro e w4 ⟨rfl,hb⟩;have HB4:=bTx2 HB3 hb;clear hb HH5
 by_cases hH2:H2
 ·have hdt:=decide_eq_true hH2;rw [hdt];go_wp2_with fail;exact HSA.out _ _ (.inr hH2) rfl HB4.out
 have hdf:=decide_eq_false hH2;rw [hdf];have HNH:=oH (show ¬(H1\/H2) from fun h=>h.elim hH1 hH2);clear hdf hH1 hH2 HSA;go_wp2_with fail;refine (HRD3.out w4 HB4.out).mono ?_;rintro e w5 ⟨R,cR,rows0,rfl,hrl,htab,hnor,hb⟩;have HB5:=bTx2 HB4 hb;have HL0:=oH htab.l;have HT5:=oH (((htab.congr fun i k _ hk=>HIN.out i k hk).mono HB4.size).toX hnor);have HRL:=oH hrl;clear hb hrl htab hnor HRD3 HB2 HB3 HB4;go_wp2_with fail
 go_loopw [58] (fun iv wr=>∃ (i:Nat) (rows:List RwF),iv = .int .i64 (i:Int)/\i<=n/\rows.length=n/\TbX w.heap.size wr (.slice (some ⟨R,0,none⟩) n cR) rows X/\(∀ j,(hj:j<rows.length)->rows[j].us.length=if j<i then n+1 else n)/\Below w.heap.size w wr) (fun iv _=>n-(intOf iv).toNat)
 ·exact ⟨0,rows0,rfl,oLx,HRL.out,HT5.out,fun j hj=>by rw [if_neg oMx];exact HL0.out _ (List.getElem_mem hj),HB5.out⟩
 clear HT5 HRL HL0 HB5;obtain ⟨i,rows,rfl,hin,hrl,htab,hul,hbk⟩:=hrel;obtain ⟨wk,rfl⟩:=nWx wr;have HRL:=oH hrl;have HT:=oH htab;have HLL:=oH hul;have HB:=oH hbk
 by_cases hlt2:i<n
 ·have hir:i<rows.length:=by omega
  have hi5:i<ss.length:=by omega
  have hc0:w.cell? ⟨bb,ob+i,none⟩=some (.string (zXl (bq i))):=by rw [HCB.out i hi5,HCE.out i hi5]
  have hRd:∀ W,Calls Tryz.prog 44 #[.string (zXl (bq i))] W _:=fun W=>zDu (bq i) W (HFV.out i hlt2)
  have HRD:=oH hRd;have hus:=hul i hir;rw [if_neg (Nat.lt_irrefl i)] at hus;obtain ⟨rr,hr⟩:=eXx (rows[i]);have HRE:=oH hr;rw [hr] at hus;obtain ⟨rg,rc,us⟩:=rr;replace hus:us.length=n:=hus;have HUL:=oH hus;have HSF:=oH (show RwF.self ⟨rg,rc,us⟩ = .slice (some ⟨rg,0,none⟩) n rc from zYx hus);have hp5:=htab.rowAt hrl hir;rw [HRE.out,HSF.out] at hp5
  have hGR:∀ (Wa w8:World),TbX w.heap.size Wa (.slice (some ⟨R,0,none⟩) n cR) rows X->∀ (g2 cap2:Nat) (u:FrV),zBt Wa u.val (bq i)->w8.ownsRow w.heap.size 87 4 (.slice (some ⟨g2,0,none⟩) (n+1) cap2) (n+1) (frc us++u.four)->Wa.grownBy w8 (Value.slice (some ⟨rg,0,none⟩) n rc).ownBlock->NoI w8 (.slice (some ⟨g2,0,none⟩) (n+1) cap2)->((Value.slice (some ⟨rg,0,none⟩) n rc).ownBlock=some g2\/g2=Wa.heap.size)->TbX w.heap.size (w8.setCell ⟨R,i,none⟩ (.slice (some ⟨g2,0,none⟩) (n+1) cap2)) (.slice (some ⟨R,0,none⟩) n cR) (rows.set i ⟨g2,cap2,us++[u]⟩) X/\Below w.heap.size Wa (w8.setCell ⟨R,i,none⟩ (.slice (some ⟨g2,0,none⟩) (n+1) cap2)):=by
   intro Wa w8 ht g2 cap2 u hu h1 h2 h3 h4
   have e1:RwF.self ⟨g2,cap2,us++[u]⟩ = .slice (some ⟨g2,0,none⟩) (n+1) cap2:=zYx (by simp only [List.length_append,List.length_singleton];omega)
   have ht':TbX w.heap.size Wa (.slice (some ⟨R,0,none⟩) rows.length cR) rows X:=by rw [HRL.out];exact ht
   have h9:=ht'.grow (w6:=w8) hir (r2:=⟨g2,cap2,us++[u]⟩) (u:=u) (z:=bq i) (by rw [HRE.out]) hu (by rw [HRE.out];show X i us.length=bq i;rw [HUL.out];exact HLA.out i) (by rw [e1,show (us++[u]).length=n+1 by simp only [List.length_append,List.length_singleton];omega,zNv];exact h1) (by rw [HRE.out,HSF.out];exact h2) (by rw [e1];exact h3) (by rw [HRE.out];exact h4.imp (fun h5=>by injection h5 with h6) id);rw [e1,HRL.out] at h9;exact ⟨h9.1,h9.2.2⟩
  have HGR:=oH hGR;obtain ⟨sq,hsq⟩:=eXx (zXl (bq i));rw [hsq] at hc0 HRD;have HC0:=oH hc0
  have hKB:∀ W',Below wk.heap.size wk W'->(W'.cell? ⟨R,i,none⟩=some (.slice (some ⟨rg,0,none⟩) n rc)/\W'.cell? ⟨bb,ob+i,none⟩=some (.string sq)):=fun W' hW=>⟨kP hW hp5,((hbk.trans (hW.mono hbk.size)).cell hbb).trans hc0⟩
  have HWz:=oH (show Below wk.heap.size wk wk.drew from bRx.drew);have KSz:=oH (hKB _ HWz.out);have KB:=oH hKB
  have k1:(0:Int)<=(i:Int):=by omega
  have k2:(i:Int)<(n:Int):=by omega
  clear htab hul hbk hr hus hp5 hGR hRd hKB hsq hc0 hi5 hrl;go_wp2_with fail;refine xGe (S:=(fun w'=>w'.cell? ⟨R,i,none⟩=some (.slice (some ⟨rg,0,none⟩) n rc)/\w'.cell? ⟨bb,ob+i,none⟩=some (.string sq))) 14 (by kernel_rfl) rfl (by kernel_rfl) (by kernel_rfl) rfl (by exact KSz.out) (fun hHeld=>?_);simp only [List.pop_toArray,List.dropLast_cons_cons,List.dropLast_singleton];refine tkH 0 ?_;refine tkH 1 ?_;refine tkH 2 ?_;refine tkH 3 ?_;refine tkH 4 ?_;refine tkH 5 ?_;refine tkH 6 ?_;refine tkH 7 ?_;refine tkH 8 ?_;refine tkH 9 ?_
  try simp only [Act.put,tkA,tkB,tkC]
  refine tkS 10 fun K hK=>?_
  go_simp
  (go_at_call 44;(with_reducible refine (HRD.out _).mono ?_);rintro e wa ⟨va,rfl,hv,hb⟩;have hw:Below wk.heap.size wk wa:=HWz.out.trans (hb.mono HWz.out.size);have HTA:=oH (HT.out.below hw);have HVA:=oH hv;have HBA:=bTx2 HB hw;have KSa:=oH (KB.out wa hw);obtain ⟨xa,xb',Xa,Xb,la,ca,lb,cb,rfl⟩:=hv.slice;have hbl:Below wa.heap.size wa (wa.alloc (.cells #[.bool xa,.slice Xa la ca,.bool xb',.slice Xb lb cb] 87)):=bA;have HTB:=oH (HTA.out.below hbl);have HVB:=oH (HVA.out.below hbl);have HBB:=bTx2 HBA hbl;have KSb:=oH (KB.out _ (hw.trans (hbl.mono hw.size)));have HOA:=oH (show (wa.alloc (.cells #[.bool xa,.slice Xa la ca,.bool xb',.slice Xb lb cb] 87)).ownsRow w.heap.size 87 4 (.slice (some ⟨rg,0,none⟩) n rc) n (frc us) from by have h9:=HTB.out.r _ (List.getElem_mem hir);rw [HRE.out,HSF.out,HUL.out] at h9;exact h9);have HNA:=oH (show NoI (wa.alloc (.cells #[.bool xa,.slice Xa la ca,.bool xb',.slice Xb lb cb] 87)) (.slice (some ⟨rg,0,none⟩) n rc) from by have h9:=HTB.out.nor _ (List.getElem_mem hir);rw [HRE.out,HSF.out] at h9;exact h9);have hsB:=HBB.out.size;clear hb hw hv hbl)
  go_wp2_with fail;refine hK.out _ _ ?_ (fun hHeld=>?_)
  ·first|exact KSz.out|exact KSa.out|exact KSb.out|exact ⟨u6,u1⟩
  clear hK K
  try simp only [Act.put,tkA,tkB,tkC]
  refine tkS 11 fun K hK=>?_
  go_simp
  refine hK.out _ _ ?_ (fun hHeld=>?_)
  ·first|exact KSz.out|exact KSa.out|exact KSb.out|exact ⟨u6,u1⟩
  clear hK K
  try simp only [Act.put,tkA,tkB,tkC]
  refine tkS 12 fun K hK=>?_
  (refine xAx _ (by rfl) _ _ _ (by rfl) w.heap.size 87 j0 _ 4 64 Tryz.underlying83 hj hy0 hy1 hy2 rfl dCx (.slice (some ⟨rg,0,none⟩) n rc) n (frc us) (by go_simp) HOA.out ⟨wa.heap.size,0,none⟩ 1 1 (FrV.four ⟨xa,Xa,la,ca,xb',Xb,lb,cb⟩) (by go_simp) rfl (World.news_of_block (cs:=#[.bool xa,.slice Xa la ca,.bool xb',.slice Xb lb cb]) (t:=87) (fr:=(0,0)) (heap_alloc_new wa _)) zNk oMx (by unfold maxLen;omega) oMx hsB HNA.out zNw zNj ?_;intro g2 cap2 w8 hown8 hgrow8 hno8 hgg8;have hgr:(wa.alloc (.cells #[.bool xa,.slice Xa la ca,.bool xb',.slice Xb lb cb] 87)).grownBy w8 rows[i].self.ownBlock:=(by rw [HRE.out,HSF.out];exact hgrow8);have hrm:=HTB.rowMid HRL.out hir hgr;rw [HRE.out,HSF.out] at hrm;have u6:=hrm.1;have u7:=hrm.2;have HB8:=oH (HBB.grown hgrow8 hsB (fun k hk=>(HOA.lt k hk).1));have u1:=(HB8.cell hbb).trans HC0.out;have HG:=oH (HGR.out (wa.alloc (.cells #[.bool xa,.slice Xa la ca,.bool xb',.slice Xb lb cb] 87)) w8 HTB.out g2 cap2 ⟨xa,Xa,la,ca,xb',Xb,lb,cb⟩ HVB.out hown8 hgrow8 hno8 hgg8);clear hown8 hgrow8 hno8 hgg8 hrm hgr)
  refine hK.out _ _ ?_ (fun hHeld=>?_)
  ·first|exact KSz.out|exact KSa.out|exact KSb.out|exact ⟨u6,u1⟩
  clear hK K
  try simp only [Act.put,tkA,tkB,tkC]
  refine tkH 13 ?_
  try simp only [Act.put,tkA,tkB,tkC]
  refine wpAnyH_done (by kernel_rfl) ?_ _;simp only [xCo,List.getElem_toArray,List.getElem_cons_succ,List.getElem_cons_zero];go_wp2_with fail;go_roundw
  ·exact ⟨i+1,_,by go_num,oMx,by rw [List.length_set];exact HRL.out,HG.1,fun j hj=>by
   have hj':j<rows.length:=by simpa using hj
   by_cases e:j=i
   ·subst e;simp only [List.getElem_set_self];rw [if_pos oMx];simp only [List.length_append,List.length_singleton,HUL.out]
   simp only [List.getElem_set_ne (Ne.symm e)];rw [HLL.out j hj']
   by_cases e2:j<i
   ·rw [if_pos e2,if_pos oMx]
   rw [if_neg e2,if_neg oMx],HBB.trans HG.2⟩
  simp [intOf];omega
 obtain rfl:i=n:=by omega
 have HT6:=oH (htab.toF (n:=i+1) fun r hr=>by
  obtain ⟨j,hj,rfl⟩:=List.getElem_of_mem hr
  rw [hul j hj,if_pos oMx])
 clear htab hul hbk HT HLL;go_wp2_with fail;refine (zDj w.heap.size R cR i (i+1) i rows X wk HT6.out hrl hn1 hn oMx oMx HDA.out).mono ?_;rintro e w7 ⟨A7,c7,v7,rows7,F7,psf,ps,vq,odd,rfl, -, -,hg,hdF, -,hv7,hrl7,htab7,hb⟩;obtain ⟨na,nb,A1,A2,l1,c1,l2,c2,rfl⟩:=hv7.slice;have HK7:=oH (HRK.out _ hg.rk);have hrn:=hg.rm;obtain ⟨rk,hrk⟩:=eXx (ps.length);have HY7:=oH (fun he=>HSO.out (fun j=>F7 j i) (hg.solves he i));rw [hrk] at HK7 hrn HY7 hdF ⊢;have HZ7:=oH (fun k (hk:k<i)=>(show Sz 1000000 (F7 k i) from ((hdF k i hk oMx).szG).mono (Nat.le_trans (zNy rk oMx) dCx)));clear hrk hg hdF HRK HSO;have hsw:w.heap.size<=wk.heap.size:=HB.size;have hbl:Below w7.heap.size w7 (w7.alloc (.cells #[.bool na,.slice A1 l1 c1,.bool nb,.slice A2 l2 c2] 87)):=bA;have HB7:=oH (HB.trans (hb.trans (hbl.mono (Nat.le_trans hsw hb.size))));have HT7:=oH (htab7.below hbl);have HRL7:=oH hrl7;clear hb hv7 hrl7 htab7 hbl HT6 HB HRL hrl hsw HDA HIN HLA
 go_upto_region 21 with (fail);generalize w7.alloc (.cells #[.bool na,.slice A1 l1 c1,.bool nb,.slice A2 l2 c2] 87)=W at *
 have hii:(i:Int)<(i:Int)+1:=by omega
 by_cases hrlt:rk<i
 ·have hrlt2:(rk:Int)<(i:Int):=by omega
  go_wp2_with fail;exact HSB.out _ _ HNH.out rk HK7.out hrlt rfl HB7.out
 have hrlt2:¬(rk:Int)<(i:Int):=by omega
 have hre:rk=i:=by omega
 replace HY7:=oH (HY7.out hre);replace HSC:=oH (fun e w' h2=>HSC.out e w' HNH.out rk HK7.out hre _ HY7.out h2);clear HSB HNH HK7 hre;go_wp2_with fail
 go_loopw [15,88] (fun v kv wr=>∃ us:List FrV,kv = .int .i64 (us.length:Int)/\us.length<=i/\(∀ k,(hk:k<us.length)->zBt wr us[k].val (F7 k i))/\wr.ownsRow W.heap.size 87 4 v us.length (frc us)/\NoI wr v/\Below W.heap.size W wr) (fun _ kv _=>i-(intOf kv).toNat)
 ·exact ⟨[],rfl,oLx,fun k hk=>(by simp at hk),World.ownsRow_nil _ _ _ _,NoI.nil _ _ _,bRx⟩
 obtain ⟨us,rfl,hui,hus,hown,hno,hbq⟩:=hrel;obtain ⟨wq,rfl⟩:=nWx wr;obtain ⟨AV,cV,rfl, -⟩:=zUj hown;have HUS:=oH hus;have HO:=oH hown;have HNO:=oH hno;have HBQ:=oH hbq;have hszq:=hbq.size;clear hus hown hno hbq
 by_cases hlt3:us.length<i
 ·have ht:=HT7.below HBQ.out
  have hir:us.length<rows7.length:=by rw [HRL7.out];exact hlt3
  have k0:=TbF.cell (show TbF _ _ (.slice (some ⟨R,0,none⟩) rows7.length cR) rows7 (i+1) _ by rw [HRL7.out];exact ht) hir;obtain ⟨u,y0,y1,y2,y3,hu⟩:=ht.num_at hir (show i<i+1 by omega);obtain ⟨na,A1,l1,c1,nb,A2,l2,c2⟩:=u;generalize rows7[us.length].g=rg at *;generalize rows7[us.length].cp=rc at *;have HU:=oH hu
  have x1:(0:Int)<=(us.length:Int):=by omega
  have x2:(us.length:Int)<(i:Int):=by omega
  have x3:(0:Int)<=(i:Int):=by omega
  have x4:(i:Int)<((i+1:Nat):Int):=by omega
  clear ht hu
  go_wp2_with (at_builtin;refine xFw _ rfl _ _ 83 rfl W.heap.size 87 j0 _ 4 64 Tryz.underlying83 hj hy0 hy1 hy2 rfl dCx _ _ _ rfl (HO.alloc _) ⟨wq.heap.size,0,none⟩ 1 1 (FrV.four ⟨na,A1,l1,c1,nb,A2,l2,c2⟩) rfl rfl (World.news_of_block (cs:=#[.bool na,.slice A1 l1 c1,.bool nb,.slice A2 l2 c2]) (t:=87) (fr:=(0,0)) (heap_alloc_new wq _)) zNk oMx (by unfold maxLen;omega) oMx (by simp;omega) (HNO.below (fun k hk=>(HO.lt k hk).2) (bA)) zNw zNj ?_)
  intro g3 cap3 w9 hown9 hgrow9 hcl9
  have HO9:=oH hown9;have HC9:=oH hcl9;have HB9:=oH ((HBQ.alloc hszq _).grown hgrow9 (by simp;omega) (fun g hg=>(HO.lt g hg).1));have HNX:=oH (HNO.below (fun k hk=>(HO.lt k hk).2) (bRx.alloc lRx (.cells #[.bool na,.slice A1 l1 c1,.bool nb,.slice A2 l2 c2] 87)))
  have HU9:=oH (fun k (hk:k<(us++[(⟨na,A1,l1,c1,nb,A2,l2,c2⟩:FrV)]).length)=>(show zBt w9 (us++[(⟨na,A1,l1,c1,nb,A2,l2,c2⟩:FrV)])[k].val (F7 k i) by
   by_cases e:k<us.length
   ·simp only [List.getElem_append_left e];exact ((HUS.out k e).below (bA)).clean HNX.out hgrow9
   simp only [List.length_append,List.length_singleton] at hk
   obtain rfl:k=us.length:=by omega
   simp only [List.getElem_append_right lRx,Nat.sub_self,List.getElem_singleton]
   exact (HU.below (bA)).clean HNX.out hgrow9))
  clear hown9 hgrow9 hcl9 HNX k0 y0 y1 y2 y3;go_wp2_with fail;go_roundw
  ·exact ⟨us++[⟨na,A1,l1,c1,nb,A2,l2,c2⟩],by simp only [List.length_append,List.length_singleton];go_num,by simp;omega,HU9.out,by rw [zNv,List.length_append];exact HO9.out,HC9.out,HB9.out⟩
  simp [intOf];omega
 have hul:us.length=i:=by omega
 have hown:=HO.out;rw [hul] at hown;rw [hul];obtain ⟨g9,rfl⟩:=zUi hown oMx
 have HLN:=oH (zEj g9 i cV (fun k=>F7 k i) wq (hown.lt g9 rfl).2 oMx (fun k hk=>by
  have hk5:k<us.length:=by omega
  obtain ⟨e1,e2,e3,e4⟩:=zNo (us:=us) (i:=k) hk5
  exact ⟨us[k],(hown.cellAt (k*4) oMx).trans e1,(hown.cellAt (k*4+1) oMx).trans e2,(hown.cellAt (k*4+2) oMx).trans e3,(hown.cellAt (k*4+3) oMx).trans e4,HUS.out k hk5⟩) HZ7.out)
 have HB9:=bTx2 HB7 HBQ;clear hown HO HNO HUS HBQ;go_wp2_with fail;refine HLN.mono ?_;rintro e w9 hline;have HR:=oH (HSC.out e w9 (hline.texts HB9.out))
 rcases hline with ⟨-,A9,c9,ts,rfl, -⟩|⟨-,rfl, -⟩
 ·go_wp2_with fail;exact HR.out
 go_wp2_with fail;exact HR.out
theorem zYm (n:Nat) (hn:n<=1000000) (w:World):(Instr.makeSlice 83 (.int .i64 (n:Int)) (.int .i64 (n:Int))).run Tryz.prog w = .ok (.slice (some ⟨w.heap.size,0,none⟩) n n) (w.alloc (.cells (frc (List.replicate n xGh)).toArray 87)):=by
 obtain ⟨i0,hi,hz0,hz1,hz2⟩:=info_parts Tryz.infoRF;have hr:=run_make (P:=Tryz.prog) w 83 87 i0 (.agg #[.bool false,.slice none 0 0,.bool false,.slice none 0 0]) Tryz.underlying83 hi hz0 .i64 .i64 n n oMx (Int.le_refl _) (by rw [hz2];omega) oMx
 have hm:madeCells (Value.agg #[.bool false,.slice none 0 0,.bool false,.slice none 0 0]).cells (n*4)=(frc (List.replicate n xGh)).toArray:=by
  rw [zNs];rfl
 simp only [Int.toNat_natCast,hz1,hm] at hr;exact hr
structure RfS (B:Nat) (w:World) (g n:Nat) (us:List FrV) (q:Nat->Rat) (D:Nat->Prop):Prop where
 o:w.ownsRow B 87 4 (.slice (some ⟨g,0,none⟩) n n) n (frc us)
 l:us.length=n
 num:∀ k,(h:k<us.length)->D k->zBt w us[k].val (q k)
section
variable {B g n:Nat} {w w':World} {us:List FrV} {q:Nat->Rat} {D:Nat->Prop}
theorem RfS.below (h:RfS B w g n us q D) (hb:Below w.heap.size w w'):RfS B w' g n us q D:=⟨zUm h.o hb,h.l,fun k hk hD=>(h.num k hk hD).below hb⟩
theorem RfS.lt (h:RfS B w g n us q D):B<=g/\g<w.heap.size:=h.o.lt g rfl
theorem RfS.fr (h:RfS B w g n us q D) (j:Nat):w.frozen? ⟨g,j,none⟩=false:=h.o.frozenAt j
theorem RfS.congr {q':Nat->Rat} {D':Nat->Prop} (h:RfS B w g n us q D) (hD:∀ k,k<n->D' k->D k/\q' k=q k):RfS B w g n us q' D':=⟨h.o,h.l,fun k hk h'=>by
 have hl:=h.l;obtain ⟨h1,h2⟩:=hD k oMx h';rw [h2]
 exact h.num k hk h1⟩
theorem RfS.made (w:World) (n:Nat) (q:Nat->Rat) (hn:n<=1000000):RfS w.heap.size (w.alloc (.cells (frc (List.replicate n xGh)).toArray 87)) w.heap.size n (List.replicate n xGh) q (fun k=>k<0):=by
 have hb:=Blk.new w 87 (frc (List.replicate n xGh));exact ⟨⟨by rw [zNp];simp,.inr ⟨w.heap.size,n,(frc (List.replicate n xGh)).toArray,rfl,lRx,hb,lRx,by unfold maxLen;omega,by rw [List.size_toArray,zNp,List.length_replicate],by rw [List.toList_toArray];exact List.take_of_length_le (by rw [zNp,List.length_replicate];exact lRx)⟩⟩,by simp,fun j hj h0=>absurd h0 (Nat.not_lt_zero j)⟩
theorem RfS.store (h:RfS B w g n us q D) {k:Nat} (hk:k<n) {u:FrV} {z:Rat} (hu:zBt w u.val z) :
  RfS B (put4 w g k u) g n (us.set k u) (fun j=>if j=k then z else q j) (fun j=>j=k\/D j)/\(∀ v y,zBt w v y->zBt (put4 w g k u) v y)/\w.grownBy (put4 w g k u) (some g):=by
 have hr:=h.o;have hl:=h.l;obtain ⟨hr1,hg1⟩:=hr.stored (k*4) (.bool u.na);obtain ⟨hr2,hg2⟩:=hr1.stored (k*4+1) (.slice u.A u.l u.c);obtain ⟨hr3,hg3⟩:=hr2.stored (k*4+2) (.bool u.nb);obtain ⟨hr4,hg4⟩:=hr3.stored (k*4+3) (.slice u.A' u.l' u.c');have n0:=zNq (us:=us);have n1:=zSi (j:=k*4) n0 (x := .bool u.na) (fun z e=>by cases e);have n2:=zSi (j:=k*4+1) n1 (x := .slice u.A u.l u.c) (fun z e=>by cases e);have n3:=zSi (j:=k*4+2) n2 (x := .bool u.nb) (fun z e=>by cases e)
 have hkeep:∀ v y,zBt w v y->zBt (put4 w g k u) v y:=fun v y hv =>
  (((hv.row hr n0 oMx _).row hr1 n1 oMx _).row hr2 n2 oMx _).row hr3 n3 oMx _
 rw [zNt oMx u] at hr4;refine ⟨⟨hr4,by rw [List.length_set];exact hl,fun j hj hD=>?_⟩,hkeep,zOd (zOd (zOd (zOc g (k*4) _) (k*4+1) _) (k*4+2) _) (k*4+3) _⟩;rw [List.length_set] at hj
 by_cases e:j=k
 ·subst e;rw [List.getElem_set_self,if_pos rfl];exact hkeep _ _ hu
 rw [List.getElem_set_ne (Ne.symm e),if_neg e];exact hkeep _ _ (h.num j hj (hD.resolve_left e))
theorem RfS.step {H R L cR n' k:Nat} {w0:World} {rows:List RwF} {P:mRx} (h:RfS B w g n us q D) (ht:TbF H w (.slice (some ⟨R,0,none⟩) L cR) rows n' P) (hb:Below H w0 w) (hB:H<=B) (hr:∀ r∈rows,r.g<B) (hR:R<B) (hk:k<n) {u:FrV} {z:Rat} (hu:zBt w u.val z) :
  RfS B (put4 w g k u) g n (us.set k u) (fun j=>if j=k then z else q j) (fun j=>j=k\/D j)/\TbF H (put4 w g k u) (.slice (some ⟨R,0,none⟩) L cR) rows n' P/\Below H w0 (put4 w g k u):=by
 obtain ⟨t1,t2,t3⟩:=h.store hk hu;have hg:=h.lt;exact ⟨t1,ht.kept t3 (fun r hr' e=>by injection e with e;have:=hr r hr';omega) (fun e=>by injection e with e;omega) t2,hb.grown t3 oMx (fun k hk=>by injection hk with hk;omega)⟩
end
end Go.Proofs.YtbjaplppalcmgaaGreatDoor
