import Derived.Test.YtfjjcoggoomlbaaGreatDoorZMO
set_option maxHeartbeats 16000000
set_option maxRecDepth 100000
set_option linter.unusedVariables false
set_option linter.unusedSimpArgs false
set_option linter.unusedSectionVars false
namespace Go.Proofs.YtfjjcoggoomlbaaGreatDoor
open Go.RowKit
def zGe (w:World) (qs:List Rat) (e:Ending) (w':World):Prop :=
 (∃ A c,(∀ q∈qs,zBt q)/\e = .returned (.tuple #[.slice A qs.length c,.int .i64 0])/\zGw w' A (qs.map zYy)/\Below w.heap.size w w'/\w'.ownsRow w.heap.size 39 1 (.slice A qs.length c) qs.length (sv (qs.map zYy))) \/
 ((∃ q∈qs,¬zBt q)/\e = .returned (.tuple #[.slice none 0 0,.int .i64 3])/\Below w.heap.size w w')
theorem zHd (A:oAx) (us:List FrV) (qs:List Rat) (c:Nat) (w:World) (hr:∀ i,(h:i<us.length)->∃ b off,A=some ⟨b,off,none⟩/\b<w.heap.size/\w.cell? ⟨b,off+i*4,none⟩=some (.bool us[i].na)/\w.cell? ⟨b,off+i*4+1,none⟩=some (.slice us[i].A us[i].l us[i].c)/\w.cell? ⟨b,off+i*4+2,none⟩=some (.bool us[i].nb)/\w.cell? ⟨b,off+i*4+3,none⟩=some (.slice us[i].A' us[i].l' us[i].c'))
  (hq:zCi w us qs) (hl:us.length<=1000) (hs:∀ q∈qs,Sz 5000000 q) (henv:Env w):Calls Tryz.prog 92 #[.slice A us.length c] w (zGe w qs):=by
 obtain ⟨i0,hi,hz0,hz1,hz2⟩:=info_parts Tryz.infoRat;have HR:=oH hr;have HQ:=oH hq;have HS:=oH hs;have HE:=oH henv;have HLEN:=oH hq.1;clear hr hq hs henv
 go_enter Tryz.func92,Tryz.ntmps92
 go_wp2_with fail
 go_loopw [4,11] (fun v iv wr=>∃ k:Nat,iv = .int .i64 (k:Int)/\k<=us.length/\(∀ q∈qs.take k,zBt q)/\wr.ownsRow w.heap.size 39 1 v k (sv ((qs.take k).map zYy))/\Below w.heap.size w wr) (fun _ iv _=>us.length-(intOf iv).toNat)
 ·exact ⟨0,rfl,oLx,(fun q hq=>by simp at hq),World.ownsRow_nil _ _ _ _,bRx⟩
 obtain ⟨k,rfl,hk,hall,hown,hb⟩:=hrel;have HALL:=oH hall;have HOWN:=oH hown;have HB:=oH hb;have hsz:=hb.size;clear hall hown hb
 by_cases hlt:k<us.length
 ·have hlq:k<qs.length:=by have:=HLEN.out;omega
  obtain ⟨b,off,rfl,hbb,h0,h1,h2,h3⟩:=HR.out k hlt;have c0:=(HB.cell (p:=⟨b,off+k*4,none⟩) hbb).trans h0;have c1:=(HB.cell (p:=⟨b,off+k*4+1,none⟩) hbb).trans h1;have c2:=(HB.cell (p:=⟨b,off+k*4+2,none⟩) hbb).trans h2;have c3:=(HB.cell (p:=⟨b,off+k*4+3,none⟩) hbb).trans h3;have HF:=oH ((HQ.2 k hlt hlq).below HB.out);have sz:=HS.out _ (List.getElem_mem hlq);have ET:=oH (show qs.take (k+1)=qs.take k++[qs[k]] from List.take_succ_eq_append_getElem hlq);have HMEM:=oH (List.getElem_mem hlq);generalize qs[k]=q at *;generalize us[k]=u at *;obtain ⟨na,A1,l1,c1',nb,A2,l2,c2'⟩:=u;simp only [FrV.val] at c0 c1 c2 c3 HF;clear h0 h1 h2 h3;go_wp2_with fail;have HW:=oH (HF.below (bRx.alloc lRx (.cells #[.bool na,.slice A1 l1 c1',.bool nb,.slice A2 l2 c2'] 89)))
  by_cases hfit:zBt q
  ·have HFT:=oH (zBf _ q _ HW.out sz ((HE.below HB.out).below (bA)));rw [zVg hfit,zVe hfit] at HFT;have HFI:=oH hfit;clear hfit sz;refine HFT.mono ?_;rintro e w2 ⟨rfl,hb2⟩;have HO2:=oH (zVn (HOWN.alloc _) hb2);have HB2:=oH (HB.trans (((Below.refl w.heap.size wr).alloc hsz _).trans (hb2.mono (by simp;omega))));have hsz2:=HB2.size;clear hb2 c0 c1 c2 c3
   go_wp2_with (at_builtin;refine wpList_append_own _ rfl _ _ 29 rfl w.heap.size 39 i0 (.string ⟨#[]⟩) 1 16 Tryz.underlying29 hi hz0 hz1 hz2 rfl dCx _ _ _ rfl (HO2.alloc _) ⟨w2.heap.size,0,none⟩ 1 1 [_] rfl rfl zUw zUx (by unfold maxLen;omega) oMx (by simp;omega) ?_)
   intro v' w3 hown3 hgrow3 _
   have HO3:=oH hown3;have HB3:=oH ((HB2.alloc hsz2 _).grown hgrow3 (by simp;omega) (fun g hg=>(HO2.lt g hg).1));clear hown3 hgrow3;go_wp2_with fail;go_roundw
   ·exact ⟨k+1,by go_num,oMx,(fun p hp=>by
    rw [ET.out,List.mem_append,List.mem_singleton] at hp
    rcases hp with hp|rfl
    ·exact HALL.out p hp
    exact HFI.out),by rw [ET.out,List.map_append,xDw];first|exact HO3.out|(rw [List.map_take];exact HO3.out),HB3.out⟩
   simp [intOf];omega
  have HFT:=oH (zBf _ q _ HW.out sz ((HE.below HB.out).below (bA)));rw [zVh hfit,zVf hfit] at HFT;have HFI:=oH hfit;clear hfit sz;refine HFT.mono ?_;rintro e w2 ⟨rfl,hb2⟩;have HB2:=oH (HB.trans (((Below.refl w.heap.size wr).alloc hsz _).trans (hb2.mono (by simp;omega))));clear hb2 c0 c1 c2 c3;go_wp2_with fail;go_ret2
  exact .inr ⟨⟨q,HMEM.out,HFI.out⟩,rfl,HB2.out⟩
 obtain rfl:k=us.length:=by omega
 have ho:=HOWN.out;rw [List.take_of_length_le (by have:=HLEN.out;omega)] at ho;obtain ⟨A9,c9,rfl, -,hst, -⟩:=zVy (show wr.ownsRow w.heap.size 39 1 u4 (qs.map zYy).length (sv (qs.map zYy)) by rw [List.length_map,<-HLEN.out];exact ho);have HST:=oH hst;have HA:=oH HALL.out;rw [List.take_of_length_le (by have:=HLEN.out;omega)] at HA;have HOW9:=oH (show wr.ownsRow w.heap.size 39 1 (.slice A9 qs.length c9) qs.length (sv (qs.map zYy)) by have h9:=ho;rw [List.length_map] at h9;have h8:=HLEN.out;rw [<-h8];rw [<-h8] at h9;exact h9);clear hst ho;rw [List.length_map];go_wp2_with fail;go_ret2
 exact .inl ⟨A9,c9,HA.out,rfl,HST.out,HB.out,HOW9.out⟩
def zGr (heavy:Bool) (s:zBb) (m:Nat) (q:Nat->Rat) (w:World) (e:Ending) (w':World):Prop :=
 match heavy with
 | true=>e = .returned (.tuple #[.slice none 0 0,.int .i64 3])/\Below w.heap.size w w'
 | false=>(s.ps.length<m/\e = .returned (.tuple #[.slice none 0 0,.int .i64 6])/\Below w.heap.size w w')\/(s.ps.length=m/\zGe w ((List.range m).map q) e w')
theorem zGu (A Ab:oAx) (c cb:Nat) (rs:List zGk) (ss:List ByteArray) (w:World) (h:zCz w A rs) (hf:zBr rs rs.length) (hm1:1<=rs.length) (hs:zGw w Ab ss) (hsl:ss.length=rs.length) (hv:∀ s∈ss,vR s=true/\s.size<=4000000000) (henv:Env w) :
  Calls Tryz.prog 63 #[.slice A rs.length c,.slice Ab ss.length cb] w (zGr (decide (600<zOt rs rs.length) || decide (600<zOt (zJs ss) 1)) (eli rs.length (xBu rs ss) rs.length) rs.length (xBv rs ss (eli rs.length (xBu rs ss) rs.length)) w):=by
 obtain ⟨i0,hi,hz0,hz1,hz2⟩:=info_parts Tryz.infoNum;obtain ⟨f0,hf0,hfz0,hfz1,hfz2⟩:=info_parts Tryz.infoFrac;generalize hQ:zGr (decide (600<zOt rs rs.length) || decide (600<zOt (zJs ss) 1)) (eli rs.length (xBu rs ss) rs.length) rs.length (xBv rs ss (eli rs.length (xBu rs ss) rs.length)) w=Q;replace hQ:=oH hQ;have HM:=oH h;have HF:=oH hf;have HE:=oH henv;have HS:=oH hs;have HV:=oH hv;have HSL:=oH hsl;have hm12:=hf.m;have HSQ:=oH (xCe A rs c w h hf henv)
 have hnn:((ss.length:Int) != (rs.length:Int))=false:=by simp;omega
 have hsl12:ss.length<=12:=by omega
 have hsl1:1<=ss.length:=by omega
 clear h hf henv hs hv hsl
 go_enter Tryz.func63,Tryz.ntmps63
 go_wp2_with fail;refine HSQ.mono ?_;rintro e w1 ⟨rfl,hb1⟩;have HB1:=oH hb1;have HNB:=zUg Ab ss cb w1 (HS.below hb1) oMx (fun s hs=>(HV.out s hs).2) (HE.below hb1);rw [show ss.all vR=true from List.all_eq_true.2 fun s hs=>(HV.out s hs).1] at HNB;replace HNB:=oH HNB;clear hb1;go_wp2_with fail;refine HNB.mono ?_;rintro e w1' ⟨rfl,hb1⟩;have HB1':=bTx2 HB1 hb1;have HHV:=zCa A c rs.length rs w1' (HM.below HB1'.out) HF.out hm1 hm1 (HE.below HB1'.out);clear hb1 hnn
 by_cases hh:600<zOt rs rs.length
 ·rw [show decide (600<zOt rs rs.length)=true from by simpa using hh] at HHV hQ;rw [Bool.true_or] at hQ;replace HHV:=oH HHV;clear hh;go_wp2_with fail;refine HHV.mono ?_;rintro e w2 ⟨rfl,hb2⟩;have HB2:=oH (HB1'.trans (hb2.mono HB1'.size));clear hb2;go_wp2_with fail;rw [<-hQ.out];exact ⟨rfl,HB2.out⟩
 rw [show decide (600<zOt rs rs.length)=false from by simpa using hh] at HHV hQ;rw [Bool.false_or] at hQ;replace HHV:=oH HHV;have HH:=oH hh;clear hh;go_wp2_with fail;refine HHV.mono ?_;rintro e w2 ⟨rfl,hb2⟩;have HB2:=oH (HB1'.trans (hb2.mono HB1'.size));have HCO:=oH (zAj Ab ss cb w2 (HS.below HB2.out) oMx);clear hb2;go_wp2_with fail;refine HCO.mono ?_;rintro e w3 ⟨v3,rs3,rfl,hmap3,hmo3,hb3⟩;have HB3:=bTx2 HB2 hb3;obtain ⟨A3,c3,rfl, -⟩:=zVk hmo3.o;obtain ⟨e1,e2,e3,e4⟩:=zSn hmap3;have HHC:=zCa A3 c3 1 rs3 w3 hmo3.read (zNo hmap3 hsl12 hsl1 HV.out) oMx lRx (HE.below HB3.out);rw [e4] at HHC;clear hmo3 hb3 e1 e2 e3 e4 hmap3
 by_cases hh2:600<zOt (zJs ss) 1
 ·rw [show decide (600<zOt (zJs ss) 1)=true from by simpa using hh2] at HHC hQ;replace HHC:=oH HHC;clear hh2;go_wp2_with fail;refine HHC.mono ?_;rintro e w4 ⟨rfl,hb4⟩;have HB4:=bTx2 HB3 hb4;clear hb4;go_wp2_with fail;rw [<-hQ.out];exact ⟨rfl,HB4.out⟩
 rw [show decide (600<zOt (zJs ss) 1)=false from by simpa using hh2] at HHC hQ;replace HHC:=oH HHC;have HH2:=oH hh2;clear hh2;go_wp2_with fail;refine HHC.mono ?_;rintro e w4 ⟨rfl,hb4⟩;have HB4:=bTx2 HB3 hb4;have HOF:=oH (zDg A c rs.length rs w4 (HM.below HB4.out) HF.out hm1 hm1 (HE.below HB4.out));clear hb4;go_wp2_with fail;refine HOF.mono ?_;rintro e w5 ⟨R,cR,rows,dv,rfl,hl,ht,hnV,hnr,hd,hb5⟩;have HB5:=bTx2 HB4 hb5;have HTW:=oH ((show zHa w4.heap.size w5 (.slice (some ⟨R,0,none⟩) rows.length cR) rows rs.length (zSh rs) by rw [hl];exact ht).toW hnr);have HL:=oH hl;have HLU:=oH ht.l;have HD:=oH hd;have HCO2:=oH (zAj Ab ss cb w5 (HS.below HB5.out) oMx);clear hb5 ht hnV hnr hd hl;go_wp2_with fail;refine HCO2.mono ?_;rintro e w6 ⟨v6,rs6,rfl,hmap6,hmo6,hb6⟩;have HB6:=bTx2 HB5 hb6;obtain ⟨A6,c6,rfl, -⟩:=zVk hmo6.o;obtain ⟨e1,e2,e3,e4⟩:=zSn hmap6;have HOC:=zDg A6 c6 1 rs6 w6 hmo6.read (zNo hmap6 hsl12 hsl1 HV.out) oMx lRx (HE.below HB6.out)
 rw [e2,e3] at HOC;have HTW6:=oH (HTW.below hb6);have HD6:=oH (HD.below hb6);replace HOC:=oH HOC;have HL6:=oH e1;have HS56:=oH hb6.size;clear hmo6 hb6 e1 e2 e3 e4 hmap6;go_wp2_with fail;refine HOC.mono ?_;rintro e w7 ⟨R8,cR8,rows8,dv8,rfl,hl8,ht8, -, -,hd8,hb7⟩;have HB7:=bTx2 HB6 hb7;have HTW7:=oH (HTW6.below hb7);have HD7:=oH (HD6.below hb7);have HD8:=oH hd8;have HT8:=oH (show TabR w7 (some ⟨R8,0,none⟩) rows8 1 (zSh (zJs ss)) from (show zHa w6.heap.size w7 (.slice (some ⟨R8,0,none⟩) rows8.length cR8) rows8 1 (zSh (zJs ss)) by rw [hl8];exact ht8).read);have HL8:=oH hl8;have HR8:=oH (ht8.o.lt R8 rfl);have HG8:=oH (fun j (hj:j<rows8.length)=>ht8.blk hj);have HS67:=oH hb7.size;clear ht8 hd8 hb7 hl8;go_wp2_with fail;have HX7:=oH ((Blk.new w7 86 [.bool dv.nb,.slice dv.ad dv.l dv.c,.slice (some ⟨R,0,none⟩) rs.length cR]).alloc (.cells #[.bool dv8.nb,.slice dv8.ad dv8.l dv8.c,.slice (some ⟨R8,0,none⟩) rs6.length cR8] 86))
 have HX8:=oH (Blk.new' (w:=w7.alloc (.cells #[.bool dv.nb,.slice dv.ad dv.l dv.c,.slice (some ⟨R,0,none⟩) rs.length cR] 86)) (g:=w7.heap.size+1) sMx 86 [.bool dv8.nb,.slice dv8.ad dv8.l dv8.c,.slice (some ⟨R8,0,none⟩) rs6.length cR8]);have hbW:Below w7.heap.size w7 ((w7.alloc (.cells #[.bool dv.nb,.slice dv.ad dv.l dv.c,.slice (some ⟨R,0,none⟩) rs.length cR] 86)).alloc (.cells #[.bool dv8.nb,.slice dv8.ad dv8.l dv8.c,.slice (some ⟨R8,0,none⟩) rs6.length cR8] 86)):=(bA).alloc sMx _
 have HS0:=oH (show zGs w4.heap.size w5.heap.size (w7.heap.size+2) ((w7.alloc (.cells #[.bool dv.nb,.slice dv.ad dv.l dv.c,.slice (some ⟨R,0,none⟩) rs.length cR] 86)).alloc (.cells #[.bool dv8.nb,.slice dv8.ad dv8.l dv8.c,.slice (some ⟨R8,0,none⟩) rs6.length cR8] 86)) ((w7.alloc (.cells #[.bool dv.nb,.slice dv.ad dv.l dv.c,.slice (some ⟨R,0,none⟩) rs.length cR] 86)).alloc (.cells #[.bool dv8.nb,.slice dv8.ad dv8.l dv8.c,.slice (some ⟨R8,0,none⟩) rs6.length cR8] 86)) R cR rows (xBu rs ss) from
  ⟨(HTW7.below hbW).congr (fun i hi k hk=>by
   have h9:=HLU.out _ (List.getElem_mem hi);unfold xBu
   rw [if_neg oMx]),fun k _ _=>rfl,fun v y hv=>hv,fun r hr => .inl ((HTW.r r hr).lt _ rfl).2,.inl (HTW.o.lt R rfl).2,bRx,by simp,by have:=HB5.size;have:=HTW.o.lt R rfl;have:=HS56.out;have:=HS67.out;simp;omega⟩)
 have HT8W:=oH (HT8.below hbW);have HLR:=oH (fun j (hj:j<rows.length)=>HLU.out _ (List.getElem_mem hj));have HBW:=bTx2 HB7 hbW;have HD7W:=oH (HD7.below hbW);have HD8W:=oH (HD8.below hbW);clear hbW;generalize ((w7.alloc (.cells #[.bool dv.nb,.slice dv.ad dv.l dv.c,.slice (some ⟨R,0,none⟩) rs.length cR] 86)).alloc (.cells #[.bool dv8.nb,.slice dv8.ad dv8.l dv8.c,.slice (some ⟨R8,0,none⟩) rs6.length cR8] 86))=W0 at *;generalize w7.heap.size=x at *
 go_loopw [45] (fun iv wr=>∃ (i:Nat) (rw:List zGj),iv = .int .i64 (i:Int)/\i<=rs.length/\rw.length=rs.length/\(∀ j,(h:j<rw.length)->rw[j].us.length=if j<i then rs.length+1 else rs.length)/\zGs w4.heap.size w5.heap.size (x+2) W0 wr R cR rw (xBu rs ss)) (fun iv _=>rs.length-(intOf iv).toNat)
 ·exact ⟨0,rows,rfl,oLx,HL.out,fun j hj=>by rw [if_neg oMx];exact HLR.out j hj,HS0.out⟩
 obtain ⟨i,rw,rfl,hi2,hrl,hul,hts⟩:=hrel;have HRL:=oH hrl;have HUL:=oH hul;have HTS:=oH hts
 by_cases hlt:i<rs.length
 ·have hi3:i<rw.length:=by omega
  have hi8:i<rows8.length:=by have:=HL8.out;have:=HL6.out;have:=HSL.out;omega
  have s56:=HS56.out;have s67:=HS67.out;have r8:=HR8.out;have g8:=HG8.out i hi8;have d0:=HX7.at_ (i:=2) rfl;have d1:=HX8.at_ (i:=2) rfl;have d2:=HT8W.o.at_ (i:=i) (List.getElem?_eq_getElem (by simpa using hi8));simp only [List.getElem_map,zGj.val,Nat.zero_add] at d2;have hr8:=HT8W.r _ (List.getElem_mem hi8);have hl8:=HT8W.l _ (List.getElem_mem hi8);have hn8:=HT8W.num i hi8;generalize rows8[i]=q8 at *;obtain ⟨rg8,rc8,us8⟩:=q8;simp only at d2 hr8 hl8 hn8 g8
  have h08:0<us8.length:=by omega
  have d3:=hr8.at_ (zUi h08).1;have d4:=hr8.at_ (zUi h08).2;simp only [Nat.zero_mul,Nat.zero_add] at d3 d4;have hz8:zCk W0 us8[0].val (zSh (zJs ss) i 0):=hn8 0 h08;generalize us8[0]=u8 at *;obtain ⟨nbz,Sz,lz,cz⟩:=u8;clear hr8 hl8 hn8 h08;have huli:=hul i hi3;rw [if_neg oMx] at huli;have hmem:=List.getElem_mem hi3;obtain ⟨r,hr⟩:=eXx (rw[i]);have HRE:=oH hr;rw [hr] at huli hmem;obtain ⟨rg,rc,us⟩:=r;replace huli:us.length=rs.length:=huli;have hself:zGj.self ⟨rg,rc,us⟩ = .slice (some ⟨rg,0,none⟩) rs.length rc:=xAt huli;have hta:=(hts.alloc (.cells #[.bool nbz,.slice Sz lz cz] 83)).drew;have HNZ:=oH (show zCk (wr.alloc (.cells #[.bool nbz,.slice Sz lz cz] 83)).drew (zDf.val ⟨nbz,Sz,lz,cz⟩) (zSh (zJs ss) i 0) from (hts.num _ _ hz8).below bA.drew)
  have HOA:=oH (show (wr.alloc (.cells #[.bool nbz,.slice Sz lz cz] 83)).drew.ownsRow w4.heap.size 83 2 (.slice (some ⟨rg,0,none⟩) rs.length rc) rs.length (zUh us) from by
   have h9:=hta.tab.r _ hmem;rw [hself,huli] at h9
   exact h9)
  have HNA:=oH (show NoU (wr.alloc (.cells #[.bool nbz,.slice Sz lz cz] 83)).drew (.slice (some ⟨rg,0,none⟩) rs.length rc) from by
   have h9:=hta.tab.nor _ hmem;rw [hself] at h9
   exact h9)
  have HBA:=oH (show w4.heap.size<=(wr.alloc (.cells #[.bool nbz,.slice Sz lz cz] 83)).drew.heap.size from Nat.le_trans hta.B0 hta.bel.size)
  have HGR:=oH (fun (g2 cap2:Nat) (w8:World) (h1:w8.ownsRow w4.heap.size 83 2 (.slice (some ⟨g2,0,none⟩) (rs.length+1) cap2) (rs.length+1) (zUh us++[.bool nbz,.slice Sz lz cz])) (h2:(wr.alloc (.cells #[.bool nbz,.slice Sz lz cz] 83)).drew.grownBy w8 (Value.slice (some ⟨rg,0,none⟩) rs.length rc).ownBlock) (h3:NoU w8 (.slice (some ⟨g2,0,none⟩) (rs.length+1) cap2)) (h4:(Value.slice (some ⟨rg,0,none⟩) rs.length rc).ownBlock=some g2\/g2=(wr.alloc (.cells #[.bool nbz,.slice Sz lz cz] 83)).drew.heap.size) =>
   (show zGs w4.heap.size w5.heap.size (x+2) W0 (w8.setCell ⟨R,i,none⟩ (.slice (some ⟨g2,0,none⟩) (rs.length+1) cap2)) R cR (rw.set i ⟨g2,cap2,us++[⟨nbz,Sz,lz,cz⟩]⟩) (xBu rs ss) from by
    have e1:zGj.self ⟨g2,cap2,us++[⟨nbz,Sz,lz,cz⟩]⟩ = .slice (some ⟨g2,0,none⟩) (rs.length+1) cap2:=xAt (by simp only [List.length_append,List.length_singleton];omega);have h9:=hta.grow (w8:=w8) hi3 (r2:=⟨g2,cap2,us++[⟨nbz,Sz,lz,cz⟩]⟩) (u:=⟨nbz,Sz,lz,cz⟩) (z:=zSh (zJs ss) i 0) (by rw [HRE.out]) HNZ.out (by rw [HRE.out];unfold xBu;rw [if_pos huli]) (by rw [e1,show (us++[(⟨nbz,Sz,lz,cz⟩:zDf)]).length=rs.length+1 by simp only [List.length_append,List.length_singleton];omega,zUm];exact h1) (by rw [HRE.out,hself];exact h2) (by rw [e1];exact h3) (by rw [HRE.out];exact h4.imp (fun h5=>by injection h5 with h6) id);rw [e1] at h9
    exact h9))
  have HRM:=oH (fun (w8:World) (h2:(wr.alloc (.cells #[.bool nbz,.slice Sz lz cz] 83)).drew.grownBy w8 (Value.slice (some ⟨rg,0,none⟩) rs.length rc).ownBlock)=>(show w8.cell? ⟨R,i,none⟩=some (.slice (some ⟨rg,0,none⟩) rs.length rc)/\w8.frozen? ⟨R,i,none⟩=false from by
   have h9:=hta.rowMid hi3 (w8:=w8) (by rw [HRE.out,hself];exact h2);rw [HRE.out,hself] at h9
   exact h9))
  have HMD:=oH (fun (w8:World) (h2:(wr.alloc (.cells #[.bool nbz,.slice Sz lz cz] 83)).drew.grownBy w8 (Value.slice (some ⟨rg,0,none⟩) rs.length rc).ownBlock)=>(show w8.cell? ⟨x,2,none⟩=some (.slice (some ⟨R,0,none⟩) rs.length cR)/\w8.cell? ⟨x+1,2,none⟩=some (.slice (some ⟨R8,0,none⟩) rs6.length cR8)/\w8.cell? ⟨R8,i,none⟩=some (.slice (some ⟨rg8,0,none⟩) 1 rc8)/\w8.cell? ⟨rg8,0,none⟩=some (.bool nbz)/\w8.cell? ⟨rg8,1,none⟩=some (.slice Sz lz cz) from by
   have h3:(wr.alloc (.cells #[.bool nbz,.slice Sz lz cz] 83)).drew.grownBy w8 rw[i].self.ownBlock:=by rw [HRE.out,hself];exact h2
   exact ⟨(hta.mid hi3 h3 (by show w5.heap.size<=x;omega) (by show x<x+2;omega)).trans d0,(hta.mid hi3 h3 (by show w5.heap.size<=x+1;omega) (by show x+1<x+2;omega)).trans d1,(hta.mid hi3 h3 (by show w5.heap.size<=R8;omega) (by show R8<x+2;omega)).trans d2,(hta.mid hi3 h3 (by show w5.heap.size<=rg8;omega) (by show rg8<x+2;omega)).trans d3,(hta.mid hi3 h3 (by show w5.heap.size<=rg8;omega) (by show rg8<x+2;omega)).trans d4⟩))
  have p0:=(hts.cell (by show w5.heap.size<=x;omega) (by show x<x+2;omega)).trans d0;have p1:=(hts.cell (by show w5.heap.size<=x+1;omega) (by show x+1<x+2;omega)).trans d1;have p2:=(hts.cell (by show w5.heap.size<=R8;omega) (by show R8<x+2;omega)).trans d2;have p3:=(hts.cell (by show w5.heap.size<=rg8;omega) (by show rg8<x+2;omega)).trans d3;have p4:=(hts.cell (by show w5.heap.size<=rg8;omega) (by show rg8<x+2;omega)).trans d4;have p5:=(hts.rowAt hi3).1;have p5a:=(hta.rowAt hi3).1;rw [HRE.out,hself] at p5 p5a;have KS0:Hid (wr.drew.cell? ⟨x,2,none⟩=some (.slice (some ⟨R,0,none⟩) rs.length cR)/\wr.drew.cell? ⟨x+1,2,none⟩=some (.slice (some ⟨R8,0,none⟩) rs6.length cR8)/\wr.drew.cell? ⟨R8,i,none⟩=some (.slice (some ⟨rg8,0,none⟩) 1 rc8)/\wr.drew.cell? ⟨rg8,0,none⟩=some (.bool nbz)/\wr.drew.cell? ⟨rg8,1,none⟩=some (.slice Sz lz cz)):=oH ⟨p0,p1,p2,p3,p4⟩;have KSA:Hid ((wr.alloc (.cells #[.bool nbz,.slice Sz lz cz] 83)).drew.cell? ⟨x,2,none⟩=some (.slice (some ⟨R,0,none⟩) rs.length cR)/\(wr.alloc (.cells #[.bool nbz,.slice Sz lz cz] 83)).drew.cell? ⟨x+1,2,none⟩=some (.slice (some ⟨R8,0,none⟩) rs6.length cR8)/\(wr.alloc (.cells #[.bool nbz,.slice Sz lz cz] 83)).drew.cell? ⟨R8,i,none⟩=some (.slice (some ⟨rg8,0,none⟩) 1 rc8)/\(wr.alloc (.cells #[.bool nbz,.slice Sz lz cz] 83)).drew.cell? ⟨rg8,0,none⟩=some (.bool nbz)/\(wr.alloc (.cells #[.bool nbz,.slice Sz lz cz] 83)).drew.cell? ⟨rg8,1,none⟩=some (.slice Sz lz cz)):=oH ⟨(hta.cell (by show w5.heap.size<=x;omega) (by show x<x+2;omega)).trans d0,(hta.cell (by show w5.heap.size<=x+1;omega) (by show x+1<x+2;omega)).trans d1,(hta.cell (by show w5.heap.size<=R8;omega) (by show R8<x+2;omega)).trans d2,(hta.cell (by show w5.heap.size<=rg8;omega) (by show rg8<x+2;omega)).trans d3,(hta.cell (by show w5.heap.size<=rg8;omega) (by show rg8<x+2;omega)).trans d4⟩
  have i1:(0:Int)<=(i:Int):=by omega
  have i2:(i:Int)<(rs.length:Int):=by omega
  have i3:(i:Int)<(rs6.length:Int):=by have:=HL6.out;have:=HSL.out;omega
  have hR5:R<w5.heap.size:=(HTW.o.lt R rfl).2
  have nR0:¬(R=x):=by omega
  have nR1:¬(x=R):=by omega
  have nR2:¬(R=x+1):=by omega
  have nR3:¬(x+1=R):=by omega
  have nR4:¬(R=R8):=by omega
  have nR5:¬(R8=R):=by omega
  have nR6:¬(R=rg8):=by omega
  have nR7:¬(rg8=R):=by omega
  clear hta hts hul huli hself hmem hr hrl d0 d1 d2 d3 d4 hz8 s56 s67 r8 g8;go_wp2_with fail;refine xHt (S:=(fun w'=>w'.cell? ⟨R,i,none⟩=some (.slice (some ⟨rg,0,none⟩) rs.length rc)/\w'.cell? ⟨x,2,none⟩=some (.slice (some ⟨R,0,none⟩) rs.length cR)/\w'.cell? ⟨x+1,2,none⟩=some (.slice (some ⟨R8,0,none⟩) rs6.length cR8)/\w'.cell? ⟨R8,i,none⟩=some (.slice (some ⟨rg8,0,none⟩) 1 rc8)/\w'.cell? ⟨rg8,0,none⟩=some (.bool nbz)/\w'.cell? ⟨rg8,1,none⟩=some (.slice Sz lz cz))) 18 (by kernel_rfl) rfl (by kernel_rfl) (by kernel_rfl) rfl (by exact ⟨p5,KS0.out⟩) (fun hHeld=>?_);simp only [List.pop_toArray,List.dropLast_cons_cons,List.dropLast_singleton];refine tkH 0 ?_;refine tkH 1 ?_;refine tkH 2 ?_;refine tkH 3 ?_;refine tkH 4 ?_;refine tkH 5 ?_;refine tkH 6 ?_;refine tkH 7 ?_;refine tkH 8 ?_;refine tkH 9 ?_;refine tkH 10 ?_;refine tkH 11 ?_;refine tkH 12 ?_;refine tkH 13 ?_;refine tkH 14 ?_
  try simp only [Act.put,tkA,tkB,tkC]
  refine tkS 15 fun K hK=>?_
  go_simp
  refine hK.out _ _ ?_ (fun hHeld=>?_)
  ·first|exact ⟨p5,KS0.out⟩|exact ⟨p5a,KSA.out⟩|exact ⟨u6,KS8.out⟩
  clear hK K
  try simp only [Act.put,tkA,tkB,tkC]
  refine tkS 16 fun K hK=>?_
  (refine xCk _ (by rfl) _ _ _ (by rfl) w4.heap.size 83 i0 _ 2 32 Tryz.underlying141 hi hz0 hz1 hz2 rfl dCx (.slice (some ⟨rg,0,none⟩) rs.length rc) rs.length (zUh us) (by go_simp) HOA.out ⟨wr.heap.size,0,none⟩ 1 1 [.bool nbz,.slice Sz lz cz] (by go_simp) rfl (World.news_of_block (cs:=#[.bool nbz,.slice Sz lz cz]) (t:=83) (fr:=(0,0)) (heap_alloc_new wr _)) two_one8 oMx (by unfold maxLen;omega) oMx HBA.out HNA.out zUo zUn ?_;intro g2 cap2 w8 hown8 hgrow8 hno8 hgg8;have HG:=oH (HGR.out g2 cap2 w8 hown8 hgrow8 hno8 hgg8);have hrm:=HRM.out w8 hgrow8;have u6:=hrm.1;have u7:=hrm.2;have KS8:=oH (HMD.out w8 hgrow8);obtain ⟨u0,u1,u2,u3,u4⟩:=KS8.out;clear hown8 hgrow8 hno8 hgg8 hrm)
  refine hK.out _ _ ?_ (fun hHeld=>?_)
  ·first|exact ⟨p5,KS0.out⟩|exact ⟨p5a,KSA.out⟩|exact ⟨u6,KS8.out⟩
  clear hK K
  try simp only [Act.put,tkA,tkB,tkC]
  refine tkH 17 ?_
  try simp only [Act.put,tkA,tkB,tkC]
  refine wpAnyH_done (by kernel_rfl) ?_ _;simp only [xEe,List.getElem_toArray,List.getElem_cons_succ,List.getElem_cons_zero]
  all_goals
   go_wp2_with fail;go_roundw
   ·exact ⟨i+1,rw.set i ⟨g2,cap2,us++[⟨nbz,Sz,lz,cz⟩]⟩,by go_num,oMx,by rw [List.length_set];exact HRL.out,fun j hj=>by
    have hj':j<rw.length:=by simpa using hj
    by_cases e:j=i
    ·subst e;rw [List.getElem_set_self,if_pos oMx];simp only [List.length_append,List.length_singleton];have h9:=HUL.out j hj';rw [if_neg oMx,HRE.out] at h9;have h8:us.length=rs.length:=h9;omega
    rw [List.getElem_set_ne (Ne.symm e),HUL.out j hj']
    by_cases e2:j<i
    ·rw [if_pos e2,if_pos oMx]
    rw [if_neg e2,if_neg oMx],HG.out⟩
   simp [intOf];omega
 obtain rfl:i=rs.length:=by omega
 have hall:∀ r∈rw,r.us.length=rs.length+1:=fun r hr=>by
  obtain ⟨j,hj,rfl⟩:=List.getElem_of_mem hr;rw [hul j hj,if_pos oMx]
 have HLS:=oH (sol_LL HF.out hm1 HSL.out HV.out HH.out HH2.out);have HRD:=zFk (some ⟨R,0,none⟩) cR (rs.length+1) rs.length rw (xBu rs ss) wr (hts.tab.toN hall).read oMx oMx oMx oMx oMx (fun i k hi=>HLS.out i k oMx);rw [hrl] at HRD;replace HRD:=oH HRD;have s56:=HS56.out;have s67:=HS67.out;have p0:=(hts.cell (p:=⟨x,2,none⟩) (by show w5.heap.size<=x;omega) (by show x<x+2;omega)).trans (HX7.at_ (i:=2) rfl);have HXA:=oH (show Blk wr x 86 [.bool dv.nb,.slice dv.ad dv.l dv.c,.slice (some ⟨R,0,none⟩) rs.length cR] from (hts.seg x oMx oMx).trans HX7.out);have HXB:=oH (show Blk wr (x+1) 86 [.bool dv8.nb,.slice dv8.ad dv8.l dv8.c,.slice (some ⟨R8,0,none⟩) rs6.length cR8] from (hts.seg (x+1) oMx oMx).trans HX8.out);have HDA:=oH (hts.num _ _ HD7W.out);have HDB:=oH (hts.num _ _ HD8W.out);have HBr:=oH (show Below w4.heap.size W0 wr from hts.bel);clear hall hul hts hrl s56 s67 HUL HTS;go_wp2_with fail;refine HRD.mono ?_
 rintro e w9 ⟨R4,cR4,rows4,pv,v,rfl,hl4,hrr,hb9⟩;obtain ⟨Ap,cp,rfl, -⟩:=zVk hrr.pvt;have HBq:=oH (HBW.trans (HBr.mono HB4.size));have HB9:=bTx2 HBq hb9;have HEL:=oH (zNj (m:=rs.length) (fun i k hi=>HLS.out i k hi) zCp rs.length)
 have hv0:(eli rs.length (xBu rs ss) rs.length).v≠0:=by
  obtain ⟨F,hg, -⟩:=zNi rs.length (xBu rs ss) rs.length
  intro e
  exact hg.v0 (by rw [e];rfl)
 have HXA9:=oH (HXA.below hb9);have HXB9:=oH (HXB.below hb9);have HDA9:=oH (HDA.below hb9);have HDB9:=oH (HDB.below hb9);generalize eli rs.length (xBu rs ss) rs.length=s at *;obtain ⟨pl,hpl⟩:=eXx (s.ps.length);have HPL:=oH hpl;rw [hpl] at HEL;rw [hpl];have HB10:=oH (HB9.alloc HB9.size (.cells #[.slice (some ⟨R4,0,none⟩) rs.length cR4,.slice Ap pl cp,.bool v.nb,.slice v.ad v.l v.c,.bool s.odd] 152));have HT10:=oH (Blk.new w9 152 [.slice (some ⟨R4,0,none⟩) rs.length cR4,.slice Ap pl cp,.bool v.nb,.slice v.ad v.l v.c,.bool s.odd]);have HR10:=hrr.below (bRx.alloc lRx (.cells #[.slice (some ⟨R4,0,none⟩) rs.length cR4,.slice Ap pl cp,.bool v.nb,.slice v.ad v.l v.c,.bool s.odd] 152));rw [hpl] at HR10;replace HR10:=oH HR10;have HXA10:=oH (HXA9.alloc (.cells #[.slice (some ⟨R4,0,none⟩) rs.length cR4,.slice Ap pl cp,.bool v.nb,.slice v.ad v.l v.c,.bool s.odd] 152));have HXB10:=oH (HXB9.alloc (.cells #[.slice (some ⟨R4,0,none⟩) rs.length cR4,.slice Ap pl cp,.bool v.nb,.slice v.ad v.l v.c,.bool s.odd] 152))
 have HDA10:=oH (HDA9.below (bRx.alloc lRx (.cells #[.slice (some ⟨R4,0,none⟩) rs.length cR4,.slice Ap pl cp,.bool v.nb,.slice v.ad v.l v.c,.bool s.odd] 152)));have HDB10:=oH (HDB9.below (bRx.alloc lRx (.cells #[.slice (some ⟨R4,0,none⟩) rs.length cR4,.slice Ap pl cp,.bool v.nb,.slice v.ad v.l v.c,.bool s.odd] 152)));have HL4:=oH hl4;clear hb9 hrr hl4 hpl p0
 by_cases hlt9:pl<rs.length
 ·have hx9:(pl:Int)<(rs.length:Int):=by omega
  go_wp2_with fail;rw [<-hQ.out];exact .inl ⟨by rw [HPL.out];exact hlt9,rfl,HB10.out⟩
 have hx9:¬(pl:Int)<(rs.length:Int):=by omega
 have hpe:pl=rs.length:=by have:=HEL.2.2;omega
 have HPE:=oH hpe;clear hpe;go_wp2_with fail;generalize (w9.alloc (.cells #[.slice (some ⟨R4,0,none⟩) rs.length cR4,.slice Ap pl cp,.bool v.nb,.slice v.ad v.l v.c,.bool s.odd] 152))=W at *;generalize w9.heap.size=y at *
 go_loopw [11,81] (fun ov iv wr=>∃ (k:Nat) (us:List FrV),iv = .int .i64 (k:Int)/\k<=rs.length/\us.length=k/\wr.ownsRow W.heap.size 89 4 ov k (frc us)/\NoU wr ov/\zCi wr us ((List.range k).map (xBv rs ss s))/\Below W.heap.size W wr) (fun _ iv _=>rs.length-(intOf iv).toNat)
 ·exact ⟨0,[],rfl,oLx,rfl,World.ownsRow_nil _ _ _ _,NoU.nil _ _ _,zCi.nil _,bRx⟩
 obtain ⟨k,us,rfl,hk9,hul,hown,hno,hfr,hbW⟩:=hrel;obtain ⟨Ao,co,rfl, -⟩:=zVk hown;have HUS:=oH hul;have HOW:=oH hown;have HNO:=oH hno;have HFR:=oH hfr;have HBV:=oH hbW;clear hul hown hno hfr
 by_cases hlt2:k<rs.length
 ·have hk4:k<rows4.length:=by have:=HL4.out;omega
  have hrr:=HR10.below hbW;have c0:=hrr.tab.cell (by rw [HL4.out]) hk4
  have i1:(0:Int)<=(k:Int):=by omega
  have i2:(k:Int)<(rs.length:Int):=by omega
  have hrW:=HR10.out;obtain ⟨nz,Sz,lz,cz,p5,p6,hz⟩:=hrW.tab.num_at hk4 (k:=rs.length) oMx;have c1:=HXA10.at_ (i:=0) rfl;have c2:=HXA10.at_ (i:=1) rfl;have c3:=HXB10.at_ (i:=0) rfl;have c4:=HXB10.at_ (i:=1) rfl;have c5:=HT10.at_ (i:=2) rfl;have c6:=HT10.at_ (i:=3) rfl;have HVv:=oH (show zCk wr (.agg #[.bool v.nb,.slice v.ad v.l v.c]) s.v from hrr.val);have HDv:=oH (show zCk wr (.agg #[.bool dv.nb,.slice dv.ad dv.l dv.c]) (zSc rs) from HDA10.below hbW);have HD8v:=oH (show zCk wr (.agg #[.bool dv8.nb,.slice dv8.ad dv8.l dv8.c]) (zSc (zJs ss)) from HDB10.below hbW);have hzl:=HEL.1 k rs.length hlt2;have hvl:=HEL.2.1;have hg1:grw 70 pl<=300000:=zOr lRx (by have:=HEL.2.2;omega);have hd1:=zSd HF.out;have hd2:=zSd (zNo (zJu ss) hsl12 hsl1 HV.out);have HKQ:=oH (show Rat.divInt (s.P k rs.length*zSc rs) (s.v*zSc (zJs ss))=xBv rs ss s k from rfl);have hdz:s.v*zSc (zJs ss)≠0:=Int.mul_ne_zero hv0 (by have:=zSe (zJs ss);omega)
  generalize rows4[k].g=rg at *;generalize rows4[k].cp=rc at *;obtain ⟨z,hzz⟩:=eXx (s.P k rs.length);rw [hzz] at hz hzl HKQ;have HZ:=oH (hz.below hbW);have hm1':=zCo z (zSc rs);have hm2':=zCo s.v (zSc (zJs ss));unfold LL at hzl hvl hd1 hd2 hm1' hm2';have KB:=oH (fun W' (hW:Below W.heap.size W W')=>(show W'.cell? ⟨rg,rs.length*2,none⟩=some (.bool nz)/\W'.cell? ⟨rg,rs.length*2+1,none⟩=some (.slice Sz lz cz)/\W'.cell? ⟨x,0,none⟩=some (.bool dv.nb)/\W'.cell? ⟨x,1,none⟩=some (.slice dv.ad dv.l dv.c)/\W'.cell? ⟨y,2,none⟩=some (.bool v.nb)/\W'.cell? ⟨y,3,none⟩=some (.slice v.ad v.l v.c)/\W'.cell? ⟨x+1,0,none⟩=some (.bool dv8.nb)/\W'.cell? ⟨x+1,1,none⟩=some (.slice dv8.ad dv8.l dv8.c) from ⟨kP hW p5,kP hW p6,kP hW c1,kP hW c2,kP hW c5,kP hW c6,kP hW c3,kP hW c4⟩));have KS0:=oH (KB.out _ HBV.drew)
  have i5:(0:Int)<=(rs.length:Int):=by omega
  have i6:(rs.length:Int)<((rs.length+1:Nat):Int):=by omega
  have i7:(rs.length:Int)<(rs.length:Int)+1:=by omega
  clear hrr hrW hbW hz hzz p5 p6 c1 c2 c3 c4 c5 c6;go_wp2_with fail;clear c0
  go_region_held3 (fun w'=>w'.cell? ⟨rg,rs.length*2,none⟩=some (.bool nz)/\w'.cell? ⟨rg,rs.length*2+1,none⟩=some (.slice Sz lz cz)/\w'.cell? ⟨x,0,none⟩=some (.bool dv.nb)/\w'.cell? ⟨x,1,none⟩=some (.slice dv.ad dv.l dv.c)/\w'.cell? ⟨y,2,none⟩=some (.bool v.nb)/\w'.cell? ⟨y,3,none⟩=some (.slice v.ad v.l v.c)/\w'.cell? ⟨x+1,0,none⟩=some (.bool dv8.nb)/\w'.cell? ⟨x+1,1,none⟩=some (.slice dv8.ad dv8.l dv8.c)) (first|with_reducible exact KS0.out|with_reducible exact KSa.out|with_reducible exact KSb.out|with_reducible exact KSn.out|with_reducible exact KSn2.out|with_reducible exact KSz.out|go_keep) (first|(go_at_call 58;(with_reducible refine (zDb _ _ z (zSc rs) _ (HZ.out.below bTy) (HDv.out.below bTy) oMx oMx).mono ?_);rintro e wa ⟨va,rfl,hv,hb⟩;have hw:Below wr.heap.size wr wa:=Below.trans bTy (hb.mono (by first|exact lRx|exact HWb.out.size));have HWa:=oH hw;have HVa:=oH hv;(first|(have HVb':=oH (HVb.out.below hb))|(have HVb':=oH (HVb.out.drew.below hb))|skip);have KSa:=oH (KB.out wa (HBV.out.trans (hw.mono HBV.out.size)));obtain ⟨xa,Xa,ya,za,rfl⟩:=hv.slice;clear hv hb hw)|(go_at_call 58;(with_reducible refine (zDb _ _ s.v (zSc (zJs ss)) _ (HVv.out.below bTy) (HD8v.out.below bTy) oMx oMx).mono ?_);rintro e wb ⟨vb,rfl,hv,hb⟩;have hw:Below wr.heap.size wr wb:=Below.trans bTy (hb.mono (by first|exact lRx|exact HWa.out.size));have HWb:=oH hw;have HVb:=oH hv;(first|(have HVa':=oH (HVa.out.below hb))|(have HVa':=oH (HVa.out.drew.below hb))|skip);have KSb:=oH (KB.out wb (HBV.out.trans (hw.mono HBV.out.size)));obtain ⟨xb,Xb,yb,zb,rfl⟩:=hv.slice;clear hv hb hw)|(go_at_call 57;(with_reducible refine (zDe _ _ (z*zSc rs) (s.v*zSc (zJs ss)) _ (by first|with_reducible exact HVa.out|with_reducible exact HVa'.out|with_reducible exact HVa.out.drew|with_reducible exact HVa'.out.drew) (by first|with_reducible exact HVb.out|with_reducible exact HVb'.out|with_reducible exact HVb.out.drew|with_reducible exact HVb'.out.drew) oMx oMx hdz).mono ?_);rintro e wn ⟨vn',rfl,hv,hb⟩;have hw:Below wr.heap.size wr wn:=Below.trans bTy (hb.mono (by first|exact lRx|exact HWa.out.size|exact HWb.out.size));have HWn:=oH hw;have HVn:=oH hv;obtain ⟨nax,nbx,Ax,Bx,lx,cx,mx,dx,rfl⟩:=hv.slice;have KSn:=oH (KB.out wn (HBV.out.trans (hw.mono HBV.out.size)));have HWm:=oH (hw.alloc hw.size (.cells #[.bool nax,.slice Ax lx cx,.bool nbx,.slice Bx mx dx] 89));have KSn2:=oH (KB.out _ (HBV.out.trans (HWm.out.mono HBV.out.size)));have HVm:=oH (hv.below (bRx.alloc lRx (.cells #[.bool nax,.slice Ax lx cx,.bool nbx,.slice Bx mx dx] 89)));have HOM:=oH (zVn HOW.out HWm.out);have HNM:=oH (HNO.out.below (fun k hk=>(HOW.out.lt k hk).2) HWm.out);have HFM:=oH (HFR.out.below HWm.out);have HSM:=oH (Nat.le_trans HBV.out.size HWm.out.size);clear hv hb hw)|(refine xCm _ (by rfl) _ _ _ (by rfl) W.heap.size 89 f0 _ 4 64 Tryz.underlying104 hf0 hfz0 hfz1 hfz2 rfl dCx (.slice Ao k co) k (frc us) (by go_simp) HOM.out ⟨wn.heap.size,0,none⟩ 1 1 (FrV.four ⟨nax,Ax,lx,cx,nbx,Bx,mx,dx⟩) (by go_simp) rfl (World.news_of_block (cs:=#[.bool nax,.slice Ax lx cx,.bool nbx,.slice Bx mx dx]) (t:=89) (fr:=(0,0)) (heap_alloc_new wn _)) zNy oMx (by unfold maxLen;omega) oMx HSM.out HNM.out fz_no zNw ?_;intro g2 cap2 w12 hown hgrow hno;have HOZ:=oH hown;have HNZ:=oH hno;have HFZ:=oH ((HFM.out.clean HNM.out hgrow).push (u:=⟨nax,Ax,lx,cx,nbx,Bx,mx,dx⟩) (q:=Rat.divInt (z*zSc rs) (s.v*zSc (zJs ss))) (HVm.out.clean HNM.out hgrow));have HBZ:=oH ((HBV.out.trans (HWm.out.mono HBV.out.size)).grown hgrow HSM.out (fun k hk=>(HOM.out.lt k hk).1));have KSz:=oH (KB.out w12 HBZ.out);clear hown hgrow hno))
  all_goals
   go_wp2_with fail;go_roundw
   ·exact ⟨k+1,us++[⟨nax,Ax,lx,cx,nbx,Bx,mx,dx⟩],by go_num,oMx,by simp [HUS.out],by rw [zOf];exact HOZ.out,HNZ.out,by rw [List.range_succ,List.map_append];show zCi _ _ (_++[xBv rs ss s k]);rw [<-HKQ.out];exact HFZ.out,HBZ.out⟩
   simp [intOf];omega
 obtain rfl:k=rs.length:=by omega
 have HTX:=zHd Ao us ((List.range rs.length).map (xBv rs ss s)) co wr (fun j hj=>by
  have hl9:0<rs.length:=by omega
  have h9:=HOW.out;obtain ⟨g,rfl⟩:=zVj h9 hl9
  have hj':j<rs.length:=by have:=HUS.out;omega
  exact ⟨g,0,rfl,(h9.lt g rfl).2,by rw [Nat.zero_add];exact (h9.cellAt (j*4) oMx).trans (zOd hj).1,by rw [Nat.zero_add];exact (h9.cellAt (j*4+1) oMx).trans (zOd hj).2.1,by rw [Nat.zero_add];exact (h9.cellAt (j*4+2) oMx).trans (zOd hj).2.2.1,by rw [Nat.zero_add];exact (h9.cellAt (j*4+3) oMx).trans (zOd hj).2.2.2⟩)
  HFR.out (by have:=HUS.out;omega) (fun q hq=>by
   obtain ⟨j,hj,rfl⟩:=List.mem_map.1 hq
   have hj':j<rs.length:=by simpa using hj
   have h1:=HEL.1 j rs.length hj';have h2:=HEL.2.1;have hg1:grw 70 pl<=300000:=zOr lRx (by have:=HEL.2.2;omega);have h3:=zCo (s.P j rs.length) (zSc rs);have h4:=zCo s.v (zSc (zJs ss));have h5:=zSd HF.out;have h6:=zSd (zNo (zJu ss) hsl12 hsl1 HV.out);unfold LL at h1 h2 h3 h4 h5 h6
   exact Sz.divInt (Int.mul_ne_zero hv0 (by have:=zSe (zJs ss);omega)) oMx oMx) (HE.below (HB10.trans (hbW.mono HB10.size)))
 rw [HUS.out] at HTX;replace HTX:=oH HTX;have HBF:=bTx2 HB10 hbW;have HKF:=oH (fun e w' (h:zGe w ((List.range rs.length).map (xBv rs ss s)) e w')=>(show zGr false s rs.length (xBv rs ss s) w e w' from .inr ⟨by rw [HPL.out];exact HPE.out,h⟩));have HLQ:=oH (show ((List.range rs.length).map (xBv rs ss s)).length=rs.length by simp);clear hbW;go_wp2_with fail;refine HTX.mono ?_;generalize (List.range rs.length).map (xBv rs ss s)=ql at *;rintro e w11 (⟨At,ct,hfit,rfl,hst,hb11,how11⟩|⟨hno,rfl,hb11⟩)
 ·have HB11:=bTx2 HBF hb11;have HST:=oH hst;have HOX:=oH (zVm how11 HBF.size);have HFIT:=oH hfit;clear hb11 hst hfit how11;go_wp2_with fail;rw [<-hQ.out];exact HKF.out _ _ (.inl ⟨At,ct,HFIT.out,rfl,HST.out,HB11.out,HOX.out⟩)
 have HB11:=bTx2 HBF hb11;have HNO2:=oH hno;clear hb11 hno;go_wp2_with fail;rw [<-hQ.out];exact HKF.out _ _ (.inr ⟨HNO2.out,rfl,HB11.out⟩)
def zHm (w:World) (n:Nat) (x:Nat->Rat) (e:Ending) (w':World):Prop:=∃ A c,e = .returned (.tuple #[.slice A n c,.int .i64 0])/\w'.ownsRow w.heap.size 39 1 (.slice A n c) n (sv ((List.range n).map fun t=>zYy (x t)))/\Below w.heap.size w w'
theorem zGe.ok {w w':World} {n:Nat} {x:Nat->Rat} {e:Ending} (h:zGe w ((List.range n).map x) e w') (hf:∀ k,k<n->zBt (x k)):zHm w n x e w':=by
 rcases h with ⟨A,c, -,he, -,hb,ho⟩|⟨⟨q,hq,hn⟩, -⟩
 ·rw [List.length_map,List.length_range] at he ho;rw [List.map_map] at ho;exact ⟨A,c,he,ho,hb⟩
 obtain ⟨k,hk,rfl⟩:=List.mem_map.1 hq;exact absurd (hf k (by simpa using hk)) hn
theorem mxSolO {A Ab:oAx} {c cb n:Nat} {M:mRx} {b:Nat->Rat} {w:World} (h:MxIn w A n n M) (hv:zHk w Ab n b) (hn1:1<=n) (hn:n<=4) (ht:zHe n n M) (hs:zGq n b) (henv:Env w) :
  Calls Tryz.prog 63 #[.slice A n c,.slice Ab n cb] w fun e w'=>∃ r:Nat,Rk n n M r/\((r<n/\e = .returned (.tuple #[.slice none 0 0,.int .i64 6])/\Below w.heap.size w w')\/(r=n/\∃ x:Nat->Rat,(∀ i,i<n->appQ n M x i=b i)/\(∀ k,k<n->zBt (x k))/\zHm w n x e w')):=by
 obtain ⟨rs,h1,h2⟩:=h;obtain ⟨ss,h3,h4⟩:=hv;have hl:=h2.len;have hsl:=h4.len;have hf:=h2.fin hn1 oMx oMx;have hD:=h2.int_D ht.int;have hc:=matF_col h4;have hfc:zBr (zJs ss) 1:=hc.fin hn1 oMx dCx;have hl1:=h2.lightN (k0:=1) 4 dCx hn hn dCx ht.dig
 have hl2:=hc.lightN (k0:=1) 4 dCx hn dCx dCx fun i _ hi _=>(hs i hi).dig
 have hcp:∀ i k,i<n->k<n->((zSh rs i k:Int):Rat)=M i k:=fun i k hi hk=>by rw [h2.cellP hf hi hk,hD];show (1:Rat)*_=_;grind
 have hcb:∀ i,i<n->((zSh (zJs ss) i 0:Int):Rat)=zSc (zJs ss)*b i:=fun i hi=>hc.cellP hfc hi dCx
 have hD8:Dig 5 (zSc (zJs ss)):=by
  have h1:=zLu (a:=1) (d:=1) (k:=1) (n:=1) (m:=zSg (zJs ss)) (by unfold Dig;decide) fun l hl=>by
   obtain ⟨r,hr,rfl⟩:=List.mem_map.1 hl;refine ⟨by rw [List.length_map,hc.row r hr];decide,fun q hq=>?_⟩;obtain ⟨s,hs',rfl⟩:=List.mem_map.1 hq;obtain ⟨i,hi,rfl⟩:=List.getElem_of_mem hr;obtain ⟨k,hk,rfl⟩:=List.getElem_of_mem hs';have hl:=hc.rowAt hi;have hlen:=hc.len;rw [hc.cel i k hi hk,xFq (hc.fit i k oMx oMx)];exact (hs i oMx).dig
  refine h1.mono ?_
  have:(zSg (zJs ss)).length=n:=by unfold zSg;rw [List.length_map,hc.len]
  rw [this];omega
 have hp8:=zSe (zJs ss)
 have hcB:∀ i,i<n->IsB 1000000 ((zSh (zJs ss) i 0:Int):Rat):=fun i hi=>by
  refine ⟨_,rfl,?_⟩;have h1:Dig (1+5) (zSh (zJs ss) i 0):=zJj hD8 (by rw [hc.q hi dCx];exact (hs i hi).dig);exact Nat.le_of_lt h1
 have:=zGu A Ab c cb rs ss w h1 (by rw [hl];exact hf) oMx h3 oMx h4.valid henv;rw [hl,hsl] at this;rw [show decide (600<zOt rs n)=false from by simpa using hl1,show decide (600<zOt (zJs ss) 1)=false from by simpa using hl2] at this
 have hN:∀ i k,i<n->k<n+1->IsB 1000000 ((xBu rs ss i k:Int):Rat):=fun i k hi hk=>by
  unfold xBu;rw [hl]
  split
  ·exact hcB i hi
  rw [hcp i k hi oMx];exact (ht.B i k hi oMx).mono dCx
 have hNl:∀ i k,i<n->k<n->((xBu rs ss i k:Int):Rat)=M i k:=fun i k hi hk=>by
  unfold xBu;rw [hl,if_neg oMx];exact hcp i k hi hk
 have hNr:∀ i,i<n->((xBu rs ss i n:Int):Rat)=zSc (zJs ss)*b i:=fun i hi=>by
  unfold xBu;rw [hl,if_pos rfl];exact hcb i hi
 obtain ⟨F,hg,hP⟩:=zNi n (xBu rs ss) n;have hrk:Rk n n M (eli n (xBu rs ss) n).ps.length:=hg.rk.congr hNl;refine this.mono ?_;clear this;have hB:=hg.bnd (n2:=n+1) (b:=1000000) oMx hN
 have hQ:∀ i,xBv rs ss (eli n (xBu rs ss) n) i=Rat.divInt ((eli n (xBu rs ss) n).P i n) ((eli n (xBu rs ss) n).v*zSc (zJs ss)):=fun i=>by
  unfold xBv;rw [hl,hD,Int.mul_one]
 generalize eli n (xBu rs ss) n=s at *
 have hv0:s.v≠0:=by intro e;apply hg.v0;rw [e];rfl
 have hvR:=hg.v0;have hDR:(zSc (zJs ss):Rat)≠0:=matD_ne _;have hd0:s.v*zSc (zJs ss)≠0:=Int.mul_ne_zero hv0 oMx;have hrm:=hg.rm;have hb26:=detB_mil s.ps.length oMx;rintro e w' (⟨hlt,rfl,hb⟩|⟨he,hr⟩)
 ·exact ⟨_,hrk,.inl ⟨hlt,rfl,hb⟩⟩
 have hx:∀ k,k<n->xBv rs ss s k=F k n/zSc (zJs ss):=fun k hk=>by
  rw [hQ,Rat.divInt_eq_div,hP k n oMx,Rat.intCast_mul]
  grind
 have hfit:∀ k,k<n->zBt (xBv rs ss s k):=fun k hk=>by
  rw [hQ]
  have d1:Dig 31 (s.P k n):=by
   have h9:=hB.2 k n oMx oMx;rw [<-hP k n oMx] at h9;have:=h9.int;unfold Dig
   have h8:(10:Nat)^26<10^31:=by decide
   omega
  have d2:Dig 31 (s.v*zSc (zJs ss)):=by
   have h9:Dig 26 s.v:=by
    have:=hB.1.int;unfold Dig;omega
   exact h9.mul hD8 rfl rfl
  exact (zAv.of_divInt hd0 d1 d2).fits dCx dCx
 refine ⟨_,hrk,.inr ⟨he,xBv rs ss s,fun i hi=>?_,hfit,hr.ok hfit⟩⟩;have h5:=hg.solves he n i hi;rw [hNr i hi] at h5
 have h6:appQ n M (xBv rs ss s) i=xDg n (fun j=>(1/(zSc (zJs ss):Rat))*(((xBu rs ss i j:Int):Rat)*F j n)):=xDi fun j hj=>by
  rw [hNl i j hi hj,hx j hj]
  grind
 rw [h6,xDl,h5]
 grind
end Go.Proofs.YtfjjcoggoomlbaaGreatDoor
