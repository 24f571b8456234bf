import Derived.Test.YtbjaplppalcmgaaGreatDoorZMO
set_option maxHeartbeats 16000000
set_option maxRecDepth 100000
set_option linter.unusedVariables false
set_option linter.unusedSimpArgs false
set_option linter.unusedSectionVars false
namespace Go.Proofs.YtbjaplppalcmgaaGreatDoor
open Go.RowKit
def besM (n:Nat) (A B:mRx):Nat->Nat->Rat:=fun i k=>if k<n then A i k else B i (k-n)
section
variable {n r:Nat} {A B F:mRx} {ps:Nat->Nat} {v:Rat} {odd:Bool}
end
def zOk (i k:Nat):Int:=if i=k then 1 else 0
theorem idnZ_q (i k:Nat):((zOk i k:Int):Rat)=idn i k:=by
 unfold zOk idn
 split<;>rfl
theorem cloIn (y ab x R4 cR4 rg rc i k n nn c:Nat) (A d1 v1 z1:oAx) (d0 v0 z0:Bool) (d2 d3 v2 v3 z2 z3:Nat) (D sv z:Int) (w:World) (c0':w.cell? ⟨y,0,none⟩=some (.slice (some ⟨R4,0,none⟩) n cR4)) (c1':w.cell? ⟨y,2,none⟩=some (.bool v0)) (c2':w.cell? ⟨y,3,none⟩=some (.slice v1 v2 v3)) (c3':w.cell? ⟨ab,0,none⟩=some (.slice A n c)) (c4':w.cell? ⟨x,0,none⟩=some (.bool d0)) (c5':w.cell? ⟨x,1,none⟩=some (.slice d1 d2 d3)) (c6':w.cell? ⟨R4,i,none⟩=some (.slice (some ⟨rg,0,none⟩) nn rc)) (c7':w.cell? ⟨rg,(n+k)*2,none⟩=some (.bool z0)) (c8':w.cell? ⟨rg,(n+k)*2+1,none⟩=some (.slice z1 z2 z3)) (hv:zBs w (.agg #[.bool v0,.slice v1 v2 v3]) sv) (hd:zBs w (.agg #[.bool d0,.slice d1 d2 d3]) D) (hz:zBs w (.agg #[.bool z0,.slice z1 z2 z3]) z) (hi:i<n) (hk:n+k<nn) (hnn:nn<=1000) (hdz:sv≠0) (hlz:LL z<=300000) (hld:LL D<=300000) (hlv:LL sv<=300000) :
  Calls Tryz.prog 49 #[.int .i64 (i:Int),.int .i64 (k:Int),.pointer (some ⟨y,0,none⟩),.pointer (some ⟨ab,0,none⟩),.pointer (some ⟨x,0,none⟩)] w (zFp w (Rat.divInt (z*D) sv)):=by
 have HZ:=oH hz;have HD:=oH hd;have HV:=oH hv;have hm1':=zBy z D;unfold LL at hlz hld hlv hm1';have KB:=oH (fun W' (hW:Below w.heap.size w W')=>(show W'.cell? ⟨y,0,none⟩=some (.slice (some ⟨R4,0,none⟩) n cR4)/\W'.cell? ⟨y,2,none⟩=some (.bool v0)/\W'.cell? ⟨y,3,none⟩=some (.slice v1 v2 v3)/\W'.cell? ⟨ab,0,none⟩=some (.slice A n c)/\W'.cell? ⟨x,0,none⟩=some (.bool d0)/\W'.cell? ⟨x,1,none⟩=some (.slice d1 d2 d3)/\W'.cell? ⟨R4,i,none⟩=some (.slice (some ⟨rg,0,none⟩) nn rc)/\W'.cell? ⟨rg,(n+k)*2,none⟩=some (.bool z0)/\W'.cell? ⟨rg,(n+k)*2+1,none⟩=some (.slice z1 z2 z3) from ⟨(hW.cell (World.block_lt_of_cell? _ _ c0')).trans c0',(hW.cell (World.block_lt_of_cell? _ _ c1')).trans c1',(hW.cell (World.block_lt_of_cell? _ _ c2')).trans c2',(hW.cell (World.block_lt_of_cell? _ _ c3')).trans c3',(hW.cell (World.block_lt_of_cell? _ _ c4')).trans c4',(hW.cell (World.block_lt_of_cell? _ _ c5')).trans c5',(hW.cell (World.block_lt_of_cell? _ _ c6')).trans c6',(hW.cell (World.block_lt_of_cell? _ _ c7')).trans c7',(hW.cell (World.block_lt_of_cell? _ _ c8')).trans c8'⟩))
 have hbl:Below w.heap.size w (w.alloc (.cells #[.bool false,.slice none 0 0,.bool false,.slice none 0 0] 73)).drew:=bA.drew;have HWz:=oH hbl;have HKz:=oH (show Blk (w.alloc (.cells #[.bool false,.slice none 0 0,.bool false,.slice none 0 0] 73)).drew w.heap.size 73 (FrV.four ⟨false,none,0,0,false,none,0,0⟩) from (Blk.new w 73 (FrV.four ⟨false,none,0,0,false,none,0,0⟩)).below bRx.drew);have KSz:=oH (KB.out _ hbl)
 have i1:(0:Int)<=(i:Int):=by omega
 have i2:(i:Int)<(n:Int):=by omega
 have i3:(0:Int)<=(n:Int)+(k:Int):=by omega
 have i4:(n:Int)+(k:Int)<(nn:Int):=by omega
 have i5:((n:Int)+(k:Int)).toNat=n+k:=by omega
 have i6:IntKind.i64.wrap ((n:Int)+(k:Int))=(n:Int)+(k:Int):=IntWalk.i64_in _ oMx;clear hz hd hv hbl c0' c1' c2' c3' c4' c5' c6' c7' c8'
 go_enter Tryz.func49,Tryz.ntmps49
 go_wp2_with fail;refine xGe (S:=(fun w'=>w'.cell? ⟨y,0,none⟩=some (.slice (some ⟨R4,0,none⟩) n cR4)/\w'.cell? ⟨y,2,none⟩=some (.bool v0)/\w'.cell? ⟨y,3,none⟩=some (.slice v1 v2 v3)/\w'.cell? ⟨ab,0,none⟩=some (.slice A n c)/\w'.cell? ⟨x,0,none⟩=some (.bool d0)/\w'.cell? ⟨x,1,none⟩=some (.slice d1 d2 d3)/\w'.cell? ⟨R4,i,none⟩=some (.slice (some ⟨rg,0,none⟩) nn rc)/\w'.cell? ⟨rg,(n+k)*2,none⟩=some (.bool z0)/\w'.cell? ⟨rg,(n+k)*2+1,none⟩=some (.slice z1 z2 z3))) 17 (by kernel_rfl) rfl (by kernel_rfl) (by kernel_rfl) rfl (by exact KSz.out) (fun hHeld=>?_);simp only [List.pop_toArray,List.dropLast_cons_cons,List.dropLast_singleton];refine tkH 0 ?_;refine tkH 1 ?_;refine tkH 2 ?_;refine tkH 3 ?_;refine tkH 4 ?_;refine tkH 5 ?_;refine tkH 6 ?_;refine tkH 7 ?_;refine tkH 8 ?_;refine tkH 9 ?_;refine tkH 10 ?_;refine tkH 11 ?_;refine tkH 12 ?_;refine tkH 14 ?_;refine tkH 15 ?_
 try simp only [Act.put,tkA,tkB,tkC]
 refine tkS 13 fun K hK=>?_
 go_simp
 (go_at_call 37;(with_reducible refine (zCl _ _ z D _ (HZ.out.below HWz.out) (HD.out.below HWz.out) oMx oMx).mono ?_);rintro e wa ⟨va,rfl,hv,hb⟩;have hw:=HWz.out.trans (hb.mono HWz.out.size);have HWa:=oH hw;have HKa:=oH (HKz.out.below hb);have HVa:=oH hv;obtain ⟨ma,Ma,la,ca,rfl⟩:=hv.slice;have KSa:=oH (KB.out wa hw);clear hv hb hw)
 go_wp2_with fail;refine hK.out _ _ ?_ (fun hHeld=>?_)
 ·exact kSx
 clear hK K
 try simp only [Act.put,tkA,tkB,tkC]
 refine tkS 16 fun K hK=>?_
 go_simp
 (go_at_call 36;(with_reducible refine (zCp _ _ (z*D) sv _ HVa.out (HV.out.below HWa.out) oMx oMx hdz).mono ?_);rintro e wb ⟨vb,rfl,hv,hb⟩;have hw:=HWa.out.trans (hb.mono HWa.out.size);have HWb:=oH hw;have HKb:=oH (HKa.out.below hb);have HVb:=oH hv;obtain ⟨rb0,rb4,rb1,rb5,rb2,rb3,rb6,rb7,rfl⟩:=hv.slice;have KSb:=oH (KB.out wb hw);clear hv hb hw)
 go_wp2_with fail;refine hK.out _ _ ?_ (fun hHeld=>?_)
 ·exact kSx
 clear hK K
 try simp only [Act.put,tkA,tkB,tkC]
 refine wpAnyH_done (by kernel_rfl) ?_ _;simp only [xCo,List.getElem_toArray,List.getElem_cons_succ,List.getElem_cons_zero];have hk2:=HKb.out;have e0:=hk2.at_ (i:=0) rfl;have e1:=hk2.at_ (i:=1) rfl;have e2:=hk2.at_ (i:=2) rfl;have e3:=hk2.at_ (i:=3) rfl;have f0:=hk2.fr 0;have f1:=hk2.fr 1;have f2:=hk2.fr 2;have f3:=hk2.fr 3;clear hk2;go_wp2_with fail;clear e0 e1 e2 e3 f0 f1 f2 f3;have hb4:=blk_set4 (v:=⟨rb0,rb1,rb2,rb3,rb4,rb5,rb6,rb7⟩) HKb.out;have hf4:=zNm HKb.out HVb.out ⟨rb0,rb1,rb2,rb3,rb4,rb5,rb6,rb7⟩;have hB4:=zIn HWb.out lRx (.bool rb0) (.slice rb1 rb2 rb3) (.bool rb4) (.slice rb5 rb6 rb7);simp only at hb4 hf4;generalize ((((wb.setCell ⟨w.heap.size,0,none⟩ (.bool rb0)).setCell ⟨w.heap.size,1,none⟩ (.slice rb1 rb2 rb3)).setCell ⟨w.heap.size,2,none⟩ (.bool rb4)).setCell ⟨w.heap.size,3,none⟩ (.slice rb5 rb6 rb7))=w9 at *;have c0:=hb4.at_ (i:=0) rfl;have c1:=hb4.at_ (i:=1) rfl;have c2:=hb4.at_ (i:=2) rfl
 have c3:=hb4.at_ (i:=3) rfl;refine bodyPost_ret (v := .agg #[.bool rb0,.slice rb1 rb2 rb3,.bool rb4,.slice rb5 rb6 rb7]) ?_ rfl ⟨_,rfl,hf4,hB4⟩
 simp [results,Tryz.results49,go_sem,c0,c1,c2,c3]
noncomputable def zOr (rs:List zGh) (i k:Nat):Int:=if k<rs.length then zRg rs i k else zOk i (k-rs.length)
noncomputable def invQ (rs:List zGh) (s:zAr) (i k:Nat):Rat:=Rat.divInt (s.P i (rs.length+k)*zQz rs) s.v
def zBk (heavy:Bool) (s:zAr) (m:Nat) (q:mRx) (w:World) (e:Ending) (w':World):Prop :=
 match heavy with
 | true=>e = .returned (.tuple #[.slice none 0 0,.int .i64 3])/\Below w.heap.size w w'
 | false=>(s.ps.length<m/\e = .returned (.tuple #[.slice none 0 0,.int .i64 6])/\Below w.heap.size w w')\/(s.ps.length=m/\zFs w m m q e w')
theorem inv_LL {rs:List zGh} (hf:zBb rs rs.length) (hm1:1<=rs.length) (h1:¬600<zOh rs rs.length):∀ i k,i<rs.length->LL (zOr rs i k)<=70:=fun i k hi=>by
 unfold zOr
 split
 ·exact zPo hf hm1 oMx i k hi
 unfold zOk
 split
 ·exact Nat.le_trans zBz dCx
 exact Nat.le_trans (show LL 0<=1 from by unfold LL;rw [Int.natAbs_zero,zQo];decide) dCx
theorem zBl (A:oAx) (c:Nat) (rs:List zGh) (w:World) (h:zCj w A rs) (hf:zBb rs rs.length) (hm1:1<=rs.length) (henv:Env w) :
  Calls Tryz.prog 16 #[.slice A rs.length c] w (zBk (decide (600<zOh rs rs.length)) (eli rs.length (zOr rs) rs.length) rs.length (invQ rs (eli rs.length (zOr rs) rs.length)) w):=by
 obtain ⟨i0,hi,hz0,hz1,hz2⟩:=info_parts Tryz.infoNum;generalize hQ:zBk (decide (600<zOh rs rs.length)) (eli rs.length (zOr rs) rs.length) rs.length (invQ rs (eli rs.length (zOr rs) rs.length)) w=Q;replace hQ:=oH hQ;have hbl:Below w.heap.size w (w.alloc (.cells #[.slice A rs.length c] 24)):=bA;have HM:=oH h;have HF:=oH hf;have HE:=oH henv;have HB:=oH hbl;have HK:=oH (Blk.new w 24 [.slice A rs.length c]);have hm12:=hf.m;have HSQ:=oH (xAo A rs c _ (h.below hbl) hf (henv.below hbl));clear h hf henv hbl
 go_enter Tryz.func16,Tryz.ntmps16
 go_wp2_with fail;refine HSQ.mono ?_;rintro e w1 ⟨rfl,hb1⟩;have HB1:=bTx2 HB hb1;have HK1:=oH (HK.below hb1);have k1:=HK1.at_ (i:=0) rfl;have HHV:=zBh A c rs.length rs w1 (HM.below HB1.out) HF.out hm1 hm1 (HE.below HB1.out);clear hb1 HSQ HK
 by_cases hh:600<zOh rs rs.length
 ·rw [show decide (600<zOh rs rs.length)=true from by simpa using hh] at HHV hQ;replace HHV:=oH HHV;clear hh;go_wp2_with fail;refine HHV.mono ?_;rintro e w2 ⟨rfl,hb2⟩;have HB2:=bTx2 HB1 hb2;clear hb2 k1;go_wp2_with fail;rw [<-hQ.out];exact ⟨rfl,HB2.out⟩
 rw [show decide (600<zOh rs rs.length)=false from by simpa using hh] at HHV hQ;replace HHV:=oH HHV;have HH:=oH hh;clear hh;go_wp2_with fail;refine HHV.mono ?_;rintro e w2 ⟨rfl,hb2⟩;have HB2:=bTx2 HB1 hb2;have HK2:=oH (HK1.below hb2);have HGW:=oH HK2.lt;clear k1 HHV;have k2:=HK2.at_ (i:=0) rfl;have HOF:=oH (zCs A c rs.length rs w2 (HM.below HB2.out) HF.out hm1 hm1 (HE.below HB2.out));clear hb2 HK1;go_wp2_with fail;refine HOF.mono ?_;rintro e w5 ⟨R,cR,rows,dv,rfl,hl,ht,hnV,hnr,hd,hb5⟩;have HB5:=bTx2 HB2 hb5;have HK5:=oH (HK2.below hb5);have HTW:=oH ((show zHa w2.heap.size w5 (.slice (some ⟨R,0,none⟩) rows.length cR) rows rs.length (zRg rs) by rw [hl];exact ht).toW hnr);have HL:=oH hl;have HLU:=oH ht.l;have HD:=oH hd;have HS25:=oH hb5.size;clear hb5 ht hnV hnr hd hl k2 HOF;go_wp2_with fail;have HX7:=oH (Blk.new w5 65 [.bool dv.nb,.slice dv.ad dv.l dv.c,.slice (some ⟨R,0,none⟩) rs.length cR])
 have hbW:Below w5.heap.size w5 (w5.alloc (.cells #[.bool dv.nb,.slice dv.ad dv.l dv.c,.slice (some ⟨R,0,none⟩) rs.length cR] 65)):=bA
 have HS0:=oH (show zGp w2.heap.size w5.heap.size (w5.heap.size+1) (w5.alloc (.cells #[.bool dv.nb,.slice dv.ad dv.l dv.c,.slice (some ⟨R,0,none⟩) rs.length cR] 65)) (w5.alloc (.cells #[.bool dv.nb,.slice dv.ad dv.l dv.c,.slice (some ⟨R,0,none⟩) rs.length cR] 65)) R cR rows (zOr rs) from
  ⟨(HTW.below hbW).congr (fun i hi k hk=>by
   have h9:=HLU.out _ (List.getElem_mem hi);unfold zOr
   rw [if_pos oMx]),fun k _ _=>rfl,fun v y hv=>hv,fun r hr => .inl ((HTW.r r hr).lt _ rfl).2,.inl (HTW.o.lt R rfl).2,bRx,by simp,by have:=HS25.out;simp;omega⟩)
 have HLR:=oH (fun j (hj:j<rows.length)=>HLU.out _ (List.getElem_mem hj));have HKW:=oH (HK5.below hbW);have HBW:=bTx2 HB5 hbW;have HDW:=oH (HD.below hbW);clear hbW HK5 HK2;generalize (w5.alloc (.cells #[.bool dv.nb,.slice dv.ad dv.l dv.c,.slice (some ⟨R,0,none⟩) rs.length cR] 65))=W0 at *;generalize w5.heap.size=x at *
 go_loopw [22] (fun iv wr=>∃ (i:Nat) (rw:List zGg),iv = .int .i64 (i:Int)/\i<=rs.length/\rw.length=rs.length/\(∀ j,(h:j<rw.length)->rw[j].us.length=if j<i then rs.length+rs.length else rs.length)/\zGp w2.heap.size x (x+1) W0 wr R cR rw (zOr rs)) (fun iv _=>rs.length-(intOf iv).toNat)
 ·exact ⟨0,rows,rfl,oLx,HL.out,fun j hj=>by rw [if_neg oMx];exact HLR.out j hj,HS0.out⟩
 obtain ⟨i,rw,rfl,hi2,hrl,hul,hts⟩:=hrel;obtain ⟨wi,rfl⟩:=nWx wr
 by_cases hlt:i<rs.length
 ·have kA:=((show Blk wi w.heap.size 24 [.slice A rs.length c] from (hts.bel.block w.heap.size HGW.out).trans HKW.out)).at_ (i:=0) rfl
  have i1:(0:Int)<=(i:Int):=by omega
  have i2:(i:Int)<(rs.length:Int):=by omega
  have HTS:=oH hts;have HRL0:=oH hrl;have HUL0:=oH hul;clear hts hrl hul HS0;go_wp2_with fail
  go_loopw [27] (fun kv wk=>∃ (k:Nat) (rv:List zGg),kv = .int .i64 (k:Int)/\k<=rs.length/\rv.length=rs.length/\(∀ j,(h:j<rv.length)->rv[j].us.length=if j<i then rs.length+rs.length else if j=i then rs.length+k else rs.length)/\zGp w2.heap.size x (x+1) W0 wk R cR rv (zOr rs)) (fun kv _=>rs.length-(intOf kv).toNat)
  ·exact ⟨0,rw,rfl,oLx,HRL0.out,fun j hj=>by
   rw [HUL0.out j hj]
   by_cases e:j<i
   ·rw [if_pos e,if_pos e]
   rw [if_neg e,if_neg e]
   split<;>rfl,HTS.out⟩
  clear HTS kA;obtain ⟨k,rv,rfl,hk2,hrl,hul,hts⟩:=hrel;have HRL:=oH hrl;have HUL:=oH hul;have HTV:=oH hts
  have hrl2:rv.length<=rs.length/\rs.length<=rv.length:=by omega
  by_cases hlt2:k<rs.length
  ·have i3:(0:Int)<=(k:Int):=by omega
   have i4:(k:Int)<(rs.length:Int):=by omega
   clear hts hrl hul;go_wp2_with fail;refine (zCa 0 _ dCx).mono ?_;rintro e w6 ⟨v6,rfl,hv6,hb6⟩;obtain ⟨n6,A6,l6,c6,rfl⟩:=hv6.slice;have HV6:=oH hv6;have HB6:=oH hb6;clear hv6 hb6
   by_cases hik:i=k
   ·have hx1:((i:Int)==(k:Int))=true:=by simp;omega
    have HIK:=oH hik;clear hik;go_wp2_with fail;clear hx1;refine (zCb _).mono ?_;rintro e w7 ⟨v7,rfl,hv7,hb7⟩;obtain ⟨nbz,Sz,lz,cz,rfl⟩:=hv7.slice;have hk7:=(Blk.new w6 62 [.bool n6,.slice A6 l6 c6]).below hb7;have q0:=hk7.at_ (i:=0) rfl;have q1:=hk7.at_ (i:=1) rfl;have q2:=hk7.fr 0;have q3:=hk7.fr 1;have hbA:Below wr.heap.size wr (w6.alloc (.cells #[.bool n6,.slice A6 l6 c6] 62)):=HB6.alloc HB6.size _;have HZQ:=oH (hk7.set2 (.bool nbz) (.slice Sz lz cz));have HBQ:=oH (zIm (hbA.trans (hb7.mono hbA.size)) HB6.size (.bool nbz) (.slice Sz lz cz))
    have HNQ:=oH (show zBs ((w7.setCell ⟨w6.heap.size,0,none⟩ (.bool nbz)).setCell ⟨w6.heap.size,1,none⟩ (.slice Sz lz cz)) (.agg #[.bool nbz,.slice Sz lz cz]) (zOk i k) from by
     have e9:zOk i k=1:=if_pos HIK.out;rw [e9]
     have n0:∀ a∈[Value.bool n6,.slice A6 l6 c6],∀ z,a ≠ .int .u64 z:=fun a ha=>by
      simp at ha
      rcases ha with rfl|rfl<;>intro z e<;>cases e
     exact (hv7.box hk7 n0 (zOc _ _ _)).box (hk7.set 0 (.bool nbz)) (zSl n0 (fun z e=>by cases e)) (zOc _ _ _))
    have HZW:=oH HB6.size;clear hk7 hbA hv7 hb7 HV6;go_wp2_with fail;clear q0 q1 q2 q3;generalize ((w7.setCell ⟨w6.heap.size,0,none⟩ (.bool nbz)).setCell ⟨w6.heap.size,1,none⟩ (.slice Sz lz cz))=wq at *;generalize w6.heap.size=z at *;have hbq:=HBQ.out;have hts:=HTV.below hbq
    have hi3:i<rv.length:=by omega
    have d0:=HX7.at_ (i:=2) rfl;have huli:=HUL.out i hi3;rw [if_neg oMx,if_pos rfl] at huli;have hmem:=List.getElem_mem hi3;obtain ⟨r,hr⟩:=eXx (rv[i]);have HRE:=oH hr;rw [hr] at huli hmem;obtain ⟨rg,rc,us⟩:=r;replace huli:us.length=rs.length+k:=huli;obtain ⟨nk,hnk⟩:=eXx (us.length);have HNK:=oH hnk
    have hk3:nk<=rs.length+k:=by omega
    have hk4:rs.length+k<=nk:=by omega
    have hself:zGg.self ⟨rg,rc,us⟩ = .slice (some ⟨rg,0,none⟩) nk rc:=zYy hnk;have hta:=(hts.alloc (.cells #[.bool nbz,.slice Sz lz cz] 62)).drew;have HNZ:=oH (show zBs (wq.alloc (.cells #[.bool nbz,.slice Sz lz cz] 62)).drew (zCq.val ⟨nbz,Sz,lz,cz⟩) (zOk i k) from HNQ.below bA.drew)
    have HOA:=oH (show (wq.alloc (.cells #[.bool nbz,.slice Sz lz cz] 62)).drew.ownsRow w2.heap.size 62 2 (.slice (some ⟨rg,0,none⟩) nk rc) nk (zTd us) from by
     have h9:=hta.tab.r _ hmem;rw [hself,hnk] at h9
     exact h9)
    have HNA:=oH (show NoU (wq.alloc (.cells #[.bool nbz,.slice Sz lz cz] 62)).drew (.slice (some ⟨rg,0,none⟩) nk rc) from by
     have h9:=hta.tab.nor _ hmem;rw [hself] at h9
     exact h9)
    have HBA:=oH (show w2.heap.size<=(wq.alloc (.cells #[.bool nbz,.slice Sz lz cz] 62)).drew.heap.size from Nat.le_trans hta.B0 hta.bel.size)
    have HGR:=oH (fun (g2 cap2:Nat) (w8:World) (h1:w8.ownsRow w2.heap.size 62 2 (.slice (some ⟨g2,0,none⟩) (nk+1) cap2) (nk+1) (zTd us++[.bool nbz,.slice Sz lz cz])) (h2:(wq.alloc (.cells #[.bool nbz,.slice Sz lz cz] 62)).drew.grownBy w8 (Value.slice (some ⟨rg,0,none⟩) nk rc).ownBlock) (h3:NoU w8 (.slice (some ⟨g2,0,none⟩) (nk+1) cap2)) (h4:(Value.slice (some ⟨rg,0,none⟩) nk rc).ownBlock=some g2\/g2=(wq.alloc (.cells #[.bool nbz,.slice Sz lz cz] 62)).drew.heap.size) =>
     (show zGp w2.heap.size x (x+1) W0 (w8.setCell ⟨R,i,none⟩ (.slice (some ⟨g2,0,none⟩) (nk+1) cap2)) R cR (rv.set i ⟨g2,cap2,us++[⟨nbz,Sz,lz,cz⟩]⟩) (zOr rs) from by
      have e1:zGg.self ⟨g2,cap2,us++[⟨nbz,Sz,lz,cz⟩]⟩ = .slice (some ⟨g2,0,none⟩) (nk+1) cap2:=zYy (by simp only [List.length_append,List.length_singleton];omega);have h9:=hta.grow (w8:=w8) hi3 (r2:=⟨g2,cap2,us++[⟨nbz,Sz,lz,cz⟩]⟩) (u:=⟨nbz,Sz,lz,cz⟩) (z:=zOk i k) (by rw [HRE.out]) HNZ.out (by rw [HRE.out];show zOr rs i us.length=_;rw [huli];unfold zOr;rw [if_neg oMx,Nat.add_sub_cancel_left]) (by rw [e1,show (us++[(⟨nbz,Sz,lz,cz⟩:zCq)]).length=nk+1 by simp only [List.length_append,List.length_singleton];omega,zTi];exact h1) (by rw [HRE.out,hself];exact h2) (by rw [e1];exact h3) (by rw [HRE.out];exact h4.imp (fun h5=>by injection h5 with h6) id);rw [e1] at h9
      exact h9))
    have HRM:=oH (fun (w8:World) (h2:(wq.alloc (.cells #[.bool nbz,.slice Sz lz cz] 62)).drew.grownBy w8 (Value.slice (some ⟨rg,0,none⟩) nk rc).ownBlock)=>(show w8.cell? ⟨R,i,none⟩=some (.slice (some ⟨rg,0,none⟩) nk rc)/\w8.frozen? ⟨R,i,none⟩=false from by
     have h9:=hta.rowMid hi3 (w8:=w8) (by rw [HRE.out,hself];exact h2);rw [HRE.out,hself] at h9
     exact h9))
    have hzlt:=HZQ.lt;have hrg:=(hta.tab.r _ hmem);rw [hself] at hrg
    have hrgb:rg<wr.heap.size:=by
     have h9:=(HTV.tab.r _ hmem);rw [hself] at h9;exact (h9.lt rg rfl).2
    have zq0:=HZQ.at_ (i:=0) rfl;have zq1:=HZQ.at_ (i:=1) rfl;have zq2:=((HZQ.alloc (.cells #[.bool nbz,.slice Sz lz cz] 62)).below bRx.drew)
    have HMD:=oH (fun (w8:World) (h2:(wq.alloc (.cells #[.bool nbz,.slice Sz lz cz] 62)).drew.grownBy w8 (Value.slice (some ⟨rg,0,none⟩) nk rc).ownBlock)=>(show w8.cell? ⟨x,2,none⟩=some (.slice (some ⟨R,0,none⟩) rs.length cR)/\w8.cell? ⟨z,0,none⟩=some (.bool nbz)/\w8.cell? ⟨z,1,none⟩=some (.slice Sz lz cz) from by
     have h3:(wq.alloc (.cells #[.bool nbz,.slice Sz lz cz] 62)).drew.grownBy w8 rv[i].self.ownBlock:=by rw [HRE.out,hself];exact h2
     have h4:Blk w8 z 62 [.bool nbz,.slice Sz lz cz]:=(h2.block z (zq2.lt) (fun e=>by
      have e2:z=rg:=by injection e
      have:=HZW.out
      omega)).trans zq2
     exact ⟨(hta.mid hi3 h3 (by show x<=x;omega) (by show x<x+1;omega)).trans d0,h4.at_ (i:=0) rfl,h4.at_ (i:=1) rfl⟩))
    have p0:=(hts.cell (p:=⟨x,2,none⟩) (by show x<=x;omega) (by show x<x+1;omega)).trans d0;have p5:=(hts.rowAt hi3).1;have p5a:=(hta.rowAt hi3).1;rw [HRE.out,hself] at p5 p5a;have KS0:Hid (wq.drew.cell? ⟨x,2,none⟩=some (.slice (some ⟨R,0,none⟩) rs.length cR)/\wq.drew.cell? ⟨z,0,none⟩=some (.bool nbz)/\wq.drew.cell? ⟨z,1,none⟩=some (.slice Sz lz cz)):=oH ⟨p0,zq0,zq1⟩;have KSA:Hid ((wq.alloc (.cells #[.bool nbz,.slice Sz lz cz] 62)).drew.cell? ⟨x,2,none⟩=some (.slice (some ⟨R,0,none⟩) rs.length cR)/\(wq.alloc (.cells #[.bool nbz,.slice Sz lz cz] 62)).drew.cell? ⟨z,0,none⟩=some (.bool nbz)/\(wq.alloc (.cells #[.bool nbz,.slice Sz lz cz] 62)).drew.cell? ⟨z,1,none⟩=some (.slice Sz lz cz)):=oH ⟨(hta.cell (p:=⟨x,2,none⟩) (by show x<=x;omega) (by show x<x+1;omega)).trans d0,zq2.at_ (i:=0) rfl,zq2.at_ (i:=1) rfl⟩
    have nR0:¬(R=x):=by rcases hts.Rout with h9|h9<;>omega
    have nR1:¬(x=R):=by omega
    have hRw:R<wr.heap.size:=(HTV.tab.o.lt R rfl).2;have hzw:=HZW.out
    have nR2:¬(R=z):=by omega
    have nR3:¬(z=R):=by omega
    clear hta hts huli hself hmem hr hnk d0 hzlt hrg hrgb zq0 zq1 zq2 hRw hzw hbq;go_wp2_with fail;refine xGe (S:=(fun w'=>w'.cell? ⟨R,i,none⟩=some (.slice (some ⟨rg,0,none⟩) nk rc)/\w'.cell? ⟨x,2,none⟩=some (.slice (some ⟨R,0,none⟩) rs.length cR)/\w'.cell? ⟨z,0,none⟩=some (.bool nbz)/\w'.cell? ⟨z,1,none⟩=some (.slice Sz lz cz))) 12 (by kernel_rfl) rfl (by kernel_rfl) (by kernel_rfl) rfl (by exact ⟨p5,KS0.out⟩) (fun hHeld=>?_);simp only [List.pop_toArray,List.dropLast_cons_cons,List.dropLast_singleton];refine tkH 0 ?_;refine tkH 1 ?_;refine tkH 2 ?_;refine tkH 3 ?_;refine tkH 4 ?_;refine tkH 5 ?_;refine tkH 6 ?_;refine tkH 7 ?_;refine tkH 8 ?_
    try simp only [Act.put,tkA,tkB,tkC]
    refine tkS 9 fun K hK=>?_
    go_simp
    refine hK.out _ _ ?_ (fun hHeld=>?_)
    ·first|exact ⟨p5,KS0.out⟩|exact ⟨p5a,KSA.out⟩|exact ⟨u6,KS8.out⟩
    clear hK K
    try simp only [Act.put,tkA,tkB,tkC]
    refine tkS 10 fun K hK=>?_
    (refine xAw _ (by rfl) _ _ _ (by rfl) w2.heap.size 62 i0 _ 2 32 Tryz.underlying67 hi hz0 hz1 hz2 rfl dCx (.slice (some ⟨rg,0,none⟩) nk rc) nk (zTd us) (by go_simp) HOA.out ⟨wq.heap.size,0,none⟩ 1 1 [.bool nbz,.slice Sz lz cz] (by go_simp) rfl (World.news_of_block (cs:=#[.bool nbz,.slice Sz lz cz]) (t:=62) (fr:=(0,0)) (heap_alloc_new wq _)) xDo oMx (by unfold maxLen;omega) oMx HBA.out HNA.out zTk zTj ?_;intro g2 cap2 w8 hown8 hgrow8 hno8 hgg8;have HG:=oH (HGR.out g2 cap2 w8 hown8 hgrow8 hno8 hgg8);have hrm:=HRM.out w8 hgrow8;have u6:=hrm.1;have u7:=hrm.2;have KS8:=oH (HMD.out w8 hgrow8);obtain ⟨u0,u1,u2⟩:=KS8.out;clear hown8 hgrow8 hno8 hgg8 hrm)
    refine hK.out _ _ ?_ (fun hHeld=>?_)
    ·first|exact ⟨p5,KS0.out⟩|exact ⟨p5a,KSA.out⟩|exact ⟨u6,KS8.out⟩
    clear hK K
    try simp only [Act.put,tkA,tkB,tkC]
    refine tkH 11 ?_
    try simp only [Act.put,tkA,tkB,tkC]
    refine wpAnyH_done (by kernel_rfl) ?_ _;simp only [xCo,List.getElem_toArray,List.getElem_cons_succ,List.getElem_cons_zero]
    all_goals
     go_wp2_with fail;go_roundw
     ·exact ⟨k+1,rv.set i ⟨g2,cap2,us++[⟨nbz,Sz,lz,cz⟩]⟩,by go_num,oMx,by rw [List.length_set];exact HRL.out,fun j hj=>by
      have hj':j<rv.length:=by simpa using hj
      by_cases e:j=i
      ·subst e;rw [List.getElem_set_self,if_neg oMx,if_pos rfl];simp only [List.length_append,List.length_singleton];have h8:=HNK.out;omega
      rw [List.getElem_set_ne (Ne.symm e),HUL.out j hj']
      by_cases e2:j<i
      ·rw [if_pos e2,if_pos e2]
      rw [if_neg e2,if_neg e2,if_neg e,if_neg e],HG.out⟩
     simp [intOf];omega
   have hx1:((i:Int)==(k:Int))=false:=by simp;omega
   have HIK:=oH hik;clear hik;have HZQ:=oH (Blk.new w6 62 [.bool n6,.slice A6 l6 c6]);have HBQ:=oH (show Below wr.heap.size wr (w6.alloc (.cells #[.bool n6,.slice A6 l6 c6] 62)) from HB6.alloc HB6.size _)
   have HNQ:=oH (show zBs (w6.alloc (.cells #[.bool n6,.slice A6 l6 c6] 62)) (.agg #[.bool n6,.slice A6 l6 c6]) (zOk i k) from by
    have e9:zOk i k=0:=if_neg HIK.out;rw [e9]
    exact HV6.below (bA))
   have HZW:=oH HB6.size;clear HV6;go_wp2_with fail;clear hx1;generalize (w6.alloc (.cells #[.bool n6,.slice A6 l6 c6] 62))=wq at *;generalize w6.heap.size=z at *;generalize n6=nbz at *;generalize A6=Sz at *;generalize l6=lz at *;generalize c6=cz at *;have hbq:=HBQ.out;have hts:=HTV.below hbq
   have hi3:i<rv.length:=by omega
   have d0:=HX7.at_ (i:=2) rfl;have huli:=HUL.out i hi3;rw [if_neg oMx,if_pos rfl] at huli;have hmem:=List.getElem_mem hi3;obtain ⟨r,hr⟩:=eXx (rv[i]);have HRE:=oH hr;rw [hr] at huli hmem;obtain ⟨rg,rc,us⟩:=r;replace huli:us.length=rs.length+k:=huli;obtain ⟨nk,hnk⟩:=eXx (us.length);have HNK:=oH hnk
   have hk3:nk<=rs.length+k:=by omega
   have hk4:rs.length+k<=nk:=by omega
   have hself:zGg.self ⟨rg,rc,us⟩ = .slice (some ⟨rg,0,none⟩) nk rc:=zYy hnk;have hta:=(hts.alloc (.cells #[.bool nbz,.slice Sz lz cz] 62)).drew;have HNZ:=oH (show zBs (wq.alloc (.cells #[.bool nbz,.slice Sz lz cz] 62)).drew (zCq.val ⟨nbz,Sz,lz,cz⟩) (zOk i k) from HNQ.below bA.drew)
   have HOA:=oH (show (wq.alloc (.cells #[.bool nbz,.slice Sz lz cz] 62)).drew.ownsRow w2.heap.size 62 2 (.slice (some ⟨rg,0,none⟩) nk rc) nk (zTd us) from by
    have h9:=hta.tab.r _ hmem;rw [hself,hnk] at h9
    exact h9)
   have HNA:=oH (show NoU (wq.alloc (.cells #[.bool nbz,.slice Sz lz cz] 62)).drew (.slice (some ⟨rg,0,none⟩) nk rc) from by
    have h9:=hta.tab.nor _ hmem;rw [hself] at h9
    exact h9)
   have HBA:=oH (show w2.heap.size<=(wq.alloc (.cells #[.bool nbz,.slice Sz lz cz] 62)).drew.heap.size from Nat.le_trans hta.B0 hta.bel.size)
   have HGR:=oH (fun (g2 cap2:Nat) (w8:World) (h1:w8.ownsRow w2.heap.size 62 2 (.slice (some ⟨g2,0,none⟩) (nk+1) cap2) (nk+1) (zTd us++[.bool nbz,.slice Sz lz cz])) (h2:(wq.alloc (.cells #[.bool nbz,.slice Sz lz cz] 62)).drew.grownBy w8 (Value.slice (some ⟨rg,0,none⟩) nk rc).ownBlock) (h3:NoU w8 (.slice (some ⟨g2,0,none⟩) (nk+1) cap2)) (h4:(Value.slice (some ⟨rg,0,none⟩) nk rc).ownBlock=some g2\/g2=(wq.alloc (.cells #[.bool nbz,.slice Sz lz cz] 62)).drew.heap.size) =>
    (show zGp w2.heap.size x (x+1) W0 (w8.setCell ⟨R,i,none⟩ (.slice (some ⟨g2,0,none⟩) (nk+1) cap2)) R cR (rv.set i ⟨g2,cap2,us++[⟨nbz,Sz,lz,cz⟩]⟩) (zOr rs) from by
     have e1:zGg.self ⟨g2,cap2,us++[⟨nbz,Sz,lz,cz⟩]⟩ = .slice (some ⟨g2,0,none⟩) (nk+1) cap2:=zYy (by simp only [List.length_append,List.length_singleton];omega);have h9:=hta.grow (w8:=w8) hi3 (r2:=⟨g2,cap2,us++[⟨nbz,Sz,lz,cz⟩]⟩) (u:=⟨nbz,Sz,lz,cz⟩) (z:=zOk i k) (by rw [HRE.out]) HNZ.out (by rw [HRE.out];show zOr rs i us.length=_;rw [huli];unfold zOr;rw [if_neg oMx,Nat.add_sub_cancel_left]) (by rw [e1,show (us++[(⟨nbz,Sz,lz,cz⟩:zCq)]).length=nk+1 by simp only [List.length_append,List.length_singleton];omega,zTi];exact h1) (by rw [HRE.out,hself];exact h2) (by rw [e1];exact h3) (by rw [HRE.out];exact h4.imp (fun h5=>by injection h5 with h6) id);rw [e1] at h9
     exact h9))
   have HRM:=oH (fun (w8:World) (h2:(wq.alloc (.cells #[.bool nbz,.slice Sz lz cz] 62)).drew.grownBy w8 (Value.slice (some ⟨rg,0,none⟩) nk rc).ownBlock)=>(show w8.cell? ⟨R,i,none⟩=some (.slice (some ⟨rg,0,none⟩) nk rc)/\w8.frozen? ⟨R,i,none⟩=false from by
    have h9:=hta.rowMid hi3 (w8:=w8) (by rw [HRE.out,hself];exact h2);rw [HRE.out,hself] at h9
    exact h9))
   have hzlt:=HZQ.lt;have hrg:=(hta.tab.r _ hmem);rw [hself] at hrg
   have hrgb:rg<wr.heap.size:=by
    have h9:=(HTV.tab.r _ hmem);rw [hself] at h9;exact (h9.lt rg rfl).2
   have zq0:=HZQ.at_ (i:=0) rfl;have zq1:=HZQ.at_ (i:=1) rfl;have zq2:=((HZQ.alloc (.cells #[.bool nbz,.slice Sz lz cz] 62)).below bRx.drew)
   have HMD:=oH (fun (w8:World) (h2:(wq.alloc (.cells #[.bool nbz,.slice Sz lz cz] 62)).drew.grownBy w8 (Value.slice (some ⟨rg,0,none⟩) nk rc).ownBlock)=>(show w8.cell? ⟨x,2,none⟩=some (.slice (some ⟨R,0,none⟩) rs.length cR)/\w8.cell? ⟨z,0,none⟩=some (.bool nbz)/\w8.cell? ⟨z,1,none⟩=some (.slice Sz lz cz) from by
    have h3:(wq.alloc (.cells #[.bool nbz,.slice Sz lz cz] 62)).drew.grownBy w8 rv[i].self.ownBlock:=by rw [HRE.out,hself];exact h2
    have h4:Blk w8 z 62 [.bool nbz,.slice Sz lz cz]:=(h2.block z (zq2.lt) (fun e=>by
     have e2:z=rg:=by injection e
     have:=HZW.out
     omega)).trans zq2
    exact ⟨(hta.mid hi3 h3 (by show x<=x;omega) (by show x<x+1;omega)).trans d0,h4.at_ (i:=0) rfl,h4.at_ (i:=1) rfl⟩))
   have p0:=(hts.cell (p:=⟨x,2,none⟩) (by show x<=x;omega) (by show x<x+1;omega)).trans d0;have p5:=(hts.rowAt hi3).1;have p5a:=(hta.rowAt hi3).1;rw [HRE.out,hself] at p5 p5a;have KS0:Hid (wq.drew.cell? ⟨x,2,none⟩=some (.slice (some ⟨R,0,none⟩) rs.length cR)/\wq.drew.cell? ⟨z,0,none⟩=some (.bool nbz)/\wq.drew.cell? ⟨z,1,none⟩=some (.slice Sz lz cz)):=oH ⟨p0,zq0,zq1⟩;have KSA:Hid ((wq.alloc (.cells #[.bool nbz,.slice Sz lz cz] 62)).drew.cell? ⟨x,2,none⟩=some (.slice (some ⟨R,0,none⟩) rs.length cR)/\(wq.alloc (.cells #[.bool nbz,.slice Sz lz cz] 62)).drew.cell? ⟨z,0,none⟩=some (.bool nbz)/\(wq.alloc (.cells #[.bool nbz,.slice Sz lz cz] 62)).drew.cell? ⟨z,1,none⟩=some (.slice Sz lz cz)):=oH ⟨(hta.cell (p:=⟨x,2,none⟩) (by show x<=x;omega) (by show x<x+1;omega)).trans d0,zq2.at_ (i:=0) rfl,zq2.at_ (i:=1) rfl⟩
   have nR0:¬(R=x):=by rcases hts.Rout with h9|h9<;>omega
   have nR1:¬(x=R):=by omega
   have hRw:R<wr.heap.size:=(HTV.tab.o.lt R rfl).2;have hzw:=HZW.out
   have nR2:¬(R=z):=by omega
   have nR3:¬(z=R):=by omega
   clear hta hts huli hself hmem hr hnk d0 hzlt hrg hrgb zq0 zq1 zq2 hRw hzw hbq;go_wp2_with fail;refine xGe (S:=(fun w'=>w'.cell? ⟨R,i,none⟩=some (.slice (some ⟨rg,0,none⟩) nk rc)/\w'.cell? ⟨x,2,none⟩=some (.slice (some ⟨R,0,none⟩) rs.length cR)/\w'.cell? ⟨z,0,none⟩=some (.bool nbz)/\w'.cell? ⟨z,1,none⟩=some (.slice Sz lz cz))) 12 (by kernel_rfl) rfl (by kernel_rfl) (by kernel_rfl) rfl (by exact ⟨p5,KS0.out⟩) (fun hHeld=>?_);simp only [List.pop_toArray,List.dropLast_cons_cons,List.dropLast_singleton];refine tkH 0 ?_;refine tkH 1 ?_;refine tkH 2 ?_;refine tkH 3 ?_;refine tkH 4 ?_;refine tkH 5 ?_;refine tkH 6 ?_;refine tkH 7 ?_;refine tkH 8 ?_
   try simp only [Act.put,tkA,tkB,tkC]
   refine tkS 9 fun K hK=>?_
   go_simp
   refine hK.out _ _ ?_ (fun hHeld=>?_)
   ·first|exact ⟨p5,KS0.out⟩|exact ⟨p5a,KSA.out⟩|exact ⟨u6,KS8.out⟩
   clear hK K
   try simp only [Act.put,tkA,tkB,tkC]
   refine tkS 10 fun K hK=>?_
   (refine xAw _ (by rfl) _ _ _ (by rfl) w2.heap.size 62 i0 _ 2 32 Tryz.underlying67 hi hz0 hz1 hz2 rfl dCx (.slice (some ⟨rg,0,none⟩) nk rc) nk (zTd us) (by go_simp) HOA.out ⟨wq.heap.size,0,none⟩ 1 1 [.bool nbz,.slice Sz lz cz] (by go_simp) rfl (World.news_of_block (cs:=#[.bool nbz,.slice Sz lz cz]) (t:=62) (fr:=(0,0)) (heap_alloc_new wq _)) xDo oMx (by unfold maxLen;omega) oMx HBA.out HNA.out zTk zTj ?_;intro g2 cap2 w8 hown8 hgrow8 hno8 hgg8;have HG:=oH (HGR.out g2 cap2 w8 hown8 hgrow8 hno8 hgg8);have hrm:=HRM.out w8 hgrow8;have u6:=hrm.1;have u7:=hrm.2;have KS8:=oH (HMD.out w8 hgrow8);obtain ⟨u0,u1,u2⟩:=KS8.out;clear hown8 hgrow8 hno8 hgg8 hrm)
   refine hK.out _ _ ?_ (fun hHeld=>?_)
   ·first|exact ⟨p5,KS0.out⟩|exact ⟨p5a,KSA.out⟩|exact ⟨u6,KS8.out⟩
   clear hK K
   try simp only [Act.put,tkA,tkB,tkC]
   refine tkH 11 ?_
   try simp only [Act.put,tkA,tkB,tkC]
   refine wpAnyH_done (by kernel_rfl) ?_ _;simp only [xCo,List.getElem_toArray,List.getElem_cons_succ,List.getElem_cons_zero]
   all_goals
    go_wp2_with fail;go_roundw
    ·exact ⟨k+1,rv.set i ⟨g2,cap2,us++[⟨nbz,Sz,lz,cz⟩]⟩,by go_num,oMx,by rw [List.length_set];exact HRL.out,fun j hj=>by
     have hj':j<rv.length:=by simpa using hj
     by_cases e:j=i
     ·subst e;rw [List.getElem_set_self,if_neg oMx,if_pos rfl];simp only [List.length_append,List.length_singleton];have h8:=HNK.out;omega
     rw [List.getElem_set_ne (Ne.symm e),HUL.out j hj']
     by_cases e2:j<i
     ·rw [if_pos e2,if_pos e2]
     rw [if_neg e2,if_neg e2,if_neg e,if_neg e],HG.out⟩
    simp [intOf];omega
  clear hts hrl hul;go_wp2_with fail;go_roundw
  ·exact ⟨i+1,rv,by go_num,oMx,HRL.out,fun j hj=>by
   rw [HUL.out j hj]
   by_cases e:j<i
   ·rw [if_pos e,if_pos oMx]
   rw [if_neg e]
   by_cases e2:j=i
   ·rw [if_pos e2,if_pos oMx];omega
   rw [if_neg e2,if_neg oMx],HTV.out⟩
  simp [intOf];omega
 obtain rfl:i=rs.length:=by omega
 have hall:∀ r∈rw,r.us.length=rs.length+rs.length:=fun r hr=>by
  obtain ⟨j,hj,rfl⟩:=List.getElem_of_mem hr;rw [hul j hj,if_pos oMx]
 have HLS:=oH (inv_LL HF.out hm1 HH.out);have HRD:=zFi (some ⟨R,0,none⟩) cR (rs.length+rs.length) rs.length rw (zOr rs) wi (hts.tab.toN hall).read oMx oMx oMx oMx oMx (fun i k hi=>HLS.out i k oMx);rw [hrl] at HRD;replace HRD:=oH HRD;have p0:=(hts.cell (p:=⟨x,2,none⟩) (by show x<=x;omega) (by show x<x+1;omega)).trans (HX7.at_ (i:=2) rfl);have HXA:=oH (show Blk wi x 65 [.bool dv.nb,.slice dv.ad dv.l dv.c,.slice (some ⟨R,0,none⟩) rs.length cR] from (hts.seg x oMx oMx).trans HX7.out);have HKI:=oH (show Blk wi w.heap.size 24 [.slice A rs.length c] from (hts.bel.block w.heap.size HGW.out).trans HKW.out);have kA:=HKI.at_ (i:=0) rfl;have HDA:=oH (hts.num _ _ HDW.out);have HBr:=oH (show Below w2.heap.size W0 wi from hts.bel);clear hall hul hts hrl HS0;go_wp2_with fail;refine HRD.mono ?_;rintro e w9 ⟨R4,cR4,rows4,pv,v,rfl,hl4,hrr,hb9⟩;obtain ⟨Ap,cp,rfl, -⟩:=zUj hrr.pvt;have HBq:=oH (HBW.trans (HBr.mono HB2.size))
 have HB9:=bTx2 HBq hb9;have HEL:=oH (zMu (m:=rs.length) (fun i k hi=>HLS.out i k hi) zBz rs.length)
 have hv0:(eli rs.length (zOr rs) rs.length).v≠0:=by
  obtain ⟨F,hg, -⟩:=zMt rs.length (zOr rs) rs.length
  intro e
  exact hg.v0 (by rw [e];rfl)
 have HXA9:=oH (HXA.below hb9);have HKA9:=oH (HKI.below hb9);have HDA9:=oH (HDA.below hb9);generalize eli rs.length (zOr rs) rs.length=s at *;obtain ⟨pl,hpl⟩:=eXx (s.ps.length);have HPL:=oH hpl;rw [hpl] at HEL;rw [hpl];have hb10:Below w9.heap.size w9 (w9.alloc (.cells #[.slice (some ⟨R4,0,none⟩) rs.length cR4,.slice Ap pl cp,.bool v.nb,.slice v.ad v.l v.c,.bool s.odd] 69)):=bA;have HB10:=bTx2 HB9 hb10;have HT10:=oH (Blk.new w9 69 [.slice (some ⟨R4,0,none⟩) rs.length cR4,.slice Ap pl cp,.bool v.nb,.slice v.ad v.l v.c,.bool s.odd]);have HR10:=hrr.below hb10;rw [hpl] at HR10;replace HR10:=oH HR10;have HXA10:=oH (HXA9.below hb10);have HKA10:=oH (HKA9.below hb10);have HDA10:=oH (HDA9.below hb10);have HL4:=oH hl4;have kB:=HKA10.at_ (i:=0) rfl;clear hb9 hrr hl4 hpl p0 kA hb10
 by_cases hlt9:pl<rs.length
 ·have hx9:(pl:Int)<(rs.length:Int):=by omega
  go_wp2_with fail;rw [<-hQ.out];exact .inl ⟨by rw [HPL.out];exact hlt9,rfl,HB10.out⟩
 have hx9:¬(pl:Int)<(rs.length:Int):=by omega
 have HPE:=oH (show pl=rs.length by have:=HEL.2.2;omega)
 have HBU:=oH (zAd w9.heap.size w.heap.size x rs.length rs.length (invQ rs s) (w9.alloc (.cells #[.slice (some ⟨R4,0,none⟩) rs.length cR4,.slice Ap pl cp,.bool v.nb,.slice v.ad v.l v.c,.bool s.odd] 69)) oMx oMx (fun i k hi hk=>by
   have h1:=HEL.1 i (rs.length+k) hi;have h2:=HEL.2.1;have hg1:grw 70 pl<=300000:=zOf lRx (by have:=HEL.2.2;omega);have h3:=zBy (s.P i (rs.length+k)) (zQz rs);have h5:=zRa HF.out;unfold LL at h1 h2 h3 h5
   exact Sz.divInt hv0 oMx oMx) (HE.below HB10.out) (fun W' hW' i k hi hk=>by
   have hik:i<rows4.length:=by rw [HL4.out];exact hi
   have hr':=HR10.below hW';obtain ⟨nz,Sz,lz,cz,p5,p6,hz⟩:=hr'.tab.num_at hik (k:=rs.length+k) oMx;have h1:=HEL.1 i (rs.length+k) hi;have h2:=HEL.2.1;have hg1:grw 70 pl<=300000:=zOf lRx (by have:=HEL.2.2;omega);have h5:=zRa HF.out;have hT:=HT10.below hW';have hX:=HXA10.below hW';have hro:=hr'.tab.cell (by rw [HL4.out]) hik
   exact cloIn w9.heap.size w.heap.size x R4 cR4 rows4[i].g rows4[i].cp i k rs.length (rs.length+rs.length) c A dv.ad v.ad Sz dv.nb v.nb nz dv.l dv.c v.l v.c lz cz (zQz rs) s.v (s.P i (rs.length+k)) W' (hT.at_ (i:=0) rfl) (hT.at_ (i:=2) rfl) (hT.at_ (i:=3) rfl) ((HKA10.below hW').at_ (i:=0) rfl) (hX.at_ (i:=0) rfl) (hX.at_ (i:=1) rfl) hro p5 p6 hr'.val (HDA10.below hW') hz hi oMx oMx hv0 oMx oMx oMx))
 have HKF:=oH (fun e w' (h:zFs w rs.length rs.length (invQ rs s) e w')=>(show zBk false s rs.length (invQ rs s) w e w' from .inr ⟨by rw [HPL.out];exact HPE.out,h⟩));go_wp2_with fail;refine HBU.mono ?_
 intro e w11 hr
 obtain ⟨V,E,rfl,hv⟩:=hr.val;have HR:=oH (HKF.out _ _ (hv.up HB10.out));clear hr hv;go_wp2_with fail;rw [<-hQ.out];exact HR.out
def IsB (b:Nat) (q:Rat):Prop:=∃ z:Int,q=z/\z.natAbs<=b
def detB (b:Nat):Nat->Nat
 | 0=>1
 | n+1=>(n+1)*(b*detB b n)
theorem matF_col {ss:List ByteArray} {n:Nat} {b:Nat->Rat} (h:VecF ss n b):zCi (zJo ss) n 1 (fun i _=>b i):=by
 refine ⟨by rw [zJp];exact h.len,fun r hr=>?_,fun i k hi hk=>?_,fun i _ hi _=>h.fit i hi⟩
 ·obtain ⟨s, -,rfl⟩:=List.mem_map.1 hr
  rfl
 have hi':i<ss.length:=by rw [zJp] at hi;exact hi
 have e:(zJo ss)[i]=⟨none,0,[ss[i]]⟩:=by simp [zJo]
 have hk1:k=0:=by
  have:(zJo ss)[i].ss.length=1:=by rw [e];rfl
  omega
 subst hk1;simp only [e,List.getElem_cons_zero];exact h.cel i hi'
theorem zXm:zXl 1=⟨#[49]⟩:=by rw [zXs (show (1:Rat).den=1 from rfl)];exact str_1
def zYw (A:mRx):Nat->Nat->Nat->Rat
 | 0=>A
 | k+1=>fun i j=>zYw A k i j-zYw A k i k*zYw A k k j/zYw A k k k
def dD (A:mRx) (k:Nat):Rat:=zYw A k k k
def lL (A:mRx) (i k:Nat):Rat:=zYw A k i k/dD A k
section
variable {A B:mRx} {n k:Nat}
def bord (A:mRx) (k i j:Nat):Nat->Nat->Rat:=fun r c=>A (if r<k then r else i) (if c<k then c else j)
def form (n:Nat) (A:mRx) (x:Nat->Rat):Rat:=xBt n fun i=>xBt n fun j=>x i*A i j*x j
def col (A:mRx) (n t:Nat) (x:Nat->Rat):Rat:=xBt n fun i=>x i*zYw A t i t
def PosD (n:Nat) (A:mRx):Prop:=∀ k,k<n->0<dD A k
end
def zPl (N:Nat->Nat->Int):Nat->(Nat->Nat->Int) × Int
 | 0=>(N,1)
 | k+1=>(fun i j=>if k<i/\k<j then ((zPl N k).1 i j*(zPl N k).1 k k-(zPl N k).1 i k*(zPl N k).1 k j)/(zPl N k).2 else (zPl N k).1 i j,(zPl N k).1 k k)
def castM (N:Nat->Nat->Int):Nat->Nat->Rat:=fun i j=>(N i j:Rat)
section
variable {N:Nat->Nat->Int} {n k:Nat}
end
section
variable {A:mRx} {N:Nat->Nat->Int} {D:Int} {n k:Nat}
def lK (A:mRx) (k:Nat):Nat->Nat->Rat:=fun i j=>if j<k/\j<i then lL A i j else idn i j
end
def InTy (w:World) (g:Nat) (t:TypeId):Prop:=∃ cs,w.heap[g]? = some (.cells cs t (0,0))
section
variable {w w':World} {g:Nat} {t t':TypeId}
end
structure BoxT (w:World) (g:Nat) (t:TypeId) (cs:List Value):Prop where
 ty:InTy w g t
 cel:∀ i v,cs[i]? = some v->w.cell? ⟨g,i,none⟩=some v
section
variable {w w':World} {g:Nat} {t:TypeId} {cs:List Value}
end
def keepT (t:TypeId):Bool:=t==62 || t==67 || t==63 || t==3
structure SeeR (B:Nat) (w w':World):Prop where
 bel:Below B w w'
 blk:∀ g t,InTy w g t->keepT t=true->w'.heap[g]? = w.heap[g]?
 num:∀ v z,zBs w v z->zBs w' v z
structure JRule (B:Nat) (J:Nat->World->Prop):Prop where
 below:∀ k W W',J k W->Below W.heap.size W W'->J k W'
 set:∀ k W g j u v,J k W->B<=g->InTy W g 62->W.cell? ⟨g,j,none⟩=some v->(∀ z,v ≠ .int .u64 z)->J k (W.setCell ⟨g,j,none⟩ u)
structure LeadR (B n k mb bb kb pb R cR:Nat) (wB:World) (J:World->Prop) (W:World) (rows:List zGg) (P:Nat->Nat->Int) (u v:zCq) (zb zp:Int):Prop where
 tab:zHa B W (.slice (some ⟨R,0,none⟩) rows.length cR) rows n P
 len:rows.length=n
 m:BoxT W mb 63 [.slice (some ⟨R,0,none⟩) n cR]
 b:BoxT W bb 62 [.bool u.nb,.slice u.ad u.l u.c]
 kk:BoxT W kb 3 [.int .i64 (k:Int)]
 p:BoxT W pb 62 [.bool v.nb,.slice v.ad v.l v.c]
 hb:zBs W u.val zb
 hp:zBs W v.val zp
 j:J W
 bel:Below B wB W
 B0:B<=wB.heap.size
 bB:∀ r∈rows,r.g≠bb/\r.g≠pb
section
variable {B n k mb bb kb pb R cR:Nat} {wB W W':World} {J:World->Prop} {rows:List zGg} {P:Nat->Nat->Int} {u v:zCq} {zb zp:Int}
end
def leadQ (N:Nat->Nat->Int) (k i j:Nat):Nat->Nat->Int:=fun a b=>if k<a/\k<b/\(a<i\/a=i/\b<j) then (zPl N (k+1)).1 a b else (zPl N k).1 a b
structure Kn (B:Nat) (w W:World):Prop where
 bel:Below B w W
 blk:∀ k,k<w.heap.size->W.heap[k]? = w.heap[k]? \/ ∃ t cs,Blk w k t cs/\∀ a∈cs,∀ z,a ≠ .int .u64 z
structure OwnT (B:Nat) (w:World) (rs:List zGh) (i:Nat):Prop where
 own:∀ j,(h:j<rs.length)->j<i->∃ g,rs[j].ad=some ⟨g,0,none⟩/\w.ownsRow B 43 1 (.slice (some ⟨g,0,none⟩) rs[j].ss.length rs[j].cp) rs[j].ss.length (sv rs[j].ss)
 dis:∀ j k,(h:j<rs.length)->(h':k<rs.length)->j<k->k<i->rs[j].ad≠rs[k].ad
section
variable {B i:Nat} {w w':World} {rs:List zGh}
end
def RetMo (w:World) (m n:Nat) (M:mRx) (e:Ending) (w':World):Prop :=
 (∃ U rs,e = .returned (.tuple #[.slice (some ⟨U,0,none⟩) m m,.int .i64 0])/\zCi rs m n M/\zHe w.heap.size w' (.slice (some ⟨U,0,none⟩) m m) rs/\OwnT w.heap.size w' rs m/\Below w.heap.size w w') \/
 ((∃ i k,i<m/\k<n/\¬zBd (M i k))/\e = .returned (.tuple #[.slice none 0 0,.int .i64 3])/\Below w.heap.size w w')
structure BuiAo (B:Nat) (W0 wr:World) (U m n:Nat) (M:mRx) (i:Nat) (rs:List zGh):Prop extends BuiA B W0 wr U m n M i rs where
 ot:OwnT B wr rs i
structure BuiBo (B:Nat) (W0 wr:World) (U m n:Nat) (M:mRx) (i k:Nat) (rs:List zGh) (g cp:Nat) (ts:List ByteArray):Prop extends zAc B W0 wr U m n M i k rs g cp ts where
 ot:OwnT B wr rs i
section
variable {B U m n i k g cp:Nat} {W0 wr w':World} {M:mRx} {rs:List zGh} {ts:List ByteArray}
end
structure GridO (B n c:Nat) (M:mRx) (U:Nat) (rs:List zGh) (W:World):Prop where
 mf:zCi rs n n M
 top:W.ownsRow B 25 1 (.slice (some ⟨U,0,none⟩) n c) n (zXe rs)
 ot:OwnT B W rs n
section
variable {B n c:Nat} {M M':mRx} {U:Nat} {rs:List zGh} {W W':World}
end
noncomputable def dTx (A:mRx) (k:Nat):List Value:=sv ((List.range k).map fun t=>zXl (dD A t))
section
variable {B fb tb ab pb qb n:Nat} {AV T2:Value} {dv:zCq} {D:Int} {A:mRx} {kd:Nat} {M M':mRx} {U:Nat} {Dv:Value} {rs:List zGh} {W W':World}
end
open Go.RowKit
structure MatOwD (B:Nat) (w:World) (V:Value) (rs:List zGh):Prop extends zCk B w V rs where
 dis:∀ j k,(hj:j<rs.length)->(hk:k<rs.length)->j<k->∀ g,rs[k].ad=some ⟨g,0,none⟩->rs[j].ad≠some ⟨g,0,none⟩
section
variable {B b:Nat} {w w6:World} {V V2:Value} {rs:List zGh} {r:zGh}
end
def RetTho (w:World) (b m n:Nat) (e:Ending) (w':World):Prop:=∃ (v:Value) (rs:List zGh),e = .returned v/\rs.length=m/\(∀ r∈rs,r.ss.length=n/\∀ s∈r.ss,zHd s)/\MatOwD w.heap.size w' v rs/\Src w' b/\w.grownBy w' (some b)
def sQ (M:mRx) (i k:Nat):Nat->Nat->Rat:=fun a b=>if b<a/\(a<i\/a=i/\b<k) then M b a else M a b
def RetGrid (w:World) (b n:Nat) (P:(Nat->Nat->Rat)->Prop) (e:Ending) (w':World):Prop:=∃ U c rs M,e = .returned (.slice (some ⟨U,0,none⟩) n c)/\GridO w.heap.size n c M U rs w'/\P M/\Src w' b/\w.grownBy w' (some b)
def posM (n:Nat) (M:mRx):Nat->Nat->Rat:=fun i k=>idn i k+xBt n fun j=>M i j*M k j
theorem rf_set4 {w:World} {g:Nat} {u v:FrV} (h:Blk w g 87 u.four):Blk ((((w.setCell ⟨g,0,none⟩ (.bool v.na)).setCell ⟨g,1,none⟩ (.slice v.A v.l v.c)).setCell ⟨g,2,none⟩ (.bool v.nb)).setCell ⟨g,3,none⟩ (.slice v.A' v.l' v.c')) g 87 v.four:=(((h.set 0 _).set 1 _).set 2 _).set 3 _
def MxC (B:Nat) (w:World) (A:oAx) (n c:Nat) (M:mRx):Prop:=∃ rs,zHe B w (.slice A n c) rs/\zCi rs n n M/\∀ r∈rs,r.ss.length<=r.cp
def RetPos (w:World) (b n:Nat) (P:(Nat->Nat->Rat)->Prop) (e:Ending) (w':World):Prop:=∃ A c M,e = .returned (.slice A n c)/\MxC w.heap.size w' A n c M/\P M/\Src w' b/\w.grownBy w' (some b)
end Go.Proofs.YtbjaplppalcmgaaGreatDoor
