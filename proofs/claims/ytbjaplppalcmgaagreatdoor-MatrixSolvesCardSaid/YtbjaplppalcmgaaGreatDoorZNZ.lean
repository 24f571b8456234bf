import Derived.Test.YtbjaplppalcmgaaGreatDoorZNX
import Derived.Test.YtbjaplppalcmgaaGreatDoorZNY
set_option maxHeartbeats 16000000
set_option maxRecDepth 100000
set_option linter.unusedVariables false
set_option linter.unusedSimpArgs false
set_option linter.unusedSectionVars false
namespace Go.Proofs.YtbjaplppalcmgaaGreatDoor
open Go.RowKit
theorem zUg:zUa 0=⟨#[48]⟩/\zUb 0=0:=by
 have hf:zBd 0:=xAa (z:=0) dCx;rw [zUe hf,zUc hf];exact ⟨by rw [zXs (show (0:Rat).den=1 from rfl)];exact zXt,rfl⟩
open Classical in
theorem zEh {A:oAx} {c m n N:Nat} {M:mRx} {w:World} {rs:List zGh} (h:zCj w A rs) (hmf:zCi rs m n M) (hm1:1<=m) (hm:m<=5) (hn1:1<=n) (hn:n<=12) (hd:DigM 30 m n M) (hN0:1<=N) (hN1:N<=12) :
  Calls Tryz.prog 41 #[.slice A m c,.int .i64 (N:Int)] w fun e w'=>e = .returned (.bool (decide (hvR N m n M)))/\Below w.heap.size w w' :=
 zEf A rs c m n N 30 M w h hmf hm1 oMx hn1 hn dCx hd (by
  have h1:m*n<=60:=Nat.mul_le_mul hm hn
  omega) hN0 oMx _ decide_eq_true_iff
open Classical in
theorem RRank_sp {A:oAx} {c m n:Nat} {M:mRx} {w:World} (h:zCm w A m n M) (hm1:1<=m) (hm:m<=5) (hn1:1<=n) (hn:n<=12) (hd:DigM 30 m n M):Calls Tryz.prog 21 #[.slice A m c] w (zGu m n M w):=by
 obtain ⟨rs,h1,h2⟩:=h;generalize hQ:zGu m n M w=Q;replace hQ:=oH hQ;obtain ⟨l1,l2,l3⟩:=h2.len1000 oMx oMx;have HSH:=zEw A rs c w h1 l1 l2 l3;rw [h2.shape hm1 oMx oMx,h2.len] at HSH;replace HSH:=oH HSH;have HHV:=oH (fun W (hW:Below w.heap.size w W)=>zEh (c:=c) (N:=max m n) (h1.below hW) h2 hm1 hm hn1 hn hd oMx oMx);have HRD:=oH (fun W (hW:Below w.heap.size w W)=>zEr A rs c m n M W (h1.below hW) h2 hm1 oMx hn1 oMx);have HDM:=oH hd;clear h1 h2 l1 l2 l3 hd
 have hmx:((max m n:Nat):Int)=max (m:Int) (n:Int):=by omega
 rw [hmx] at HHV;clear hmx;have HSP:=oH (fun (e:Ending) (w':World) (hH:hvR (max m n) m n M) (h:e = .returned (.tuple #[.int .i64 0,.int .i64 3])/\Below w.heap.size w w')=>(show zGu m n M w e w' from .inl ⟨hH,h⟩));have HSQ:=oH (fun (e:Ending) (w':World) (r:Nat) (hH:¬hvR (max m n) m n M) (hr:Rk m n M r) (h:e = .returned (.tuple #[.int .i64 (r:Int),.int .i64 0])/\Below w.heap.size w w')=>(show zGu m n M w e w' from .inr ⟨hH,r,hr,h⟩));rw [hQ.out] at HSP HSQ;generalize hvR (max m n) m n M=H at *
 go_enter Tryz.func21,Tryz.ntmps21
 go_wp2_with fail;refine HSH.mono ?_;rintro e w1 ⟨rfl,hb1⟩;have HB1:=oH hb1;clear hb1;simp only;go_wp2_with fail;refine (HHV.out w1 HB1.out).mono ?_;rintro e w2 ⟨rfl,hb2⟩;have HB2:=bTx2 HB1 hb2;clear hb2
 by_cases hH:H
 ·have hdt:=decide_eq_true hH;rw [hdt];go_wp2_with fail;exact HSP.out _ _ hH ⟨rfl,HB2.out⟩
 have hdf:=decide_eq_false hH;rw [hdf];clear hdf;go_wp2_with fail;refine (HRD.out w2 HB2.out).mono ?_;rintro e w3 ⟨R,cR,rows0,rfl,hrl,htab,hb3⟩;have HB3:=bTx2 HB2 hb3;have HT3:=oH (htab.mono HB2.size);have HRL:=oH hrl;clear htab hb3 hrl;go_wp2_with fail;refine (zDj w.heap.size R cR m n n rows0 M w3 HT3.out HRL.out hm1 hm lRx oMx HDM.out).mono ?_;rintro e w4 ⟨A4,c4,v4,rows4,F,psf,ps,vq,odd,rfl, -, -,hg, -, -,hv4, -, -,hb4⟩;have HB4:=oH (HB3.trans hb4);have HRK:=oH hg.rk;obtain ⟨na,nb,A1,A2,l1,c1,l2,c2,rfl⟩:=hv4.slice;clear hb4 hv4 hg HSH HHV HRD HB1 HB2 HB3 HT3 HRL HDM;have HB5:=oH (HB4.alloc HB4.size (.cells #[.bool na,.slice A1 l1 c1,.bool nb,.slice A2 l2 c2] 87));go_wp2_with fail;exact HSQ.out _ _ _ hH HRK.out ⟨rfl,HB5.out⟩
open Classical in
theorem RDet_sp {A:oAx} {c n:Nat} {M:mRx} {w:World} (h:zCm w A n n M) (hn1:1<=n) (hn:n<=5) (hd:DigM 30 n n M):Calls Tryz.prog 19 #[.slice A n c] w (zGr n M w):=by
 obtain ⟨rs,h1,h2⟩:=h;generalize hQ:zGr n M w=Q;replace hQ:=oH hQ;obtain ⟨l1,l2,l3⟩:=h2.len1000 oMx oMx;have HSH:=zEw A rs c w h1 l1 l2 l3;rw [h2.shape hn1 oMx oMx,h2.len] at HSH;replace HSH:=oH HSH;have HHV:=oH (fun W (hW:Below w.heap.size w W)=>zEh (c:=c) (N:=n) (h1.below hW) h2 hn1 hn hn1 oMx hd hn1 oMx);have HRD:=oH (fun W (hW:Below w.heap.size w W)=>zEr A rs c n n M W (h1.below hW) h2 hn1 oMx hn1 oMx);have HDM:=oH hd;clear h1 h2 l1 l2 l3 hd;have HSP:=oH (fun (e:Ending) (w':World) (hH:hvR n n n M) (h:e = .returned (.tuple #[.string ⟨#[]⟩,.int .i64 3])/\Below w.heap.size w w')=>(show zGr n M w e w' from .inl ⟨hH,h⟩));have HSQ:=oH (fun (e:Ending) (w':World) (hH:¬hvR n n n M) (h:e = .returned (.tuple #[.string (zUa (det n M)),.int .i64 (zUb (det n M))])/\Below w.heap.size w w')=>(show zGr n M w e w' from .inr ⟨hH,h⟩));rw [hQ.out] at HSP HSQ;generalize hvR n n n M=H at *
 go_enter Tryz.func19,Tryz.ntmps19
 go_wp2_with fail;refine HSH.mono ?_;rintro e w1 ⟨rfl,hb1⟩;have HB1:=oH hb1;clear hb1;simp only
 have hnn:((n:Int) != (n:Int))=false:=by simp
 go_wp2_with fail;refine (HHV.out w1 HB1.out).mono ?_;rintro e w2 ⟨rfl,hb2⟩;have HB2:=bTx2 HB1 hb2;clear hb2 hnn
 by_cases hH:H
 ·have hdt:=decide_eq_true hH;rw [hdt];go_wp2_with fail;exact HSP.out _ _ hH ⟨rfl,HB2.out⟩
 have hdf:=decide_eq_false hH;rw [hdf];clear hdf;go_wp2_with fail;refine (HRD.out w2 HB2.out).mono ?_;rintro e w3 ⟨R,cR,rows0,rfl,hrl,htab,hb3⟩;have HB3:=bTx2 HB2 hb3;have HT3:=oH (htab.mono HB2.size);have HRL:=oH hrl;clear htab hb3 hrl;go_wp2_with fail;refine (zDj w.heap.size R cR n n n rows0 M w3 HT3.out HRL.out hn1 hn lRx oMx HDM.out).mono ?_;rintro e w4 ⟨A4,c4,v4,rows4,F,psf,ps,vq,odd,rfl, -, -,hg, -,hpd,hv4, -, -,hb4⟩;have HB4:=oH (HB3.trans hb4);have HV4:=oH hv4;have HDT:=oH hg.det_;have hrn:=hg.rm;obtain ⟨na,nb,A1,A2,l1,c1,l2,c2,rfl⟩:=hv4.slice;have HSZ:=oH (show Sz 1000000 ((if odd then -1 else 1)*vq) from ((zZi odd hpd).szG).mono (Nat.le_trans (pdG_le _ oMx) dCx));clear hb4 hv4 hg hpd HSH HHV HRD HB1 HB2 HB3 HT3 HRL HDM;obtain ⟨r,hr⟩:=eXx (ps.length);rw [hr] at HDT hrn ⊢;clear hr;go_upto_region 9 with (fail);have HX:=oH (Blk.new w4 87 [.bool na,.slice A1 l1 c1,.bool nb,.slice A2 l2 c2])
 have hbl:Below w4.heap.size w4 (w4.alloc (.cells #[.bool na,.slice A1 l1 c1,.bool nb,.slice A2 l2 c2] 87)):=bA;have HV5:=oH (HV4.below hbl);replace HB4:=bTx2 HB4 hbl;clear hbl HV4;generalize w4.alloc (.cells #[.bool na,.slice A1 l1 c1,.bool nb,.slice A2 l2 c2] 87)=W at *;generalize w4.heap.size=xb at *
 by_cases hlt:r<n
 ·have hlt2:(r:Int)<(n:Int):=by omega
  have HO:=oH (zUg);have HZ:=oH (HDT.trans (if_neg oMx));go_wp2_with fail;exact HSQ.out _ _ hH ⟨by rw [HZ.out,HO.1,HO.2];rfl,HB4.out⟩
 have hlt2:¬(r:Int)<(n:Int):=by omega
 have HZ:=oH (HDT.trans (if_pos oMx));have x0:=HX.at_ (i:=0) rfl;have x1:=HX.at_ (i:=1) rfl;have x2:=HX.at_ (i:=2) rfl;have x3:=HX.at_ (i:=3) rfl;have HGV:=zDm _ ((if odd then -1 else 1)*vq) W HV5.out HSZ.out;rw [<-HZ.out] at HGV;replace HGV:=oH HGV;generalize zUa (det n M)=oS at *;generalize zUb (det n M)=oE at *;go_wp2_with fail;refine HGV.mono ?_;rintro e w5 ⟨rfl,hb5⟩;have HB5:=bTx2 HB4 hb5;clear hb5;go_wp2_with fail;exact HSQ.out _ _ hH ⟨rfl,HB5.out⟩
def zFr (w:World) (n:Nat) (q:Nat->Rat) (e:Ending) (w':World):Prop :=
 ((∀ k,k<n->zBd (q k))/\RetLine w n q e w')\/((∃ k,k<n/\¬zBd (q k))/\e = .returned (.tuple #[.slice none 0 0,.int .i64 3])/\Below w.heap.size w w')
def zFy (w:World) (m n:Nat) (M:mRx) (e:Ending) (w':World):Prop :=
 RetOk w m n M e w'\/((∃ i k,i<m/\k<n/\¬zBd (M i k))/\e = .returned (.tuple #[.slice none 0 0,.int .i64 3])/\Below w.heap.size w w')
theorem zEj (g n cp:Nat) (q:Nat->Rat) (w:World) (hg:g<w.heap.size) (hn:n<=12)
  (hr:∀ k,k<n->∃ u:FrV,w.cell? ⟨g,k*4,none⟩=some (.bool u.na)/\w.cell? ⟨g,k*4+1,none⟩=some (.slice u.A u.l u.c)/\w.cell? ⟨g,k*4+2,none⟩=some (.bool u.nb)/\w.cell? ⟨g,k*4+3,none⟩=some (.slice u.A' u.l' u.c')/\zBt w u.val (q k))
  (hf:∀ k,k<n->Sz 1000000 (q k)):Calls Tryz.prog 46 #[.slice (some ⟨g,0,none⟩) n cp] w (zFr w n q):=by
 obtain ⟨i0,hi,hz0,hz1,hz2⟩:=info_parts Tryz.infoRat;generalize hQ:zFr w n q=Q;replace hQ:=oH hQ;have HR:=oH hr;have HF:=oH hf;clear hr hf
 go_enter Tryz.func46,Tryz.ntmps46
 go_wp2_with fail
 go_loopw [4,11] (fun v iv wr=>∃ ss:List ByteArray,iv = .int .i64 (ss.length:Int)/\ss.length<=n/\(∀ i,i<ss.length->zBd (q i))/\(∀ i,(hi:i<ss.length)->ss[i]=zXl (q i))/\wr.ownsRow w.heap.size 43 1 v ss.length (sv ss)/\Below w.heap.size w wr) (fun _ iv _=>n-(intOf iv).toNat)
 ·exact ⟨[],rfl,oLx,fun i hi=>(by simp at hi),fun i hi=>(by simp at hi),World.ownsRow_nil _ _ _ _,bRx⟩
 obtain ⟨ss,rfl,hk,hft,hss,hown,hb⟩:=hrel;have HFT0:=oH hft;clear hft;obtain ⟨AV,cV,rfl, -⟩:=zUj hown;have HSS:=oH hss;have HOWN:=oH hown;have HB:=oH hb;have hsz:=hb.size;clear hss hown hb
 by_cases hlt:ss.length<n
 ·obtain ⟨u,h0,h1,h2,h3,hu⟩:=HR.out ss.length hlt;have c0:=(HB.cell (p:=⟨g,ss.length*4,none⟩) hg).trans h0;have c1:=(HB.cell (p:=⟨g,ss.length*4+1,none⟩) hg).trans h1;have c2:=(HB.cell (p:=⟨g,ss.length*4+2,none⟩) hg).trans h2;have c3:=(HB.cell (p:=⟨g,ss.length*4+3,none⟩) hg).trans h3;have HSZ:=oH (HF.out ss.length hlt)
  have HFN:=oH (fun (hp:zBd (q ss.length)) i (hi:i<(ss++[zXl (q ss.length)]).length)=>(show zBd (q i) by
   simp only [List.length_append,List.length_singleton] at hi
   by_cases e:i<ss.length
   ·exact HFT0.out i e
   obtain rfl:i=ss.length:=by omega
   exact hp))
  have HBD:=oH (fun (hp:¬zBd (q ss.length)) (e:Ending) (w':World) h1 h2=>(show zFr w n q e w' from .inr ⟨⟨ss.length,hlt,hp⟩,h1,h2⟩));rw [hQ.out] at HBD;have HU:=oH (hu.below HB.out);obtain ⟨na,A1,l1,c1',nb,A2,l2,c2'⟩:=u;simp only [FrV.val] at c0 c1 c2 c3 HU
  have HTN:=oH (fun i (hi:i<(ss++[zXl (q ss.length)]).length)=>(show (ss++[zXl (q ss.length)])[i]=zXl (q i) by
   rw [List.getElem_append]
   split
   ·exact HSS.out i _
   rename_i hh
   simp only [List.length_append,List.length_singleton] at hi
   obtain rfl:i=ss.length:=by omega
   simp))
  generalize q ss.length=p at *
  have x1:(0:Int)<=(ss.length:Int):=by omega
  have x2:(ss.length:Int)<(n:Int):=by omega
  clear h0 h1 h2 h3 hu;go_wp2_with fail;have HW:=oH (HU.below (bRx.alloc lRx (.cells #[.bool na,.slice A1 l1 c1',.bool nb,.slice A2 l2 c2'] 87)));have HFT:=oH (zDm _ p _ HW.out HSZ.out);refine HFT.mono ?_;rintro e w2 ⟨rfl,hb2⟩;have HO2:=oH (zUm (HOWN.alloc _) hb2);have HB2:=oH (HB.trans (((Below.refl w.heap.size wr).alloc hsz _).trans (hb2.mono (by simp;omega))));have hsz2:=HB2.size
  by_cases hfit:zBd p
  ·skip
   rw [zUe hfit,zUc hfit];replace HFN:=HFN.out hfit;generalize zXl p=s at *;clear hb2 c0 c1 c2 c3 HFT HW
   go_wp2_with (at_builtin;refine wpList_append_own _ rfl _ _ 25 rfl w.heap.size 43 i0 (.string ⟨#[]⟩) 1 16 Tryz.underlying25 hi hz0 hz1 hz2 rfl dCx _ _ _ rfl (HO2.alloc _) ⟨w2.heap.size,0,none⟩ 1 1 [_] rfl rfl zTu zTv (by unfold maxLen;omega) oMx (by simp;omega) ?_)
   intro v' w3 hown3 hgrow3 _
   have HO3:=oH (show w3.ownsRow w.heap.size 43 1 v' (ss++[s]).length (sv (ss++[s])) by rw [List.length_append,xCe];exact hown3);have HB3:=oH ((HB2.alloc hsz2 _).grown hgrow3 (by simp;omega) (fun g hg=>(HO2.lt g hg).1));clear hown3 hgrow3;go_wp2_with fail;go_roundw
   ·exact ⟨ss++[s],by simp only [List.length_append,List.length_singleton];go_num,by simp;omega,HFN,HTN.out,HO3.out,HB3.out⟩
   simp [intOf];omega
  rw [zUf hfit,zUd hfit];have HB4:=oH (HBD.out hfit);clear hb2 c0 c1 c2 c3 HFT HW HBD HFN HTN;go_wp2_with fail;exact HB4.out _ _ rfl HB2.out
 have HL:=oH (show ss.length=n by omega);have HR:=oH (show zFr w n q (.returned (.tuple #[.slice AV ss.length cV,.int .i64 0])) wr from .inl ⟨by rw [<-HL.out];exact HFT0.out,AV,cV,ss,by rw [HL.out],HL.out,HSS.out,by rw [<-HL.out];exact HOWN.out,HB.out⟩);go_wp2_with fail;rw [<-hQ.out];exact HR.out
end Go.Proofs.YtbjaplppalcmgaaGreatDoor
