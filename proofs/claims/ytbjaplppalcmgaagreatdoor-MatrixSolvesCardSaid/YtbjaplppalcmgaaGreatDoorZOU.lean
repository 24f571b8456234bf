import Derived.Test.YtbjaplppalcmgaaGreatDoorZOT
set_option maxHeartbeats 16000000
set_option maxRecDepth 100000
set_option linter.unusedVariables false
set_option linter.unusedSimpArgs false
set_option linter.unusedSectionVars false
namespace Go.Proofs.YtbjaplppalcmgaaGreatDoor
open Go.RowKit
open Classical in
theorem RKer_sp {A:oAx} {c m n:Nat} {M:mRx} {w:World} (h:zCm w A m n M) (hm1:1<=m) (hm:m<=5) (hn1:1<=n) (hn:n<=12) (hd:DigM 30 m n M):Calls Tryz.prog 23 #[.slice A m c] w (zGt m n M w):=by
 obtain ⟨rs,h1,h2⟩:=h;generalize hQ:zGt m n M w=Q;replace hQ:=oH hQ;obtain ⟨l1,l2,l3⟩:=h2.len1000 oMx oMx;have HSH:=zEw A rs c w h1 l1 l2 l3;rw [h2.shape hm1 oMx oMx,h2.len] at HSH;replace HSH:=oH HSH;have HHV:=oH (fun W (hW:Below w.heap.size w W)=>zEh (c:=c) (N:=max m n) (h1.below hW) h2 hm1 hm hn1 hn hd oMx oMx);have HRD:=oH (fun W (hW:Below w.heap.size w W)=>zEr A rs c m n M W (h1.below hW) h2 hm1 oMx hn1 oMx);have HDM:=oH hd;clear h1 h2 l1 l2 l3 hd
 have hmx:((max m n:Nat):Int)=max (m:Int) (n:Int):=by omega
 rw [hmx] at HHV;clear hmx;have HSP:=oH (fun (e:Ending) (w':World) (hH:hvR (max m n) m n M) (h:e = .returned (.tuple #[.slice none 0 0,.int .i64 3])/\Below w.heap.size w w')=>(show zGt m n M w e w' from .inl ⟨hH,h⟩));have HSQ:=oH (fun (e:Ending) (w':World) (hH:¬hvR (max m n) m n M) (hr:Rk m n M n) (h:e = .returned (.tuple #[.slice none 0 0,.int .i64 12])/\Below w.heap.size w w')=>(show zGt m n M w e w' from .inr ⟨hH,.inl ⟨hr,h⟩⟩));have HSR:=oH (fun (e:Ending) (w':World) (hH:¬hvR (max m n) m n M) a x (hr:zBq m n M a x) (h:zGc w ((List.range n).map x) e w')=>(show zGt m n M w e w' from .inr ⟨hH,.inr ⟨a,x,hr,h⟩⟩));rw [hQ.out] at HSP HSQ HSR;generalize hvR (max m n) m n M=H at *
 go_enter Tryz.func23,Tryz.ntmps23
 go_wp2_with fail;refine HSH.mono ?_;rintro e w1 ⟨rfl,hb1⟩;have HB1:=oH hb1;clear hb1;simp only;go_wp2_with fail;refine (HHV.out w1 HB1.out).mono ?_;rintro e w2 ⟨rfl,hb2⟩;have HB2:=bTx2 HB1 hb2;clear hb2
 by_cases hH:H
 ·have hdt:=decide_eq_true hH;rw [hdt];go_wp2_with fail;exact HSP.out _ _ hH ⟨rfl,HB2.out⟩
 have hdf:=decide_eq_false hH;rw [hdf];clear hdf;go_wp2_with fail;refine (HRD.out w2 HB2.out).mono ?_;rintro e w3 ⟨R,cR,rows0,rfl,hrl,htab,hb3⟩;have HB3:=bTx2 HB2 hb3;have HT3:=oH (htab.mono HB2.size);have HRL:=oH hrl;clear htab hb3 hrl;go_wp2_with fail;refine (zDj w.heap.size R cR m n n rows0 M w3 HT3.out HRL.out hm1 hm lRx oMx HDM.out).mono ?_;rintro e w4 ⟨A4,c4,v4,rows,F,psf,ps,vq,odd,rfl,hps,hpm,hg,hdg, -,hv4,hrl4,htab4,hb4⟩;obtain ⟨na,nb,A1,A2,l1,c1,l2,c2,rfl⟩:=hv4.slice;have hbl:Below w4.heap.size w4 (w4.alloc (.cells #[.bool na,.slice A1 l1 c1,.bool nb,.slice A2 l2 c2] 87)):=bA
 have hnt:∀ i,i<ps.length->nth ps i=psf i:=fun i hi=>by
  have:ps[i]? = some (psf i):=by rw [hpm,List.getElem?_map,List.getElem?_range (by simpa using hi)];rfl
  simp [nth,this]
 have HNT:=oH hnt;have HCE:=oH (hps.below hbl);have HB4:=oH ((HB3.trans hb4).trans (hbl.mono (HB3.trans hb4).size));have HT4:=oH (htab4.below hbl);have HRL4:=oH hrl4;have HG:=oH hg;have hrm:=hg.rm;have hrc:=hg.rc;have HSF:=oH (fun i j (hi:i<m) (hj:j<n)=>(show Sz 1000000 (F i j) from ((hdg i j hi hj).szG).mono (Nat.le_trans (zNy _ oMx) dCx)))
 have HSN:=oH (fun i j (hi:i<m) (hj:j<n)=>(show Sz 1000000 (- F i j) from by
  have h1:=((zZi true (hdg i j hi hj)).szG).mono (Nat.le_trans (zNy _ oMx) dCx:_<=1000000);rw [show ((if true then -1 else 1)*F i j:Rat) = - F i j by simp;grind] at h1
  exact h1))
 have HS0:=oH (show Sz 1000000 ((0:Int):Rat) from ((show zAl 1 ((0:Int):Rat) from ⟨by unfold Dig;decide,by unfold Dig;decide⟩).szG).mono oMx);have HS1:=oH (show Sz 1000000 ((1:Int):Rat) from ((show zAl 1 ((1:Int):Rat) from ⟨by unfold Dig;decide,by unfold Dig;decide⟩).szG).mono oMx);clear hb4 hv4 hg hps hpm hdg hnt hrl4 htab4 hbl HSH HHV HRD HB1 HB2 HB3 HT3 HRL HDM;obtain ⟨r,hr⟩:=eXx (ps.length);have HPL:=oH hr;rw [hr] at HG HNT hrm hrc ⊢;clear hr;go_upto_region 8 with (fail);generalize w4.alloc (.cells #[.bool na,.slice A1 l1 c1,.bool nb,.slice A2 l2 c2] 87)=W at *;go_wp2_with fail
 go_loopw [10] (fun kv wr=>∃ k:Nat,kv = .int .i64 (k:Int)/\k<=r/\(∀ j,j<k->psf j=j)/\Below W.heap.size W wr) (fun kv _=>r-(intOf kv).toNat)
 ·exact ⟨0,rfl,oLx,fun j hj=>absurd hj (Nat.not_lt_zero j),bRx⟩
 obtain ⟨k,rfl,hkr,hid,hbw⟩:=hrel;obtain ⟨wk,rfl⟩:=nWx wr;have HID:=oH hid;have HBW:=oH hbw;clear hid hbw
 have hkey:(k<r/\psf k=k)\/((¬k<r)\/(k<r/\psf k≠k)):=by
  by_cases h1:k<r
  ·by_cases h2:psf k=k
   ·exact .inl ⟨h1,h2⟩
   exact .inr (.inr ⟨h1,h2⟩)
  exact .inr (.inl h1)
 rcases hkey with ⟨hlt,hpk⟩|hdead
 ·obtain ⟨pb,po,hpA,hpb,hpc⟩:=HCE.out (by intro e;have:=HPL.out;rw [e] at this;simp at this;omega);subst hpA;have c0:=(HBW.cell (p:=⟨pb,po+k,none⟩) hpb).trans (hpc k (by have:=HPL.out;omega));rw [HNT.out k hlt,hpk] at c0
  have HIN:=oH (fun j (hj:j<k+1)=>(show psf j=j from by
   rcases Nat.lt_or_ge j k with h3|h3
   ·exact HID.out j h3
   obtain rfl:j=k:=by omega
   exact hpk))
  have x1:(0:Int)<=(k:Int):=by omega
  have x2:(k:Int)<(r:Int):=by omega
  clear hpc hpk;go_wp2_with fail;go_roundw
  ·exact ⟨k+1,by go_num,oMx,HIN.out,HBW.out⟩
  simp [intOf];omega
 have HK2:=oH (show ¬(k<r/\psf k=k) from fun h=>hdead.elim (fun h1=>h1 h.1) (fun h1=>h1.2 h.2))
 rcases hdead with hd1|⟨hd1,hd2⟩
 ·have x2:¬(k:Int)<(r:Int):=by omega
  go_upto_region 11 with (fail);clear x2 hd1
  by_cases hkn:k<n
  ·have x5:¬(n:Int)<=(k:Int):=by omega
   have HKER:=oH (HG.kerOf hkn (fun i hi=>⟨oMx,HID.out i hi⟩) HK2.out);replace HSR:=oH (fun e w' h=>HSR.out e w' hH k _ HKER.out h);have HT:=oH (HT4.below HBW.out);have HB:=bTx2 HB4 HBW;clear HT4 HB4 HBW HCE HNT HPL HG HID HK2 HKER HSP HSQ;have hmk:=zYm n oMx;go_upto_region 14 with (fail);clear hmk x5;have hba:Below wk.heap.size wk (wk.alloc (.cells (frc (List.replicate n xGh)).toArray 87)):=bA;have HRF:=oH (RfS.made wk n (fun _=>((0:Int):Rat)) oMx);have HTX:=oH (HT.below hba);have HBX:=bTx2 HB hba;have HRG:=oH (fun r (hr:r∈rows)=>(show r.g<wk.heap.size from ((HT.r r hr).lt _ rfl).2));have hRg:R<wk.heap.size:=(HT.o.lt R rfl).2;have hgs:w.heap.size<=wk.heap.size:=HB.size;clear hba HT HB;generalize wk.alloc (.cells (frc (List.replicate n xGh)).toArray 87)=W0 at *;generalize wk.heap.size=go at *;go_wp2_with fail
   go_loopw [57] (fun jv wr=>∃ (i:Nat) (us:List FrV),jv = .int .i64 (i:Int)/\i<=n/\RfS go wr go n us (fun _=>((0:Int):Rat)) (fun j=>j<i)/\TbF w.heap.size wr (.slice (some ⟨R,0,none⟩) m cR) rows n F/\Below w.heap.size w wr) (fun jv _=>n-(intOf jv).toNat)
   ·exact ⟨0,_,rfl,oLx,HRF.out,HTX.out,HBX.out⟩
   clear HRF HTX HBX;obtain ⟨i,us,rfl,hin,hrf,htb,hbq⟩:=hrel;obtain ⟨wq,rfl⟩:=nWx wr
   by_cases hlt:i<n
   ·have x1:(0:Int)<=(i:Int):=by omega
    have x2:(i:Int)<(n:Int):=by omega
    go_wp2_with fail;refine (zDo 0 _ dCx dCx).mono ?_;rintro e wa ⟨va,rfl,hv,hb⟩;obtain ⟨xa,ya,Xa,Ya,laa,caa,lba,cba,rfl⟩:=hv.slice;obtain ⟨s1,s2,s3⟩:=(hrf.below hb).step (u:=⟨xa,Xa,laa,caa,ya,Ya,lba,cba⟩) (htb.below hb) (hbq.trans (hb.mono hbq.size)) hgs HRG.out hRg hlt hv;have hlu:=hrf.l;obtain ⟨g1,g2,g3,g4⟩:=zNo (us:=us) (i:=i) oMx;have c0:=((hrf.below hb).o.cellAt (i*4) oMx).trans g1;have c1:=((hrf.below hb).o.cellAt (i*4+1) oMx).trans g2;have c2:=((hrf.below hb).o.cellAt (i*4+2) oMx).trans g3;have c3:=((hrf.below hb).o.cellAt (i*4+3) oMx).trans g4;generalize us[i]=uo at c0 c1 c2 c3;have f0:=(hrf.below hb).fr (i*4);have f1:=(hrf.below hb).fr (i*4+1);have f2:=(hrf.below hb).fr (i*4+2);have f3:=(hrf.below hb).fr (i*4+3);have S1:=oH (s1.congr (q':=fun _=>((0:Int):Rat)) (D':=fun j=>j<i+1) fun j _ hd=>⟨by show _\/_;omega,by show _=ite _ _ _;split<;>rfl⟩);have S2:=oH s2;have S3:=oH s3;clear s1 s2 s3 hrf htb hbq hv hb g1 g2 g3 g4
    go_wp2_with fail;go_roundw
    ·exact ⟨i+1,_,by go_num,oMx,S1.out,S2.out,S3.out⟩
    simp [intOf];omega
   have hie:i=n:=by omega
   rw [hie] at hrf
   have x2:¬(i:Int)<(n:Int):=by omega
   have x6:(0:Int)<=(k:Int):=by omega
   have x7:(k:Int)<(n:Int):=by omega
   go_wp2_with fail;refine (zDo 1 _ dCx dCx).mono ?_;rintro e wa ⟨va,rfl,hv,hb⟩;obtain ⟨xa,ya,Xa,Ya,laa,caa,lba,cba,rfl⟩:=hv.slice;obtain ⟨s1,s2,s3⟩:=(hrf.below hb).step (u:=⟨xa,Xa,laa,caa,ya,Ya,lba,cba⟩) (htb.below hb) (hbq.trans (hb.mono hbq.size)) hgs HRG.out hRg hkn hv;have hlu:=hrf.l;obtain ⟨g1,g2,g3,g4⟩:=zNo (us:=us) (i:=k) oMx;have c0:=((hrf.below hb).o.cellAt (k*4) oMx).trans g1;have c1:=((hrf.below hb).o.cellAt (k*4+1) oMx).trans g2;have c2:=((hrf.below hb).o.cellAt (k*4+2) oMx).trans g3;have c3:=((hrf.below hb).o.cellAt (k*4+3) oMx).trans g4;generalize us[k]=uo at c0 c1 c2 c3;have f0:=(hrf.below hb).fr (k*4);have f1:=(hrf.below hb).fr (k*4+1);have f2:=(hrf.below hb).fr (k*4+2);have f3:=(hrf.below hb).fr (k*4+3);have S1:=oH (s1.congr (q':=fun j=>if j=k then ((1:Int):Rat) else if j<0 then ((0:Int):Rat)-F j k else ((0:Int):Rat)) (D':=fun _=>True) fun j hj _=>⟨.inr hj,by show ite _ _ _=ite _ _ _;split<;>simp⟩)
   simp only [put4] at S1 s2 s3;have S2:=oH s2;have S3:=oH s3;clear s1 s2 s3 hrf htb hbq hv hb x2 hie g1 g2 g3 g4;go_upto_region 20 with (fail);generalize ((((wa.setCell ⟨go,k*4,none⟩ (.bool xa)).setCell ⟨go,k*4+1,none⟩ (.slice Xa laa caa)).setCell ⟨go,k*4+2,none⟩ (.bool ya)).setCell ⟨go,k*4+3,none⟩ (.slice Ya lba cba))=W5 at *;clear f0 f1 f2 f3 c0 c1 c2 c3;go_wp2_with fail
   go_loopw [13] (fun iv wr=>∃ (i:Nat) (us:List FrV),iv = .int .i64 (i:Int)/\i<=k/\RfS go wr go n us (fun j=>if j=k then ((1:Int):Rat) else if j<i then ((0:Int):Rat)-F j k else ((0:Int):Rat)) (fun _=>True)/\TbF w.heap.size wr (.slice (some ⟨R,0,none⟩) m cR) rows n F/\Below w.heap.size w wr) (fun iv _=>k-(intOf iv).toNat)
   ·exact ⟨0,_,rfl,oLx,S1.out,S2.out,S3.out⟩
   clear S1 S2 S3;obtain ⟨i,us,rfl,hin,hrf,htb,hbq⟩:=hrel;obtain ⟨wz,rfl⟩:=nWx wr
   by_cases hlt:i<k
   ·have hir:i<rows.length:=by have:=HRL4.out;omega
    have him:i<m:=by omega
    have kR:=TbF.cell (show TbF _ _ (.slice (some ⟨R,0,none⟩) rows.length cR) rows n _ by rw [HRL4.out];exact htb) hir;obtain ⟨yy,y0,y1,y2,y3,hy⟩:=htb.num_at hir hkn;obtain ⟨nap,A1p,l1p,c1p,nbp,A2p,l2p,c2p⟩:=yy;simp only [FrV.val] at hy;have HU:=oH hy;have HSF:=oH (HSF.out i k him hkn);have HST:=oH (fun W (hW:Below wz.heap.size wz W) (u:FrV) (hu:zBt W u.val (((0:Int):Rat)-F i k))=>(hrf.below hW).step (htb.below hW) (hbq.trans (hW.mono hbq.size)) hgs HRG.out hRg (show i<n by omega) hu);have HFZ:=oH (fun W (hW:Below wz.heap.size wz W) j=>(hrf.below hW).fr j);obtain ⟨g,hg⟩:=eXx (rows[i].g);obtain ⟨cp,hcp⟩:=eXx (rows[i].cp);rw [hg,hcp] at kR;rw [hg] at y0 y1 y2 y3;have hlu:=hrf.l;obtain ⟨g1,g2,g3,g4⟩:=zNo (us:=us) (i:=i) oMx;have c0:=(hrf.o.cellAt (i*4) oMx).trans g1;have c1:=(hrf.o.cellAt (i*4+1) oMx).trans g2;have c2:=(hrf.o.cellAt (i*4+2) oMx).trans g3;have c3:=(hrf.o.cellAt (i*4+3) oMx).trans g4
    generalize us[i]=uo at c0 c1 c2 c3;obtain ⟨oa,oA,ol,oc,ob,oB,om,od⟩:=uo;simp only at c0 c1 c2 c3;clear g1 g2 g3 g4;have KB:=oH (fun W' (hW:Below wz.heap.size wz W')=>(show W'.cell? ⟨R,i,none⟩=some (.slice (some ⟨g,0,none⟩) n cp)/\W'.cell? ⟨g,k*4,none⟩=some (.bool nap)/\W'.cell? ⟨g,k*4+1,none⟩=some (.slice A1p l1p c1p)/\W'.cell? ⟨g,k*4+2,none⟩=some (.bool nbp)/\W'.cell? ⟨g,k*4+3,none⟩=some (.slice A2p l2p c2p)/\W'.cell? ⟨go,i*4,none⟩=some (.bool oa)/\W'.cell? ⟨go,i*4+1,none⟩=some (.slice oA ol oc)/\W'.cell? ⟨go,i*4+2,none⟩=some (.bool ob)/\W'.cell? ⟨go,i*4+3,none⟩=some (.slice oB om od) from ⟨kP hW kR,kP hW y0,kP hW y1,kP hW y2,kP hW y3,kP hW c0,kP hW c1,kP hW c2,kP hW c3⟩));have HWz:=oH (show Below wz.heap.size wz wz.drew from bRx.drew);have KSz:=oH (KB.out _ HWz.out)
    have i1:(0:Int)<=(i:Int):=by omega
    have i2:(i:Int)<(m:Int):=by omega
    have i3:(i:Int)<(n:Int):=by omega
    have i4:(i:Int)<(k:Int):=by omega
    clear hrf htb hbq kR y0 y1 y2 y3 hy hg hcp c0 c1 c2 c3;go_wp2_with fail;refine xGe (S:=(fun w'=>w'.cell? ⟨R,i,none⟩=some (.slice (some ⟨g,0,none⟩) n cp)/\w'.cell? ⟨g,k*4,none⟩=some (.bool nap)/\w'.cell? ⟨g,k*4+1,none⟩=some (.slice A1p l1p c1p)/\w'.cell? ⟨g,k*4+2,none⟩=some (.bool nbp)/\w'.cell? ⟨g,k*4+3,none⟩=some (.slice A2p l2p c2p)/\w'.cell? ⟨go,i*4,none⟩=some (.bool oa)/\w'.cell? ⟨go,i*4+1,none⟩=some (.slice oA ol oc)/\w'.cell? ⟨go,i*4+2,none⟩=some (.bool ob)/\w'.cell? ⟨go,i*4+3,none⟩=some (.slice oB om od))) 12 (by kernel_rfl) rfl (by kernel_rfl) (by kernel_rfl) rfl (by exact KSz.out) (fun hHeld=>?_);simp only [List.pop_toArray,List.dropLast_cons_cons,List.dropLast_singleton];refine tkH 0 ?_;refine tkH 1 ?_;refine tkH 3 ?_;refine tkH 4 ?_;refine tkH 5 ?_;refine tkH 6 ?_;refine tkH 7 ?_;refine tkH 8 ?_;refine tkH 9 ?_
    try simp only [Act.put,tkA,tkB,tkC]
    refine tkS 2 fun K hK=>?_
    go_simp
    (go_at_call 50;(with_reducible refine (zDo 0 _ dCx dCx).mono ?_);rintro e wa ⟨va,rfl,hv,hb⟩;have hw:=HWz.out.trans (hb.mono HWz.out.size);have HWa:=oH hw;have HVa:=oH hv;have KSa:=oH (KB.out wa hw);obtain ⟨xa,ya,Xa,Ya,laa,caa,lba,cba,rfl⟩:=hv.slice;clear hb hw hv)
    go_wp2_with fail;refine hK.out _ _ ?_ (fun hHeld=>?_)
    ·exact kSx
    clear hK K
    try simp only [Act.put,tkA,tkB,tkC]
    refine tkS 10 fun K hK=>?_
    go_simp
    (go_at_call 59;(with_reducible refine (zDv _ _ ((0:Int):Rat) (F i k) _ HVa.out (HU.out.below HWa.out) HS0.out HSF.out).mono ?_);rintro e wb ⟨vb,rfl,hv,hb⟩;have hw:=HWa.out.trans (hb.mono HWa.out.size);have HWb:=oH hw;have HVb:=oH hv;have KSb:=oH (KB.out wb hw);obtain ⟨xb,yb,Xb,Yb,lab,cab,lbb,cbb,rfl⟩:=hv.slice;clear hb hw hv)
    go_wp2_with fail;refine hK.out _ _ ?_ (fun hHeld=>?_)
    ·exact kSx
    clear hK K
    try simp only [Act.put,tkA,tkB,tkC]
    refine tkH 11 ?_
    try simp only [Act.put,tkA,tkB,tkC]
    refine wpAnyH_done (by kernel_rfl) ?_ _;simp only [xCo,List.getElem_toArray,List.getElem_cons_succ,List.getElem_cons_zero];have f0:=HFZ.out wb HWb.out (i*4);have f1:=HFZ.out wb HWb.out (i*4+1);have f2:=HFZ.out wb HWb.out (i*4+2);have f3:=HFZ.out wb HWb.out (i*4+3);go_wp2_with fail;go_roundw
    case rel =>
     obtain ⟨t1,t2,t3⟩:=HST.out wb HWb.out ⟨xb,Xb,lab,cab,yb,Yb,lbb,cbb⟩ HVb.out
     exact ⟨i+1,_,by go_num,oMx,t1.congr (q':=fun j=>if j=k then ((1:Int):Rat) else if j<i+1 then ((0:Int):Rat)-F j k else ((0:Int):Rat)) fun j _ _=>⟨.inr trivial,by
      show ite _ _ _=ite _ _ _
      by_cases e:j=i
      ·subst e;rw [if_pos rfl,if_neg oMx,if_pos oMx]
      rw [if_neg e]
      by_cases e2:j<i
      ·rw [if_pos e2,if_pos (show j<i+1 by omega)]
      rw [if_neg e2,if_neg (show ¬j<i+1 by omega)]⟩,t2,t3⟩
    simp [intOf];omega
   have hie:i=k:=by omega
   have hq:=hrf.congr (q':=zPg F k) (D':=fun _=>True) fun j _ _=>⟨trivial,by
    show zPg F k j=ite _ _ _
    unfold zPg;rw [hie]
    split
    ·simp
    split
    ·grind
    simp⟩
   have x2:¬(i:Int)<(k:Int):=by omega
   have HLN:=oH (zEj go n n (zPg F k) wz hq.lt.2 oMx (fun j hj=>by
    have hj5:j<us.length:=by have:=hq.l;omega
    obtain ⟨e1,e2,e3,e4⟩:=zNo (us:=us) (i:=j) hj5
    exact ⟨us[j],(hq.o.cellAt (j*4) oMx).trans e1,(hq.o.cellAt (j*4+1) oMx).trans e2,(hq.o.cellAt (j*4+2) oMx).trans e3,(hq.o.cellAt (j*4+3) oMx).trans e4,hq.num j hj5 trivial⟩) (fun j hj=>by
    unfold zPg
    split
    ·exact HS1.out
    split
    ·exact HSN.out j k oMx hkn
    exact HS0.out))
   have HB9:=oH hbq;clear hrf htb hbq hq;go_wp2_with fail;refine HLN.mono ?_;rintro e w9 hline;have HR:=oH (HSR.out e w9 (hline.texts HB9.out))
   rcases hline with ⟨-,A9,c9,ts,rfl, -⟩|⟨-,rfl, -⟩
   ·go_wp2_with fail;exact HR.out
   go_wp2_with fail;exact HR.out
  have x5:(n:Int)<=(k:Int):=by omega
  have HRK:=oH (show Rk m n M n from by
   have h1:r=n:=by omega
   have h2:=HG.rk;rw [h1] at h2
   exact h2)
  have HB:=bTx2 HB4 HBW;go_wp2_with fail;exact HSQ.out _ _ hH HRK.out ⟨rfl,HB.out⟩
 obtain ⟨pb,po,hpA,hpb,hpc⟩:=HCE.out (by intro e;have:=HPL.out;rw [e] at this;simp at this;omega);subst hpA;have c0:=(HBW.cell (p:=⟨pb,po+k,none⟩) hpb).trans (hpc k (by have:=HPL.out;omega));rw [HNT.out k hd1] at c0
 have x1:(0:Int)<=(k:Int):=by omega
 have x2:(k:Int)<(r:Int):=by omega
 have x3:((psf k:Int)==(k:Int))=false:=by simp;omega
 clear hpc;go_upto_region 11 with (fail);clear x1 x2 x3 c0 hpb hd1 hd2
 by_cases hkn:k<n
 ·have x5:¬(n:Int)<=(k:Int):=by omega
  have HKER:=oH (HG.kerOf hkn (fun i hi=>⟨oMx,HID.out i hi⟩) HK2.out);replace HSR:=oH (fun e w' h=>HSR.out e w' hH k _ HKER.out h);have HT:=oH (HT4.below HBW.out);have HB:=bTx2 HB4 HBW;clear HT4 HB4 HBW HCE HNT HPL HG HID HK2 HKER HSP HSQ;have hmk:=zYm n oMx;go_upto_region 14 with (fail);clear hmk x5;have hba:Below wk.heap.size wk (wk.alloc (.cells (frc (List.replicate n xGh)).toArray 87)):=bA;have HRF:=oH (RfS.made wk n (fun _=>((0:Int):Rat)) oMx);have HTX:=oH (HT.below hba);have HBX:=bTx2 HB hba;have HRG:=oH (fun r (hr:r∈rows)=>(show r.g<wk.heap.size from ((HT.r r hr).lt _ rfl).2));have hRg:R<wk.heap.size:=(HT.o.lt R rfl).2;have hgs:w.heap.size<=wk.heap.size:=HB.size;clear hba HT HB;generalize wk.alloc (.cells (frc (List.replicate n xGh)).toArray 87)=W0 at *;generalize wk.heap.size=go at *;go_wp2_with fail
  go_loopw [57] (fun jv wr=>∃ (i:Nat) (us:List FrV),jv = .int .i64 (i:Int)/\i<=n/\RfS go wr go n us (fun _=>((0:Int):Rat)) (fun j=>j<i)/\TbF w.heap.size wr (.slice (some ⟨R,0,none⟩) m cR) rows n F/\Below w.heap.size w wr) (fun jv _=>n-(intOf jv).toNat)
  ·exact ⟨0,_,rfl,oLx,HRF.out,HTX.out,HBX.out⟩
  clear HRF HTX HBX;obtain ⟨i,us,rfl,hin,hrf,htb,hbq⟩:=hrel;obtain ⟨wq,rfl⟩:=nWx wr
  by_cases hlt:i<n
  ·have x1:(0:Int)<=(i:Int):=by omega
   have x2:(i:Int)<(n:Int):=by omega
   go_wp2_with fail;refine (zDo 0 _ dCx dCx).mono ?_;rintro e wa ⟨va,rfl,hv,hb⟩;obtain ⟨xa,ya,Xa,Ya,laa,caa,lba,cba,rfl⟩:=hv.slice;obtain ⟨s1,s2,s3⟩:=(hrf.below hb).step (u:=⟨xa,Xa,laa,caa,ya,Ya,lba,cba⟩) (htb.below hb) (hbq.trans (hb.mono hbq.size)) hgs HRG.out hRg hlt hv;have hlu:=hrf.l;obtain ⟨g1,g2,g3,g4⟩:=zNo (us:=us) (i:=i) oMx;have c0:=((hrf.below hb).o.cellAt (i*4) oMx).trans g1;have c1:=((hrf.below hb).o.cellAt (i*4+1) oMx).trans g2;have c2:=((hrf.below hb).o.cellAt (i*4+2) oMx).trans g3;have c3:=((hrf.below hb).o.cellAt (i*4+3) oMx).trans g4;generalize us[i]=uo at c0 c1 c2 c3;have f0:=(hrf.below hb).fr (i*4);have f1:=(hrf.below hb).fr (i*4+1);have f2:=(hrf.below hb).fr (i*4+2);have f3:=(hrf.below hb).fr (i*4+3);have S1:=oH (s1.congr (q':=fun _=>((0:Int):Rat)) (D':=fun j=>j<i+1) fun j _ hd=>⟨by show _\/_;omega,by show _=ite _ _ _;split<;>rfl⟩);have S2:=oH s2;have S3:=oH s3;clear s1 s2 s3 hrf htb hbq hv hb g1 g2 g3 g4
   go_wp2_with fail;go_roundw
   ·exact ⟨i+1,_,by go_num,oMx,S1.out,S2.out,S3.out⟩
   simp [intOf];omega
  have hie:i=n:=by omega
  rw [hie] at hrf
  have x2:¬(i:Int)<(n:Int):=by omega
  have x6:(0:Int)<=(k:Int):=by omega
  have x7:(k:Int)<(n:Int):=by omega
  go_wp2_with fail;refine (zDo 1 _ dCx dCx).mono ?_;rintro e wa ⟨va,rfl,hv,hb⟩;obtain ⟨xa,ya,Xa,Ya,laa,caa,lba,cba,rfl⟩:=hv.slice;obtain ⟨s1,s2,s3⟩:=(hrf.below hb).step (u:=⟨xa,Xa,laa,caa,ya,Ya,lba,cba⟩) (htb.below hb) (hbq.trans (hb.mono hbq.size)) hgs HRG.out hRg hkn hv;have hlu:=hrf.l;obtain ⟨g1,g2,g3,g4⟩:=zNo (us:=us) (i:=k) oMx;have c0:=((hrf.below hb).o.cellAt (k*4) oMx).trans g1;have c1:=((hrf.below hb).o.cellAt (k*4+1) oMx).trans g2;have c2:=((hrf.below hb).o.cellAt (k*4+2) oMx).trans g3;have c3:=((hrf.below hb).o.cellAt (k*4+3) oMx).trans g4;generalize us[k]=uo at c0 c1 c2 c3;have f0:=(hrf.below hb).fr (k*4);have f1:=(hrf.below hb).fr (k*4+1);have f2:=(hrf.below hb).fr (k*4+2);have f3:=(hrf.below hb).fr (k*4+3);have S1:=oH (s1.congr (q':=fun j=>if j=k then ((1:Int):Rat) else if j<0 then ((0:Int):Rat)-F j k else ((0:Int):Rat)) (D':=fun _=>True) fun j hj _=>⟨.inr hj,by show ite _ _ _=ite _ _ _;split<;>simp⟩)
  simp only [put4] at S1 s2 s3;have S2:=oH s2;have S3:=oH s3;clear s1 s2 s3 hrf htb hbq hv hb x2 hie g1 g2 g3 g4;go_upto_region 20 with (fail);generalize ((((wa.setCell ⟨go,k*4,none⟩ (.bool xa)).setCell ⟨go,k*4+1,none⟩ (.slice Xa laa caa)).setCell ⟨go,k*4+2,none⟩ (.bool ya)).setCell ⟨go,k*4+3,none⟩ (.slice Ya lba cba))=W5 at *;clear f0 f1 f2 f3 c0 c1 c2 c3;go_wp2_with fail
  go_loopw [13] (fun iv wr=>∃ (i:Nat) (us:List FrV),iv = .int .i64 (i:Int)/\i<=k/\RfS go wr go n us (fun j=>if j=k then ((1:Int):Rat) else if j<i then ((0:Int):Rat)-F j k else ((0:Int):Rat)) (fun _=>True)/\TbF w.heap.size wr (.slice (some ⟨R,0,none⟩) m cR) rows n F/\Below w.heap.size w wr) (fun iv _=>k-(intOf iv).toNat)
  ·exact ⟨0,_,rfl,oLx,S1.out,S2.out,S3.out⟩
  clear S1 S2 S3;obtain ⟨i,us,rfl,hin,hrf,htb,hbq⟩:=hrel;obtain ⟨wz,rfl⟩:=nWx wr
  by_cases hlt:i<k
  ·have hir:i<rows.length:=by have:=HRL4.out;omega
   have him:i<m:=by omega
   have kR:=TbF.cell (show TbF _ _ (.slice (some ⟨R,0,none⟩) rows.length cR) rows n _ by rw [HRL4.out];exact htb) hir;obtain ⟨yy,y0,y1,y2,y3,hy⟩:=htb.num_at hir hkn;obtain ⟨nap,A1p,l1p,c1p,nbp,A2p,l2p,c2p⟩:=yy;simp only [FrV.val] at hy;have HU:=oH hy;have HSF:=oH (HSF.out i k him hkn);have HST:=oH (fun W (hW:Below wz.heap.size wz W) (u:FrV) (hu:zBt W u.val (((0:Int):Rat)-F i k))=>(hrf.below hW).step (htb.below hW) (hbq.trans (hW.mono hbq.size)) hgs HRG.out hRg (show i<n by omega) hu);have HFZ:=oH (fun W (hW:Below wz.heap.size wz W) j=>(hrf.below hW).fr j);obtain ⟨g,hg⟩:=eXx (rows[i].g);obtain ⟨cp,hcp⟩:=eXx (rows[i].cp);rw [hg,hcp] at kR;rw [hg] at y0 y1 y2 y3;have hlu:=hrf.l;obtain ⟨g1,g2,g3,g4⟩:=zNo (us:=us) (i:=i) oMx;have c0:=(hrf.o.cellAt (i*4) oMx).trans g1;have c1:=(hrf.o.cellAt (i*4+1) oMx).trans g2;have c2:=(hrf.o.cellAt (i*4+2) oMx).trans g3;have c3:=(hrf.o.cellAt (i*4+3) oMx).trans g4
   generalize us[i]=uo at c0 c1 c2 c3;obtain ⟨oa,oA,ol,oc,ob,oB,om,od⟩:=uo;simp only at c0 c1 c2 c3;clear g1 g2 g3 g4;have KB:=oH (fun W' (hW:Below wz.heap.size wz W')=>(show W'.cell? ⟨R,i,none⟩=some (.slice (some ⟨g,0,none⟩) n cp)/\W'.cell? ⟨g,k*4,none⟩=some (.bool nap)/\W'.cell? ⟨g,k*4+1,none⟩=some (.slice A1p l1p c1p)/\W'.cell? ⟨g,k*4+2,none⟩=some (.bool nbp)/\W'.cell? ⟨g,k*4+3,none⟩=some (.slice A2p l2p c2p)/\W'.cell? ⟨go,i*4,none⟩=some (.bool oa)/\W'.cell? ⟨go,i*4+1,none⟩=some (.slice oA ol oc)/\W'.cell? ⟨go,i*4+2,none⟩=some (.bool ob)/\W'.cell? ⟨go,i*4+3,none⟩=some (.slice oB om od) from ⟨kP hW kR,kP hW y0,kP hW y1,kP hW y2,kP hW y3,kP hW c0,kP hW c1,kP hW c2,kP hW c3⟩));have HWz:=oH (show Below wz.heap.size wz wz.drew from bRx.drew);have KSz:=oH (KB.out _ HWz.out)
   have i1:(0:Int)<=(i:Int):=by omega
   have i2:(i:Int)<(m:Int):=by omega
   have i3:(i:Int)<(n:Int):=by omega
   have i4:(i:Int)<(k:Int):=by omega
   clear hrf htb hbq kR y0 y1 y2 y3 hy hg hcp c0 c1 c2 c3;go_wp2_with fail;refine xGe (S:=(fun w'=>w'.cell? ⟨R,i,none⟩=some (.slice (some ⟨g,0,none⟩) n cp)/\w'.cell? ⟨g,k*4,none⟩=some (.bool nap)/\w'.cell? ⟨g,k*4+1,none⟩=some (.slice A1p l1p c1p)/\w'.cell? ⟨g,k*4+2,none⟩=some (.bool nbp)/\w'.cell? ⟨g,k*4+3,none⟩=some (.slice A2p l2p c2p)/\w'.cell? ⟨go,i*4,none⟩=some (.bool oa)/\w'.cell? ⟨go,i*4+1,none⟩=some (.slice oA ol oc)/\w'.cell? ⟨go,i*4+2,none⟩=some (.bool ob)/\w'.cell? ⟨go,i*4+3,none⟩=some (.slice oB om od))) 12 (by kernel_rfl) rfl (by kernel_rfl) (by kernel_rfl) rfl (by exact KSz.out) (fun hHeld=>?_);simp only [List.pop_toArray,List.dropLast_cons_cons,List.dropLast_singleton];refine tkH 0 ?_;refine tkH 1 ?_;refine tkH 3 ?_;refine tkH 4 ?_;refine tkH 5 ?_;refine tkH 6 ?_;refine tkH 7 ?_;refine tkH 8 ?_;refine tkH 9 ?_
   try simp only [Act.put,tkA,tkB,tkC]
   refine tkS 2 fun K hK=>?_
   go_simp
   (go_at_call 50;(with_reducible refine (zDo 0 _ dCx dCx).mono ?_);rintro e wa ⟨va,rfl,hv,hb⟩;have hw:=HWz.out.trans (hb.mono HWz.out.size);have HWa:=oH hw;have HVa:=oH hv;have KSa:=oH (KB.out wa hw);obtain ⟨xa,ya,Xa,Ya,laa,caa,lba,cba,rfl⟩:=hv.slice;clear hb hw hv)
   go_wp2_with fail;refine hK.out _ _ ?_ (fun hHeld=>?_)
   ·exact kSx
   clear hK K
   try simp only [Act.put,tkA,tkB,tkC]
   refine tkS 10 fun K hK=>?_
   go_simp
   (go_at_call 59;(with_reducible refine (zDv _ _ ((0:Int):Rat) (F i k) _ HVa.out (HU.out.below HWa.out) HS0.out HSF.out).mono ?_);rintro e wb ⟨vb,rfl,hv,hb⟩;have hw:=HWa.out.trans (hb.mono HWa.out.size);have HWb:=oH hw;have HVb:=oH hv;have KSb:=oH (KB.out wb hw);obtain ⟨xb,yb,Xb,Yb,lab,cab,lbb,cbb,rfl⟩:=hv.slice;clear hb hw hv)
   go_wp2_with fail;refine hK.out _ _ ?_ (fun hHeld=>?_)
   ·exact kSx
   clear hK K
   try simp only [Act.put,tkA,tkB,tkC]
   refine tkH 11 ?_
   try simp only [Act.put,tkA,tkB,tkC]
   refine wpAnyH_done (by kernel_rfl) ?_ _;simp only [xCo,List.getElem_toArray,List.getElem_cons_succ,List.getElem_cons_zero];have f0:=HFZ.out wb HWb.out (i*4);have f1:=HFZ.out wb HWb.out (i*4+1);have f2:=HFZ.out wb HWb.out (i*4+2);have f3:=HFZ.out wb HWb.out (i*4+3);go_wp2_with fail;go_roundw
   case rel =>
    obtain ⟨t1,t2,t3⟩:=HST.out wb HWb.out ⟨xb,Xb,lab,cab,yb,Yb,lbb,cbb⟩ HVb.out
    exact ⟨i+1,_,by go_num,oMx,t1.congr (q':=fun j=>if j=k then ((1:Int):Rat) else if j<i+1 then ((0:Int):Rat)-F j k else ((0:Int):Rat)) fun j _ _=>⟨.inr trivial,by
     show ite _ _ _=ite _ _ _
     by_cases e:j=i
     ·subst e;rw [if_pos rfl,if_neg oMx,if_pos oMx]
     rw [if_neg e]
     by_cases e2:j<i
     ·rw [if_pos e2,if_pos (show j<i+1 by omega)]
     rw [if_neg e2,if_neg (show ¬j<i+1 by omega)]⟩,t2,t3⟩
   simp [intOf];omega
  have hie:i=k:=by omega
  have hq:=hrf.congr (q':=zPg F k) (D':=fun _=>True) fun j _ _=>⟨trivial,by
   show zPg F k j=ite _ _ _
   unfold zPg;rw [hie]
   split
   ·simp
   split
   ·grind
   simp⟩
  have x2:¬(i:Int)<(k:Int):=by omega
  have HLN:=oH (zEj go n n (zPg F k) wz hq.lt.2 oMx (fun j hj=>by
   have hj5:j<us.length:=by have:=hq.l;omega
   obtain ⟨e1,e2,e3,e4⟩:=zNo (us:=us) (i:=j) hj5
   exact ⟨us[j],(hq.o.cellAt (j*4) oMx).trans e1,(hq.o.cellAt (j*4+1) oMx).trans e2,(hq.o.cellAt (j*4+2) oMx).trans e3,(hq.o.cellAt (j*4+3) oMx).trans e4,hq.num j hj5 trivial⟩) (fun j hj=>by
   unfold zPg
   split
   ·exact HS1.out
   split
   ·exact HSN.out j k oMx hkn
   exact HS0.out))
  have HB9:=oH hbq;clear hrf htb hbq hq;go_wp2_with fail;refine HLN.mono ?_;rintro e w9 hline;have HR:=oH (HSR.out e w9 (hline.texts HB9.out))
  rcases hline with ⟨-,A9,c9,ts,rfl, -⟩|⟨-,rfl, -⟩
  ·go_wp2_with fail;exact HR.out
  go_wp2_with fail;exact HR.out
 have x5:(n:Int)<=(k:Int):=by omega
 have HRK:=oH (show Rk m n M n from by
  have h1:r=n:=by omega
  have h2:=HG.rk;rw [h1] at h2
  exact h2)
 have HB:=bTx2 HB4 HBW;go_wp2_with fail;exact HSQ.out _ _ hH HRK.out ⟨rfl,HB.out⟩
end Go.Proofs.YtbjaplppalcmgaaGreatDoor
