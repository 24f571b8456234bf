import Derived.Test.YtfjjcoggoomlbaaGreatDoorZNU
import Derived.Test.YtfjjcoggoomlbaaGreatDoorZNR
import Derived.Test.YtfjjcoggoomlbaaGreatDoorZNK
set_option maxHeartbeats 16000000
set_option maxRecDepth 100000
set_option linter.unusedVariables false
set_option linter.unusedSimpArgs false
set_option linter.unusedSectionVars false
namespace Go.Proofs.YtfjjcoggoomlbaaGreatDoor
open Go.RowKit
theorem sgR_one {q:Rat} (h:0<q):sgR q=1:=by
 have h1:=xAx.2 h;unfold sgR sg at *
 split at h1<;>(try split at h1)<;>simp_all<;>omega
theorem DefiniteProves_any (A:oAx) (l cp:Nat) (w:World) (h:Ints w A l) (hlc:l<=cp) (hl:l<=9223372036854775807) (henv:Env w) :
  Calls Tryz.prog 6 #[.slice A l cp] w fun e w'=>e = .returned (.bool true)/\Below w.heap.size w w':=by
 have HE:=oH henv;have HI:=oH h;clear henv h
 go_enter Tryz.func6,Tryz.ntmps6
 go_wp2_with fail;refine (New_any A l cp w HI.out hlc hl).mono ?_;rintro e w0 ⟨rfl,hs,hb⟩;obtain ⟨b,hbe⟩:=eXx (w.heap.size)
 have hsz2:w.heap.size<=b:=by omega
 have HS:Hid (Src w0 b):=by rw [<-hbe];exact oH hs
 have HB:=oH hb;clear hs hb HI;rw [hbe];have HUP:=oH (fun (W W':World) (hW:Below w.heap.size w W) (hg:W.grownBy W' (some b))=>srcBelow hW hsz2 hg);clear hbe hsz2;go_wp2_with fail;refine (zDc b 4 w0 HS.out dCx dCx).mono ?_;rintro e w1 ⟨n',rfl,hn,hs,hg⟩;replace HB:=oH (HUP.out _ _ HB.out hg);obtain ⟨n,hn2⟩:∃ n:Nat,1+n'=n:=⟨_,rfl⟩
 have hnl:1<=n:=by omega
 have hnu:n<=4:=by omega
 have hne:(1:Int)+(n':Int)=(n:Int):=by omega
 clear hn hn2;replace HS:=oH hs;clear hs hg;go_wp2_with fail;refine (MPosK b n w1 HS.out oMx).mono ?_;rintro e w2 ⟨Aa,ca,M,rfl,hm,⟨hk,hp⟩,hs,hg⟩;replace HB:=oH (HUP.out _ _ HB.out hg);have Oa:=oH hm;have Ka:=oH hk;have Pa:=oH (posD_of hp);clear hm hk hp;obtain ⟨Ba,hBa⟩:=eXx (w1.heap.size);rw [hBa] at Oa
 have hba:b<Ba:=by have:=HS.lt;omega
 clear hBa;replace HS:=oH hs;clear hs hg;go_wp2_with fail;refine (decG (k0:=2) Oa.r oMx oMx Ka.sym dCx dCx (fun i k hi hk=>(Ka.bnd i k hi hk).dig dCx dCx) (fun k hk=>posK_cut Pa.out (Nat.le_refl n) hk) (HE.below HB.out) (fun k hkn hp=>Ka.fitD oMx hkn fun t ht=>hp t oMx) (fun k i hki hi hp=>Ka.fitL oMx oMx hi hp)).mono ?_;rintro e we ⟨U,gD,cD,rs1,rfl, -,hg,ho,hb⟩;have hbl:Below we.heap.size we (we.alloc (.cells #[.slice (some ⟨U,0,none⟩) n n,.slice (some ⟨gD,0,none⟩) n cD] 31)):=bA;have HX:=oH (Blk.new we 31 [.slice (some ⟨U,0,none⟩) n n,.slice (some ⟨gD,0,none⟩) n cD]);obtain ⟨Bg,hBg⟩:=eXx (w2.heap.size)
 have hbg:b<Bg:=by have:=HS.lt;omega
 rw [hBg] at hg ho
 have hbf:b<we.heap.size:=by have:=HS.lt;have:=hb.size;omega
 have hb':=hb.trans (hbl.mono hb.size);have HG:=oH (hg.below hbl);have HO:=oH (zVn ho hbl);replace HS:=oH (HS.below hb');replace Oa:=oH (Oa.below hb');replace HB:=oH (HB.trans (hb'.mono HB.size));clear hg ho hb hb' hbl hBg;go_upto_region 5 with (fail);generalize we.alloc (.cells #[.slice (some ⟨U,0,none⟩) n n,.slice (some ⟨gD,0,none⟩) n cD] 31)=wf at *;generalize we.heap.size=fx at *;have c0:=HX.at_ (i:=0) rfl;have c1:=HX.at_ (i:=1) rfl;go_wp2_with fail;refine (chkM Oa.r Ka.out oMx Pa.out HG.out HO.out (HE.below HB.out)).mono ?_;rintro e wg ⟨rfl,hb⟩;replace HX:=oH (HX.below hb);replace HG:=oH (HG.below hb);replace HO:=oH (zVn HO.out hb);replace HS:=oH (HS.below hb);replace Oa:=oH (Oa.below hb);replace HB:=bTx2 HB hb;clear hb c0 c1;go_wp2_with fail;refine (vcRats b n wg HS.out oMx).mono ?_;rintro e w3 ⟨Ax,cx,x,rfl,hm,hd,hs,hg⟩;replace Oa:=oH (Oa.grown hg hba);replace HB:=oH (HUP.out _ _ HB.out hg)
 replace HX:=oH (HX.grown hg (fun e=>by injection e with e;omega));replace HG:=oH (HG.drawn hg hbg);replace HO:=oH (zVr HO.out hg hbg);have Ox:=oH hm;have Sx:=oH hd;obtain ⟨Bx,hBx⟩:=eXx (wg.heap.size);rw [hBx] at Ox
 have hbx:b<Bx:=by have:=HS.lt;omega
 clear hm hd hBx;replace HS:=oH hs;clear hs hg;go_wp2_with fail;refine (vcRats b n w3 HS.out oMx).mono ?_;rintro e w4 ⟨Aq,cq,q,rfl,hm,hd,hs,hg⟩;replace Oa:=oH (Oa.grown hg hba);replace Ox:=oH (Ox.grown hg hbx);replace HB:=oH (HUP.out _ _ HB.out hg);replace HX:=oH (HX.grown hg (fun e=>by injection e with e;omega));replace HG:=oH (HG.drawn hg hbg);replace HO:=oH (zVr HO.out hg hbg);have Oq:=oH hm;have Sq:=oH hd;obtain ⟨Bq,hBq⟩:=eXx (w3.heap.size);rw [hBq] at Oq
 have hbq:b<Bq:=by have:=HS.lt;omega
 clear hm hd hBq;replace HS:=oH hs;clear hs hg;have OA:=oH Oa.r;have HVX:=oH Ox.mxIn;have HVQ:=oH Oq.mxIn;clear Oa Ox Oq hba hbx hbq hbg hbf HS HUP;obtain ⟨wb,rfl⟩:=nWx w4;obtain ⟨bx,ox,ex⟩:=HVX.addr oMx;subst ex;go_wp2_with fail
 go_loopw [10,48] (fun zv iv wr=>∃ (i:Nat) (zb:Bool),zv = .bool zb/\iv = .int .i64 (i:Int)/\i<=n/\(zb=true↔∀ j,j<i->x j=0)/\Below wb.heap.size wb wr) (fun _ iv _=>n-(intOf iv).toNat)
 ·exact ⟨0,true,rfl,rfl,oLx,⟨fun _ j hj=>absurd hj oMx,fun _=>rfl⟩,bRx⟩
 obtain ⟨i,zb,rfl,rfl,hin,hzb,hbr⟩:=hrel;obtain ⟨wh,rfl⟩:=nWx wr;have HBR:=oH hbr;clear hbr
 by_cases hlt2:i<n
 ·have cz:=(HVX.below HBR.out).at_ hlt2;have h0:=rstr_is0 (x i)
  have i1:(0:Int)<=(i:Int):=by omega
  have i2:(i:Int)<(n:Int):=by omega
  have HN:=oH (show ∀ tb:Bool,(tb=true↔x i=0)->((zb&&tb)=true↔∀ j,j<i+1->x j=0) from fun tb htb=>by
   rw [Bool.and_eq_true,hzb,htb]
   constructor
   ·rintro ⟨h1,h2⟩ j hj
    rcases Nat.lt_or_ge j i with h3|h3
    ·exact h1 j h3
    rw [show j=i by omega];exact h2
   exact fun h=>⟨fun j hj=>h j oMx,h i oMx⟩)
  obtain ⟨y,hy⟩:=eXx (x i);rw [hy] at cz h0 HN;clear hzb
  by_cases hy0:y=0
  ·rw [show decide (y=0)=true by simpa using hy0] at h0;have HN2:=oH (HN.out true ⟨fun _=>hy0,fun _=>rfl⟩);generalize zYy y=sy at *;clear hy hy0 HN
   cases zb
   ·go_wp2_with fail;go_roundw
    ·exact ⟨i+1,false,rfl,by go_num,oMx,HN2.out,HBR.out⟩
    simp [intOf];omega
   go_wp2_with fail;go_roundw
   ·exact ⟨i+1,true,rfl,by go_num,oMx,HN2.out,HBR.out⟩
   simp [intOf];omega
  rw [show decide (y=0)=false by simpa using hy0] at h0;have HN2:=oH (HN.out false ⟨fun h=>(by cases h),fun h=>absurd h hy0⟩);generalize zYy y=sy at *;clear hy hy0 HN
  cases zb
  ·go_wp2_with fail;go_roundw
   ·exact ⟨i+1,false,rfl,by go_num,oMx,HN2.out,HBR.out⟩
   simp [intOf];omega
  go_wp2_with fail;go_roundw
  ·exact ⟨i+1,false,rfl,by go_num,oMx,HN2.out,HBR.out⟩
  simp [intOf];omega
 have hie:i=n:=by omega
 rw [hie] at hzb
 have hsg:(zb=true/\sgR (form n M x)=0)\/(zb=false/\sgR (form n M x)=1):=by
  cases zb
  ·refine .inr ⟨rfl,?_⟩
   have hex:∃ i,i<n/\x i≠0:=by
    refine Classical.byContradiction fun hc=>?_
    have h9:=hzb.2 fun j hj=>Classical.byContradiction fun hne=>hc ⟨j,hj,hne⟩
    cases h9
   have h1:=form_pos Ka.sym Pa.out hex;exact sgR_one h1
  refine .inl ⟨rfl,?_⟩;have h1:=hzb.1 rfl
  have h2:form n M x=0:=by
   unfold form
   exact xDu fun i hi=>xDu fun j _=>by rw [h1 i hi];grind
  rw [h2];decide
 have HBZ:=oH HBR.out;have hbr:=HBR.out;replace HX:=oH (HX.below hbr);replace HG:=oH (HG.below hbr);replace HO:=oH (zVn HO.out hbr);replace OA:=oH (OA.below hbr);replace HVX:=oH (HVX.below hbr);replace HVQ:=oH (HVQ.below hbr);replace HB:=bTx2 HB hbr;have HFQ:=oH (form_fit Ka.out oMx Sx.out);have HFC:=oH (fun c=>frmM (c:=c) (cb:=cx) OA.out HVX.out oMx oMx rfl HFQ.out (HE.below HB.out));have HSC:=oH (fun W=>zEd (form n M x) W HFQ.out);generalize sgR (form n M x)=sg0 at *;generalize zYy (form n M x)=sf at *;clear hzb hbr HBR HBZ hie;go_wp2_with fail;refine (HFC.out _).mono ?_;rintro e w6 ⟨rfl,hb⟩;replace HX:=oH (HX.below hb);replace HG:=oH (HG.below hb);replace HO:=oH (zVn HO.out hb);replace OA:=oH (OA.below hb);replace HVQ:=oH (HVQ.below hb);replace HB:=bTx2 HB hb;clear hb HFC HVX;have c0:=HX.at_ (i:=0) rfl;have c1:=HX.at_ (i:=1) rfl;go_wp2_with fail;refine (dsoM Ka.out Pa.out oMx oMx HG.out HO.out HVQ.out Sq.out (HE.below HB.out)).mono ?_
 rintro e w7 ⟨z,hz,hf,A7,c7,rfl,hv7,hb⟩;replace OA:=oH (OA.below hb);replace HVQ:=oH (HVQ.below hb);have HV7:=oH hv7;replace HB:=bTx2 HB hb;have HRS:=oH (fun c cb=>rsoM (c:=c) (cb:=cb) OA.out Ka.out Pa.out oMx oMx HVQ.out Sq.out hz hf);clear hz hf hv7 hb c0 c1 HG HO HX;go_wp2_with fail;refine (HRS.out _ _).mono ?_;rintro e w8 ⟨A8,c8,rfl,hv8,hb⟩;replace HV7:=oH (HV7.below hb);have HV8:=oH hv8;replace HB:=bTx2 HB hb;clear hv8 hb HRS OA HVQ
 rcases hsg with ⟨rfl,rfl⟩|⟨rfl,rfl⟩
 all_goals
  go_wp2_with fail;refine (HSC.out w8).mono ?_;rintro e w9 ⟨rfl,hb⟩;replace HV7:=oH (HV7.below hb);replace HV8:=oH (HV8.below hb);replace HB:=bTx2 HB hb;clear hb HSC;go_wp2_with fail;refine (vcSame HV7.out HV8.out oMx).mono ?_;rintro e wy ⟨rfl,hb⟩;replace HB:=bTx2 HB hb;clear hb HV7 HV8;go_wp2_with fail;refine (Sane4 _ (HE.below HB.out)).mono ?_;rintro e wz ⟨rfl,hb⟩;have HBX:=bTx2 HB hb;clear hb;go_wp2_with fail;go_ret
  exact ⟨rfl,HBX.out⟩
end Go.Proofs.YtfjjcoggoomlbaaGreatDoor
