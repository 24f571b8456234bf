import Derived.Test.YtfjjcoggoomlbaaGreatDoorZNF
import Derived.Test.YtfjjcoggoomlbaaGreatDoorZNH
set_option maxHeartbeats 16000000
set_option maxRecDepth 100000
set_option linter.unusedVariables false
set_option linter.unusedSimpArgs false
set_option linter.unusedSectionVars false
namespace Go.Proofs.YtfjjcoggoomlbaaGreatDoor
open Go.RowKit
theorem zHg.readN {B n c:Nat} {w:World} {A:oAx} {rs:List zGk} (h:zHg B w (.slice A n c) rs) (hl:rs.length=n):zCz w A rs:=by
 subst hl;exact h.read
theorem zZe:zYy 1=⟨#[49]⟩:=by rw [zZh (show (1:Rat).den=1 from rfl)];exact str_1
theorem mat_rowC {w:World} {A:oAx} {rs:List zGk} {m n:Nat} {M:mRx} (h:zCz w A rs) (hm:zCy rs m n M) (hc:∀ r∈rs,r.ss.length<=r.cp) (hn:0<n) {i:Nat} (hi:i<m):∃ b off b2 o2 cp:Nat,A=some ⟨b,off,none⟩/\b<w.heap.size/\b2<w.heap.size/\n<=cp/\w.cell? ⟨b,off+i,none⟩=some (.slice (some ⟨b2,o2,none⟩) n cp)/\∀ k,k<n->w.cell? ⟨b2,o2+k,none⟩=some (.string (zYy (M i k))):=by
 have hl:=hm.len
 have hi':i<rs.length:=by omega
 obtain ⟨b,off,e,hb,hc1⟩:=h.some (by intro e;subst e;simp at hi');have hr:=hm.rowAt hi';obtain ⟨b2,o2,e2,hb2,hc2⟩:=h.i _ (List.getElem_mem hi') (by intro e;rw [e] at hr;simp at hr;omega);refine ⟨b,off,b2,o2,rs[i].cp,e,hb,hb2,?_,?_,fun k hk=>?_⟩
 ·have:=hc _ (List.getElem_mem hi');omega
 ·rw [hc1 i hi',hr,e2]
 rw [hc2 k oMx,hm.cel i k hi' oMx]
theorem zRt (A:oAx) (c n:Nat) (rs:List zGk) (L:mRx) (w:World) (h:zCz w A rs) (hmf:zCy rs n n L) (hcp:∀ r∈rs,r.ss.length<=r.cp) (hn:n<=12) (hlow:∀ i k,i<n->k<n->i<=k->L i k=idn i k) :
  Calls Tryz.prog 66 #[.slice A n c] w fun e w'=>e = .returned (.bool true)/\Below w.heap.size w w':=by
 have HM:=oH h;have HF:=oH hmf;have HCP:=oH hcp;have HLO:=oH hlow;clear h hmf hcp hlow
 go_enter Tryz.func66,Tryz.ntmps66
 go_wp2_with fail
 go_loopw [7] (fun iv wr=>∃ i:Nat,iv = .int .i64 (i:Int)/\i<=n/\Below w.heap.size w wr) (fun iv _=>n-(intOf iv).toNat)
 ·exact ⟨0,rfl,oLx,bRx⟩
 obtain ⟨i,rfl,hi,hbw⟩:=hrel;obtain ⟨wi,rfl⟩:=nWx wr;have HB:=oH hbw;clear hbw
 by_cases hlt:i<n
 ·obtain ⟨b,off,b2,o2,cp,rfl,hb,hb2,hcp,hc,hc2⟩:=mat_rowC HM.out HF.out HCP.out oMx hlt;have c0:=(HB.cell (p:=⟨b,off+i,none⟩) hb).trans hc;have c1:=(HB.cell (p:=⟨b2,o2+i,none⟩) hb2).trans (hc2 i hlt)
  have e1:zYy (L i i)=⟨#[49]⟩:=by
   rw [HLO.out i i hlt hlt lRx,show idn i i=1 by unfold idn;rw [if_pos rfl],zZe]
  rw [e1] at c1
  have HCO:=oH (fun W (hW:Below w.heap.size w W)=>ConLo (fun s => !(s.toList==[48])) (some ⟨b2,o2+(i+1),none⟩) (List.replicate (n-(i+1)) ⟨#[48]⟩) (cp-(i+1)) W
   (xDd (by have:=hW.size;omega) fun j hj=>by
    have hj':j<n-(i+1):=by simpa using hj
    rw [List.getElem_replicate];have:=(hW.cell (p:=⟨b2,o2+(i+1+j),none⟩) hb2).trans (hc2 (i+1+j) oMx);rw [HLO.out i (i+1+j) hlt oMx oMx,show idn i (i+1+j)=0 by unfold idn;rw [if_neg oMx],zZi] at this;rw [Nat.add_assoc]
    exact this) (by simp;omega) (fun x _ W' _=>lower1 x W'))
  have hany:∀ d,(List.replicate d (⟨#[48]⟩:ByteArray)).any (fun s => !(s.toList==[48]))=false:=fun d=>by
   rw [List.any_eq_false]
   intro x hx
   rw [(List.mem_replicate.1 hx).2]
   decide +kernel
  rw [hany] at HCO
  have i1:(0:Int)<=(i:Int):=by omega
  have i2:(i:Int)<(n:Int):=by omega
  have i3:(i:Int)+1<=(n:Int):=by omega
  simp only [List.length_replicate] at HCO;clear hc hc2 hany e1;go_wp2_with fail
  ·have hz:n-(i+1)=0:=by omega
   have HC0:=oH (ConLo (fun s => !(s.toList==[48])) (some ⟨b2,o2,none⟩) [] 0 wi (fun h=>absurd rfl h) sMx (fun x hx=>absurd hx sMx));rw [hz];refine HC0.mono ?_;rintro e w2 ⟨rfl,hb3⟩;have HB2:=bTx2 HB hb3;clear hb3 c0 c1 HCO HC0;go_wp2_with fail;go_roundw
   ·exact ⟨i+1,by go_num,oMx,HB2.out⟩
   simp [intOf];omega
  refine (HCO.out wi HB.out).mono ?_;rintro e w2 ⟨rfl,hb3⟩;have HB2:=bTx2 HB hb3;clear hb3 c0 c1 HCO;go_wp2_with fail;go_roundw
  ·exact ⟨i+1,by go_num,oMx,HB2.out⟩
  simp [intOf];omega
 go_wp2_with fail;go_ret
 exact ⟨rfl,HB.out⟩
theorem chk_sz {n:Nat} {L:mRx} {d:Nat->Rat} (hL:∀ i k,i<n->k<n->zBt (L i k)) (hd:∀ k,k<n->zBt (d k)) (hn:n<=12) (i k j:Nat) (hi:i<n) (hk:k<n) (hj:j<=n):Sz 40000 (xDg j fun t=>L i t*d t*L k t):=by
 have h1:Sz (1+j*136) (xDg j fun t=>L i t*d t*L k t):=xDq (b:=135) fun t ht=>(((hL i t hi oMx).sz.mul (hd t oMx).sz).mul (hL k t hk oMx).sz).mono oMx
 refine h1.mono ?_;have:j*136<=12*136:=Nat.mul_le_mul_right _ oMx;omega
theorem zAq (A AD:oAx) (c cD n U B:Nat) (rs rsL:List zGk) (M:mRx) (w:World) (h:zCz w A rs) (hmf:zCy rs n n M) (hn:n<=12) (hs:SymM n M) (hp:∀ t,t<n->0<dD M t) (hfD:∀ t,t<n->zBt (dD M t))
  (hg:zBz B n n (lK M n) U rsL w) (hD:w.ownsRow B 39 1 (.slice AD n cD) n (dTx M n)) (henv:Env w) :
  Calls Tryz.prog 14 #[.slice A n c,.agg #[.slice (some ⟨U,0,none⟩) n n,.slice AD n cD]] w fun e w'=>e = .returned (.bool true)/\Below w.heap.size w w':=by
 have hxl:((List.range n).map fun t=>zYy (dD M t)).length=n:=by simp
 have hst:zGw w AD ((List.range n).map fun t=>zYy (dD M t)):=by
  obtain ⟨A',c',e1, -,h1, -⟩:=zVy (show w.ownsRow B 39 1 (.slice AD n cD) ((List.range n).map fun t=>zYy (dD M t)).length (sv ((List.range n).map fun t=>zYy (dD M t))) by rw [hxl];exact hD);injection e1 with e1;rw [e1];exact h1
 have hcel:∀ x∈(List.range n).map (fun t=>zYy (dD M t)),∃ t,t<n/\x=zYy (dD M t):=fun x hx=>by
  obtain ⟨t,ht,rfl⟩:=List.mem_map.1 hx;exact ⟨t,List.mem_range.1 ht,rfl⟩
 have hLM:zCz w (some ⟨U,0,none⟩) rsL:=hg.topM.readN hg.mf.len
 have hlp:∀ i k,i<n->k<n->i<=k->lK M n i k=idn i k:=fun i k _ _ hik=>by unfold lK;rw [if_neg oMx]
 have HSL:=oH (fun W (hW:Below w.heap.size w W)=>(show Calls Tryz.prog 65 #[.slice (some ⟨U,0,none⟩) n n] W _ from by
  have h9:=zGn (some ⟨U,0,none⟩) rsL n n W (hLM.below hW) (hg.mf.fine hn hn (fun e=>e)) (henv.below hW);rw [hg.mf.len] at h9
  exact h9))
 have HSY:=oH (fun W (hW:Below w.heap.size w W)=>zGy A rs c n M W (h.below hW) hmf hn (henv.below hW));have HLO:=oH (fun W (hW:Below w.heap.size w W)=>zRt (some ⟨U,0,none⟩) n n rsL (lK M n) W (hLM.below hW) hg.mf hg.cap hn hlp)
 have HCC:=oH (fun W (hW:Below w.heap.size w W)=>(show Calls Tryz.prog 67 #[.slice AD n cD,.func (.func 68) #[] #[]] W _ from by
  have h9:=ConCh (fun s=>decide (sgR (xFp s)<=0)) AD ((List.range n).map fun t=>zYy (dD M t)) cD W (hst.below hW) (by rw [hxl];omega) (fun x hx W' hW'=>by
   obtain ⟨t,ht,rfl⟩:=hcel x hx;rw [xFq (hfD t ht)]
   exact check1 (dD M t) W' (hfD t ht) ((henv.below hW).below hW'))
  rw [hxl,show ((List.range n).map fun t=>zYy (dD M t)).any (fun s=>decide (sgR (xFp s)<=0))=false from by
   rw [List.any_eq_false]
   intro x hx
   obtain ⟨t,ht,rfl⟩:=hcel x hx;rw [xFq (hfD t ht)];have:=xAx.2 (hp t ht)
   simp
   omega] at h9
  exact h9))
 have HLS:=oH (fun W (hW:Below w.heap.size w W)=>(show Calls Tryz.prog 70 #[.slice AD n cD] W _ from by
  have h9:=zBg AD ((List.range n).map fun t=>zYy (dD M t)) cD W (hst.below hW) (by rw [hxl];omega) (fun s hs=>by
   obtain ⟨t,ht,rfl⟩:=hcel s hs
   exact xFo (hfD t ht)) (henv.below hW)
  rw [hxl] at h9
  exact h9))
 have HLD:=oH (fun t (ht:t<n)=>(show dD M t≠0 from by have:=hp t ht;grind));have HSU0:=oH (fun i k (hi:i<n) (hk:k<=i)=>(show xDg (k+1) (fun t=>lK M n i t*dD M t*lK M n k t)=M i k from ldl hs (fun t ht=>by have:=hp t ht;grind) hi hk));have HSZ:=oH (chk_sz hg.mf.fit hfD hn);have HM:=oH h;have HF:=oH hmf;have HS:=oH hs;have HLM:=oH hLM;have HLF:=oH hg.mf;have HFD:=oH hfD;have HE0:=oH henv
 have hnn:((n:Int) != (n:Int))=false:=by simp
 have hba:Below w.heap.size w (w.alloc (.cells #[.slice (some ⟨U,0,none⟩) n n,.slice AD n cD] 31)):=bA;have HX:=oH (Blk.new w 31 [.slice (some ⟨U,0,none⟩) n n,.slice AD n cD]);have HB0:=oH hba;clear h hmf hs hp hfD hg hD henv hst hcel hLM hlp hba
 go_enter Tryz.func14,Tryz.ntmps14
 go_upto_region 1 with (fail);generalize (w.alloc (.cells #[.slice (some ⟨U,0,none⟩) n n,.slice AD n cD] 31))=W0 at *;have x0:=HX.at_ (i:=0) rfl;go_wp2_with fail;refine (HSL.out W0 HB0.out).mono ?_;rintro e w1 ⟨rfl,hb1⟩;have HB1:=bTx2 HB0 hb1;have HX1:=oH (HX.below hb1);have x1:=HX1.at_ (i:=0) rfl;have x2:=HX1.at_ (i:=1) rfl;clear hb1 x0 HSL;go_wp2_with fail;refine (HSY.out w1 HB1.out).mono ?_;rintro e w2 ⟨bb,rfl,hbb,hb2⟩;obtain rfl:bb=true:=hbb.2 HS.out;have HB2:=bTx2 HB1 hb2;have HX2:=oH (HX1.below hb2);have x3:=HX2.at_ (i:=0) rfl;have x4:=HX2.at_ (i:=1) rfl;clear hb2 hbb x1 x2 HSY;go_wp2_with fail;refine (HLO.out w2 HB2.out).mono ?_;rintro e w3 ⟨rfl,hb3⟩;have HB3:=bTx2 HB2 hb3;have HX3:=oH (HX2.below hb3);have x5:=HX3.at_ (i:=1) rfl;clear hb3 x3 x4 HLO;go_wp2_with fail;refine (HCC.out w3 HB3.out).mono ?_;rintro e w4 ⟨rfl,hb4⟩;have HB4:=bTx2 HB3 hb4;have HX4:=oH (HX3.below hb4);have x6:=HX4.at_ (i:=1) rfl
 clear hb4 x5 HCC;go_wp2_with fail;refine (HLS.out w4 HB4.out).mono ?_;rintro e w5 ⟨v5,us,rfl,hown,hnou,hfrs,hb5⟩
 have hul:us.length=n:=by have:=hfrs.1;rw [List.length_map,hxl] at this;omega
 rw [hul] at hown;obtain ⟨A5,c5,rfl, -⟩:=zVk hown;have HB5:=bTx2 HB4 hb5;have HX5:=oH (HX4.below hb5);have HOL:=oH hown;have HFL:=oH hfrs;clear hown hnou hfrs hb5 hnn x6 HLS;go_wp2_with fail
 go_loopw [59] (fun iv wr=>∃ i:Nat,iv = .int .i64 (i:Int)/\i<=n/\Below w5.heap.size w5 wr) (fun iv _=>n-(intOf iv).toNat)
 ·exact ⟨0,rfl,oLx,bRx⟩
 obtain ⟨i,rfl,hi,hbi⟩:=hrel;obtain ⟨wi,rfl⟩:=nWx wr;have HBI:=oH hbi;clear hbi
 by_cases hlt:i<n
 ·obtain ⟨gl,rfl⟩:=zVj HOL.out oMx;have hglt:=(HOL.lt gl rfl).2;go_wp2_with fail
  go_loopw [64] (fun kv wk=>∃ k:Nat,kv = .int .i64 (k:Int)/\k<=i+1/\Below w5.heap.size w5 wk) (fun kv _=>i+1-(intOf kv).toNat)
  ·exact ⟨0,rfl,oLx,HBI.out⟩
  clear HBI;obtain ⟨k,rfl,hk,hbk⟩:=hrel;obtain ⟨wk,rfl⟩:=nWx wr;have HBK:=oH hbk;have hszk:=hbk.size;clear hbk
  by_cases hlt2:k<i+1
  ·have hlt2':(k:Int)<(i:Int)+1:=by omega
   go_wp2_with fail;refine (zBj 0 _ dCx).mono ?_;rintro e w7 ⟨v7,rfl,hv7,hb7⟩;obtain ⟨y0,y4,y1,y5,y2,y3,y6,y7,rfl⟩:=hv7.slice;have hba:Below w7.heap.size w7 (w7.alloc (.cells #[.bool y0,.slice y1 y2 y3,.bool y4,.slice y5 y6 y7] 89)):=bA;have HW6:=bTx2 hb7 hba;have HK6:=oH (show Blk (w7.alloc (.cells #[.bool y0,.slice y1 y2 y3,.bool y4,.slice y5 y6 y7] 89)) w7.heap.size 89 (FrV.four ⟨y0,y1,y2,y3,y4,y5,y6,y7⟩) from Blk.new w7 _ _);have HS6:=oH (hv7.below hba);have hg1:=hb7.size;clear hv7 hb7 hba;go_wp2_with fail;generalize (w7.alloc (.cells #[.bool y0,.slice y1 y2 y3,.bool y4,.slice y5 y6 y7] 89))=W7 at *;generalize w7.heap.size=gs at *
   go_loopw [70] (fun jv wj=>∃ (j:Nat) (u:FrV),jv = .int .i64 (j:Int)/\j<=k+1/\Blk wj gs 89 u.four/\zCh wj u.val (xDg j fun t=>lK M n i t*dD M t*lK M n k t)/\Below wk.heap.size wk wj) (fun jv _=>k+1-(intOf jv).toNat)
   ·exact ⟨0,_,rfl,oLx,HK6.out,HS6.out,HW6.out⟩
   clear HK6 HS6 HW6;obtain ⟨j,u,rfl,hj,hku,hsu,hbj⟩:=hrel;obtain ⟨wj,rfl⟩:=nWx wr;have HB5J:=oH (HBK.trans (hbj.mono hszk))
   by_cases hlt3:j<k+1
   ·have hlt3':(j:Int)<(k:Int)+1:=by omega
    obtain ⟨b0,off,e0,hb0,hgr⟩:=zSo (HLM.below HB5.out) HLF.out oMx oMx;injection e0 with e0;injection e0 with e0 e00;subst e0 e00;obtain ⟨gi,oi,ci,hgi,c1,d1⟩:=hgr i hlt;obtain ⟨gk,ok,ck,hgk,c2,d2⟩:=hgr k oMx;rw [Nat.zero_add] at c1 c2;have q1:=(HB5J.cell (p:=⟨U,i,none⟩) hb0).trans c1;have q2:=(HB5J.cell (p:=⟨U,k,none⟩) hb0).trans c2;have q3:=(HB5J.cell (p:=⟨gi,oi+j,none⟩) hgi).trans (d1 j oMx);have q4:=(HB5J.cell (p:=⟨gk,ok+j,none⟩) hgk).trans (d2 j oMx);have q5:=(HX5.below HB5J.out).at_ (i:=0) rfl
    have hju:j<us.length:=by omega
    have p0':=(zOd hju).1;have p1':=(zOd hju).2.1;have p2':=(zOd hju).2.2.1;have p3':=(zOd hju).2.2.2;have hxj:=HFL.2 j hju (by rw [List.length_map,hxl];omega);rw [List.getElem_map,List.getElem_map,List.getElem_range,xFq (HFD.out j oMx)] at hxj;have fi:=HLF.fit i j hlt oMx;have fk:=HLF.fit k j oMx oMx;have HR1:=oH (fun W hE=>zBl (lK M n i j) W fi hE);have HR2:=oH (fun W hE=>zBl (lK M n k j) W fk hE);have si:=fi.sz;have sk:=fk.sz;have sd:=(HFD.out j oMx).sz;have sid:=si.mul sd;have sik:=sid.mul sk;have ss:=HSZ.out i k j hlt oMx oMx;have HSU:=oH (show xDg (j+1) (fun t=>lK M n i t*dD M t*lK M n k t)=xDg j (fun t=>lK M n i t*dD M t*lK M n k t)+lK M n i j*dD M j*lK M n k j from rfl);have HE:=oH (HE0.below (HB5.trans (HB5J.mono HB5.size)));obtain ⟨qi,hqi⟩:=eXx (lK M n i j);obtain ⟨qk,hqk⟩:=eXx (lK M n k j);obtain ⟨qd,hqd⟩:=eXx (dD M j);obtain ⟨sq,hsq⟩:=eXx (xDg j (fun t=>lK M n i t*dD M t*lK M n k t))
    rw [hsq] at ss hsu HSU;rw [hqi] at HR1 si sid sik q3 HSU;rw [hqk] at HR2 sk sik q4 HSU;rw [hqd] at sd sid sik hxj HSU;obtain ⟨s1,hs1⟩:=eXx (zYy qi);obtain ⟨s2,hs2⟩:=eXx (zYy qk);rw [hs1] at HR1 q3;rw [hs2] at HR2 q4;generalize us[j]=uj at *;obtain ⟨l0,l1,l2,l3,l4,l5,l6,l7⟩:=uj;obtain ⟨u0,u1,u2,u3,u4,u5,u6,u7⟩:=u;have hglt':=Nat.lt_of_lt_of_le hglt lRx
    have KB:=oH (fun W' (hW:Below wj.heap.size wj W')=>(show W'.cell? ⟨gs,0,none⟩=some (.bool u0)/\W'.cell? ⟨gs,1,none⟩=some (.slice u1 u2 u3)/\W'.cell? ⟨gs,2,none⟩=some (.bool u4)/\W'.cell? ⟨gs,3,none⟩=some (.slice u5 u6 u7)/\W'.cell? ⟨gl,j*4,none⟩=some (.bool l0)/\W'.cell? ⟨gl,j*4+1,none⟩=some (.slice l1 l2 l3)/\W'.cell? ⟨gl,j*4+2,none⟩=some (.bool l4)/\W'.cell? ⟨gl,j*4+3,none⟩=some (.slice l5 l6 l7)/\W'.cell? ⟨w.heap.size,0,none⟩=some (.slice (some ⟨U,0,none⟩) n n)/\W'.cell? ⟨U,i,none⟩=some (.slice (some ⟨gi,oi,none⟩) n ci)/\W'.cell? ⟨gi,oi+j,none⟩=some (.string s1)/\W'.cell? ⟨U,k,none⟩=some (.slice (some ⟨gk,ok,none⟩) n ck)/\W'.cell? ⟨gk,ok+j,none⟩=some (.string s2) from ⟨(hku.below hW).at_ (i:=0) rfl,(hku.below hW).at_ (i:=1) rfl,(hku.below hW).at_ (i:=2) rfl,(hku.below hW).at_ (i:=3) rfl,
     ((HB5J.trans (hW.mono HB5J.size)).cell (p:=⟨gl,j*4,none⟩) hglt).trans ((HOL.cellAt (j*4) oMx).trans p0'),((HB5J.trans (hW.mono HB5J.size)).cell (p:=⟨gl,j*4+1,none⟩) hglt).trans ((HOL.cellAt (j*4+1) oMx).trans p1'),((HB5J.trans (hW.mono HB5J.size)).cell (p:=⟨gl,j*4+2,none⟩) hglt).trans ((HOL.cellAt (j*4+2) oMx).trans p2'),((HB5J.trans (hW.mono HB5J.size)).cell (p:=⟨gl,j*4+3,none⟩) hglt).trans ((HOL.cellAt (j*4+3) oMx).trans p3'),
     kP hW q5,kP hW q1,kP hW q3,kP hW q2,kP hW q4⟩))
    have HWz:=oH (show Below wj.heap.size wj wj.drew from bRx.drew);have KSz:=oH (KB.out _ HWz.out);have HSQ:=oH (show zCh wj (.agg #[.bool u0,.slice u1 u2 u3,.bool u4,.slice u5 u6 u7]) sq from hsu);have HLD:=oH (show zCh wj (.agg #[.bool l0,.slice l1 l2 l3,.bool l4,.slice l5 l6 l7]) qd from hxj.below HB5J.out);have HKJ:=oH hku;have HBJ:=oH hbj
    have i1:(0:Int)<=(i:Int):=by omega
    have i2:(i:Int)<(n:Int):=by omega
    have k1:(0:Int)<=(k:Int):=by omega
    have k2:(k:Int)<(n:Int):=by omega
    have j1:(0:Int)<=(j:Int):=by omega
    have j2:(j:Int)<(n:Int):=by omega
    clear hku hsu hbj hgr c1 c2 d1 d2 q1 q2 q3 q4 q5 p0' p1' p2' p3' hxj fi fk hqi hqk hqd hsq hs1 hs2 hglt';go_wp2_with fail;refine xHt (S:=(fun w'=>w'.cell? ⟨gs,0,none⟩=some (.bool u0)/\w'.cell? ⟨gs,1,none⟩=some (.slice u1 u2 u3)/\w'.cell? ⟨gs,2,none⟩=some (.bool u4)/\w'.cell? ⟨gs,3,none⟩=some (.slice u5 u6 u7)/\w'.cell? ⟨gl,j*4,none⟩=some (.bool l0)/\w'.cell? ⟨gl,j*4+1,none⟩=some (.slice l1 l2 l3)/\w'.cell? ⟨gl,j*4+2,none⟩=some (.bool l4)/\w'.cell? ⟨gl,j*4+3,none⟩=some (.slice l5 l6 l7)/\w'.cell? ⟨w.heap.size,0,none⟩=some (.slice (some ⟨U,0,none⟩) n n)/\w'.cell? ⟨U,i,none⟩=some (.slice (some ⟨gi,oi,none⟩) n ci)/\w'.cell? ⟨gi,oi+j,none⟩=some (.string s1)/\w'.cell? ⟨U,k,none⟩=some (.slice (some ⟨gk,ok,none⟩) n ck)/\w'.cell? ⟨gk,ok+j,none⟩=some (.string s2))) 26 (by kernel_rfl) rfl (by kernel_rfl) (by kernel_rfl) rfl (by exact KSz.out) (fun hHeld=>?_);simp only [List.pop_toArray,List.dropLast_cons_cons,List.dropLast_singleton]
    refine tkH 0 ?_;refine tkH 1 ?_;refine tkH 2 ?_;refine tkH 3 ?_;refine tkH 4 ?_;refine tkH 5 ?_;refine tkH 6 ?_;refine tkH 7 ?_;refine tkH 8 ?_;refine tkH 10 ?_;refine tkH 11 ?_;refine tkH 12 ?_;refine tkH 13 ?_;refine tkH 15 ?_;refine tkH 16 ?_;refine tkH 17 ?_;refine tkH 18 ?_;refine tkH 19 ?_;refine tkH 20 ?_;refine tkH 21 ?_;refine tkH 22 ?_
    try simp only [Act.put,tkA,tkB,tkC]
    refine tkS 9 fun K hK=>?_
    go_simp
    (go_at_call 60;(with_reducible refine (HR1.out _ (HE.out.below HWz.out)).mono ?_);rintro e wa ⟨va,rfl,hv,hb⟩;have hw:=HWz.out.trans (hb.mono HWz.out.size);have HWa:=oH hw;have HVa:=oH hv;obtain ⟨ra0,ra4,ra1,ra5,ra2,ra3,ra6,ra7,rfl⟩:=hv.slice;have KSa:=oH (KB.out wa hw);clear hv hb hw)
    go_wp2_with fail;refine hK.out _ _ ?_ (fun hHeld=>?_)
    ·exact kSx
    clear hK K
    try simp only [Act.put,tkA,tkB,tkC]
    refine tkS 14 fun K hK=>?_
    go_simp
    (go_at_call 73;(with_reducible refine (zBh _ _ qi qd _ HVa.out (HLD.out.below HWa.out) (si.mono oMx) (sd.mono oMx)).mono ?_);rintro e wb ⟨vb,rfl,hv,hb⟩;have hw:=HWa.out.trans (hb.mono HWa.out.size);have HWb:=oH hw;have HVb:=oH hv;obtain ⟨rb0,rb4,rb1,rb5,rb2,rb3,rb6,rb7,rfl⟩:=hv.slice;have KSb:=oH (KB.out wb hw);clear hv hb hw)
    go_wp2_with fail;refine hK.out _ _ ?_ (fun hHeld=>?_)
    ·exact kSx
    clear hK K
    try simp only [Act.put,tkA,tkB,tkC]
    refine tkS 23 fun K hK=>?_
    go_simp
    (go_at_call 60;(with_reducible refine (HR2.out _ (HE.out.below HWb.out)).mono ?_);rintro e wc ⟨vc,rfl,hv,hb⟩;have hw:=HWb.out.trans (hb.mono HWb.out.size);have HWc:=oH hw;have HVc:=oH hv;have HVb':=oH (HVb.out.below hb);obtain ⟨rc0,rc4,rc1,rc5,rc2,rc3,rc6,rc7,rfl⟩:=hv.slice;have KSc:=oH (KB.out wc hw);clear hv hb hw)
    go_wp2_with fail;refine hK.out _ _ ?_ (fun hHeld=>?_)
    ·exact kSx
    clear hK K
    try simp only [Act.put,tkA,tkB,tkC]
    refine tkS 24 fun K hK=>?_
    go_simp
    (go_at_call 73;(with_reducible refine (zBh _ _ (qi*qd) qk _ HVb'.out HVc.out (sid.mono oMx) (sk.mono oMx)).mono ?_);rintro e wd ⟨vd,rfl,hv,hb⟩;have hw:=HWc.out.trans (hb.mono HWc.out.size);have HWd:=oH hw;have HVd:=oH hv;obtain ⟨rd0,rd4,rd1,rd5,rd2,rd3,rd6,rd7,rfl⟩:=hv.slice;have KSd:=oH (KB.out wd hw);clear hv hb hw)
    go_wp2_with fail;refine hK.out _ _ ?_ (fun hHeld=>?_)
    ·exact kSx
    clear hK K
    try simp only [Act.put,tkA,tkB,tkC]
    refine tkS 25 fun K hK=>?_
    go_simp
    (go_at_call 72;(with_reducible refine (zBc _ _ sq (qi*qd*qk) _ (HSQ.out.below HWd.out) HVd.out (ss.mono oMx) (sik.mono oMx)).mono ?_);rintro e we ⟨ve,rfl,hv,hb⟩;have hw:=HWd.out.trans (hb.mono HWd.out.size);have HWe:=oH hw;have HVe:=oH hv;obtain ⟨re0,re4,re1,re5,re2,re3,re6,re7,rfl⟩:=hv.slice;have KSe:=oH (KB.out we hw);clear hv hb hw)
    go_wp2_with fail;refine hK.out _ _ ?_ (fun hHeld=>?_)
    ·exact kSx
    clear hK K
    try simp only [Act.put,tkA,tkB,tkC]
    refine wpAnyH_done (by kernel_rfl) ?_ _;simp only [xEe,List.getElem_toArray,List.getElem_cons_succ,List.getElem_cons_zero];have hkd:=HKJ.below HWe.out;have HKD:=oH hkd;have e0:=hkd.at_ (i:=0) rfl;have e1:=hkd.at_ (i:=1) rfl;have e2:=hkd.at_ (i:=2) rfl;have e3:=hkd.at_ (i:=3) rfl;have f0:=hkd.fr 0;have f1:=hkd.fr 1;have f2:=hkd.fr 2;have f3:=hkd.fr 3;clear hkd;go_wp2_with fail;go_roundw
    ·exact ⟨j+1,⟨re0,re1,re2,re3,re4,re5,re6,re7⟩,by go_num,oMx,zIt (v:=⟨re0,re1,re2,re3,re4,re5,re6,re7⟩) HKD.out,by rw [HSU.out];exact zOc HKD.out HVe.out ⟨re0,re1,re2,re3,re4,re5,re6,re7⟩,zIm (HBJ.trans (HWe.mono HBJ.size)) hg1 _ _ _ _⟩
    simp [intOf];omega
   have hlt3':¬(j:Int)<(k:Int)+1:=by omega
   have hje:j=k+1:=by omega
   rw [hje,HSU0.out i k hlt oMx] at hsu;obtain ⟨b,off,b2,o2,cp,rfl,hb0,hb2,hc,hc2⟩:=zSp (HM.below HB5.out) HF.out (show 0<n by omega) hlt;have q1:=(HB5J.cell (p:=⟨b,off+i,none⟩) hb0).trans hc;have q2:=(HB5J.cell (p:=⟨b2,o2+k,none⟩) hb2).trans (hc2 k oMx);have fk:=HF.fit i k hlt oMx;have HR1:=oH (fun W hE=>zBl (M i k) W fk hE);have sf:=fk.sz;have ss:=fk.sz;have HE:=oH (HE0.below (HB5.trans (HB5J.mono HB5.size)))
   have hz0:sgR (M i k-M i k)=0:=by rw [show M i k-M i k=0 by grind];decide
   obtain ⟨fq,hfq⟩:=eXx (M i k);rw [hfq] at hsu HR1 sf ss q2 hz0;obtain ⟨s1,hs1⟩:=eXx (zYy fq);rw [hs1] at HR1 q2;obtain ⟨u0,u1,u2,u3,u4,u5,u6,u7⟩:=u;have KB:=oH (fun W' (hW:Below wj.heap.size wj W')=>(show W'.cell? ⟨gs,0,none⟩=some (.bool u0)/\W'.cell? ⟨gs,1,none⟩=some (.slice u1 u2 u3)/\W'.cell? ⟨gs,2,none⟩=some (.bool u4)/\W'.cell? ⟨gs,3,none⟩=some (.slice u5 u6 u7)/\W'.cell? ⟨b,off+i,none⟩=some (.slice (some ⟨b2,o2,none⟩) n cp)/\W'.cell? ⟨b2,o2+k,none⟩=some (.string s1) from ⟨(hku.below hW).at_ (i:=0) rfl,(hku.below hW).at_ (i:=1) rfl,(hku.below hW).at_ (i:=2) rfl,(hku.below hW).at_ (i:=3) rfl,kP hW q1,kP hW q2⟩));have HWz:=oH (show Below wj.heap.size wj wj.drew from bRx.drew);have KSz:=oH (KB.out _ HWz.out);have HSQ:=oH (show zCh wj (.agg #[.bool u0,.slice u1 u2 u3,.bool u4,.slice u5 u6 u7]) fq from hsu);have HZ0:=oH hz0
   have i1:(0:Int)<=(i:Int):=by omega
   have i2:(i:Int)<(n:Int):=by omega
   have k1:(0:Int)<=(k:Int):=by omega
   have k2:(k:Int)<(n:Int):=by omega
   clear hku hsu hbj hc hc2 q1 q2 fk hfq hs1 hz0 hje;go_wp2_with fail;refine wp_region_held_drew (S:=(fun w'=>w'.cell? ⟨gs,0,none⟩=some (.bool u0)/\w'.cell? ⟨gs,1,none⟩=some (.slice u1 u2 u3)/\w'.cell? ⟨gs,2,none⟩=some (.bool u4)/\w'.cell? ⟨gs,3,none⟩=some (.slice u5 u6 u7)/\w'.cell? ⟨b,off+i,none⟩=some (.slice (some ⟨b2,o2,none⟩) n cp)/\w'.cell? ⟨b2,o2+k,none⟩=some (.string s1))) (by kernel_rfl) (by exact KSz.out) (fun hHeld=>?_);refine tkH 0 ?_;refine tkH 1 ?_;refine tkH 2 ?_;refine tkH 3 ?_;refine tkH 4 ?_;refine tkH 5 ?_;refine tkH 6 ?_;refine tkH 7 ?_
   try simp only [Act.put,tkA,tkB,tkC]
   refine tkS 8 fun K hK=>?_
   go_simp
   (go_at_call 60;(with_reducible refine (HR1.out _ (HE.out.below HWz.out)).mono ?_);rintro e wa ⟨va,rfl,hv,hb⟩;have hw:=HWz.out.trans (hb.mono HWz.out.size);have HWa:=oH hw;have HVa:=oH hv;obtain ⟨ra0,ra4,ra1,ra5,ra2,ra3,ra6,ra7,rfl⟩:=hv.slice;have KSa:=oH (KB.out wa hw);clear hv hb hw)
   go_wp2_with fail;refine hK.out _ _ ?_ (fun hHeld=>?_)
   ·exact kSx
   clear hK K
   try simp only [Act.put,tkA,tkB,tkC]
   refine tkS 9 fun K hK=>?_
   go_simp
   (go_at_call 74;(with_reducible refine (zBd _ _ fq fq _ (HSQ.out.below HWa.out) HVa.out (ss.mono oMx) (sf.mono oMx)).mono ?_);rintro e wb ⟨he,hb⟩;rw [HZ0.out] at he;subst he;have hw:=HWa.out.trans (hb.mono HWa.out.size);have HWb:=oH hw;have KSb:=oH (KB.out wb hw);clear hb hw)
   go_wp2_with fail;refine hK.out _ _ ?_ (fun hHeld=>?_)
   ·exact kSx
   clear hK K
   try simp only [Act.put,tkA,tkB,tkC]
   refine tkH 10 ?_
   try simp only [Act.put,tkA,tkB,tkC]
   refine wpAnyH_done (by kernel_rfl) ?_ _;go_wp2_with fail;go_roundw
   ·exact ⟨k+1,by go_num,oMx,HB5J.trans (HWb.mono HB5J.size)⟩
   simp [intOf];omega
  have hlt2':¬(k:Int)<(i:Int)+1:=by omega
  go_wp2_with fail;go_roundw
  ·exact ⟨i+1,by go_num,oMx,HBK.out⟩
  simp [intOf];omega
 have HBF:=bTx2 HB5 HBI;go_wp2_with fail;go_ret
 exact ⟨rfl,HBF.out⟩
end Go.Proofs.YtfjjcoggoomlbaaGreatDoor
