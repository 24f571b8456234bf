import Derived.Test.YtbjaplppalcmgaaGreatDoorZOY
import Derived.Test.YtbjaplppalcmgaaGreatDoorZOZ
set_option maxHeartbeats 16000000
set_option maxRecDepth 100000
set_option linter.unusedVariables false
set_option linter.unusedSimpArgs false
set_option linter.unusedSectionVars false
namespace Go.Proofs.YtbjaplppalcmgaaGreatDoor
open Go.RowKit
def SemM (b:Nat) (w:World) (A:oAx) (rs:List zGh):Prop:=∀ W,w.grownBy W (some b)->zCj W A rs
def SemS (b:Nat) (w:World) (A:oAx) (ss:List ByteArray):Prop:=∀ W,w.grownBy W (some b)->zGx W A ss
theorem SemM.step {b:Nat} {w w':World} {A:oAx} {rs:List zGh} (h:SemM b w A rs) (hg:w.grownBy w' (some b)):SemM b w' A rs:=fun W hW=>h W (zOe hg hW)
theorem SemS.step {b:Nat} {w w':World} {A:oAx} {ss:List ByteArray} (h:SemS b w A ss) (hg:w.grownBy w' (some b)):SemS b w' A ss:=fun W hW=>h W (zOe hg hW)
theorem SemM.now {b:Nat} {w:World} {A:oAx} {rs:List zGh} (h:SemM b w A rs):zCj w A rs:=h w (World.grownBy.refl w (some b))
theorem SemS.now {b:Nat} {w:World} {A:oAx} {ss:List ByteArray} (h:SemS b w A ss):zGx w A ss:=h w (World.grownBy.refl w (some b))
theorem zHe.sem {B b c:Nat} {w:World} {A:oAx} {rs:List zGh} (h:zHe B w (.slice A rs.length c) rs) (hb:b<B):SemM b w A rs:=fun _ hW=>(h.grown hW hb).read
theorem zCj.sem {b:Nat} {w w':World} {A:oAx} {rs:List zGh} (h:zCj w A rs) (hB:Below w.heap.size w w') (hb:w.heap.size<=b):SemM b w' A rs:=fun _ hW=>h.below (xAp hB hb hW)
theorem zGx.sem {b:Nat} {w w':World} {A:oAx} {ss:List ByteArray} (h:zGx w A ss) (hB:Below w.heap.size w w') (hb:w.heap.size<=b):SemS b w' A ss:=fun _ hW=>h.below (xAp hB hb hW)
theorem zGf.sem {B b:Nat} {w:World} {A:oAx} {ss:List ByteArray} (h:zGf B w A ss) (hb:b<B):SemS b w A ss:=fun _ hW=>(h.grown hW hb).s
theorem mats_ix (P:Option Addr->List zGh->Prop) (A0 A1 A2 A3:oAx) (r0 r1 r2 r3:List zGh) (c0 c1 c2 c3:Nat) (h0:P A0 r0) (h1:P A1 r1) (h2:P A2 r2) (h3:P A3 r3):∀ n:Nat,n<4->∃ (A:oAx) (rs:List zGh) (c:Nat),
  (∀ W:World,(Instr.index 34 (.agg #[.slice A0 r0.length c0,.slice A1 r1.length c1,.slice A2 r2.length c2,.slice A3 r3.length c3]) (.int .i64 (n:Int))).run Tryz.prog W = .ok (.slice A rs.length c) W)/\P A rs:=by
 intro n hn
 match n,hn with
 | 0,_=>exact ⟨A0,r0,c0,fun W=>by kernel_rfl,h0⟩
 | 1,_=>exact ⟨A1,r1,c1,fun W=>by kernel_rfl,h1⟩
 | 2,_=>exact ⟨A2,r2,c2,fun W=>by kernel_rfl,h2⟩
 | 3,_=>exact ⟨A3,r3,c3,fun W=>by kernel_rfl,h3⟩
theorem lists_ix (P:Option Addr->List ByteArray->Prop) (A0 A1:oAx) (r0 r1:List ByteArray) (c0 c1:Nat) (h0:P A0 r0) (h1:P A1 r1):∀ n:Nat,n<2->∃ (A:oAx) (ss:List ByteArray) (c:Nat),
  (∀ W:World,(Instr.index 36 (.agg #[.slice A0 r0.length c0,.slice A1 r1.length c1]) (.int .i64 (n:Int))).run Tryz.prog W = .ok (.slice A ss.length c) W)/\P A ss:=by
 intro n hn
 match n,hn with
 | 0,_=>exact ⟨A0,r0,c0,fun W=>by kernel_rfl,h0⟩
 | 1,_=>exact ⟨A1,r1,c1,fun W=>by kernel_rfl,h1⟩
theorem zHd.size {s:ByteArray} (h:zHd s):s.size<=30:=by
 obtain ⟨z,rfl,hz⟩:=h;exact zZy (zAl.ofInt (d:=1) (by unfold Dig;omega) dCx)
theorem TxtR.len {xs:List Rat} {ts:List ByteArray} {er:Int} (h:TxtR xs ts er):ts.length<=xs.length:=by
 rcases h with ⟨-,rfl, -⟩|⟨-,rfl, -⟩
 ·simp
 simp
theorem zHo.len {rs:List zGh} {ss ts:List ByteArray} {er:Int} (h:zHo rs ss ts er) (hs:Sht rs):ts.length<=1000:=by
 have:=hs.m
 rcases h with ⟨-,rfl, -⟩|⟨-, -,rfl, -⟩|⟨-, -, -,rfl, -⟩|⟨-, -, -, -,rfl, -⟩|⟨-, -, -, -,⟨-,rfl, -⟩|⟨-,r, -,⟨-,rfl, -⟩|⟨-,x, -,h⟩⟩⟩
 all_goals first
  | (simp;done)
  | (have h1:=h.len;simp at h1;omega)
theorem zHm.len {rs:List zGh} {ts:List ByteArray} {er:Int} (h:zHm rs ts er) (hs:Sht rs):ts.length<=1000:=by
 rcases h with ⟨-,rfl, -⟩|⟨-, -,rfl, -⟩|⟨h1,h2,⟨-,rfl, -⟩|⟨-,⟨-,rfl, -⟩|⟨a,x, -,h⟩⟩⟩
 all_goals first
  | (simp;done)
  | (have h3:=h.len;have h4:=(zJt h1 h2).2.2.1;simp at h3;omega)
theorem zHl.len {rs:List zGh} {tss:List (List ByteArray)} {er:Int} (h:zHl rs tss er) (hs:Sht rs):tss.length<=1000/\∀ l∈tss,l.length<=1000:=by
 have hm:=hs.m
 rcases h with ⟨-,rfl, -⟩|⟨-, -,rfl, -⟩|⟨-, -,⟨-,rfl, -⟩|⟨-,r, -,⟨-,rfl, -⟩|⟨-,X, -,⟨-,rfl, -⟩|⟨-,rfl, -⟩⟩⟩⟩
 all_goals first
  | exact ⟨by simp,fun l hl=>by cases hl⟩
  | exact ⟨by simp;omega,fun l hl=>by
    obtain ⟨i, -,rfl⟩:=List.mem_map.1 hl
    simp;omega⟩
theorem zBj {w w':World} {A:oAx} {l:Nat} (h:Ints w A l) (hb:Below w.heap.size w w'):Ints w' A l:=fun hl=>by
 obtain ⟨bb,off,e,hlt,hc⟩:=h hl
 exact ⟨bb,off,e,Nat.lt_of_lt_of_le hlt hb.size,fun i hi=>by
  obtain ⟨z,hz,h2⟩:=hc i hi
  exact ⟨z,(hb.cell (p:=⟨bb,off+i,none⟩) hlt).trans hz,h2⟩⟩
theorem MatrixSolves_any (A:oAx) (l cp:Nat) (w:World) (h:Ints w A l) (hlc:l<=cp) (hl:l<=9223372036854775807) (henv:Env w) (A1 A2:oAx) (rs1:List zGh) (ss2:List ByteArray) (c1 c2:Nat)
  (hm1:zCj w A1 rs1) (hl1:rs1.length<=9223372036854775807) (hn1:∀ r∈rs1,r.ss.length<=9223372036854775807) (hz1:∀ r∈rs1,∀ s∈r.ss,s.size<=9223372036854775807)
  (hs2:zGx w A2 ss2) (hl2:ss2.length<=9223372036854775807) (hz2:∀ s∈ss2,s.size<=9223372036854775807) :
  Calls Tryz.prog 3 #[.slice A l cp,.slice A1 rs1.length c1,.slice A2 ss2.length c2] w fun e w'=>e = .returned (.bool true)/\Below w.heap.size w w':=by
 have HE:=oH henv;have HI:=oH h;have HM1:=oH hm1;have HS2:=oH hs2;have HSH:=oH (zGl A1 rs1 c1 w hm1 hl1 hn1 hz1);have HLI:=oH (fun W (hW:Below w.heap.size w W)=>zCe A2 ss2 c2 W (hs2.below hW) hl2 hz2);have HSN:=oH (fun W (hW:Below w.heap.size w W)=>Sane3 W (henv.below hW));clear henv h hm1 hs2 hn1 hz1 hz2
 go_enter Tryz.func3,Tryz.ntmps3
 by_cases hl4:(400:Int)<(l:Int)
 ·go_wp2_with fail;refine (HSN.out w bRx).mono ?_;rintro e w1 ⟨rfl,hb1⟩;have HB1:=oH hb1;clear hb1;go_wp2_with fail;go_ret
  exact ⟨rfl,HB1.out⟩
 go_wp2_with fail;refine HSH.mono ?_;rintro e w1 ⟨b1,rfl,hsh,hb1⟩;have HB1:=oH hb1;have HSH1:=oH hsh;clear hb1 hsh
 cases b1
 ·go_wp2_with fail;refine (HSN.out w1 HB1.out).mono ?_;rintro e w2 ⟨rfl,hb2⟩;have HB2:=bTx2 HB1 hb2;clear hb2;go_wp2_with fail;go_ret
  exact ⟨rfl,HB2.out⟩
 by_cases hl5:(5:Int)<(rs1.length:Int)
 ·go_wp2_with fail;refine (HSN.out w1 HB1.out).mono ?_;rintro e w2 ⟨rfl,hb2⟩;have HB2:=bTx2 HB1 hb2;clear hb2;go_wp2_with fail;go_ret
  exact ⟨rfl,HB2.out⟩
 have HR1:=oH (show Sht rs1 from ⟨oMx,fun r hr=>((HSH1.out rfl).2 r hr).1,fun r hr=>((HSH1.out rfl).2 r hr).2⟩);go_wp2_with fail;refine (HLI.out w1 HB1.out).mono ?_;rintro e w2 ⟨b2,rfl,hsh2,hb2⟩;have HB2:=bTx2 HB1 hb2;have HSH2:=oH hsh2;clear hb2 hsh2
 cases b2
 ·go_wp2_with fail;refine (HSN.out w2 HB2.out).mono ?_;rintro e w3 ⟨rfl,hb3⟩;have HB3:=bTx2 HB2 hb3;clear hb3;go_wp2_with fail;go_ret
  exact ⟨rfl,HB3.out⟩
 have HS2T:=oH (HSH2.out rfl);clear HSH1 HSH2 HSH HLI;go_wp2_with fail;refine (New_any A l cp w2 (zBj HI.out HB2.out) hlc hl).mono ?_;rintro e w3 ⟨rfl,hs3,hb3⟩;obtain ⟨b,hbe⟩:=eXx (w2.heap.size)
 have hsz2:w.heap.size<=b:=by have:=HB2.size;omega
 rw [hbe] at hs3;have HS:=oH hs3;have HB:=bTx2 HB2 hb3;rw [hbe];clear hs3 hb3 HI hbe;have HUP:=oH (fun (W W':World) (hW:Below w.heap.size w W) (hg:W.grownBy W' (some b))=>xAp hW hsz2 hg);go_wp2_with fail;refine (zCn b 5 w3 HS.out dCx dCx).mono ?_;rintro e w4 ⟨n,rfl,hn5,hs4,hg4⟩;replace HB:=oH (HUP.out _ _ HB.out hg4);replace HS:=oH hs4;clear hs4 hg4;go_wp2_with fail;refine (Thin_any b n n w4 HS.out oMx oMx oMx).mono ?_;rintro e w5 ⟨va,ra,rfl,hla,hta,hoa,hs5,hg5⟩;obtain ⟨Aa,ca,rfl, -⟩:=zUj hoa.o;replace HB:=oH (HUP.out _ _ HB.out hg5);obtain ⟨Ba,hBa⟩:=eXx (w4.heap.size)
 have hba:b<Ba:=by have:=HS.lt;omega
 rw [hBa] at hoa;have HTA:=oH hoa.topM;have HA4:=oH (show Sh4 ra from ⟨oMx,fun r hr=>by have:=(hta r hr).1;omega,fun r hr s hs=>((hta r hr).2 s hs).size⟩)
 have hB5:Ba<=w5.heap.size:=by have:=hg5.size;omega
 replace HS:=oH hs5;clear hs5 hg5 hla hta hoa hBa;go_wp2_with fail;refine (zCn b 4 w5 HS.out dCx dCx).mono ?_;rintro e w6 ⟨p,rfl,hp4,hs6,hg6⟩;replace HB:=oH (HUP.out _ _ HB.out hg6);replace HTA:=oH (HTA.grown hg6 hba)
 have hB6:Ba<=w6.heap.size:=by have:=hg6.size;omega
 replace HS:=oH hs6;clear hs6 hg6;go_wp2_with fail;refine (zCn b 4 w6 HS.out dCx dCx).mono ?_;rintro e w7 ⟨q,rfl,hq4,hs7,hg7⟩;replace HB:=oH (HUP.out _ _ HB.out hg7);replace HTA:=oH (HTA.grown hg7 hba)
 have hB7:Ba<=w7.heap.size:=by have:=hg7.size;omega
 replace HS:=oH hs7;clear hs7 hg7;go_wp2_with fail;refine (zCg b p q w7 HS.out oMx oMx).mono ?_;rintro e w8 ⟨vb,qss,rb,rfl,hqm,hqs,hmap,hob,hs8,hg8⟩;obtain ⟨Ab,cb,rfl, -⟩:=zUj hob.o;replace HB:=oH (HUP.out _ _ HB.out hg8);replace HTA:=oH (HTA.grown hg8 hba);obtain ⟨Bb,hBb⟩:=eXx (w7.heap.size)
 have hbb:b<Bb:=by have:=HS.lt;omega
 rw [hBb] at hob;have HTB:=oH hob.topM
 have HRB:=oH (show Sht rb from ⟨by have:=congrArg List.length hmap;rw [List.length_map,List.length_map] at this;omega,fun r hr=>by
   have h1:r.ss∈qss.map (·.map zXl):=by rw [<-hmap];exact List.mem_map.2 ⟨r,hr,rfl⟩
   obtain ⟨l,hl,e⟩:=List.mem_map.1 h1;have h2:=(hqs l hl).1;rw [<-e,List.length_map]
   omega,fun r hr s hs=>by
   have h1:r.ss∈qss.map (·.map zXl):=by rw [<-hmap];exact List.mem_map.2 ⟨r,hr,rfl⟩
   obtain ⟨l,hl,e⟩:=List.mem_map.1 h1;rw [<-e] at hs;obtain ⟨x,hx,rfl⟩:=List.mem_map.1 hs
   exact zZy ((hqs l hl).2 x hx).dig⟩)
 have hB8:Ba<=w8.heap.size:=by have:=hg8.size;omega
 replace HS:=oH hs8;clear hs8 hg8 hqm hqs hmap hob hBb;go_wp2_with fail;refine (Bent_any Ba b Aa ca ra w8 HTA.out HA4.out HS.out hba hB8).mono ?_;rintro e w9 ⟨Ac,cc,rc,rfl,htc,hrc,hs9,hg9⟩;replace HB:=oH (HUP.out _ _ HB.out hg9);replace HTA:=oH (HTA.grown hg9 hba);replace HTB:=oH (HTB.grown hg9 hbb);have HRC:=oH hrc;have HTC:=oH htc;replace HS:=oH hs9;have HRA:=oH (show Sht ra from ⟨Nat.le_trans HA4.m dCx,fun r hr=>Nat.le_trans (HA4.n r hr) dCx,HA4.t⟩);clear hs9 hg9 hrc htc;have HIX:=oH (mats_ix (fun A rs=>SemM b w9 A rs/\Sht rs) Aa Ab Ac A1 ra rb rc rs1 ca cb cc c1 ⟨HTA.sem hba,HRA.out⟩ ⟨HTB.sem hbb,HRB.out⟩ ⟨HTC.sem hba,HRC.out⟩ ⟨HM1.sem HB.out hsz2,HR1.out⟩);have HL9:=oH (HS2.sem HB.out hsz2);clear HTA HTB HTC HRA HRB HRC HR1 HM1 HS2 HA4;go_wp2_with fail
 go_loopw [75] (fun iv wr=>∃ i:Nat,iv = .int .i64 (i:Int)/\i<=4/\Src wr b/\w9.grownBy wr (some b)) (fun iv _=>4-(intOf iv).toNat)
 ·exact ⟨0,rfl,oMx,HS.out,World.grownBy.refl _ _⟩
 obtain ⟨i,rfl,hi4,hs,hg⟩:=hrel;obtain ⟨wo,rfl⟩:=nWx wr;clear HS;have HS:=oH hs;have HG:=oH hg;have HBo:=oH (HUP.out _ _ HB.out hg);clear hs hg
 by_cases hlt:i<4
 ·obtain ⟨Ax,rx,cx,hix,hsm,hsx⟩:=HIX.out i hlt;have HSX:=oH hsx;have HMX:=oH (hsm.step HG.out);have hx5:=hsx.m;clear hsm hsx;go_wp2_with fail;refine (zFe b rx.length wo HS.out oMx).mono ?_;rintro e wp ⟨vy,qs,rfl,hql,hqs,hoy,hsp,hgp⟩;obtain ⟨Ay,cy,rfl, -⟩:=zUj hoy;have hbo:b<wo.heap.size:=HS.lt;have HYS:=oH ((zGf.of_own hoy).sem hbo)
  have HYT:=oH (show zGk (qs.map zXl) from ⟨by rw [List.length_map];omega,fun s hs=>by
   obtain ⟨x,hx,rfl⟩:=List.mem_map.1 hs
   exact zZy (hqs x hx).dig⟩)
  clear hql hqs hoy;generalize qs.map zXl=ty at *;have HSP:=oH hsp;have HGP:=oH (zOe HG.out hgp);have HBP:=oH (HUP.out _ _ HBo.out hgp);have HMP:=oH (HMX.step hgp);have HJX:=oH (lists_ix (fun A ss=>zGx wp A ss/\zGk ss) A2 Ay ss2 ty c2 cy ⟨(HL9.step HGP.out).now,HS2T.out⟩ ⟨HYS.now,HYT.out⟩);clear hsp hgp HS HG HBo HMX hix hbo;go_wp2_with fail
  go_loopw [84] (fun jv wr=>∃ j:Nat,jv = .int .i64 (j:Int)/\j<=2/\Below wp.heap.size wp wr) (fun jv _=>2-(intOf jv).toNat)
  ·exact ⟨0,rfl,oMx,bRx⟩
  obtain ⟨j,rfl,hj2,hb⟩:=hrel;obtain ⟨wq,rfl⟩:=nWx wr;have HBq:=oH hb;have HE0:=oH (HE.below (HBP.trans (hb.mono HBP.size)));have HM0:=oH (HMP.now.below hb);clear hb
  by_cases hltj:j<2
  ·obtain ⟨AT,tt,ct,hjx,hst,htt⟩:=HJX.out j hltj;have HT0:=oH (hst.below HBq.out);have HTT:=oH htt;clear hst htt;go_wp2_with fail;refine (P_sol HM0.out HSX.out HT0.out HTT.out HE0.out).mono ?_;rintro e w11 ⟨ts,er,hw,A11,c11,rfl,hst,hb⟩;have HW:=oH hw;have HB11:=oH hb;have HT11:=oH hst;clear hw hst hb hjx;go_wp2_with fail;refine (R_sol (HM0.below HB11.out) HSX.out (HT0.below HB11.out) HTT.out).mono ?_;rintro e w12 ⟨ts2,er2,hw,A12,c12,rfl,hst,hb⟩;obtain ⟨rfl,rfl⟩:=HW.only hw;have HB12:=oH (HBq.trans ((HB11.trans (hb.mono HB11.size)).mono HBq.size));have HSA:=zGi A11 A12 ts ts c11 c12 w12 (HT11.below hb) hst (hw.len HSX.out) (hw.len HSX.out);rw [decide_eq_true rfl] at HSA;replace HSA:=oH HSA
   have hee:(er != er)=false:=by simp
   clear hw hst hb HW HT11 HB11;generalize ts.length=tl at *;go_wp2_with fail;refine HSA.mono ?_;rintro e w13 ⟨rfl,hb⟩;have HB13:=bTx2 HB12 hb;clear hb;go_wp2_with fail;go_roundw
   ·exact ⟨j+1,by go_num,oMx,HB13.out⟩
   simp [intOf];omega
  have x2:¬(j:Int)<2:=by omega
  go_wp2_with fail;refine (P_inv HM0.out HSX.out HE0.out).mono ?_;rintro e w21 ⟨tsi,eri,hwi,Ai,ci,ri,rfl,hmi,hri,hb⟩;have HB21:=oH hb;have HWI:=oH hwi;have HMI:=oH hmi;have HRI:=oH hri;replace HM0:=oH (HM0.below hb);replace HE0:=oH (HE0.below hb);replace HBq:=bTx2 HBq hb;clear hwi hmi hri hb;go_wp2_with fail;refine (R_inv HM0.out HSX.out).mono ?_;rintro e w22 ⟨tsj,erj,hwj,Aj,cj,rj,rfl,hmj,hrj,hb⟩;obtain ⟨rfl,rfl⟩:=HWI.only hwj;have hlen:=hwj.len HSX.out;have HQE:=oH (fun W (hW:Below w22.heap.size w22 W)=>REq_of Ai Aj ri rj ci cj W ((HMI.below hb).below hW) (hmj.below hW) (by rw [HRI.out,hrj]) (by have:=congrArg List.length HRI.out;rw [List.length_map] at this;omega) (fun r hr=>hlen.2 _ (by rw [<-HRI.out];exact List.mem_map.2 ⟨r,hr,rfl⟩)));replace HM0:=oH (HM0.below hb);replace HE0:=oH (HE0.below hb);replace HBq:=bTx2 HBq hb;have HB22:=oH (Below.refl w22.heap.size w22);clear hwj hmj hrj hb HWI HMI HRI hlen HB21
  generalize ri.length=li at *;generalize rj.length=lj at *;go_wp2_with fail;refine (P_det HM0.out HSX.out HE0.out).mono ?_;rintro e w23 ⟨sd,erd,hwd,rfl,hb⟩;have HWD:=oH hwd;replace HM0:=oH (HM0.below hb);replace HE0:=oH (HE0.below hb);replace HBq:=bTx2 HBq hb;replace HB22:=bTx2 HB22 hb;clear hwd hb;go_wp2_with fail;refine (R_det HM0.out HSX.out).mono ?_;rintro e w24 ⟨sd2,erd2,hwd,rfl,hb⟩;obtain ⟨rfl,rfl⟩:=HWD.only hwd;replace HM0:=oH (HM0.below hb);replace HE0:=oH (HE0.below hb);replace HBq:=bTx2 HBq hb;replace HB22:=bTx2 HB22 hb;clear hwd hb HWD;go_wp2_with fail;refine (P_rank HM0.out HSX.out HE0.out).mono ?_;rintro e w25 ⟨zr,err,hwr,rfl,hb⟩;have HWR:=oH hwr;replace HM0:=oH (HM0.below hb);replace HE0:=oH (HE0.below hb);replace HBq:=bTx2 HBq hb;replace HB22:=bTx2 HB22 hb;clear hwr hb;go_wp2_with fail;refine (R_rank HM0.out HSX.out).mono ?_;rintro e w26 ⟨zr2,err2,hwr,rfl,hb⟩;obtain ⟨rfl,rfl⟩:=HWR.only hwr
  replace HM0:=oH (HM0.below hb);replace HE0:=oH (HE0.below hb);replace HBq:=bTx2 HBq hb;replace HB22:=bTx2 HB22 hb;clear hwr hb HWR;go_wp2_with fail;refine (P_ker HM0.out HSX.out HE0.out).mono ?_;rintro e w27 ⟨tk,erk,hwk,Ak,ck,rfl,hsk,hb⟩;have HWK:=oH hwk;have HSK:=oH hsk;replace HM0:=oH (HM0.below hb);replace HBq:=bTx2 HBq hb;replace HB22:=bTx2 HB22 hb;clear hwk hsk hb HE0;go_wp2_with fail;refine (R_ker HM0.out HSX.out).mono ?_;rintro e w28 ⟨tk2,erk2,hwk,Ak2,ck2,rfl,hsk,hb⟩;obtain ⟨rfl,rfl⟩:=HWK.only hwk
  have HSA:=oH (fun W (hW:Below w28.heap.size w28 W)=>(show Calls Tryz.prog 15 #[.slice Ak tk.length ck,.slice Ak2 tk.length ck2] W fun e w'=>e = .returned (.bool true)/\Below W.heap.size W w' by
   have:=zGi Ak Ak2 tk tk ck ck2 W ((HSK.below hb).below hW) (hsk.below hW) (hwk.len HSX.out) (hwk.len HSX.out);rw [decide_eq_true rfl] at this
   exact this))
  replace HBq:=bTx2 HBq hb;replace HB22:=bTx2 HB22 hb;clear hwk hsk hb HWK HSK HM0;generalize tk.length=kl at *
  have e1:(eri != eri)=false:=by simp
  have e2:(sd.toList==sd.toList)=true:=by simp
  have e3:(erd != erd)=false:=by simp
  have e4:(zr != zr)=false:=by simp
  have e5:(err != err)=false:=by simp
  have e6:(erk != erk)=false:=by simp
  go_wp2_with fail;refine (HQE.out w28 HB22.out).mono ?_;rintro e w29 ⟨rfl,hb⟩;have HB29:=bTx2 HBq hb;have HSB:=oH (HSA.out w29 hb);clear hb;go_wp2_with fail;refine HSB.mono ?_;rintro e w30 ⟨rfl,hb⟩;have HB30:=bTx2 HB29 hb;clear hb;go_wp2_with fail;go_roundw
  ·exact ⟨i+1,by go_num,oMx,HSP.below HB30.out,zOa HGP.out HB30.out⟩
  simp [intOf];omega
 have x2:¬(i:Int)<4:=by omega
 go_wp2_with fail;refine (HSN.out wo HBo.out).mono ?_;rintro e w40 ⟨rfl,hb⟩;have HB40:=bTx2 HBo hb;clear hb;go_wp2_with fail;go_ret
 exact ⟨rfl,HB40.out⟩
end Go.Proofs.YtbjaplppalcmgaaGreatDoor
