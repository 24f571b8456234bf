import Derived.Test.YtbjaplppalcmgaaGreatDoorZH
import Derived.Test.YtbjaplppalcmgaaGreatDoorZE
set_option maxHeartbeats 16000000
set_option maxRecDepth 100000
namespace Go.Proofs.YtbjaplppalcmgaaGreatDoor
open Go.RowKit
theorem zZd (n:Nat):zZc false n=(n:Int):=rfl
theorem zKz (n:Nat):decide ((n:Int)<0)=false:=decide_eq_false oMx
theorem zBm.open_nat {w:World} {v:Value} {n:Nat} (h:zBm w v (n:Int)):∃ A c,v = .agg #[.bool false,.slice A (limbs n).length c]/\(limbs n).length<=c/\zAe .i64 w A (limbs n):=by
 obtain ⟨A,c,e,hl,hc⟩:=h;rw [zKz] at e;exact ⟨A,c,e,hl,hc⟩
def Held (w:World) (g:Nat) (n:Nat):Prop:=∃ A c,Blk w g 85 [.bool false,.slice A (limbs n).length c]/\(limbs n).length<=c/\zAe .i64 w A (limbs n)
theorem BB.swap {w W:World} {n0 n1 m0 m1:Bool} {A1 A2 B1 B2:oAx} {l1 l2 c1 c2 k1 k2 d1 d2:Nat} (h:BB w W n0 n1 (.slice A1 l1 c1) (.slice A2 l2 c2)) :
  BB w ((((W.setCell ⟨w.heap.size,0,none⟩ (.bool m0)).setCell ⟨w.heap.size,1,none⟩ (.slice B1 k1 d1)).setCell ⟨w.heap.size+1,0,none⟩ (.bool m1)).setCell ⟨w.heap.size+1,1,none⟩ (.slice B2 k2 d2)).drew m0 m1 (.slice B1 k1 d1) (.slice B2 k2 d2) /\
  ∀ A xs,zAe .i64 W A xs->zAe .i64 ((((W.setCell ⟨w.heap.size,0,none⟩ (.bool m0)).setCell ⟨w.heap.size,1,none⟩ (.slice B1 k1 d1)).setCell ⟨w.heap.size+1,0,none⟩ (.bool m1)).setCell ⟨w.heap.size+1,1,none⟩ (.slice B2 k2 d2)).drew A xs:=by
 have a0:=h.k0.set 0 (.bool m0);have a1:=a0.set 1 (.slice B1 k1 d1);have a2:=(a1.far (p:=⟨w.heap.size+1,0,none⟩) (by show w.heap.size≠w.heap.size+1;omega) (.bool m1)).far (p:=⟨w.heap.size+1,1,none⟩) (by show w.heap.size≠w.heap.size+1;omega) (.slice B2 k2 d2);have b0:=(h.k1.far (p:=⟨w.heap.size,0,none⟩) (by show w.heap.size+1≠w.heap.size;omega) (.bool m0)).far (p:=⟨w.heap.size,1,none⟩) (by show w.heap.size+1≠w.heap.size;omega) (.slice B1 k1 d1);have b1:=b0.set 0 (.bool m1);have b2:=b1.set 1 (.slice B2 k2 d2);have r0:=(((h.k2.far (p:=⟨w.heap.size,0,none⟩) (by show w.heap.size+1+1≠w.heap.size;omega) (.bool m0)).far (p:=⟨w.heap.size,1,none⟩) (by show w.heap.size+1+1≠w.heap.size;omega) (.slice B1 k1 d1)).far (p:=⟨w.heap.size+1,0,none⟩) (by show w.heap.size+1+1≠w.heap.size+1;omega) (.bool m1)).far (p:=⟨w.heap.size+1,1,none⟩) (by show w.heap.size+1+1≠w.heap.size+1;omega) (.slice B2 k2 d2);refine ⟨⟨a2,b2,r0,((((h.bel.setCell (p:=⟨w.heap.size,0,none⟩) lRx _).setCell (p:=⟨w.heap.size,1,none⟩) lRx _).setCell (p:=⟨w.heap.size+1,0,none⟩) (Nat.le_succ _) _).setCell (p:=⟨w.heap.size+1,1,none⟩) (Nat.le_succ _) _).drew⟩,fun A xs hc=>?_⟩
 exact ((((hc.aside h.k0 zSm 0 _).aside a0 zSm 1 _).aside b0 zSm 0 _).aside b1 zSm 1 _).drew
theorem RGcd_raw (A A':oAx) (a b c c':Nat) (na nb:Bool) (w:World) (hlc:(limbs a).length<=c) (hlc':(limbs b).length<=c') (ha:zAe .i64 w A (limbs a)) (hb:zAe .i64 w A' (limbs b)) (hla:(limbs a).length<=10000000) (hlb:(limbs b).length<=10000000) :
  Calls Tryz.prog 83 #[.agg #[.bool na,.slice A (limbs a).length c],.agg #[.bool nb,.slice A' (limbs b).length c']] w (zFm w (Nat.gcd a b:Nat)):=by
 have HC:=oH ha;have HC':=oH hb;clear ha hb
 go_enter Tryz.func83,Tryz.ntmps83
 go_wp2_with fail;have hbx:=BB.new w false false (.slice A (limbs a).length c) (.slice A' (limbs b).length c');generalize ((w.alloc (.cells #[.bool false,.slice A (limbs a).length c] 85)).alloc (.cells #[.bool false,.slice A' (limbs b).length c'] 85)).alloc (.cells #[.bool false,.slice none 0 0] 85)=W at *;have HBX:=oH hbx;clear hbx
 go_loopg [] b (fun k wr=>∃ (n:Nat) (A A':oAx) (c c':Nat),Nat.gcd n k=Nat.gcd a b/\BB w wr false false (.slice A (limbs n).length c) (.slice A' (limbs k).length c')/\zAe .i64 wr A (limbs n)/\zAe .i64 wr A' (limbs k)/\(limbs n).length<=c/\(limbs k).length<=c'/\(limbs n).length<=10000000/\(limbs k).length<=10000000)
 ·exact ⟨a,A,A',c,c',rfl,HBX.out,HC.below HBX.bel,HC'.below HBX.bel,hlc,hlc',hla,hlb⟩
 obtain ⟨n,A1,A2,c1,c2,hg,hbb,hc1,hc2,hl1,hl2,hn1,hn2⟩:=hrel;have HG:=oH hg;have HB:=oH hbb;have HC1:=oH hc1;have HC2:=oH hc2;obtain ⟨ha0,ha1,hb0,hb1⟩:=hbb.four;clear hg hbb hc1 hc2 HBX HC HC'
 rcases Nat.eq_zero_or_pos gk with h0|h0
 ·subst h0
  have hz:¬0<(limbs 0).length:=by rw [zQo];simp
  have hr0:wr.cell? ⟨w.heap.size+1+1,0,none⟩=some (.bool false):=HB.k2.at_ rfl;have hr1:wr.cell? ⟨w.heap.size+1+1,1,none⟩=some (.slice none 0 0):=HB.k2.at_ rfl;have hf0:=HB.k2.fr 0;have hf1:=HB.k2.fr 1;have E:=oH (show n=Nat.gcd a b by rw [<-HG.out,Nat.gcd_zero_right]);go_wp2_with fail;refine bodyPost_ret (v := .agg #[.bool false,.slice A1 (limbs n).length c1]) (by simp [results,Tryz.results83,go_sem,hr0,hr1]) rfl ?_;rw [<-E.out];have h:=zIr (y:=(n:Int)) (x:=(n:Int)) HB.k2 HB.bel oMx HC1.out hl1 rfl;rw [zKz] at h;exact h
 have hz:0<(limbs gk).length:=zQg.2 oMx;go_wp2_with fail;refine (zEo A1 A2 n gk c1 c2 false false wr HC1.out HC2.out hn1 hn2 h0).mono ?_;rintro e w2 ⟨v2,u2,rfl,hq,hr,hb2⟩;obtain ⟨Aq,cq,rfl,hlq,hcq⟩:=hq;rw [zZd] at hr;obtain ⟨Ar,cr,rfl,hlr,hcr⟩:=hr.open_nat;have HB2:=oH (HB.below hb2);have HC2':=oH (HC2.below hb2);have HCR:=oH hcr;generalize decide (zZc (false != false) (n/gk)<0)=nq at *;generalize (limbs (zZc (false != false) (n/gk)).natAbs).length=lq at *;clear hcq hr hcr hb2 ha0 ha1 hb0 hb1;go_upto_region 4 with (fail);have k6:=Blk.new (w2.alloc (.cells #[.bool nq,.slice Aq lq cq] 85)) 85 [.bool false,.slice Ar (limbs (n%gk)).length cr];rw [World.size_alloc] at k6;have hb3:Below w2.heap.size w2 ((w2.alloc (.cells #[.bool nq,.slice Aq lq cq] 85)).alloc (.cells #[.bool false,.slice Ar (limbs (n%gk)).length cr] 85)):=(bA).alloc sMx _;generalize (w2.alloc (.cells #[.bool nq,.slice Aq lq cq] 85)).alloc (.cells #[.bool false,.slice Ar (limbs (n%gk)).length cr] 85)=w3 at *
 have HB3:=oH (HB2.below hb3);have HC3:=oH (HC2'.below hb3);have HR3:=oH (HCR.below hb3);have h60:w3.cell? ⟨w2.heap.size+1,0,none⟩=some (.bool false):=k6.at_ rfl;have h61:w3.cell? ⟨w2.heap.size+1,1,none⟩=some (.slice Ar (limbs (n%gk)).length cr):=k6.at_ rfl;obtain ⟨ha0,ha1,hb0,hb1⟩:=HB3.four;have hsz:w.heap.size+2<w2.heap.size:=HB2.k2.lt;have hx0:=HB3.k0.fr 0;have hx1:=HB3.k0.fr 1;have hy0:=HB3.k1.fr 0;have hy1:=HB3.k1.fr 1;clear hb3 k6
 go_region
 all_goals
  go_wp2_with fail
  go_roundg (n%gk)
  case measure=>exact Nat.mod_lt _ h0
  case rel =>
   obtain ⟨hs,hcs⟩:=HB3.swap (m0:=false) (m1:=false) (B1:=A2) (k1:=(limbs gk).length) (d1:=c2) (B2:=Ar) (k2:=(limbs (n%gk)).length) (d2:=cr);exact ⟨gk,A2,Ar,c2,cr,by rw [<-HG.out,Nat.gcd_comm gk,<-Nat.gcd_rec,Nat.gcd_comm],hs,hcs _ _ HC3.out,hcs _ _ HR3.out,hl2,hlr,hn2,Nat.le_trans (zQd (Nat.le_of_lt (Nat.mod_lt _ h0))) hn2⟩
theorem zEb (u v:Value) (x y:Int) (w:World) (hx:zBm w u x) (hy:zBm w v y) (hlx:(limbs x.natAbs).length<=10000000) (hly:(limbs y.natAbs).length<=10000000) :
  Calls Tryz.prog 83 #[u,v] w (zFm w (Nat.gcd x.natAbs y.natAbs:Nat)):=by
 obtain ⟨A,c,rfl,hlc,hc⟩:=hx;obtain ⟨A',c',rfl,hlc',hc'⟩:=hy;exact RGcd_raw A A' x.natAbs y.natAbs c c' (decide (x<0)) (decide (y<0)) w hlc hlc' hc hc' hlx hly
theorem zUt {B:Nat} {w wr w1:World} {t e:TypeId} {v v' u:Value} {os:List Nat} {x:Nat} {X:Int} (h:wr.ownsRow B e 1 v os.length (vn os)) (hB:B<=wr.heap.size) (hb:Below w.heap.size w wr) (hwB:w.heap.size<=B)
  (hown:w1.ownsRow B e 1 v' (os.length+1) (vn os++[.int .i64 X])) (hg:(wr.alloc (.cells #[u] t)).grownBy w1 v.ownBlock) (hX:X=(x:Int)) :
  w1.ownsRow B e 1 v' (os++[x]).length (vn (os++[x]))/\Below w.heap.size w w1/\B<=w1.heap.size/\∀ g t' cs,g<B->Blk wr g t' cs->Blk w1 g t' cs:=by
 subst hX;have hs:=hg.size;rw [World.size_alloc] at hs;refine ⟨?_,(hb.alloc hb.size _).grown hg (by have:=hb.size;simp;omega) (fun g hg'=>Nat.le_trans hwB (h.lt g hg').1),oMx,fun g t' cs hgB hk=>?_⟩
 ·rw [xFo,List.length_append];exact hown
 exact (hk.alloc _).grown hg (fun e=>by have:=(h.lt g e.symm).1;omega)
theorem Of_pos (N:Nat) (w:World) (h1:N<=9223372036854775808) (h2:N<=9223372036854775807) :
  Calls Tryz.prog 63 #[.int .i64 ((N:Int))] w (zFl w ((N:Int))):=by
 obtain ⟨i0,hi,hz0,hz1,hz2⟩:=info_parts Tryz.infoInt;have hdn:decide ((N:Int)<0)=false:=decide_eq_false oMx
 go_enter Tryz.func63,Tryz.ntmps63
 go_wp2_with fail;have hb0:=Blk.new (w.alloc (.cells #[.bool false,.slice none 0 0] 85)) 85 [.bool false,.slice none 0 0];rw [World.size_alloc] at hb0;have hr0:=(Blk.new w 85 [.bool false,.slice none 0 0]).alloc (.cells #[.bool false,.slice none 0 0] 85);have hbel:Below w.heap.size w ((w.alloc (.cells #[.bool false,.slice none 0 0] 85)).alloc (.cells #[.bool false,.slice none 0 0] 85)):=(bA).alloc sMx _
 have hs0:((w.alloc (.cells #[.bool false,.slice none 0 0] 85)).alloc (.cells #[.bool false,.slice none 0 0] 85)).heap.size=w.heap.size+2:=by simp
 generalize (w.alloc (.cells #[.bool false,.slice none 0 0] 85)).alloc (.cells #[.bool false,.slice none 0 0] 85)=W at *;have HB0:=oH hb0;have HR0:=oH hr0;have HBEL0:=oH hbel;have HS0:=oH hs0;clear hb0 hr0 hbel hs0 hdn
 go_loopw [0] (fun nv wr=>∃ (M:Nat) (v:Value) (os:List Nat),nv = .int .i64 ((M:Int))/\M<=N/\os++limbs M=limbs N/\Blk wr w.heap.size 85 [.bool false,.slice none 0 0]/\Blk wr (w.heap.size+1) 85 [.bool false,v]/\wr.ownsRow (w.heap.size+2) 3 1 v os.length (vn os)/\w.heap.size+2<=wr.heap.size/\Below w.heap.size w wr) (fun nv _=>(intOf nv).natAbs)
 ·exact ⟨N,.slice none 0 0,[],rfl,lRx,rfl,HR0.out,HB0.out,World.ownsRow_nil _ _ _ _,by rw [HS0.out];omega,HBEL0.out⟩
 obtain ⟨M,v,os,rfl,hMN,hsum,hr,hk,hown,hsz,hbel⟩:=hrel;have HSUM:=oH hsum;have HR:=oH hr;have HK:=oH hk;have HOWN:=oH hown;have HBEL:=oH hbel;have hv1:wr.cell? ⟨w.heap.size+1,1,none⟩=some v:=hk.at_ rfl;have hv0:wr.cell? ⟨w.heap.size+1,0,none⟩=some (.bool false):=hk.at_ rfl;have hf1:=hk.fr 1;clear hsum hr hk hown hbel HB0 HR0 HBEL0 HS0
 have hol:os.length<=3:=by
  have h3:(limbs N).length<=3:=zQb oMx;have:=congrArg List.length HSUM.out;rw [List.length_append] at this;omega
 rcases Nat.eq_zero_or_pos M with hM0|hM0
 ·subst hM0;have hrow:=zUv HOWN.out;have hE:=HSUM.out;rw [zQo,List.append_nil] at hE;rw [hE] at hrow;have HROW:=oH hrow;obtain ⟨A,c,rfl,hl,hc,hfr⟩:=hrow;have HC:=oH hc;have hr0:wr.cell? ⟨w.heap.size,0,none⟩=some (.bool false):=HR.at_ rfl;have hr1:wr.cell? ⟨w.heap.size,1,none⟩=some (.slice none 0 0):=HR.at_ rfl;have hg0:=HR.fr 0;have hg1:=HR.fr 1;have HEND:=oH (zIs (x:=(N:Int)) (y:=(N:Int)) (A:=A) (c:=c) HR.out HBEL.out lRx (by rw [show ((N:Int)).natAbs=N by omega];exact hc) (by rw [show ((N:Int)).natAbs=N by omega];exact hl) rfl (fun b off e=>Nat.le_trans (Nat.le_add_right _ 2) (hfr b off e)));rw [show ((N:Int)).natAbs=N by omega,show decide ((N:Int)<0)=false from decide_eq_false oMx] at HEND;clear hc hE hfr;go_wp2_with fail;refine bodyPost_ret (v := .agg #[.bool false,.slice A (limbs N).length c]) (by simp [results,Tryz.results63,go_sem,hr0,hr1]) rfl ?_;exact HEND.out
 have hstep:=zQj (n:=M) oMx;have HSTEP:=oH hstep;clear hstep
 have hq:((M:Int) != 0)=true:=by rw [bne_iff_ne];omega
 have hd:¬((M:Int)%1000000000<0):=by omega
 go_wp2_with (at_builtin;refine wpList_append_own _ rfl _ _ 22 rfl (w.heap.size+2) 3 i0 (.int .i64 0) 1 8 Tryz.underlying22 hi hz0 hz1 hz2 rfl dCx _ _ _ rfl (HOWN.alloc _) ⟨wr.heap.size,0,none⟩ 1 1 [_] rfl rfl zTu zTs (by unfold maxLen;omega) oMx (by simp;omega) ?_)
 intro v' w1 hown1 hgrow1 _
 obtain ⟨ho1,hb1,hs1,hk1⟩:=zUt HOWN.out hsz HBEL.out oMx hown1 hgrow1 (x:=M%1000000000) (by first|rfl|omega);obtain ⟨gn,capn,rfl, -, -⟩:=ho1.form sMx;have HO1:=oH ho1;have HB1:=oH hb1;have HK1:=oH (hk1 _ _ _ oMx HK.out);have HR1:=oH (hk1 _ _ _ oMx HR.out);have hc1:w1.cell? ⟨w.heap.size+1,1,none⟩=some v:=HK1.at_ rfl;have hc1f:=HK1.fr 1;clear hown1 hgrow1 ho1 hb1 hk1;go_wp2_with fail;go_roundw
 case rel =>
  skip
  refine ⟨M/1000000000,_,os++[M%1000000000],rfl,oMx,?_,HR1.far (p:=⟨w.heap.size+1,1,none⟩) (by show w.heap.size≠w.heap.size+1;omega) _,HK1.set 1 _,(by have h:=HO1.out;rw [List.length_append] at h ⊢;exact ownsRow_setCell_below h (a:=⟨w.heap.size+1,1,none⟩) (by show w.heap.size+1<w.heap.size+2;omega) _),by simpa [World.setCell] using hs1,HB1.setCell (p:=⟨w.heap.size+1,1,none⟩) (Nat.le_succ _) _⟩
  rw [<-HSUM.out,HSTEP.out,List.append_assoc];rfl
 simp [intOf];omega
theorem Of_neg (N:Nat) (w:World) (h1:N<=9223372036854775808) (h0:0<N) :
  Calls Tryz.prog 63 #[.int .i64 (-(N:Int))] w (zFl w (-(N:Int))):=by
 obtain ⟨i0,hi,hz0,hz1,hz2⟩:=info_parts Tryz.infoInt;have hdn:decide (-(N:Int)<0)=true:=decide_eq_true oMx
 go_enter Tryz.func63,Tryz.ntmps63
 go_wp2_with fail;have hb0:=Blk.new (w.alloc (.cells #[.bool false,.slice none 0 0] 85)) 85 [.bool true,.slice none 0 0];rw [World.size_alloc] at hb0;have hr0:=(Blk.new w 85 [.bool false,.slice none 0 0]).alloc (.cells #[.bool true,.slice none 0 0] 85);have hbel:Below w.heap.size w ((w.alloc (.cells #[.bool false,.slice none 0 0] 85)).alloc (.cells #[.bool true,.slice none 0 0] 85)):=(bA).alloc sMx _
 have hs0:((w.alloc (.cells #[.bool false,.slice none 0 0] 85)).alloc (.cells #[.bool true,.slice none 0 0] 85)).heap.size=w.heap.size+2:=by simp
 generalize (w.alloc (.cells #[.bool false,.slice none 0 0] 85)).alloc (.cells #[.bool true,.slice none 0 0] 85)=W at *;have HB0:=oH hb0;have HR0:=oH hr0;have HBEL0:=oH hbel;have HS0:=oH hs0;clear hb0 hr0 hbel hs0 hdn
 go_loopw [0] (fun nv wr=>∃ (M:Nat) (v:Value) (os:List Nat),nv = .int .i64 (-(M:Int))/\M<=N/\os++limbs M=limbs N/\Blk wr w.heap.size 85 [.bool false,.slice none 0 0]/\Blk wr (w.heap.size+1) 85 [.bool true,v]/\wr.ownsRow (w.heap.size+2) 3 1 v os.length (vn os)/\w.heap.size+2<=wr.heap.size/\Below w.heap.size w wr) (fun nv _=>(intOf nv).natAbs)
 ·exact ⟨N,.slice none 0 0,[],rfl,lRx,rfl,HR0.out,HB0.out,World.ownsRow_nil _ _ _ _,by rw [HS0.out];omega,HBEL0.out⟩
 obtain ⟨M,v,os,rfl,hMN,hsum,hr,hk,hown,hsz,hbel⟩:=hrel;have HSUM:=oH hsum;have HR:=oH hr;have HK:=oH hk;have HOWN:=oH hown;have HBEL:=oH hbel;have hv1:wr.cell? ⟨w.heap.size+1,1,none⟩=some v:=hk.at_ rfl;have hv0:wr.cell? ⟨w.heap.size+1,0,none⟩=some (.bool true):=hk.at_ rfl;have hf1:=hk.fr 1;clear hsum hr hk hown hbel HB0 HR0 HBEL0 HS0
 have hol:os.length<=3:=by
  have h3:(limbs N).length<=3:=zQb oMx;have:=congrArg List.length HSUM.out;rw [List.length_append] at this;omega
 rcases Nat.eq_zero_or_pos M with hM0|hM0
 ·subst hM0;have hrow:=zUv HOWN.out;have hE:=HSUM.out;rw [zQo,List.append_nil] at hE;rw [hE] at hrow;have HROW:=oH hrow;obtain ⟨A,c,rfl,hl,hc,hfr⟩:=hrow;have HC:=oH hc;have hr0:wr.cell? ⟨w.heap.size,0,none⟩=some (.bool false):=HR.at_ rfl;have hr1:wr.cell? ⟨w.heap.size,1,none⟩=some (.slice none 0 0):=HR.at_ rfl;have hg0:=HR.fr 0;have hg1:=HR.fr 1;have HEND:=oH (zIs (x := -(N:Int)) (y := -(N:Int)) (A:=A) (c:=c) HR.out HBEL.out lRx (by rw [show (-(N:Int)).natAbs=N by omega];exact hc) (by rw [show (-(N:Int)).natAbs=N by omega];exact hl) rfl (fun b off e=>Nat.le_trans (Nat.le_add_right _ 2) (hfr b off e)));rw [show (-(N:Int)).natAbs=N by omega,show decide (-(N:Int)<0)=true from decide_eq_true oMx] at HEND;clear hc hE hfr;go_wp2_with fail;refine bodyPost_ret (v := .agg #[.bool true,.slice A (limbs N).length c]) (by simp [results,Tryz.results63,go_sem,hr0,hr1]) rfl ?_;exact HEND.out
 have hstep:=zQj (n:=M) oMx;have HSTEP:=oH hstep;clear hstep;obtain ⟨r,hr⟩:∃ r,r=M%1000000000:=⟨_,rfl⟩;obtain ⟨q,hq'⟩:∃ q,q=M/1000000000:=⟨_,rfl⟩
 have hmod:(-(M:Int)).tmod 1000000000 = -((r:Nat):Int):=by rw [Int.neg_tmod,hr];rfl
 have hdiv:(-(M:Int)).tdiv 1000000000 = -((q:Nat):Int):=by rw [Int.neg_tdiv,hq'];rfl
 have HRR:=oH hr.symm;have HQ:=oH hq'.symm
 have hrl:r<1000000000:=by rw [hr];exact Nat.mod_lt _ oMx
 have hql:q<=M:=by rw [hq'];exact Nat.div_le_self _ _
 have hqn:q<M:=by omega
 have hqz:(-(M:Int) != 0)=true:=by rw [bne_iff_ne];omega
 clear hr hq'
 by_cases hr0:0<r
 ·
  have hd : -((r:Nat):Int)<0:=by omega
  go_wp2_with (at_builtin;refine wpList_append_own _ rfl _ _ 22 rfl (w.heap.size+2) 3 i0 (.int .i64 0) 1 8 Tryz.underlying22 hi hz0 hz1 hz2 rfl dCx _ _ _ rfl (HOWN.alloc _) ⟨wr.heap.size,0,none⟩ 1 1 [_] rfl rfl zTu zTs (by unfold maxLen;omega) oMx (by simp;omega) ?_)
  intro v' w1 hown1 hgrow1 _
  obtain ⟨ho1,hb1,hs1,hk1⟩:=zUt HOWN.out hsz HBEL.out oMx hown1 hgrow1 (x:=r) (by first|rfl|omega);obtain ⟨gn,capn,rfl, -, -⟩:=ho1.form sMx;have HO1:=oH ho1;have HB1:=oH hb1;have HK1:=oH (hk1 _ _ _ oMx HK.out);have HR1:=oH (hk1 _ _ _ oMx HR.out);have hc1:w1.cell? ⟨w.heap.size+1,1,none⟩=some v:=HK1.at_ rfl;have hc1f:=HK1.fr 1;clear hown1 hgrow1 ho1 hb1 hk1;go_wp2_with fail;go_roundw
  case rel =>
   skip
   refine ⟨M/1000000000,_,os++[r],by rw [HQ.out],oMx,?_,HR1.far (p:=⟨w.heap.size+1,1,none⟩) (by show w.heap.size≠w.heap.size+1;omega) _,HK1.set 1 _,(by have h:=HO1.out;rw [List.length_append] at h ⊢;exact ownsRow_setCell_below h (a:=⟨w.heap.size+1,1,none⟩) (by show w.heap.size+1<w.heap.size+2;omega) _),by simpa [World.setCell] using hs1,HB1.setCell (p:=⟨w.heap.size+1,1,none⟩) (Nat.le_succ _) _⟩
   rw [<-HSUM.out,HSTEP.out,List.append_assoc];rw [HRR.out];rfl
  simp [intOf,Int.natAbs_neg];omega
 obtain rfl:r=0:=by omega
 have hmod':(-(M:Int)).tmod 1000000000=0:=by rw [hmod];rfl
 clear hmod
 go_wp2_with (at_builtin;refine wpList_append_own _ rfl _ _ 22 rfl (w.heap.size+2) 3 i0 (.int .i64 0) 1 8 Tryz.underlying22 hi hz0 hz1 hz2 rfl dCx _ _ _ rfl (HOWN.alloc _) ⟨wr.heap.size,0,none⟩ 1 1 [_] rfl rfl zTu zTs (by unfold maxLen;omega) oMx (by simp;omega) ?_)
 intro v' w1 hown1 hgrow1 _
 obtain ⟨ho1,hb1,hs1,hk1⟩:=zUt HOWN.out hsz HBEL.out oMx hown1 hgrow1 (x:=0) (by first|rfl|omega);obtain ⟨gn,capn,rfl, -, -⟩:=ho1.form sMx;have HO1:=oH ho1;have HB1:=oH hb1;have HK1:=oH (hk1 _ _ _ oMx HK.out);have HR1:=oH (hk1 _ _ _ oMx HR.out);have hc1:w1.cell? ⟨w.heap.size+1,1,none⟩=some v:=HK1.at_ rfl;have hc1f:=HK1.fr 1;clear hown1 hgrow1 ho1 hb1 hk1;go_wp2_with fail;go_roundw
 case rel =>
  skip
  refine ⟨M/1000000000,_,os++[0],by rw [HQ.out],oMx,?_,HR1.far (p:=⟨w.heap.size+1,1,none⟩) (by show w.heap.size≠w.heap.size+1;omega) _,HK1.set 1 _,(by have h:=HO1.out;rw [List.length_append] at h ⊢;exact ownsRow_setCell_below h (a:=⟨w.heap.size+1,1,none⟩) (by show w.heap.size+1<w.heap.size+2;omega) _),by simpa [World.setCell] using hs1,HB1.setCell (p:=⟨w.heap.size+1,1,none⟩) (Nat.le_succ _) _⟩
  rw [<-HSUM.out,HSTEP.out,List.append_assoc];rw [HRR.out];rfl
 simp [intOf,Int.natAbs_neg];omega
theorem ROf_f (n:Int) (w:World) (h0 : -9223372036854775808<=n) (h1:n<=9223372036854775807):Calls Tryz.prog 63 #[.int .i64 n] w (zFl w n):=by
 rcases Int.lt_or_le n 0 with h|h
 ·obtain ⟨N,rfl⟩:∃ N:Nat,n = -(N:Int):=⟨n.natAbs,oMx⟩;exact Of_neg N w oMx oMx
 obtain ⟨N,rfl⟩:∃ N:Nat,n=(N:Int):=⟨n.toNat,oMx⟩;exact Of_pos N w oMx oMx
theorem zEm (n:Int) (w:World) (h0 : -9223372036854775808<=n) (h1:n<=9223372036854775807):Calls Tryz.prog 63 #[.int .i64 n] w (zFm w n):=(ROf_f n w h0 h1).mono fun _ _ h=>h.n
def dd (k:Nat):Nat:=if k=0 then 0 else Lib.nDigits k
theorem dd_zero:dd 0=0:=rfl
theorem dd_pos {k:Nat} (h:0<k):dd k=dd (k/10)+1:=by
 unfold dd;rw [if_neg oMx]
 by_cases hk:k<10
 ·rw [if_pos oMx,Lib.nDigits_small hk]
 rw [if_neg oMx,Lib.nDigits_big hk]
theorem zDi (u:Value) (x:Int) (w:World) (hx:zBm w u x) (hlx:(limbs x.natAbs).length<=10000000) :
  Calls Tryz.prog 85 #[u] w fun e w'=>e = .returned (.int .i64 (Lib.nDigits x.natAbs:Nat))/\Below w.heap.size w w':=by
 obtain ⟨A,c,rfl,hlc,hc⟩:=hx;generalize decide (x<0)=na at *;generalize x.natAbs=a at *;have hbw:Below w.heap.size w (w.alloc (.cells #[.bool na,.slice A (limbs a).length c] 85)):=bA;have HBW:=oH hbw;have HC:=oH (hc.below hbw);clear hbw hc
 rcases Nat.eq_zero_or_pos a with h0|h0
 ·subst h0;have E:=oH (show Lib.nDigits 0=1 from Lib.nDigits_small oMx)
  have hz:(((limbs 0).length:Int)==0)=true:=by rw [zQo];rfl
  go_enter Tryz.func85,Tryz.ntmps85
  go_wp2_with fail;go_ret
  exact ⟨by rw [E.out];rfl,HBW.out⟩
 have hlp:=zQg.2 (show a≠0 by omega);obtain ⟨n,hn⟩:∃ n,(limbs a).length=n+1:=⟨(limbs a).length-1,oMx⟩
 have htot:Lib.nDigits a=9*n+dd (nth (limbs a) n):=by
  have h1:=zKj a 0 hlp;rw [List.drop_zero,xEf,Lib.decDigits_length,Lib.decDigits_length,hn] at h1;rw [h1];unfold dd;rw [if_neg (by have:=zSs hn;omega)]
  rfl
 obtain ⟨g,off,rfl,hg,hcl⟩:=HC.out (by intro e;rw [e] at hlp;simp at hlp);have hcell:=hcl n oMx;have HTOT:=oH htot;have htop:=(Low.limbs a).nth n;have hz:(((n:Int)+1)==0)=false:=beq_eq_false_iff_ne.2 oMx;rw [hn] at hcell hlx HBW ⊢;clear hcl hlp hlc HC hn htot h0
 go_enter Tryz.func85,Tryz.ntmps85
 go_wp2_with fail
 go_loop [3,4] (fun s k=>∃ j m:Nat,s = .int .i64 ((9*n+j:Nat):Int)/\k = .int .i64 (m:Int)/\j+dd m=dd (nth (limbs a) n)/\m<1000000000/\j<=1000) (fun _ k=>(intOf k).toNat)
 ·exact ⟨0,nth (limbs a) n,by rfl,rfl,oMx,htop,oMx⟩
 obtain ⟨j,m,rfl,rfl,hs,hm,hj⟩:=hrel;have HS:=oH hs;clear hs
 rcases Nat.eq_zero_or_pos m with h0|h0
 ·subst h0;have E:=HS.out;rw [dd_zero,Nat.add_zero] at E;have HE:=oH (show Lib.nDigits a=9*n+j by rw [HTOT.out,E]);clear E;go_wp2_with fail;go_ret
  exact ⟨by rw [HE.out,Int.natCast_add,Int.natCast_mul];rfl,HBW.out⟩
 have hj2:j<=20:=by
  have h1:=HS.out
  have h2:dd (nth (limbs a) n)<=20:=by
   unfold dd
   split
   ·omega
   have h3:=zKk (r:=nth (limbs a) n) (k:=9) oMx (by simpa using htop);rw [Lib.decDigits_length] at h3;omega
  omega
 have HN:Hid (j+1+dd (m/10)=dd (nth (limbs a) n)):=by
  have:=HS.out;rw [dd_pos h0] at this
  show _=_
  omega
 go_wp2_with fail
 go_round
 ·exact ⟨j+1,m/10,congrArg (Value.int .i64) oMx,by go_num,HN.out,oMx,oMx⟩
 simp [intOf];omega
def rv (l:List UInt8):Nat:=zKp l.reverse
theorem zYq (l:List UInt8) (c:UInt8):rv (l++[c])=(c.toNat-48)*10^l.length+rv l:=by
 unfold rv;rw [List.reverse_append,List.reverse_singleton,List.singleton_append,zKr,List.length_reverse]
theorem pow_nine (i:Nat):10^(9*i)=1000000000^i:=by rw [Nat.pow_mul]
theorem xCv (xs:List Nat) (i k:Nat) (l:List UInt8) (hl:l.length=9*i+k) (h:rv l=val (xs.take i)+nth xs i%10^k*1000000000^i) :
  rv (l++[UInt8.ofNat (48+nth xs i/10^k%10)])=val (xs.take i)+nth xs i%10^(k+1)*1000000000^i:=by
 rw [zYq,h,hl,zMh (Nat.mod_lt _ oMx),Nat.pow_add,pow_nine,Nat.mod_pow_succ];generalize nth xs i/10^k%10=d;generalize nth xs i%10^k=r;generalize 10^k=K;generalize 1000000000^i=P;rw [Nat.add_sub_cancel_left]
 grind
theorem xCu {xs:List Nat} {i:Nat} {l:List UInt8} (hx:nth xs i<1000000000) (h:rv l=val (xs.take i)+nth xs i%10^9*1000000000^i):rv l=val (xs.take (i+1)):=by
 rw [h,xEn,Nat.mod_eq_of_lt (by simpa using hx),Nat.mul_comm]
theorem Tryz.infoU8:(Tryz.prog.info? 5).map (fun i=>(i.zero,i.size,i.bytes))=some (some (.int .u8 0),1,1):=by kernel_rfl
theorem own_take {w:World} {B e g n cap m:Nat} {xs:List Value} (h:w.ownsRow B e 1 (.slice (some ⟨g,0,none⟩) n cap) n xs) (hm:m<=n):w.ownsRow B e 1 (.slice (some ⟨g,0,none⟩) m cap) m (xs.take m):=by
 have hl:=h.1
 rcases h.2 with ⟨h',_⟩|⟨g',cap',cur,h',hb,hg,hnc,hcm,hcs,htake⟩
 ·simp at h'
 simp only [Value.slice.injEq,Option.some.injEq,Addr.mk.injEq,and_true,true_and] at h';obtain ⟨rfl,rfl⟩:=h';refine ⟨by rw [List.length_take,hl];omega,.inr ⟨g,cap,cur,rfl,hb,hg,oMx,hcm,hcs,?_⟩⟩;rw [<-htake,List.take_take]
 congr 1
 omega
def zWi (l:List UInt8) (i:Nat):List UInt8:=(List.range l.length).map fun j=>if j<i\/l.length-1-i<j then l.getD (l.length-1-j) 0 else l.getD j 0
theorem zWk (l:List UInt8) (i:Nat):(zWi l i).length=l.length:=by simp [zWi]
theorem zWm (l:List UInt8):zWi l 0=l:=by
 apply List.ext_getElem
 ·simp [zWi]
 intro j h1 h2
 simp only [zWi,List.getElem_map,List.getElem_range];rw [if_neg (by rw [zWk] at h1;omega)]
 simp [List.getD_eq_getElem?_getD,h2]
theorem zWj {l:List UInt8} {i j:Nat} (h:j<l.length):(zWi l i)[j]? = some (if j<i\/l.length-1-i<j then l.getD (l.length-1-j) 0 else l.getD j 0):=by
 simp [zWi,h]
theorem revs_end (l:List UInt8) (i:Nat) (h:l.length-1-i<=i):zWi l i=l.reverse:=by
 apply List.ext_getElem
 ·simp [zWi]
 intro j h1 h2
 rw [zWk] at h1;have hg:=zWj (i:=i) h1;rw [List.getElem?_eq_getElem (by rw [zWk];exact h1)] at hg;injection hg with hg;rw [hg,List.getElem_reverse]
 by_cases hc:j<i\/l.length-1-i<j
 ·rw [if_pos hc];simp [List.getD_eq_getElem?_getD,show l.length-1-j<l.length by omega]
 rw [if_neg hc]
 have:j=l.length-1-j:=by omega
 have e2:l[l.length-1-j]'oMx=l.getD (l.length-1-j) 0:=by simp [List.getD_eq_getElem?_getD,show l.length-1-j<l.length by omega]
 rw [e2,<-this]
theorem zWl (l:List UInt8) (i:Nat) (h:i<l.length-1-i):((zWi l i).set i (l.getD (l.length-1-i) 0)).set (l.length-1-i) (l.getD i 0)=zWi l (i+1):=by
 apply List.ext_getElem?
 intro j
 by_cases hj:j<l.length
 ·rw [zWj hj,List.getElem?_set,List.getElem?_set];simp only [List.length_set,zWk]
  by_cases h1:l.length-1-i=j
  ·rw [if_pos h1,if_pos oMx,if_pos oMx,<-h1]
   congr 2
   omega
  rw [if_neg h1]
  by_cases h2:i=j
  ·rw [if_pos h2,if_pos oMx,if_pos oMx,<-h2]
  rw [if_neg h2,zWj hj]
  congr 1
  by_cases h3:j<i\/l.length-1-i<j
  ·rw [if_pos h3,if_pos oMx]
  rw [if_neg h3,if_neg oMx]
 rw [List.getElem?_eq_none (by simp [zWk];omega),List.getElem?_eq_none (by rw [zWk];omega)]
theorem zJb {l:List UInt8} {j:Nat} (h:j<l.length):(Lib.byteCells l)[j]? = some (.int .u8 ((l.getD j 0).toNat:Int)):=by simp [Lib.byteCells,h,List.getD_eq_getElem?_getD]
theorem zJe (l:List UInt8) (m:Nat):(Lib.byteCells l).take m=Lib.byteCells (l.take m):=by simp [Lib.byteCells,List.map_take]
theorem zJc (l:List UInt8) (i:Nat) (c:UInt8):(Lib.byteCells l).set i (.int .u8 (c.toNat:Int))=Lib.byteCells (l.set i c):=by simp [Lib.byteCells,List.map_set]
theorem zJd (l:List UInt8) (c:UInt8):Lib.byteCells (l++[c])=Lib.byteCells l++[.int .u8 (c.toNat:Int)]:=by simp [Lib.byteCells]
theorem zIv {B:Nat} {w wr w1:World} {t e:TypeId} {v v' u:Value} {l:List UInt8} {c:UInt8} {X:Int} (h:wr.ownsRow B e 1 v l.length (Lib.byteCells l)) (hB:B<=wr.heap.size) (hb:Below w.heap.size w wr) (hwB:w.heap.size<=B)
  (hown:w1.ownsRow B e 1 v' (l.length+1) (Lib.byteCells l++[.int .u8 X])) (hg:(wr.alloc (.cells #[u] t)).grownBy w1 v.ownBlock) (hX:X=(c.toNat:Int)) :
  w1.ownsRow B e 1 v' (l++[c]).length (Lib.byteCells (l++[c]))/\Below w.heap.size w w1/\B<=w1.heap.size/\∀ g t' cs,g<B->Blk wr g t' cs->Blk w1 g t' cs:=by
 subst hX;have hs:=hg.size;rw [World.size_alloc] at hs;refine ⟨?_,(hb.alloc hb.size _).grown hg (by have:=hb.size;simp;omega) (fun g hg'=>Nat.le_trans hwB (h.lt g hg').1),oMx,fun g t' cs hgB hk=>?_⟩
 ·rw [zJd,List.length_append];exact hown
 exact (hk.alloc _).grown hg (fun e=>by have:=(h.lt g e.symm).1;omega)
theorem zAn.snoc {l:List UInt8} {c:UInt8} (h:zAn l) (k:zBn c):zAn (l++[c]):=h.append (fun x hx=>by simp at hx;subst hx;exact k)
theorem xCs {l:List UInt8} {j:Nat} (h:j<l.length):l.take (j+1)=l.take j++[l.getD j 0]:=by
 rw [List.take_succ_eq_append_getElem h];simp [List.getD_eq_getElem?_getD,h]
theorem zYr {l:List UInt8} {j:Nat} (h:j<l.length) (h0:l.getD j 0=48):rv (l.take (j+1))=rv (l.take j):=by
 rw [xCs h,zYq,h0];simp
theorem zYp {l:List UInt8} {j:Nat} (hd:zAn l) (h:j<l.length) (h0:l.getD j 0≠48):(l.take (j+1)).reverse=Lib.decDigits (rv (l.take (j+1))):=by
 symm
 apply zKm
 ·intro c hc
  exact hd c (List.mem_of_mem_take (List.mem_reverse.1 hc))
 ·rw [xCs h];simp
 rw [xCs h];simpa using h0
theorem zEy (u:Value) (x:Int) (w:World) (hx:zBm w u x) (hlx:(limbs x.natAbs).length<=1000000) :
  Calls Tryz.prog 98 #[u] w fun e w'=>e = .returned (.string ⟨(Lib.itoa x).toArray⟩)/\Below w.heap.size w w':=by
 obtain ⟨A,c,rfl,hlc,hc⟩:=hx
 by_cases hx0:x=0
 ·subst hx0
  have hz:(limbs (0:Int).natAbs).length=0:=by rw [show (0:Int).natAbs=0 from rfl,zQo];rfl
  rw [hz];generalize decide ((0:Int)<0)=na at *;clear hc hz hlc hlx
  go_enter Tryz.func98,Tryz.ntmps98
  go_wp2_with fail;go_ret
  exact ⟨by rw [show Lib.itoa 0=[48] by unfold Lib.itoa;rw [if_neg oMx];exact Lib.decDigits_one dCx];rfl,bA⟩
 have HPARTS:=oH (zPa x hx0);generalize decide (x<0)=na at *
 have ha0:0<x.natAbs:=by omega
 generalize x.natAbs=a at *;have hlp:=zQg.2 (show a≠0 by omega);have HA0:=oH ha0;have hz:(((limbs a).length:Int)==0)=false:=beq_eq_false_iff_ne.2 oMx;have HLA:=oH (show ∀ i,nth (limbs a) i<1000000000 from (Low.limbs a).nth);obtain ⟨i0,hi,hz0,hz1,hz2⟩:=info_parts Tryz.infoU8;have hbw:Below w.heap.size w (w.alloc (.cells #[.bool na,.slice A (limbs a).length c] 85)):=bA;have HBW:=oH hbw;have HC:=oH hc;have hkb:=Blk.new w 85 [.bool na,.slice A (limbs a).length c]
 have hsb:(w.alloc (.cells #[.bool na,.slice A (limbs a).length c] 85)).heap.size=w.heap.size+1:=by simp
 have HKB:=oH hkb;have HSB:=oH hsb;clear hc hbw hx0 hkb hsb ha0
 go_enter Tryz.func98,Tryz.ntmps98
 go_wp2_with fail;generalize w.alloc (.cells #[.bool na,.slice A (limbs a).length c] 85)=W at *
 go_loopw [3,4] (fun v ix wr=>∃ (i:Nat) (l:List UInt8),i<=(limbs a).length/\ix = .int .i64 (i:Int)/\l.length=9*i/\zAn l/\rv l=val ((limbs a).take i)/\wr.ownsRow (w.heap.size+1) 5 1 v l.length (Lib.byteCells l)/\Blk wr w.heap.size 85 [.bool na,.slice A (limbs a).length c]/\w.heap.size+1<=wr.heap.size/\Below w.heap.size w wr) (fun _ ix _=>(limbs a).length-(intOf ix).toNat)
 ·exact ⟨0,[],oLx,rfl,rfl,zAn.nil,rfl,World.ownsRow_nil _ _ _ _,HKB.out,by rw [HSB.out];omega,HBW.out⟩
 obtain ⟨i,l,hil,rfl,hll,hdg,hrv,hown,hk,hsz,hbel⟩:=hrel;have HDG:=oH hdg;have HRV:=oH hrv;have HOWN:=oH hown;have HK:=oH hk;have HBEL:=oH hbel;have HLL:=oH hll;have hk1:wr.cell? ⟨w.heap.size,1,none⟩=some (.slice A (limbs a).length c):=hk.at_ rfl;have hk0:wr.cell? ⟨w.heap.size,0,none⟩=some (.bool na):=hk.at_ rfl
 have hlen:l.length<=9000000:=by omega
 clear hll hdg hrv hown hk hbel HKB HSB HBW
 by_cases hlt:i<(limbs a).length
 ·obtain ⟨g,off,eg,hg,hcl⟩:=HC.out (by intro e;rw [e] at hlt;simp at hlt);subst eg;have hcell:wr.cell? ⟨g,off+i,none⟩=some (.int .i64 ((nth (limbs a) i:Nat):Int)):=(HBEL.cell (p:=⟨g,off+i,none⟩) hg).trans (hcl i hlt);have hxi:=HLA.out i;clear hcl;go_wp2_with fail;obtain ⟨wo,rfl⟩:=nWx wr
  go_loopw [3,5,6] (fun v nv kv wr=>∃ (k m:Nat) (l:List UInt8),k<=9/\kv = .int .i64 (k:Int)/\nv = .int .i64 (m:Int)/\m=nth (limbs a) i/10^k/\m<1000000000/\l.length=9*i+k/\zAn l/\rv l=val ((limbs a).take i)+nth (limbs a) i%10^k*1000000000^i/\wr.ownsRow (w.heap.size+1) 5 1 v l.length (Lib.byteCells l)/\Blk wr w.heap.size 85 [.bool na,.slice (some ⟨g,off,none⟩) (limbs a).length c]/\w.heap.size+1<=wr.heap.size/\Below w.heap.size w wr) (fun _ _ kv _=>9-(intOf kv).toNat)
  ·exact ⟨0,nth (limbs a) i,l,oMx,rfl,rfl,by simp,hxi,by rw [HLL.out];rfl,HDG.out,by rw [HRV.out,Nat.pow_zero,Nat.mod_one,Nat.zero_mul,Nat.add_zero],HOWN.out,HK.out,hsz,HBEL.out⟩
  obtain ⟨k,m,l,hk9,rfl,rfl,hm,hm9,hll,hdg,hrv,hown,hk,hsz,hbel⟩:=hrel;clear HDG HRV HOWN HK HBEL HLL hlen;have HDG:=oH hdg;have HRV:=oH hrv;have HOWN:=oH hown;have HK:=oH hk;have HBEL:=oH hbel;have HLL:=oH hll;have HM:=oH hm
  have hlen:l.length<=9000009:=by omega
  clear hll hdg hrv hown hk hbel hm
  by_cases hk:k<9
  ·have hd:m%10<10:=Nat.mod_lt _ oMx
   go_wp2_with (at_builtin;refine wpList_append_own _ rfl _ _ 157 rfl (w.heap.size+1) 5 i0 (.int .u8 0) 1 1 Tryz.underlying157 hi hz0 hz1 hz2 rfl dCx _ _ _ rfl (HOWN.alloc _) ⟨wr.heap.size,0,none⟩ 1 1 [_] rfl rfl zTu zTs (by unfold maxLen;omega) oMx (by simp;omega) ?_)
   intro v' w1 hown1 hgrow1 _
   obtain ⟨ho1,hb1,hs1,hk1⟩:=zIv HOWN.out hsz HBEL.out oMx hown1 hgrow1 (c:=UInt8.ofNat (48+m%10)) (by rw [zMh hd];omega);have HO1:=oH ho1;have HB1:=oH hb1;have HK1:=oH (hk1 _ _ _ oMx HK.out);clear hown1 hgrow1 ho1 hb1 hk1;go_wp2_with fail;go_roundw
   case rel =>
    refine ⟨k+1,m/10,l++[UInt8.ofNat (48+m%10)],oMx,by go_num,by go_num,by rw [HM.out,Nat.div_div_eq_div_mul,Nat.pow_succ],oMx,by rw [List.length_append,HLL.out];rfl,HDG.snoc (zMf hd),?_,HO1.out,HK1.out,hs1,HB1.out⟩;have h1:=xCv (limbs a) i k l HLL.out HRV.out;rw [<-HM.out] at h1;exact h1
   simp [intOf];omega
  obtain rfl:k=9:=by omega
  go_wp2_with fail;go_roundw
  ·exact ⟨i+1,l,oMx,by go_num,by rw [HLL.out];omega,HDG.out,xCu hxi HRV.out,HOWN.out,HK.out,hsz,HBEL.out⟩
  simp [intOf];omega
 have hE:rv l=a:=by rw [HRV.out,List.take_of_length_le oMx,xEf]
 have hl0:0<l.length:=by rw [HLL.out];omega
 have HE:=oH hE;obtain ⟨g2,cap,rfl,hBg,hltg⟩:=HOWN.form hl0;clear hE HRV;go_wp2_with fail
 go_loop [3] (fun v=>∃ m:Nat,v = .slice (some ⟨g2,0,none⟩) m cap/\0<m/\m<=l.length/\rv (l.take m)=a) (fun v=>match v with | .slice _ m _=>m|_=>0)
 ·exact ⟨l.length,rfl,hl0,lRx,by rw [List.take_length];exact HE.out⟩
 obtain ⟨m,rfl,hm0,hml,hrm⟩:=hrel;have HRM:=oH hrm;clear hrm;obtain ⟨j,rfl⟩:∃ j,m=j+1:=⟨m-1,oMx⟩;have hcell:wr.cell? ⟨g2,j,none⟩=some (.int .u8 ((l.getD j 0).toNat:Int)):=(HOWN.cellAt j oMx).trans (zJb oMx)
 have hcap:l.length<=cap:=by
  rcases HOWN.2 with ⟨h',_⟩|⟨g',cap',cur,h',_,_,hnc,_⟩
  ·simp at h'
  simp only [Value.slice.injEq,Option.some.injEq,Addr.mk.injEq,and_true,true_and] at h';omega
 obtain ⟨ch,hch⟩:∃ ch,ch=l.getD j 0:=⟨_,rfl⟩;rw [<-hch] at hcell;have HCH:=oH hch;clear hch
 by_cases hc48:ch=48
 ·have hq:((ch.toNat:Int)==48)=true:=by rw [hc48];rfl
  have hr1:rv (l.take j)=a:=by rw [<-zYr oMx (by rw [<-HCH.out];exact hc48)];exact HRM.out
  have hj0:0<j:=by
   rcases Nat.eq_zero_or_pos j with h|h
   ·exfalso
    rw [h] at hr1
    have:a=0:=by rw [<-hr1];rfl
    have:=HA0.out;omega
   exact h
  have HR1:=oH hr1;clear hc48 hr1;go_wp2_with fail
  go_round
  ·exact ⟨j,rfl,hj0,oMx,HR1.out⟩
  simp
 have hq:((ch.toNat:Int)==48)=false:=by
  rw [beq_eq_false_iff_ne]
  intro h
  exact hc48 (UInt8.toNat_inj.1 (by simpa using (by omega:ch.toNat=48)))
 have hdig:=zYp HDG.out (show j<l.length by omega) (by rw [<-HCH.out];exact hc48);rw [HRM.out] at hdig;have hown':=own_take HOWN.out (show j+1<=l.length by omega);rw [zJe] at hown'
 have hlt':(l.take (j+1)).length=j+1:=by rw [List.length_take];omega
 have HDIG:=oH hdig
 have HOWN2:Hid (wr.ownsRow (w.heap.size+1) 5 1 (.slice (some ⟨g2,0,none⟩) (j+1) cap) (l.take (j+1)).length (Lib.byteCells (l.take (j+1)))):=by
  rw [hlt'];exact hown'
 have HLT:=oH hlt';clear hdig hown' hlt' hc48 HRM
 go_upto_if 51 with (fail)
 go_cut [3] (fun v wc=>∃ fl:List UInt8,fl.reverse=Lib.itoa x/\0<fl.length/\fl.length<=9000010/\wc.ownsRow (w.heap.size+1) 5 1 v fl.length (Lib.byteCells fl)/\w.heap.size+1<=wc.heap.size/\Below w.heap.size w wc)
 case first =>
  have hpa:xBf a 0=Lib.decDigits a:=by rw [xBf,if_neg oMx,List.drop_zero,xEf]
  have HPA:=oH hpa;clear hpa
  cases na
  ·go_wp2_with fail
   go_meet
   exact ⟨l.take (j+1),by rw [HDIG.out,HPARTS.out,HPA.out];rfl,by rw [HLT.out];omega,by rw [HLT.out];omega,HOWN2.out,hsz,HBEL.out⟩
  have hlx2:(l.take (j+1)).length<=9000009:=by rw [HLT.out];omega
  go_wp2_with (at_builtin;refine wpList_append_own _ rfl _ _ 157 rfl (w.heap.size+1) 5 i0 (.int .u8 0) 1 1 Tryz.underlying157 hi hz0 hz1 hz2 rfl dCx _ _ _ rfl (HOWN2.alloc _) ⟨wr.heap.size,0,none⟩ 1 1 [_] rfl rfl zTu zTs (by unfold maxLen;omega) oMx (by simp;omega) ?_)
  intro v' w1 hown1 hgrow1 _
  obtain ⟨ho1,hb1,hs1, -⟩:=zIv HOWN2.out hsz HBEL.out oMx (by rw [HLT.out];exact hown1) hgrow1 (c:=45) rfl;have HO1:=oH ho1;have HB1:=oH hb1;clear hown1 hgrow1 ho1 hb1;go_wp2_with fail
  go_meet
  exact ⟨l.take (j+1)++[45],by rw [List.reverse_append,HDIG.out,HPARTS.out,HPA.out];rfl,by simp,by rw [List.length_append,HLT.out];simp;omega,HO1.out,hs1,HB1.out⟩
 case rest =>
  obtain ⟨fl,hfr,hfl0,hfl1,hownf,hszf,hbelf⟩:=hcut;obtain ⟨g3,cap3,rfl,hBg3,hltg3⟩:=hownf.form hfl0;have HFR:=oH hfr;have HOWNF:=oH hownf;have HBELF:=oH hbelf;obtain ⟨n,hn⟩:∃ n,n=fl.length:=⟨_,rfl⟩;rw [<-hn] at HOWNF hfl0 hfl1 ⊢;have HN:=oH hn;clear hfr hownf hbelf hn HOWN HOWN2 HDIG HLT HE HK HBEL hk0 hk1 hcell hq;go_wp2_with fail
  go_loopw [7,8] (fun iv kv wr=>∃ i k:Nat,iv = .int .i64 (i:Int)/\kv = .int .i64 (k:Int)/\i+k+1=n/\i<=k+1/\wr.ownsRow (w.heap.size+1) 5 1 (.slice (some ⟨g3,0,none⟩) n cap3) n (Lib.byteCells (zWi fl i))/\Below w.heap.size w wr) (fun iv kv _=>(intOf kv-intOf iv+1).toNat)
  ·exact ⟨0,n-1,rfl,congrArg (Value.int .i64) oMx,oMx,oMx,by rw [zWm];exact HOWNF.out,HBELF.out⟩
  obtain ⟨i,k,rfl,rfl,hik,hik1,hownr,hbelr⟩:=hrel;have HOWNR:=oH hownr;have HBELR:=oH hbelr;have HIK:=oH hik
  have hil:i<n:=by omega
  have hkl:k<n:=by omega
  clear hownr hbelr hik HOWNF HBELF
  by_cases hlt2:i<k
  ·have hci:wr.cell? ⟨g3,i,none⟩=some (.int .u8 ((fl.getD i 0).toNat:Int)):=(HOWNR.cellAt i oMx).trans (by
    rw [zJb (by rw [zWk,<-HN.out];exact hil)]
    rw [List.getD_eq_getElem?_getD,zWj (by rw [<-HN.out];exact hil),if_neg (by have:=HN.out;have:=HIK.out;omega)];rfl)
   have hck:wr.cell? ⟨g3,k,none⟩=some (.int .u8 ((fl.getD k 0).toNat:Int)):=(HOWNR.cellAt k oMx).trans (by
    rw [zJb (by rw [zWk,<-HN.out];exact hkl)]
    rw [List.getD_eq_getElem?_getD,zWj (by rw [<-HN.out];exact hkl),if_neg (by have:=HN.out;have:=HIK.out;omega)];rfl)
   have hfi:=HOWNR.frozenAt i;have hfk:=HOWNR.frozenAt k;have HST:=oH (zWl fl i (by have:=HN.out;have:=HIK.out;omega));rw [show fl.length-1-i=k by have:=HN.out;have:=HIK.out;omega] at HST;generalize fl.getD i 0=ci at *;generalize fl.getD k 0=ck at *
   have hi0':(0:Int)<=(i:Int):=by omega
   have hk0':(0:Int)<=(k:Int):=by omega
   have hi1':(i:Int)<(n:Int):=by omega
   have hk1':(k:Int)<(n:Int):=by omega
   go_wp2_with fail
   go_region
   all_goals
    go_wp2_with fail;go_roundw
    case rel =>
     refine ⟨i+1,k-1,by go_num,congrArg (Value.int .i64) oMx,by have:=HIK.out;omega,oMx,?_,((HBELR.setCell (p:=⟨g3,i,none⟩) (by show w.heap.size<=g3;omega) _).setCell (p:=⟨g3,k,none⟩) (by show w.heap.size<=g3;omega) _).drew⟩;have h1:=((HOWNR.stored i (.int .u8 (ck.toNat:Int))).1.stored k (.int .u8 (ci.toNat:Int))).1;rw [zJc,zJc,HST.out] at h1;exact h1
    simp [intOf];omega
  have hrev:zWi fl i=fl.reverse:=revs_end fl i (by have:=HN.out;have:=HIK.out;omega)
  have hlr:fl.reverse.length=n:=by rw [List.length_reverse];exact HN.symm
  have hconv:=run_convert_bytes_back (P:=Tryz.prog) wr 157 9 5 ⟨g3,0,none⟩ cap3 fl.reverse Tryz.underlying157 Tryz.underlying5 Tryz.underlying9 (fun j hj=>by
   rw [show (⟨g3,0,none⟩:Addr).add j=⟨g3,0+j,none⟩ by unfold Addr.add;split<;>simp_all,Nat.zero_add,HOWNR.cellAt j oMx,hrev,zJb hj]
   rw [List.getD_eq_getElem?_getD,List.getElem?_eq_getElem hj];rfl)
  rw [hlr,HFR.out] at hconv;clear hrev hlr;go_wp2_with fail;go_ret
  exact ⟨rfl,HBELR.out⟩
end Go.Proofs.YtbjaplppalcmgaaGreatDoor
