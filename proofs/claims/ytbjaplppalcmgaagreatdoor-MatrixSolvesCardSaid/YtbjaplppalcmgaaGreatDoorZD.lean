import Derived.Test.YtbjaplppalcmgaaGreatDoorZC
set_option maxHeartbeats 16000000
set_option maxRecDepth 100000
namespace Go.Proofs.YtbjaplppalcmgaaGreatDoor
open Go.RowKit
theorem sgn_add (x y:Int) (h:decide (x<0)=decide (y<0)):sgn (decide (x<0)) (x.natAbs+y.natAbs)=x+y:=by
 unfold sgn
 by_cases hx:x<0
 ·have hy:y<0:=by have:=h;simp [hx] at this;exact this
  simp [hx];omega
 have hy:¬y<0:=by have:=h;simp [hx] at this;omega
 simp [hx];omega
theorem zZl (x y:Int) (h:decide (x<0)≠decide (y<0)) (hle:y.natAbs<=x.natAbs):sgn (decide (x<0)) (x.natAbs-y.natAbs)=x+y:=by
 unfold sgn
 by_cases hx:x<0
 ·have hy:¬y<0:=by intro hy;simp [hx,hy] at h
  simp [hx];omega
 have hy:y<0:=by
  apply Decidable.byContradiction
  intro hy
  simp [hx,hy] at h
 simp [hx];omega
theorem Add_same (u v:Value) (x y:Int) (w:World) (hx:zBs w u x) (hy:zBs w v y) (hlx:(limbs x.natAbs).length<=100000000) (hly:(limbs y.natAbs).length<=100000000) (hq:decide (x<0)=decide (y<0)) :
  Calls Tryz.prog 136 #[u,v] w (zFw w (x+y)):=by
 obtain ⟨_,rfl,A,c,rfl,hlc,hc⟩:=hx;obtain ⟨_,rfl,A',c',rfl,hlc',hc'⟩:=hy;have HC:=oH hc;have HC':=oH hc';have HQ:=oH hq
 have hq':(decide (x<0)==decide (y<0))=true:=by rw [hq];simp
 clear hq;generalize hna:decide (x<0)=na at *;generalize hnb:decide (y<0)=nb at *;have HNA:=oH hna;have HNB:=oH hnb;clear hc hc' hna hnb
 go_enter Tryz.func136,Tryz.ntmps136
 go_upto_region 1 with (fail);have hbx:=boxes w na nb (.slice A (limbs x.natAbs).length c) (.slice A' (limbs y.natAbs).length c');generalize ((w.alloc (.cells #[.bool na,.slice A (limbs x.natAbs).length c] 62)).alloc (.cells #[.bool nb,.slice A' (limbs y.natAbs).length c'] 62)).alloc (.cells #[.bool false,.slice none 0 0] 62)=W at *;have HBX:=oH hbx;have ha0:=hbx.a0;have ha1:=hbx.a1;have hb0:=hbx.b0;have hb1:=hbx.b1;have HM:=oH (fun (V:World) (hV:Below w.heap.size w V)=>zHq A A' x.natAbs y.natAbs c c' V (HC.below hV) (HC'.below hV) hlx hly);clear hbx;go_wp2_with fail
 go_region_held3 (fun w'=>w'.cell? ⟨w.heap.size,0,none⟩=some (.bool na)/\w'.cell? ⟨w.heap.size,1,none⟩=some (.slice A (limbs x.natAbs).length c)/\w'.cell? ⟨w.heap.size+1,0,none⟩=some (.bool nb)/\w'.cell? ⟨w.heap.size+1,1,none⟩=some (.slice A' (limbs y.natAbs).length c'))
  (first|exact HBX3.four_store _ _|exact HBX3.four|exact HBX2.four|go_keep)
  (first|(go_at_call 111;refine (HM.out _ (by exact HBX.drew.bel)).mono ?_;rintro e w2 ⟨v2,rfl,hv2,hb2⟩;have HBX2:=oH (HBX.drew.below hb2);have HV2:=oH hv2;clear hv2 hb2)|(go_at_call 79;refine (zTb _ _ _ _ HV2.out (Nat.le_trans (zQa _ _) oMx)).mono ?_;intro e w3 hret;obtain ⟨A3,c3,rfl,hl3,hs3,hb3⟩:=hret.num;have HBX3:=oH (HBX2.below hb3);have HS3:=oH hs3;have hr0:=HBX3.r0;have hr1:=HBX3.r1;have hf0:=HBX3.f0;have hf1:=HBX3.f1;clear hb3 hs3 hret))
 go_wp2_with fail;refine bodyPost_ret (v := .agg #[.bool (decide (sgn na (x.natAbs+y.natAbs)<0)),.slice A3 (limbs (sgn na (x.natAbs+y.natAbs)).natAbs).length c3]) (by simp [results,Tryz.results136,go_sem,hr0,hr1]) rfl ?_;exact Res.end_ ⟨HBX3.rb⟩ HBX3.bel oMx HS3.out hl3 (by rw [<-HNA.out,sgn_add x y (by rw [HNA.out,HNB.out];exact HQ.out)])
theorem Add_ge (u v:Value) (x y:Int) (w:World) (hx:zBs w u x) (hy:zBs w v y) (hlx:(limbs x.natAbs).length<=100000000) (hly:(limbs y.natAbs).length<=100000000) (hq:decide (x<0)≠decide (y<0)) (hle:y.natAbs<=x.natAbs) :
  Calls Tryz.prog 136 #[u,v] w (zFw w (x+y)):=by
 obtain ⟨_,rfl,A,c,rfl,hlc,hc⟩:=hx;obtain ⟨_,rfl,A',c',rfl,hlc',hc'⟩:=hy;have HC:=oH hc;have HC':=oH hc';have HQ:=oH hq
 have hq':(decide (x<0)==decide (y<0))=false:=by simp only [beq_eq_false_iff_ne];exact hq
 clear hq;obtain ⟨cm,hcm,hcm0⟩:∃ cm:Int,cm=zJk x.natAbs y.natAbs/\0<=cm:=⟨_,rfl,by rcases Nat.lt_or_eq_of_le hle with h|h;(rw [zJm h];omega);(rw [zJl h.symm];omega)⟩;have HCM:=oH hcm;clear hcm;generalize hna:decide (x<0)=na at *;generalize hnb:decide (y<0)=nb at *;have HNA:=oH hna;have HNB:=oH hnb;clear hc hc' hna hnb
 go_enter Tryz.func136,Tryz.ntmps136
 go_upto_region 1 with (fail);have hbx:=boxes w na nb (.slice A (limbs x.natAbs).length c) (.slice A' (limbs y.natAbs).length c');generalize ((w.alloc (.cells #[.bool na,.slice A (limbs x.natAbs).length c] 62)).alloc (.cells #[.bool nb,.slice A' (limbs y.natAbs).length c'] 62)).alloc (.cells #[.bool false,.slice none 0 0] 62)=W at *;have HBX:=oH hbx;have ha0:=hbx.a0;have ha1:=hbx.a1;have hb0:=hbx.b0;have hb1:=hbx.b1;have HM:=oH (fun (V:World) (hV:Below w.heap.size w V)=>xBr A A' x.natAbs y.natAbs c c' V (HC.below hV) (HC'.below hV) hlx hle);clear hbx;have HCMP:=oH (zJu A A' x.natAbs y.natAbs c c' W (HC.below HBX.bel) (HC'.below HBX.bel) oMx oMx);rw [<-HCM.out] at HCMP;go_wp2_with fail;refine HCMP.mono ?_;rintro e w' ⟨rfl,m,rfl⟩;clear HCMP;have HBXm:zAa w (W.drewN m) na nb (.slice A (limbs x.natAbs).length c) (.slice A' (limbs y.natAbs).length c'):=⟨HBX.a0,HBX.a1,HBX.b0,HBX.b1,HBX.rb,HBX.r0,HBX.r1,HBX.f0,HBX.f1,below_drewN HBX.bel m,HBX.size⟩
 clear HBX;have HBX:=oH HBXm;clear HBXm;go_wp2_with fail
 go_region_held3 (fun w'=>w'.cell? ⟨w.heap.size,0,none⟩=some (.bool na)/\w'.cell? ⟨w.heap.size,1,none⟩=some (.slice A (limbs x.natAbs).length c)/\w'.cell? ⟨w.heap.size+1,0,none⟩=some (.bool nb)/\w'.cell? ⟨w.heap.size+1,1,none⟩=some (.slice A' (limbs y.natAbs).length c'))
  (first|exact HBX3.four_store _ _|exact HBX3.four|exact HBX2.four|go_keep)
  (first|(go_at_call 112;refine (HM.out _ (by exact HBX.drew.bel)).mono ?_;rintro e w2 ⟨v2,rfl,hv2,hb2⟩;have HBX2:=oH (HBX.drew.below hb2);have HV2:=oH hv2;clear hv2 hb2)|(go_at_call 79;refine (zTb _ _ _ _ HV2.out (Nat.le_trans (zQd (Nat.sub_le _ _)) oMx)).mono ?_;intro e w3 hret;obtain ⟨A3,c3,rfl,hl3,hs3,hb3⟩:=hret.num;have HBX3:=oH (HBX2.below hb3);have HS3:=oH hs3;have hr0:=HBX3.r0;have hr1:=HBX3.r1;have hf0:=HBX3.f0;have hf1:=HBX3.f1;clear hb3 hs3 hret))
 go_wp2_with fail;refine bodyPost_ret (v := .agg #[.bool (decide (sgn na (x.natAbs-y.natAbs)<0)),.slice A3 (limbs (sgn na (x.natAbs-y.natAbs)).natAbs).length c3]) (by simp [results,Tryz.results136,go_sem,hr0,hr1]) rfl ?_;exact Res.end_ ⟨HBX3.rb⟩ HBX3.bel oMx HS3.out hl3 (by rw [<-HNA.out,zZl x y (by rw [HNA.out,HNB.out];exact HQ.out) hle])
theorem Add_lt (u v:Value) (x y:Int) (w:World) (hx:zBs w u x) (hy:zBs w v y) (hlx:(limbs x.natAbs).length<=100000000) (hly:(limbs y.natAbs).length<=100000000) (hq:decide (x<0)≠decide (y<0)) (hle:x.natAbs<y.natAbs) :
  Calls Tryz.prog 136 #[u,v] w (zFw w (x+y)):=by
 obtain ⟨_,rfl,A,c,rfl,hlc,hc⟩:=hx;obtain ⟨_,rfl,A',c',rfl,hlc',hc'⟩:=hy;have HC:=oH hc;have HC':=oH hc';have HQ:=oH hq
 have hq':(decide (x<0)==decide (y<0))=false:=by simp only [beq_eq_false_iff_ne];exact hq
 clear hq;obtain ⟨cm,hcm,hcm0⟩:∃ cm:Int,cm=zJk x.natAbs y.natAbs/\cm<0:=⟨_,rfl,by rw [zJn hle];omega⟩;have HCM:=oH hcm;clear hcm;generalize hna:decide (x<0)=na at *;generalize hnb:decide (y<0)=nb at *;have HNA:=oH hna;have HNB:=oH hnb;clear hc hc' hna hnb
 go_enter Tryz.func136,Tryz.ntmps136
 go_upto_region 1 with (fail);have hbx:=boxes w na nb (.slice A (limbs x.natAbs).length c) (.slice A' (limbs y.natAbs).length c');generalize ((w.alloc (.cells #[.bool na,.slice A (limbs x.natAbs).length c] 62)).alloc (.cells #[.bool nb,.slice A' (limbs y.natAbs).length c'] 62)).alloc (.cells #[.bool false,.slice none 0 0] 62)=W at *;have HBX:=oH hbx;have ha0:=hbx.a0;have ha1:=hbx.a1;have hb0:=hbx.b0;have hb1:=hbx.b1;have HM:=oH (fun (V:World) (hV:Below w.heap.size w V)=>xBr A' A y.natAbs x.natAbs c' c V (HC'.below hV) (HC.below hV) hly (Nat.le_of_lt hle));clear hbx;have HCMP:=oH (zJu A A' x.natAbs y.natAbs c c' W (HC.below HBX.bel) (HC'.below HBX.bel) oMx oMx);rw [<-HCM.out] at HCMP;go_wp2_with fail;refine HCMP.mono ?_;rintro e w' ⟨rfl,m,rfl⟩;clear HCMP;have HBXm:zAa w (W.drewN m) na nb (.slice A (limbs x.natAbs).length c) (.slice A' (limbs y.natAbs).length c'):=⟨HBX.a0,HBX.a1,HBX.b0,HBX.b1,HBX.rb,HBX.r0,HBX.r1,HBX.f0,HBX.f1,below_drewN HBX.bel m,HBX.size⟩
 clear HBX;have HBX:=oH HBXm;clear HBXm;go_wp2_with fail
 go_region_held3 (fun w'=>w'.cell? ⟨w.heap.size,0,none⟩=some (.bool na)/\w'.cell? ⟨w.heap.size,1,none⟩=some (.slice A (limbs x.natAbs).length c)/\w'.cell? ⟨w.heap.size+1,0,none⟩=some (.bool nb)/\w'.cell? ⟨w.heap.size+1,1,none⟩=some (.slice A' (limbs y.natAbs).length c'))
  (first|exact HBX3.four_store _ _|exact HBX3.four|exact HBX2.four|go_keep)
  (first|(go_at_call 112;refine (HM.out _ (by exact HBX.drew.bel)).mono ?_;rintro e w2 ⟨v2,rfl,hv2,hb2⟩;have HBX2:=oH (HBX.drew.below hb2);have HV2:=oH hv2;clear hv2 hb2)|(go_at_call 79;refine (zTb _ _ _ _ HV2.out (Nat.le_trans (zQd (Nat.sub_le _ _)) oMx)).mono ?_;intro e w3 hret;obtain ⟨A3,c3,rfl,hl3,hs3,hb3⟩:=hret.num;have HBX3:=oH (HBX2.below hb3);have HS3:=oH hs3;have hr0:=HBX3.r0;have hr1:=HBX3.r1;have hf0:=HBX3.f0;have hf1:=HBX3.f1;clear hb3 hs3 hret))
 go_wp2_with fail;refine bodyPost_ret (v := .agg #[.bool (decide (sgn nb (y.natAbs-x.natAbs)<0)),.slice A3 (limbs (sgn nb (y.natAbs-x.natAbs)).natAbs).length c3]) (by simp [results,Tryz.results136,go_sem,hr0,hr1]) rfl ?_;exact Res.end_ ⟨HBX3.rb⟩ HBX3.bel oMx HS3.out hl3 (by rw [<-HNB.out,zZl y x (by rw [HNA.out,HNB.out];exact Ne.symm HQ.out) (Nat.le_of_lt hle),Int.add_comm])
theorem Add_any (u v:Value) (x y:Int) (w:World) (hx:zBs w u x) (hy:zBs w v y) (hlx:(limbs x.natAbs).length<=100000000) (hly:(limbs y.natAbs).length<=100000000) :
  Calls Tryz.prog 136 #[u,v] w (zFw w (x+y)):=by
 by_cases hq:decide (x<0)=decide (y<0)
 ·exact Add_same u v x y w hx hy hlx hly hq
 rcases Nat.lt_or_ge x.natAbs y.natAbs with h|h
 ·exact Add_lt u v x y w hx hy hlx hly hq h
 exact Add_ge u v x y w hx hy hlx hly hq h
theorem zGy (u v:Value) (x y:Int) (w:World) (hx:zBs w u x) (hy:zBs w v y) (hlx:(limbs x.natAbs).length<=100000000) (hly:(limbs y.natAbs).length<=100000000) :
  Calls Tryz.prog 113 #[u,v] w (zFw w (x-y)):=by
 have HX:=oH hx;have HY:=oH hy;obtain ⟨_,rfl,A,c,rfl,hlc,hc⟩:=hx;obtain ⟨_,rfl,A',c',rfl,hlc',hc'⟩:=hy;generalize decide (x<0)=na at *;generalize decide (y<0)=nb at *;clear hc hc'
 go_enter Tryz.func113,Tryz.ntmps113
 go_upto_region 1 with (fail);have hbx:=boxes w na nb (.slice A (limbs x.natAbs).length c) (.slice A' (limbs y.natAbs).length c');generalize ((w.alloc (.cells #[.bool na,.slice A (limbs x.natAbs).length c] 62)).alloc (.cells #[.bool nb,.slice A' (limbs y.natAbs).length c'] 62)).alloc (.cells #[.bool false,.slice none 0 0] 62)=W at *;have HBX:=oH hbx;have ha0:=hbx.a0;have ha1:=hbx.a1;have hb0:=hbx.b0;have hb1:=hbx.b1;have HN:=oH (fun (V:World) (hV:Below w.heap.size w V)=>zCo _ y V (HY.below hV) oMx);clear hbx
 go_region_held3 (fun w'=>w'.cell? ⟨w.heap.size,0,none⟩=some (.bool na)/\w'.cell? ⟨w.heap.size,1,none⟩=some (.slice A (limbs x.natAbs).length c)/\w'.cell? ⟨w.heap.size+1,0,none⟩=some (.bool nb)/\w'.cell? ⟨w.heap.size+1,1,none⟩=some (.slice A' (limbs y.natAbs).length c'))
  (first|exact HBX3.four_store _ _|exact HBX3.four|exact HBX2.four|go_keep)
  (first|(go_at_call 52;refine (HN.out _ (by exact HBX.drew.bel)).mono ?_;rintro e w2 ⟨v2,rfl,hv2,hb2⟩;have HBX2:=oH (HBX.drew.below hb2);have HV2:=oH hv2;clear hv2 hb2)|(go_at_call 136;refine (Add_any _ _ x (-y) _ (HX.below HBX2.bel) HV2.out hlx (by rw [Int.natAbs_neg];exact hly)).mono ?_;intro e w3 hret;obtain ⟨A3,c3,rfl,hl3,hs3,hb3⟩:=hret.num;have HBX3:=oH (HBX2.below hb3);have HS3:=oH hs3;have hr0:=HBX3.r0;have hr1:=HBX3.r1;have hf0:=HBX3.f0;have hf1:=HBX3.f1;clear hb3 hs3 hret))
 go_wp2_with fail;refine bodyPost_ret (v := .agg #[.bool (decide (x + -y<0)),.slice A3 (limbs (x + -y).natAbs).length c3]) (by simp [results,Tryz.results113,go_sem,hr0,hr1]) rfl ?_;exact Res.end_ ⟨HBX3.rb⟩ HBX3.bel oMx HS3.out hl3 rfl
theorem zQf {x y:Int} {k:Nat} (hx:(limbs x.natAbs).length<=k) (hy:(limbs y.natAbs).length<=k):(limbs (x-y).natAbs).length<=k+1:=by
 have h1:=zQd (show (x-y).natAbs<=x.natAbs+y.natAbs by omega);have h2:=zQa x.natAbs y.natAbs;omega
theorem zAg (u v:Value) (x y:Int) (w:World) (hx:zBs w u x) (hy:zBs w v y) (hlx:(limbs x.natAbs).length<=100000000) (hly:(limbs y.natAbs).length<=100000000) :
  Calls Tryz.prog 78 #[u,v] w fun e w'=>e = .returned (.int .i64 (sg (x-y)))/\Below w.heap.size w w':=by
 have HX:=oH hx;have HY:=oH hy;obtain ⟨_,rfl,A,c,rfl,hlc,hc⟩:=hx;obtain ⟨_,rfl,A',c',rfl,hlc',hc'⟩:=hy;generalize decide (x<0)=na at *;generalize decide (y<0)=nb at *;clear hc hc'
 go_enter Tryz.func78,Tryz.ntmps78
 go_wp2_with fail;have hb:Below w.heap.size w ((w.alloc (.cells #[.bool na,.slice A (limbs x.natAbs).length c] 62)).alloc (.cells #[.bool nb,.slice A' (limbs y.natAbs).length c'] 62)):=(bA).alloc sMx _;generalize (w.alloc (.cells #[.bool na,.slice A (limbs x.natAbs).length c] 62)).alloc (.cells #[.bool nb,.slice A' (limbs y.natAbs).length c'] 62)=W at *;have HB:=oH hb;clear hb;refine (zGy _ _ x y W (HX.below HB.out) (HY.below HB.out) hlx hly).mono ?_;rintro e w2 ⟨v2,rfl,hv2,hb2⟩;have HV2:=oH hv2;have HB2:=oH hb2;clear hv2 hb2;go_wp2_with fail;refine (zGm v2 (x-y) w2 HV2.out (by have:=zQf hlx hly;omega)).mono ?_;rintro e w3 ⟨rfl,hb3⟩;have HB3:=oH hb3;clear hb3;go_wp2_with fail;go_ret
 exact ⟨rfl,(HB.trans (HB2.mono HB.size)).trans (HB3.mono (Nat.le_trans HB.size HB2.size))⟩
def zFx (w:World) (q r:Int) (e:Ending) (w':World):Prop:=∃ v u,e = .returned (.tuple #[v,u])/\zBs w' v q/\zBs w' u r/\Below w.heap.size w w'
structure zAb (w W:World) (n0 n1:Bool) (s0 s1:Value):Prop where
 a0:W.cell? ⟨w.heap.size,0,none⟩=some (.bool n0)
 a1:W.cell? ⟨w.heap.size,1,none⟩=some s0
 b0:W.cell? ⟨w.heap.size+1,0,none⟩=some (.bool n1)
 b1:W.cell? ⟨w.heap.size+1,1,none⟩=some s1
 r0:Res W (w.heap.size+1+1)
 r1:Res W (w.heap.size+1+1+1)
 bel:Below w.heap.size w W
 size:w.heap.size+4<=W.heap.size
theorem boxesD (w:World) (n0 n1:Bool) (s0 s1:Value):zAb w ((((w.alloc (.cells #[.bool n0,s0] 62)).alloc (.cells #[.bool n1,s1] 62)).alloc (.cells #[.bool false,.slice none 0 0] 62)).alloc (.cells #[.bool false,.slice none 0 0] 62)) n0 n1 s0 s1:=by
 have h:=boxes w n0 n1 s0 s1
 have hs:((((w.alloc (.cells #[.bool n0,s0] 62)).alloc (.cells #[.bool n1,s1] 62)).alloc (.cells #[.bool false,.slice none 0 0] 62))).heap.size=w.heap.size+1+1+1:=by simp
 generalize ((w.alloc (.cells #[.bool n0,s0] 62)).alloc (.cells #[.bool n1,s1] 62)).alloc (.cells #[.bool false,.slice none 0 0] 62)=W at *;have hb:Below W.heap.size W (W.alloc (.cells #[.bool false,.slice none 0 0] 62)):=bA;have h2:=h.below hb;exact ⟨h2.a0,h2.a1,h2.b0,h2.b1,⟨h2.rb⟩,hs▸Res.new W,h2.bel,by simp;omega⟩
theorem zAb.below {w W W':World} {n0 n1:Bool} {s0 s1:Value} (h:zAb w W n0 n1 s0 s1) (hb:Below W.heap.size W W'):zAb w W' n0 n1 s0 s1:=by
 have hs:=h.size;have hs':=hb.size;refine ⟨?_,?_,?_,?_,h.r0.below hb,h.r1.below hb,h.bel.trans (hb.mono oMx),oMx⟩
 ·rw [hb.cell (show (⟨w.heap.size,0,none⟩:Addr).block<_ by show w.heap.size<_;omega)];exact h.a0
 ·rw [hb.cell (show (⟨w.heap.size,1,none⟩:Addr).block<_ by show w.heap.size<_;omega)];exact h.a1
 ·rw [hb.cell (show (⟨w.heap.size+1,0,none⟩:Addr).block<_ by show w.heap.size+1<_;omega)];exact h.b0
 rw [hb.cell (show (⟨w.heap.size+1,1,none⟩:Addr).block<_ by show w.heap.size+1<_;omega)];exact h.b1
theorem end2 {w W:World} {g h:Nat} {A A':oAx} {c c':Nat} {x y x' y':Int} (hg:Res W g) (hh:Res W h) (hgh:g≠h) (hb:Below w.heap.size w W) (hwg:w.heap.size<=g) (hwh:w.heap.size<=h)
  (hc:zAe .u64 W A (limbs x.natAbs)) (hl:(limbs x.natAbs).length<=c) (hc':zAe .u64 W A' (limbs y.natAbs)) (hl':(limbs y.natAbs).length<=c') (e:x=x') (e':y=y') :
  zFx w x' y' (.returned (.tuple #[.agg #[.bool (decide (x<0)),.slice A (limbs x.natAbs).length c],.agg #[.bool (decide (y<0)),.slice A' (limbs y.natAbs).length c']]))
   ((((W.setCell ⟨g,0,none⟩ (.bool (decide (x<0)))).setCell ⟨g,1,none⟩ (.slice A (limbs x.natAbs).length c)).setCell ⟨h,0,none⟩ (.bool (decide (y<0)))).setCell ⟨h,1,none⟩ (.slice A' (limbs y.natAbs).length c')):=by
 subst e e'
 have hh2:((W.setCell ⟨g,0,none⟩ (.bool (decide (x<0)))).setCell ⟨g,1,none⟩ (.slice A (limbs x.natAbs).length c)).heap[h]? = some (.cells #[.bool false,.slice none 0 0] 62 (0,0)):=by
  rw [Below.heap_setCell _ _ _ _ (by show h≠g;omega),Below.heap_setCell _ _ _ _ (by show h≠g;omega)];exact hh.rb
 exact ⟨_,_,rfl,⟨_,rfl,zBr.mk hl ((hc.store2 hg.rb _ _).store2 hh2 _ _)⟩,⟨_,rfl,zBr.mk hl' ((hc'.store2 hg.rb _ _).store2 hh2 _ _)⟩,
  (((hb.setCell (p:=⟨g,0,none⟩) hwg _).setCell (p:=⟨g,1,none⟩) hwg _).setCell (p:=⟨h,0,none⟩) hwh _).setCell (p:=⟨h,1,none⟩) hwh _⟩
theorem zMm (x y:Int) (hy:y≠0) (h:¬(x<0/\x.natAbs%y.natAbs≠0)):sgn (decide (x<0) != decide (y<0)) (x.natAbs/y.natAbs)=x/y/\sgn false (x.natAbs%y.natAbs)=x%y:=by
 have h1:=Nat.mod_add_div x.natAbs y.natAbs;have h2:=Nat.mod_lt x.natAbs (show 0<y.natAbs by omega)
 have key:x=y*sgn (decide (x<0) != decide (y<0)) (x.natAbs/y.natAbs)+sgn false (x.natAbs%y.natAbs):=by
  generalize x.natAbs/y.natAbs=q at *;generalize x.natAbs%y.natAbs=r at *
  have h1':(r:Int)+(y.natAbs:Int)*(q:Int)=(x.natAbs:Int):=by rw [<-Int.natCast_mul];omega
  by_cases hx:x<0<;>by_cases hyn:y<0<;>simp only [hx,hyn,sgn,decide_true,decide_false,bne_self_eq_false,Bool.false_eq_true,if_false,if_true,Bool.bne_true,Bool.bne_false,Bool.not_false]
  ·have hr:r=0:=by apply Decidable.byContradiction;intro hr;exact h ⟨hx,hr⟩
   have e1:(x.natAbs:Int) = -x:=by omega
   have e2:(y.natAbs:Int) = -y:=by omega
   subst hr;rw [e1,e2] at h1'
   grind
  ·have hr:r=0:=by apply Decidable.byContradiction;intro hr;exact h ⟨hx,hr⟩
   have e1:(x.natAbs:Int) = -x:=by omega
   have e2:(y.natAbs:Int)=y:=by omega
   subst hr;rw [e1,e2] at h1'
   grind
  ·have e1:(x.natAbs:Int)=x:=by omega
   have e2:(y.natAbs:Int) = -y:=by omega
   rw [e1,e2] at h1'
   grind
  have e1:(x.natAbs:Int)=x:=by omega
  have e2:(y.natAbs:Int)=y:=by omega
  rw [e1,e2] at h1'
  grind
 have hr0:0<=sgn false (x.natAbs%y.natAbs):=by simp [sgn];omega
 have hr1:sgn false (x.natAbs%y.natAbs)<y.natAbs:=by simp only [sgn,Bool.false_eq_true,if_false];omega
 generalize sgn (decide (x<0) != decide (y<0)) (x.natAbs/y.natAbs)=q at *;generalize sgn false (x.natAbs%y.natAbs)=r at *;exact ediv_unique x y q r hy key hr0 hr1
where
 ediv_unique (x y q r:Int) (hy:y≠0) (h:x=y*q+r) (h0:0<=r) (h1:r<y.natAbs):q=x/y/\r=x%y:=by
  rcases Int.lt_or_gt_of_ne hy with hn|hp
  ·have:=(Int.ediv_emod_unique' (a:=x) (b:=y) (r:=r) (q:=q) hn).2 ⟨oMx,h0,oMx⟩;exact ⟨this.1.symm,this.2.symm⟩
  have:=(Int.ediv_emod_unique (a:=x) (b:=y) (r:=r) (q:=q) hp).2 ⟨oMx,h0,oMx⟩;exact ⟨this.1.symm,this.2.symm⟩
theorem div_more (x y:Int) (hy:y≠0) (hx:x<0) (hr:x.natAbs%y.natAbs≠0):sgn (decide (x<0) != decide (y<0)) (x.natAbs/y.natAbs+1)=x/y/\sgn false (y.natAbs-x.natAbs%y.natAbs)=x%y:=by
 have h1:=Nat.mod_add_div x.natAbs y.natAbs;have h2:=Nat.mod_lt x.natAbs (show 0<y.natAbs by omega)
 have key:x=y*sgn (decide (x<0) != decide (y<0)) (x.natAbs/y.natAbs+1)+sgn false (y.natAbs-x.natAbs%y.natAbs):=by
  generalize x.natAbs/y.natAbs=q at *;generalize x.natAbs%y.natAbs=r at *
  have h1':(r:Int)+(y.natAbs:Int)*(q:Int)=(x.natAbs:Int):=by rw [<-Int.natCast_mul];omega
  have e0:((y.natAbs-r:Nat):Int)=(y.natAbs:Int)-(r:Int):=by omega
  have e1:(x.natAbs:Int) = -x:=by omega
  by_cases hyn:y<0<;>simp only [hx,hyn,sgn,decide_true,decide_false,bne_self_eq_false,Bool.false_eq_true,if_false,if_true,Bool.bne_false]
  ·have e2:(y.natAbs:Int) = -y:=by omega
   rw [e0,e2,Int.natCast_succ];rw [e1,e2] at h1'
   grind
  have e2:(y.natAbs:Int)=y:=by omega
  rw [e0,e2,Int.natCast_succ];rw [e1,e2] at h1'
  grind
 have hr0:0<=sgn false (y.natAbs-x.natAbs%y.natAbs):=by simp [sgn]
 have hr1:sgn false (y.natAbs-x.natAbs%y.natAbs)<y.natAbs:=by simp only [sgn,Bool.false_eq_true,if_false];omega
 generalize sgn (decide (x<0) != decide (y<0)) (x.natAbs/y.natAbs+1)=q at *;generalize sgn false (y.natAbs-x.natAbs%y.natAbs)=r at *;exact zMm.ediv_unique x y q r hy key hr0 hr1
theorem zAq (u v:Value) (x y:Int) (w:World) (hx:zBs w u x) (hy:zBs w v y) (hlx:(limbs x.natAbs).length<=100000000) (hly:(limbs y.natAbs).length<=100000000) (hy0:y≠0) (h:¬(x<0/\x.natAbs%y.natAbs≠0)) :
  Calls Tryz.prog 73 #[u,v] w (zFx w (x/y) (x%y)):=by
 obtain ⟨_,rfl,A,c,rfl,hlc,hc⟩:=hx;obtain ⟨_,rfl,A',c',rfl,hlc',hc'⟩:=hy;have HC:=oH hc;have HC':=oH hc';have HE:=oH (zMm x y hy0 h)
 have hcase:decide (x<0)=false\/(decide (x<0)=true/\¬0<(limbs (x.natAbs%y.natAbs)).length):=by
  by_cases hxn:x<0
  ·right
   refine ⟨by simp [hxn],fun hh=>h ⟨hxn,zQg.1 hh⟩⟩
  left;simp [hxn]
 have hym:0<y.natAbs:=by omega
 generalize decide (x<0)=na at *;generalize decide (y<0)=nb at *;clear hc hc' h
 go_enter Tryz.func73,Tryz.ntmps73
 go_wp2_with fail;have hbx:=boxesD w na nb (.slice A (limbs x.natAbs).length c) (.slice A' (limbs y.natAbs).length c');generalize (((w.alloc (.cells #[.bool na,.slice A (limbs x.natAbs).length c] 62)).alloc (.cells #[.bool nb,.slice A' (limbs y.natAbs).length c'] 62)).alloc (.cells #[.bool false,.slice none 0 0] 62)).alloc (.cells #[.bool false,.slice none 0 0] 62)=W at *;have HBX:=oH hbx;clear hbx;refine (zMn A A' x.natAbs y.natAbs c c' W (HC.below HBX.bel) (HC'.below HBX.bel) hlx hly hlc hym).mono ?_;rintro e w2 ⟨vq,vr,rfl,hvq,hvr,hb2⟩;obtain ⟨Ar,cr,rfl,hlr,hcr⟩:=hvr;have HVQ:=oH hvq;have HVR:=oH hcr;have HBX2:=oH (HBX.below hb2);clear hvq hcr hb2;have ha0:=HBX2.a0;have hb0:=HBX2.b0;have hql:(limbs (x.natAbs/y.natAbs)).length<=1000000000:=Nat.le_trans (zQd (Nat.div_le_self _ _)) oMx;have hrl:(limbs (x.natAbs%y.natAbs)).length<=1000000000:=Nat.le_trans (zQd (Nat.mod_le _ _)) oMx
 rcases hcase with rfl|⟨rfl,hz⟩
 all_goals (
  go_wp2_with fail;refine (zTb _ vq _ w2 HVQ.out hql).mono ?_
  intro e w3 hret
  obtain ⟨A3,c3,rfl,hl3,hc3,hb3⟩:=hret.num;have HC3:=oH hc3;have HB3:=oH hb3;have HBX3:=oH (HBX2.below hb3);clear hret hc3 hb3;go_wp2_with fail;refine (zTb false _ _ w3 (zBr.mk hlr (HVR.below HB3.out)) hrl).mono ?_
  intro e w4 hret
  obtain ⟨A4,c4,rfl,hl4,hc4,hb4⟩:=hret.num;have HC4:=oH hc4;have HC34:=oH (HC3.below hb4);have HBX4:=oH (HBX3.below hb4);have hr0:=HBX4.r0.r0;have hr1:=HBX4.r0.r1;have hf0:=HBX4.r0.f 0;have hf1:=HBX4.r0.f 1;have hs0:=HBX4.r1.r0;have hs1:=HBX4.r1.r1;have hg0:=HBX4.r1.f 0;have hg1:=HBX4.r1.f 1;clear hret hc4 hb4;go_wp2_with fail;refine bodyPost_ret (v := .tuple #[.agg #[.bool _,.slice A3 _ c3],.agg #[.bool _,.slice A4 _ c4]]) (by simp [results,Tryz.results73,go_sem,hr0,hr1,hs0,hs1];exact ⟨⟨rfl,rfl⟩,rfl,rfl⟩) rfl ?_
  exact end2 HBX4.r0 HBX4.r1 oMx HBX4.bel oMx oMx HC34.out hl3 HC4.out hl4 (by have:=HE.1;cases nb<;>exact this) HE.2)
theorem Div_more (u v:Value) (x y:Int) (w:World) (hx:zBs w u x) (hy:zBs w v y) (hlx:(limbs x.natAbs).length<=10000000) (hly:(limbs y.natAbs).length<=10000000) (hy0:y≠0) (hxn:x<0) (hrn:x.natAbs%y.natAbs≠0) :
  Calls Tryz.prog 73 #[u,v] w (zFx w (x/y) (x%y)):=by
 obtain ⟨_,rfl,A,c,rfl,hlc,hc⟩:=hx;obtain ⟨_,rfl,A',c',rfl,hlc',hc'⟩:=hy;have HC:=oH hc;have HC':=oH hc';have HE:=oH (div_more x y hy0 hxn hrn);rw [show decide (x<0)=true by simp [hxn]] at HE;rw [show decide (x<0)=true by simp [hxn]];have hz:0<(limbs (x.natAbs%y.natAbs)).length:=zQg.2 hrn
 have hz':decide (0<((limbs (x.natAbs%y.natAbs)).length:Int))=true:=by simp;omega
 have hym:0<y.natAbs:=by omega
 generalize decide (y<0)=nb at *;clear hc hc' hrn
 go_enter Tryz.func73,Tryz.ntmps73
 go_wp2_with fail;have hbx:=boxesD w true nb (.slice A (limbs x.natAbs).length c) (.slice A' (limbs y.natAbs).length c');generalize (((w.alloc (.cells #[.bool true,.slice A (limbs x.natAbs).length c] 62)).alloc (.cells #[.bool nb,.slice A' (limbs y.natAbs).length c'] 62)).alloc (.cells #[.bool false,.slice none 0 0] 62)).alloc (.cells #[.bool false,.slice none 0 0] 62)=W at *;have HBX:=oH hbx;clear hbx;refine (zMn A A' x.natAbs y.natAbs c c' W (HC.below HBX.bel) (HC'.below HBX.bel) oMx oMx hlc hym).mono ?_;rintro e w2 ⟨vq,vr,rfl,hvq,hvr,hb2⟩;obtain ⟨Ar,cr,rfl,hlr,hcr⟩:=hvr;obtain ⟨Aq,cq,rfl,hlq,hcq⟩:=hvq;have HVQ:=oH hcq;have HVR:=oH hcr;have HBX2:=oH (HBX.below hb2);clear hcq hcr hb2 HBX;have ha0:=HBX2.a0;have hb0:=HBX2.b0;have hb1:=HBX2.b1;have hql:(limbs (x.natAbs/y.natAbs)).length<=10000000:=Nat.le_trans (zQd (Nat.div_le_self _ _)) oMx;have hrl:(limbs (x.natAbs%y.natAbs)).length<=10000000:=Nat.le_trans (zQd (Nat.mod_le _ _)) oMx
 have hmle:x.natAbs%y.natAbs<=y.natAbs:=Nat.le_of_lt (Nat.mod_lt _ hym);go_upto_region 3 with (fail);have HADD:=oH (fun (V:World) (gg:Nat) (hV:Below w2.heap.size w2 V) (hg:Row .u64 V gg 126 [1])=>zHq Aq (some ⟨gg,0,none⟩) (x.natAbs/y.natAbs) 1 cq 1 V (HVQ.below hV) (by rw [zQi oMx oMx];exact hg.cells) oMx (by rw [zQi oMx oMx];simp));rw [show limbs 1=[1] from zQi oMx oMx,show [1].length=1 from rfl] at HADD;have HSUB:=oH (fun (V:World) (hV:Below w2.heap.size w2 V)=>xBr A' Ar y.natAbs (x.natAbs%y.natAbs) c' cr V (HC'.below (HBX2.bel.trans (hV.mono HBX2.bel.size))) (HVR.below hV) oMx hmle);have hsl:=HBX2.size
 go_region_held3 (fun w'=>w'.cell? ⟨w.heap.size+1,1,none⟩=some (.slice A' (limbs y.natAbs).length c'))
  (first|exact HBX6.b1|exact HBX5.b1|exact HBXn.b1|go_keep)
  (first|(go_at_call 111;have hbn:Below w2.heap.size w2 (w2.alloc (.cells #[.int .u64 1] 126)).drew:=bA.drew;refine (HADD.out _ w2.heap.size (by exact hbn) (by exact Row.new .u64 w2 126 [1])).mono ?_;rintro e w5 ⟨v5,rfl,⟨A5,c5,rfl,hl5,hc5⟩,hb5⟩;have HBX5:=oH ((HBX2.below hbn).below hb5);have HC5:=oH hc5;have HB5:=bTx2 hbn hb5;clear hbn hc5 hb5)|(go_at_call 112;refine (HSUB.out _ (by exact HB5.out)).mono ?_;rintro e w6 ⟨v6,rfl,⟨A6,c6,rfl,hl6,hc6⟩,hb6⟩;have HBX6:=oH (HBX5.below hb6);have HC6:=oH hc6;have HC56:=oH (HC5.below hb6);clear hc6 hb6))
 have ha0':=HBX6.a0;have hb0':=HBX6.b0;go_wp2_with fail;refine (zTb _ _ _ w6 (zBr.mk hl5 HC56.out) (Nat.le_trans (zQa _ _) (by rw [show limbs 1=[1] from zQi oMx oMx];simp;omega))).mono ?_
 intro e w3 hret
 obtain ⟨A3,c3,rfl,hl3,hc3,hb3⟩:=hret.num;have HC3:=oH hc3;have HB3:=oH hb3;have HBX3:=oH (HBX6.below hb3);clear hret hc3 hb3;go_wp2_with fail;refine (zTb false _ _ w3 (zBr.mk hl6 (HC6.below HB3.out)) (Nat.le_trans (zQd (Nat.sub_le _ _)) oMx)).mono ?_
 intro e w4 hret
 obtain ⟨A4,c4,rfl,hl4,hc4,hb4⟩:=hret.num;have HC4:=oH hc4;have HC34:=oH (HC3.below hb4);have HBX4:=oH (HBX3.below hb4);have hr0:=HBX4.r0.r0;have hr1:=HBX4.r0.r1;have hf0:=HBX4.r0.f 0;have hf1:=HBX4.r0.f 1;have hs0:=HBX4.r1.r0;have hs1:=HBX4.r1.r1;have hg0:=HBX4.r1.f 0;have hg1:=HBX4.r1.f 1;clear hret hc4 hb4;go_wp2_with fail;refine bodyPost_ret (v := .tuple #[.agg #[.bool _,.slice A3 _ c3],.agg #[.bool _,.slice A4 _ c4]]) (by simp [results,Tryz.results73,go_sem,hr0,hr1,hs0,hs1];exact ⟨⟨rfl,rfl⟩,rfl,rfl⟩) rfl ?_;exact end2 HBX4.r0 HBX4.r1 oMx HBX4.bel oMx oMx HC34.out hl3 HC4.out hl4 (by have:=HE.1;cases nb<;>exact this) HE.2
theorem zAp (u v:Value) (x y:Int) (w:World) (hx:zBs w u x) (hy:zBs w v y) (hlx:(limbs x.natAbs).length<=10000000) (hly:(limbs y.natAbs).length<=10000000) (hy0:y≠0) :
  Calls Tryz.prog 73 #[u,v] w (zFx w (x/y) (x%y)):=by
 by_cases h:x<0/\x.natAbs%y.natAbs≠0
 ·exact Div_more u v x y w hx hy hlx hly hy0 h.1 h.2
 exact zAq u v x y w hx hy oMx oMx hy0 h
end Go.Proofs.YtbjaplppalcmgaaGreatDoor
