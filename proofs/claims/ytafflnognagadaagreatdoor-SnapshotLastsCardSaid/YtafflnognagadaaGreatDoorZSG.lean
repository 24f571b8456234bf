import Derived.Test.YtafflnognagadaaGreatDoorZSD
set_option maxHeartbeats 16000000
set_option maxRecDepth 100000
namespace Go.Proofs.YtafflnognagadaaGreatDoor
open Go.RowKit
def RetSch (w:World) (b most:Nat) (e:Ending) (w':World):Prop:=∃ S:zFv,e = .returned (.agg S.cells)/\zFu S/\S.at1.length<=most/\S.rs.length<=3/\zBe S.at1/\zBf S.at1.length S.rs/\zBp w' S/\Src w' b/\w.grownBy w' (some b)/\∀ w'',w'.grownBy w'' (some b)->Src w'' b->zBp w'' S
attribute [local go_sem ↓] Go.wp_at_zero Go.wp_at_succ
theorem zFw (b most:Nat) (w:World) (hs:Src w b) (hm1:1<=most) (hm2:most<=8):Calls Tryz.prog 12 #[.pointer (some ⟨b,0,none⟩),.int .i64 (most:Int)] w (RetSch w b most):=by
 obtain ⟨i0,hi,hz0,hz1,hz2⟩:=info_parts Tryz.infoInt;obtain ⟨i1,hi1,hza0,hza1,hza2⟩:=info_parts Tryz.infoAttr;obtain ⟨i2,hi2,hzr0,hzr1,hzr2⟩:=info_parts Tryz.infoRel;obtain ⟨i3,hi3,hzf0,hzf1,hzf2⟩:=info_parts Tryz.infoFeat;have HS:=oH hs;have hbw:=hs.lt;clear hs
 go_enter Tryz.func12,Tryz.ntmps12
 go_wp2_with fail;have HB0:=oH ((((Below.refl w.heap.size w).alloc lRx (.cells #[.slice none 0 0,.slice none 0 0,.slice none 0 0,.int .i64 0] 31)).alloc sMx (.cells #[.slice none 0 0,.slice none 0 0,.slice none 0 0,.int .i64 (-1)] 31)));refine (zEw b 1 3 _ (HS.below HB0.out) oMx oMx oMx).mono ?_;rintro e w1 ⟨n,rfl,⟨hn1,hn3⟩,hs1,hg1⟩;obtain ⟨n,rfl⟩:∃ k:Nat,n=k:=⟨n.toNat,oMx⟩
 have HSB:Hid (SB w w1 b (w.heap.size+1) (.slice none 0 0) (.slice none 0 0) (.slice none 0 0) [] [] [] (-1)):=by
  have h0:SB w ((w.alloc (.cells #[.slice none 0 0,.slice none 0 0,.slice none 0 0,.int .i64 0] 31)).alloc (.cells #[.slice none 0 0,.slice none 0 0,.slice none 0 0,.int .i64 (-1)] 31)) b (w.heap.size+1) (.slice none 0 0) (.slice none 0 0) (.slice none 0 0) [] [] [] (-1) :=
   ⟨Blk.new' sMx _ [.slice none 0 0,.slice none 0 0,.slice none 0 0,.int .i64 (-1)],⟨_,_,_,_,(Blk.new' rfl _ [.slice none 0 0,.slice none 0 0,.slice none 0 0,.int .i64 0]).alloc _⟩,World.ownsRow_nil _ _ _ _,World.ownsRow_nil _ _ _ _,World.ownsRow_nil _ _ _ _,(fun r hr=>by cases hr),HS.below HB0.out,
    ⟨HB0.os,HB0.tape,HB0.output,HB0.size,fun k hk _=>HB0.block k hk⟩,hbw,oMx⟩
  exact oH (h0.src_ hg1 hs1)
 clear hs1 hg1 HB0;go_wp2_with fail
 go_loopw [7] (fun iv wr=>∃ (i:Nat) (va vr:Value) (at1:List (ByteArray × Int)) (rs:List zFg),iv = .int .i64 (i:Int)/\i<=n/\i=rs.length/\at1.length<=most/\(1<=i->1<=at1.length)/\zBe at1/\zBf at1.length rs/\SB w wr b (w.heap.size+1) va vr (.slice none 0 0) at1 rs [] (-1)) (fun iv _=>n-(intOf iv).toNat)
 ·exact ⟨0,_,_,[],[],rfl,oLx,rfl,oLx,oMx,zBe.nil,zBf.nil,HSB.out⟩
 obtain ⟨i,va,vr,at1,rs,rfl,hin,hirs,hat,hat1,hga,hgr,hsb⟩:=hrel;obtain ⟨wo,rfl⟩:=nWx wr;have HGA:=oH hga;have HGR:=oH hgr;have HSBo:=oH hsb;have HIR:=oH hirs;have HAT1:=oH hat1;have k0:=hsb.box.at_ (i:=0) rfl;obtain ⟨Aa,ca,rfl,hca⟩:=zRv hsb.a;clear hga hgr hsb HSB hirs hat1
 by_cases hlt:i<n
 ·go_wp2_with fail
  go_loopw [8,24] (fun lv iv wr=>∃ (a:Nat) (l:List Nat),iv = .int .i64 (a:Int)/\a<=at1.length/\zAc l a/\wr.ownsRow wo.heap.size 3 1 lv l.length (vn l)/\wo.heap.size<=wr.heap.size/\SB w wr b (w.heap.size+1) (.slice Aa at1.length ca) vr (.slice none 0 0) at1 rs [] (-1)) (fun _ iv _=>at1.length-(intOf iv).toNat)
  ·exact ⟨0,[],rfl,oLx,zAc.nil _,World.ownsRow_nil _ _ _ _,lRx,HSBo.out⟩
  obtain ⟨a,l,rfl,ha,hasc,hown,hsz,hsb⟩:=hrel;obtain ⟨wa,rfl⟩:=nWx wr;have HASC:=oH hasc;have HOWN:=oH hown;have HSB:=oH hsb;have hgo:w.heap.size+1<wo.heap.size:=HSBo.box.lt;have hll:=hasc.len;clear hasc hown hsb
  by_cases hla:a<at1.length
  ·go_wp2_with fail;refine (zCm b 3 wa HSB.src oMx oMx).mono ?_;rintro e w2 ⟨r,rfl,hr,hs2,hg2⟩;have HSB2:=oH (HSB.src_ hg2 hs2);have HO2:=oH (zSf HOWN.out hg2 oMx);have hsz2:wo.heap.size<=w2.heap.size:=Nat.le_trans hsz hg2.size;clear hs2 hg2
   by_cases hr0:r=0
   ·subst hr0
    go_wp2_with (at_builtin;refine wpList_append_own _ rfl _ _ 22 rfl wo.heap.size 3 i0 (.int .i64 0) 1 8 Tryz.underlying22 hi hz0 hz1 hz2 rfl dCx _ _ _ rfl (HO2.alloc _) ⟨w2.heap.size,0,none⟩ 1 1 [_] rfl rfl zRj zRh (by unfold maxLen;omega) oMx (by simp;omega) ?_)
    intro v' w3 hown3 hgrow3 _
    have HO3:=oH hown3;have HSB3:=oH ((HSB2.below (bA)).ints (HO2.alloc _) oMx (fun r hr k hk=>((HSBo.x r hr).lt k hk).2) hgrow3)
    have hsz3:wo.heap.size<=w3.heap.size:=by have:=hgrow3.size;rw [World.size_alloc] at this;omega
    clear hown3 hgrow3;go_wp2_with fail;go_roundw
    ·exact ⟨a+1,l++[a],by go_num,oMx,HASC.push,by rw [xAh,List.length_append];exact HO3.out,hsz3,HSB3.out⟩
    simp [intOf];omega
   have hr0':((r:Int)==0)=false:=by rw [beq_eq_false_iff_ne];omega
   clear hr0;go_wp2_with fail;go_roundw
   ·exact ⟨a+1,l,by go_num,oMx,HASC.more,HO2.out,hsz2,HSB2.out⟩
   simp [intOf];omega
  obtain rfl:a=at1.length:=by omega
  go_wp2_with fail;refine (zCm b 3 wa HSB.src oMx oMx).mono ?_;rintro e w2 ⟨kk,rfl,hkk,hs2,hg2⟩;have HSB2:=oH (HSB.src_ hg2 hs2);have HO2:=oH (zSf HOWN.out hg2 oMx);have hsz2:wo.heap.size<=w2.heap.size:=Nat.le_trans hsz hg2.size;clear hs2 hg2;have HST:Hid (St w wo w2 b (w.heap.size+1) (.slice Aa at1.length ca) vr (.slice none 0 0) at1 rs [] (-1) u8 l):=oH ⟨HSB2.out,HO2.out,hsz2,hgo⟩;clear HSB2 HO2 HSB HOWN hsz2 hsz;go_wp2_with fail
  go_loopw [8,10] (fun lv kv wr=>∃ (k:Int) (m:List Nat) (va2:Value) (at2:List (ByteArray × Int)),kv = .int .i64 k /\ -1<=k/\k<=2/\(0<=k\/m≠[])/\at1.length<=at2.length/\at2.length<=most/\zBe at2/\zAc m at2.length/\(∀ j,at1.length<=j->j<at2.length->j∈m)/\St w wo wr b (w.heap.size+1) va2 vr (.slice none 0 0) at2 rs [] (-1) lv m) (fun _ kv _=>(intOf kv+1).toNat)
  ·exact ⟨(kk:Int),l,_,at1,rfl,oMx,oMx,.inl oMx,lRx,hat,HGA.out,HASC.out,fun j h1 h2=>absurd h2 oMx,HST.out⟩
  obtain ⟨k,m,va2,at2,rfl,hk1,hk2,hkm,ha12,ha2,hga2,hasc2,hnew,hst⟩:=hrel;obtain ⟨wb,rfl⟩:=nWx wr;obtain ⟨A2,c2,rfl,hc2⟩:=zRv hst.sb.a;obtain ⟨L2,d2,rfl,hd2⟩:=zRv hst.own;have HKM:=oH hkm;have HGA2:=oH hga2;have HAS2:=oH hasc2;have HNEW:=oH hnew;have HSTB:=oH hst;have hml:=hasc2.len;have kb0:=hst.sb.box.at_ (i:=0) rfl;clear hkm hga2 hasc2 hnew hst HST;go_upto_region 14 with (fail)
  go_cut [50] (fun v wc=>v = .bool (decide ((0<k\/m.length=0)/\at2.length<most))/\wc=wb)
  case first =>
   by_cases c1:0<k
   ·have E:=oH (show decide ((0<k\/m.length=0)/\at2.length<most)=decide (at2.length<most) from decide_eq_decide.2 ⟨fun h=>h.2,fun h=>⟨.inl c1,h⟩⟩);generalize decide ((0<k\/m.length=0)/\at2.length<most)=cB at *;go_wp2_with fail
    go_meet
    exact ⟨by rw [E.out],rfl⟩
   by_cases c2:m.length=0
   ·have E:=oH (show decide ((0<k\/m.length=0)/\at2.length<most)=decide (at2.length<most) from decide_eq_decide.2 ⟨fun h=>h.2,fun h=>⟨.inr c2,h⟩⟩);generalize decide ((0<k\/m.length=0)/\at2.length<most)=cB at *
    have c2':((m.length:Int)==0)=true:=by rw [c2];rfl
    have c1':decide (0<k)=false:=decide_eq_false c1;clear c2;go_wp2_with fail
    go_meet
    exact ⟨by rw [E.out],rfl⟩
   have E:=oH (show decide ((0<k\/m.length=0)/\at2.length<most)=false from decide_eq_false fun h=>h.1.elim c1 c2);generalize decide ((0<k\/m.length=0)/\at2.length<most)=cB at *
   have c2':((m.length:Int)==0)=false:=by rw [beq_eq_false_iff_ne];omega
   have c1':decide (0<k)=false:=decide_eq_false c1;clear c2;go_wp2_with fail
   go_meet
   exact ⟨by rw [E.out],rfl⟩
  case rest =>
   obtain ⟨rfl,rfl⟩:=hcut
   by_cases hc:(0<k\/m.length=0)/\at2.length<most
   ·rw [decide_eq_true hc];obtain ⟨hc0,hc1⟩:=hc
    have hk0:0<=k:=by
     rcases HKM.out with h|h
     ·exact h
     rcases hc0 with h2|h2
     ·omega
     exact absurd (List.eq_nil_of_length_eq_zero h2) h
    clear hc0
    go_wp2_with (at_builtin;refine wpList_append_own _ rfl _ _ 22 rfl wo.heap.size 3 i0 (.int .i64 0) 1 8 Tryz.underlying22 hi hz0 hz1 hz2 rfl dCx _ _ _ rfl (HSTB.own.alloc _) ⟨wc.heap.size,0,none⟩ 1 1 [_] rfl rfl zRj zRh (by unfold maxLen;omega) oMx (by have:=HSTB.sz;simp;omega) ?_)
    intro v' w3 hown3 hgrow3 _
    have HST3:Hid (St w wo w3 b (w.heap.size+1) (.slice A2 at2.length c2) vr (.slice none 0 0) at2 rs [] (-1) v' (m++[at2.length])):=oH ⟨(HSTB.alloc _).sb.ints (HSTB.own.alloc _) HSTB.gw (fun r hr k hk=>((HSBo.x r hr).lt k hk).2) hgrow3,by rw [xAh,List.length_append];exact hown3,by have:=hgrow3.size;have:=HSTB.sz;rw [World.size_alloc] at *;omega,HSTB.gw⟩;have kc0:=HST3.sb.box.at_ (i:=0) rfl;have fc0:=HST3.sb.box.fr 0;clear hown3 hgrow3;go_wp2_with fail;have hb4:b<w3.heap.size:=HST3.sb.src.lt;have hgw3:w.heap.size+1<w3.heap.size:=HST3.sb.box.lt
    go_region_law
     (first
      | (first
       | (refine step_append_lies _ (by rfl) _ _ _ (by rfl) (w.heap.size+1+1) 66 i1 _ 2 24 Tryz.underlying27 hi1 hza0 hza1 hza2 rfl oMx (.slice A2 at2.length c2) at2.length (av at2) (by go_simp) (HSTP.alloc (.cells #[.string (zPo 97 at2.length),.int .i64 z] 66)).drew.sb.a ⟨wP.heap.size,0,none⟩ 1 1 [.string (zPo 97 at2.length),.int .i64 z] (by go_simp) rfl (World.news_of_block (cs:=#[.string (zPo 97 at2.length),.int .i64 z]) (t:=66) (fr:=(0,0)) (heap_alloc_new wP _)) zXu oMx (by unfold maxLen;omega) oMx (by have:=HSTP.sb.box.lt;simp;omega) _ rfl ?_;intro gg cap w5 hown5 hgrow5 hat5 hlt5;(first|(have HB5:=oH ((HSTP.alloc (.cells #[.string (zPo 97 at2.length),.int .i64 z] 66)).sb.box_a hgrow5);have k5:=HB5.at_ (i:=0) rfl;have f5:=HB5.fr 0;have HST6:=oH ((HSTP.alloc (.cells #[.string (zPo 97 at2.length),.int .i64 z] 66)).pushA hgrow5 hown5);clear hown5 hgrow5 hat5 hlt5 HB5)|(have HB5:=oH ((HSTP.alloc (.cells #[.string (zPo 97 at2.length),.int .i64 z] 66)).drew.sb.box_a hgrow5);have k5:=HB5.at_ (i:=0) rfl;have f5:=HB5.fr 0;have HST6:=oH ((HSTP.alloc (.cells #[.string (zPo 97 at2.length),.int .i64 z] 66)).drew.pushA hgrow5 hown5);clear hown5 hgrow5 hat5 hlt5 HB5)))
       | (refine step_append_lies _ (by rfl) _ _ _ (by rfl) (w.heap.size+1+1) 66 i1 _ 2 24 Tryz.underlying27 hi1 hza0 hza1 hza2 rfl oMx (.slice A2 at2.length c2) at2.length (av at2) (by go_simp) (HSTL.alloc (.cells #[.string (zPo 97 at2.length),.int .i64 z] 66)).drew.sb.a ⟨wL.heap.size,0,none⟩ 1 1 [.string (zPo 97 at2.length),.int .i64 z] (by go_simp) rfl (World.news_of_block (cs:=#[.string (zPo 97 at2.length),.int .i64 z]) (t:=66) (fr:=(0,0)) (heap_alloc_new wL _)) zXu oMx (by unfold maxLen;omega) oMx (by have:=HSTL.sb.box.lt;simp;omega) _ rfl ?_;intro gg cap w5 hown5 hgrow5 hat5 hlt5;(first|(have HB5:=oH ((HSTL.alloc (.cells #[.string (zPo 97 at2.length),.int .i64 z] 66)).sb.box_a hgrow5);have k5:=HB5.at_ (i:=0) rfl;have f5:=HB5.fr 0;have HST6:=oH ((HSTL.alloc (.cells #[.string (zPo 97 at2.length),.int .i64 z] 66)).pushA hgrow5 hown5);clear hown5 hgrow5 hat5 hlt5 HB5)|(have HB5:=oH ((HSTL.alloc (.cells #[.string (zPo 97 at2.length),.int .i64 z] 66)).drew.sb.box_a hgrow5);have k5:=HB5.at_ (i:=0) rfl;have f5:=HB5.fr 0;have HST6:=oH ((HSTL.alloc (.cells #[.string (zPo 97 at2.length),.int .i64 z] 66)).drew.pushA hgrow5 hown5);clear hown5 hgrow5 hat5 hlt5 HB5))))
      | (go_simp;first
      | (go_at_call 30;(with_reducible refine (zOn 97 at2.length _ oMx).mono ?_);rintro e wL ⟨rfl,hbL⟩;(first|have HI4:=oH ((blk4 w3).below hbL)|have HI4:=oH ((blk4d w3).below hbL)|have HI4:=oH ((blk4e w3).below hbL)|skip);have HSTL:Hid (St w wo wL b (w.heap.size+1) (.slice A2 at2.length c2) vr (.slice none 0 0) at2 rs [] (-1) v' (m++[at2.length])):=oH (by first|exact HST3.out.below hbL|exact HST3.out.drew.below hbL|exact (HST3.out.alloc _).below hbL|exact (HST3.out.alloc _).drew.below hbL|exact HSTP.out.below hbL|exact HSTP.out.drew.below hbL);have kL:=HSTL.out.sb.box.at_ (i:=0) rfl;have sL:w.heap.size+1<wL.heap.size:=HSTL.out.sb.box.lt;clear hbL)
      | (go_at_call 31;(with_reducible refine (Pick4 b _ _ (by first|exact HSTL.out.sb.src|exact (HSTL.out.alloc _).sb.src|exact (HSTL.out.alloc _).drew.sb.src|exact (HST3.out.alloc _).sb.src|exact (HST3.out.alloc _).drew.sb.src) (by first|exact HI4.out|exact blk4 _|exact blk4d _|exact blk4e _) (by first|omega|(have:=HSTL.out.sb.src.lt;omega))).mono ?_);rintro e wP ⟨z,⟨hz1,hz3⟩,rfl,hsP,hgP⟩;have HSTP:Hid (St w wo wP b (w.heap.size+1) (.slice A2 at2.length c2) vr (.slice none 0 0) at2 rs [] (-1) v' (m++[at2.length])):=oH (by first|exact HSTL.out.src_ hgP hsP|exact (HSTL.out.alloc _).src_ hgP hsP|exact (HSTL.out.alloc _).drew.src_ hgP hsP|exact (HST3.out.alloc _).src_ hgP hsP|exact (HST3.out.alloc _).drew.src_ hgP hsP);have kPq:=HSTP.out.sb.box.at_ (i:=0) rfl;have sP:w.heap.size+1<wP.heap.size:=HSTP.out.sb.box.lt;clear hsP hgP)))
    all_goals
     clear kb0 kc0 fc0;go_wp2_with fail;go_roundw
     ·exact ⟨k-1,m++[at2.length],_,at2++[(zPo 97 at2.length,z)],by go_num,oMx,oMx,.inr sMx,by simp;omega,by simp;omega,HGA2.push hz1 hz3,by rw [List.length_append];exact HAS2.push,fun j h1 h2=>by
      rw [List.length_append,List.length_singleton] at h2;rw [List.mem_append,List.mem_singleton]
      rcases Nat.lt_or_ge j at2.length with h3|h3
      ·exact .inl (HNEW.out j h1 h3)
      exact .inr oMx,HST6.out⟩
     simp [intOf];omega
   have hex:0<k->¬at2.length<most:=fun h1 h2=>hc ⟨.inl h1,h2⟩
   have hex2:m=[]->most<=at2.length:=fun h1=>by
    rcases Nat.lt_or_ge at2.length most with h2|h2
    ·exact absurd ⟨.inr (by rw [h1];rfl),h2⟩ hc
    exact h2
   have HEX:=oH hex2;rw [decide_eq_false hc];clear hc hex hex2
   go_upto_if 74 with (fail)
   go_cut [8] (fun lv wc2=>∃ (m2:List Nat) (L3:oAx) (d3:Nat),lv = .slice L3 m2.length d3/\m2≠[]/\zAc m2 at2.length/\(∀ j,at1.length<=j->j<at2.length->j∈m2)/\m2.length<=d3/\St w wo wc2 b (w.heap.size+1) (.slice A2 at2.length c2) vr (.slice none 0 0) at2 rs [] (-1) (.slice L3 m2.length d3) m2)
   case first =>
    by_cases hm0:m=[]
    ·have hm0':((m.length:Int)==0)=true:=by rw [hm0];rfl
     have HW:=oH (HEX.out hm0);have HN0:=oH (fun j h1 h2=>show j∈[0] by have:=HNEW.out j h1 h2;rw [hm0] at this;cases this);have HST4:Hid (St w wo (wc.alloc (.cells #[.int .i64 0] 3)) b (w.heap.size+1) (.slice A2 at2.length c2) vr (.slice none 0 0) at2 rs [] (-1) (.slice (some ⟨wc.heap.size,0,none⟩) [0].length 1) [0]):=oH ⟨(HSTB.alloc _).sb,World.ownsRow_lit wc #[.int .i64 0] 1 HSTB.sz dCx rfl,(HSTB.alloc _).sz,HSTB.gw⟩;go_wp2_with fail
     go_meet
     exact ⟨[0],_,1,rfl,by simp,⟨fun i hi=>by simp at hi,fun x hx=>by rw [List.mem_singleton] at hx;have:=HW.out;omega⟩,HN0.out,by simp,HST4.out⟩
    have hm0':((m.length:Int)==0)=false:=by
     rw [beq_eq_false_iff_ne]
     intro e
     exact hm0 (List.eq_nil_of_length_eq_zero oMx)
    have HM0:=oH hm0;clear hm0;go_wp2_with fail
    go_meet
    exact ⟨m,_,_,rfl,HM0.out,HAS2.out,HNEW.out,hd2,HSTB.out⟩
   case rest =>
    obtain ⟨m2,L3,d3,rfl,hm2n,hasc3,hnew3,hd3,hst3⟩:=hcut;obtain ⟨Ar,cr,rfl,hcr⟩:=zRv hst3.sb.r;have HM2:=oH hm2n;have HAS3:=oH hasc3;have HNW3:=oH hnew3;have HST3:=oH hst3;have hml2:=hasc3.len;have kr:=hst3.sb.box.at_ (i:=1) rfl;have sr:w.heap.size+1<wc.heap.size:=hst3.sb.box.lt;have hirs:i=rs.length:=HIR.out
    have hrl:rs.length<=3:=by omega
    clear hm2n hasc3 hnew3 hst3 HSTB HAS2 HNEW HKM hirs;go_wp2_with fail
    go_region_law
     (first
      | (refine step_append_lies _ (by rfl) _ _ _ (by rfl) (w.heap.size+1+1) 68 i2 _ 2 40 Tryz.underlying28 hi2 hzr0 hzr1 hzr2 rfl oMx (.slice Ar rs.length cr) rs.length (zTe rs) (by go_simp) (HSTL.alloc (.cells #[.string (zPo 114 i),.slice L3 m2.length d3] 68)).sb.r ⟨wL.heap.size,0,none⟩ 1 1 [.string (zPo 114 i),.slice L3 m2.length d3] (by go_simp) rfl (World.news_of_block (cs:=#[.string (zPo 114 i),.slice L3 m2.length d3]) (t:=68) (fr:=(0,0)) (heap_alloc_new wL _)) zXv oMx (by unfold maxLen;omega) oMx (by have:=HSTL.sb.box.lt;simp;omega) _ rfl ?_;intro gg cap w5 hown5 hgrow5 hat5 hlt5;have HB5:=oH ((HSTL.alloc (.cells #[.string (zPo 114 i),.slice L3 m2.length d3] 68)).sb.box_r hgrow5);have k5:=HB5.at_ (i:=1) rfl;have f5:=HB5.fr 1;have HST6:=oH ((HSTL.alloc (.cells #[.string (zPo 114 i),.slice L3 m2.length d3] 68)).pushR hgrow5 hown5);clear hown5 hgrow5 hat5 hlt5 HB5)
      | (go_simp;go_at_call 30;(with_reducible refine (zOn 114 i _ oMx).mono ?_);rintro e wL ⟨rfl,hbL⟩;have HSTL:Hid (St w wo wL b (w.heap.size+1) (.slice A2 at2.length c2) (.slice Ar rs.length cr) (.slice none 0 0) at2 rs [] (-1) (.slice L3 m2.length d3) m2):=oH (by first|exact HST3.out.below hbL|exact HST3.out.drew.below hbL);have kL:=HSTL.out.sb.box.at_ (i:=1) rfl;have sL:w.heap.size+1<wL.heap.size:=HSTL.out.sb.box.lt;clear hbL))
    all_goals
     go_wp2_with fail;go_roundw
     case rel =>
      obtain rfl:=HIR.out;refine ⟨rs.length+1,_,_,at2,rs++[⟨zPo 114 rs.length,L3,d3,m2⟩],by go_num,oMx,by simp,ha2,fun _=>?_,HGA2.out,HGR.push HM2.out HAS3.out hd3 ha12 HNW3.out,HST6.out⟩
      rcases Nat.lt_or_ge 0 m2.length with h|h
      ·omega
      exact absurd (List.eq_nil_of_length_eq_zero oMx) HM2.out
     simp [intOf];omega
 obtain rfl:i=n:=by omega
 go_wp2_with fail
 go_loopw [88] (fun iv wr=>∃ (a:Nat) (vf:Value) (fs:List zBa) (lb:Int),iv = .int .i64 (a:Int)/\a<=at1.length/\zAz at1 fs lb a/\SB w wr b (w.heap.size+1) (.slice Aa at1.length ca) vr vf at1 rs fs lb) (fun iv _=>at1.length-(intOf iv).toNat)
 ·exact ⟨0,_,[], -1,rfl,oLx,zAz.start _,HSBo.out⟩
 obtain ⟨a,vf,fs,lb,rfl,ha,hfg,hsb⟩:=hrel;obtain ⟨wa,rfl⟩:=nWx wr;obtain ⟨Af,cf,rfl,hcf⟩:=zRv hsb.f;have HFG:=oH hfg;have HSB:=oH hsb;have hfl:=hfg.len;have q1:=hfg.lb1;have q2:=hfg.lb2;have sg:w.heap.size+1<wa.heap.size:=hsb.box.lt;have kf:=hsb.box.at_ (i:=2) rfl;have kl:=hsb.box.at_ (i:=3) rfl;have fl:=hsb.box.fr 3;clear hfg hsb HSBo k0
 by_cases hla:a<at1.length
 ·obtain ⟨Ab,rfl⟩:∃ Ab:Nat,Aa=some ⟨Ab,0,none⟩:=HSB.a_some oMx;obtain ⟨hcl1,hcl2,hblt⟩:=HSB.attr hla;have HKD:=oH (HGA.out a hla);generalize hnm:at1[a].1=nm at *;generalize hkd:at1[a].2=kd at *;have HKE:=oH hkd;clear hnm hkd;obtain ⟨hk1,hk3⟩:=HKD.2;clear HKD;have HXS:=oH (XS.new HSB.out nm kd);clear HSB;go_upto_region 24 with (fail)
  go_cut [93] (fun v wc=>∃ bb:Bool,v = .bool bb/\IsK bb kd 2/\XS w wc b (w.heap.size+1) wa.heap.size (.slice (some ⟨Ab,0,none⟩) at1.length ca) vr (.slice Af fs.length cf) at1 rs fs lb nm kd)
  case first =>
   by_cases hkd:kd=2
   ·subst hkd
    by_cases hl0:lb<0
    ·go_wp2_with fail;refine (zCm b 2 _ HXS.sb.src oMx oMx).mono ?_;rintro e w2 ⟨r,rfl,hr,hs2,hg2⟩;have HX2:=oH (HXS.src_ hg2 hs2);clear hs2 hg2;go_wp2_with fail
     go_meet
     exact ⟨_,rfl,IsK.yes _,HX2.out⟩
    go_wp2_with fail
    go_meet
    exact ⟨false,rfl,IsK.no _ _,HXS.out⟩
   have hkd':(kd==2)=false:=by rw [beq_eq_false_iff_ne];exact hkd
   have HND:=oH hkd;clear hkd;go_wp2_with fail
   go_meet
   exact ⟨false,rfl,IsK.no _ _,HXS.out⟩
  case rest =>
   obtain ⟨bb,rfl,hbb,hx⟩:=hcut;have HX:=oH hx;have HBB:=oH hbb;have kl:=hx.sb.box.at_ (i:=3) rfl;have fl:=hx.sb.box.fr 3;have kx:=hx.box.at_ (i:=1) rfl;clear hx hbb HXS kf
   cases bb
   ·go_upto_region 26 with (fail)
    go_cut [109] (fun v wc=>∃ bb:Bool,v = .bool bb/\IsK bb kd 2/\XS w wc b (w.heap.size+1) wa.heap.size (.slice (some ⟨Ab,0,none⟩) at1.length ca) vr (.slice Af fs.length cf) at1 rs fs lb nm kd)
    case first =>
     by_cases hkd:kd=2
     ·subst hkd;go_wp2_with fail;refine (zCm b 4 _ HX.sb.src oMx oMx).mono ?_;rintro e w2 ⟨r,rfl,hr,hs2,hg2⟩;have HX2:=oH (HX.src_ hg2 hs2);clear hs2 hg2;go_wp2_with fail
      go_meet
      exact ⟨_,rfl,IsK.yes _,HX2.out⟩
     have hkd':(kd==2)=false:=by rw [beq_eq_false_iff_ne];exact hkd
     clear hkd;go_wp2_with fail
     go_meet
     exact ⟨false,rfl,IsK.no _ _,HX.out⟩
    case rest =>
     obtain ⟨bb,rfl,hbb,hx⟩:=hcut;have HX3:=oH hx;have HBB3:=oH hbb;have kf:=hx.sb.box.at_ (i:=2) rfl;have ff:=hx.sb.box.fr 2;have kx:=hx.box.at_ (i:=1) rfl;have sx:w.heap.size+1<wc.heap.size:=hx.sb.box.lt;clear hx hbb HX HBB
     cases bb
     ·go_upto_region 28 with (fail)
      go_cut [127] (fun v wc=>∃ bb:Bool,v = .bool bb/\IsK bb kd 3/\XS w wc b (w.heap.size+1) wa.heap.size (.slice (some ⟨Ab,0,none⟩) at1.length ca) vr (.slice Af fs.length cf) at1 rs fs lb nm kd)
      case first =>
       by_cases hkd:kd=3
       ·subst hkd;go_wp2_with fail;refine (zCm b 4 _ HX3.sb.src oMx oMx).mono ?_;rintro e w2 ⟨r,rfl,hr,hs2,hg2⟩;have HX2:=oH (HX3.src_ hg2 hs2);clear hs2 hg2;go_wp2_with fail
        go_meet
        exact ⟨_,rfl,IsK.yes _,HX2.out⟩
       have hkd':(kd==3)=false:=by rw [beq_eq_false_iff_ne];exact hkd
       clear hkd;go_wp2_with fail
       go_meet
       exact ⟨false,rfl,IsK.no _ _,HX3.out⟩
      case rest =>
       obtain ⟨bb,rfl,hbb,hx⟩:=hcut;have HX4:=oH hx;have HBB4:=oH hbb;have kf:=hx.sb.box.at_ (i:=2) rfl;have sx:w.heap.size+1<wc.heap.size:=hx.sb.box.lt;clear hx hbb HX3 HBB3 kx
       cases bb
       ·go_wp2_with fail;go_roundw
        ·exact ⟨a+1,_,fs,lb,by go_num,oMx,HFG.next hla,HX4.sb⟩
        simp [intOf];omega
       have HK3:=oH (HBB4.out rfl);clear HBB4
       go_wp2_with (at_builtin;refine wpList_append_own _ rfl _ _ 29 rfl (w.heap.size+1+1) 75 i3 _ 3 24 Tryz.underlying29 hi3 hzf0 hzf1 hzf2 rfl dCx _ _ _ rfl (HX4.alloc _).sb.f ⟨wc.heap.size,0,none⟩ 1 1 [_,_,_] rfl rfl (World.news_of_block (cs:=#[.int .i64 (a:Int),.int .i64 2,.int .i64 0]) (t:=75) (fr:=(0,0)) (heap_alloc_new wc _)) zXf (by unfold maxLen;omega) oMx (by simp;omega) ?_)
       intro v' w3 hown3 hgrow3 _
       obtain ⟨A5,c5,rfl, -⟩:=zRv hown3;have HB5:=oH ((HX4.alloc (.cells #[.int .i64 (a:Int),.int .i64 2,.int .i64 0] 75)).sb.box_f hgrow3);have k5:=HB5.at_ (i:=2) rfl;have f5:=HB5.fr 2;have HS6:=oH ((HX4.alloc (.cells #[.int .i64 (a:Int),.int .i64 2,.int .i64 0] 75)).sb.pushF (f:=⟨a,2,0⟩) hgrow3 hown3);clear hown3 hgrow3 HB5;go_wp2_with fail;go_roundw
       ·exact ⟨a+1,_,_,lb,by go_num,oMx,HFG.push hla (.inr ⟨rfl,by rw [HKE.out,HK3.out],rfl⟩),HS6.out⟩
       simp [intOf];omega
     have HK2:=oH (HBB3.out rfl);clear HBB3;go_wp2_with fail
     go_region_law
      (first
       | (refine step_append_lies _ (by rfl) _ _ _ (by rfl) (w.heap.size+1+1) 75 i3 _ 3 24 Tryz.underlying29 hi3 hzf0 hzf1 hzf2 rfl oMx (.slice Af fs.length cf) fs.length (fv fs) (by go_simp) (HXN.alloc (.cells #[.int .i64 (a:Int),.int .i64 1,.int .i64 (z:Int)] 75)).sb.f ⟨wN.heap.size,0,none⟩ 1 1 [.int .i64 (a:Int),.int .i64 1,.int .i64 (z:Int)] (by go_simp) rfl (World.news_of_block (cs:=#[.int .i64 (a:Int),.int .i64 1,.int .i64 (z:Int)]) (t:=75) (fr:=(0,0)) (heap_alloc_new wN _)) zXf oMx (by unfold maxLen;omega) oMx (by have:=HXN.sb.box.lt;simp;omega) _ rfl ?_;intro gg cap w5 hown5 hgrow5 hat5 hlt5;have HB5:=oH ((HXN.alloc (.cells #[.int .i64 (a:Int),.int .i64 1,.int .i64 (z:Int)] 75)).sb.box_f hgrow5);have k5:=HB5.at_ (i:=2) rfl;have f5:=HB5.fr 2;have HS6:=oH ((HXN.alloc (.cells #[.int .i64 (a:Int),.int .i64 1,.int .i64 (z:Int)] 75)).sb.pushF (f:=⟨a,1,(z:Int)⟩) hgrow5 hown5);clear hown5 hgrow5 hat5 hlt5 HB5)
       | (go_simp;go_at_call 22;(with_reducible refine (zCm b 2 _ (by first|exact HX3.out.sb.src|exact HX3.out.drew.sb.src) oMx oMx).mono ?_);rintro e wN ⟨z,rfl,hz,hs2,hg2⟩;have HXN:Hid (XS w wN b (w.heap.size+1) wa.heap.size (.slice (some ⟨Ab,0,none⟩) at1.length ca) vr (.slice Af fs.length cf) at1 rs fs lb nm kd):=oH (by first|exact HX3.out.src_ hg2 hs2|exact HX3.out.drew.src_ hg2 hs2);have kN:=HXN.out.sb.box.at_ (i:=2) rfl;have sN:w.heap.size+1<wN.heap.size:=HXN.out.sb.box.lt;clear hs2 hg2))
     all_goals
      go_wp2_with fail;go_roundw
      ·exact ⟨a+1,_,_,lb,by go_num,oMx,HFG.push hla (.inl ⟨rfl,by rw [HKE.out,HK2.out],oMx⟩),HS6.out⟩
      simp [intOf];omega
   have HK2:=oH (HBB.out rfl);have HL:=oH (HX.sb.label (a:Int));clear HBB;go_wp2_with fail;go_roundw
   ·exact ⟨a+1,_,fs,(a:Int),by go_num,oMx,HFG.label hla (by rw [HKE.out,HK2.out]),HL.out⟩
   simp [intOf];omega
 obtain rfl:a=at1.length:=by omega
 obtain ⟨Ar,cr,rfl,hcr⟩:=zRv HSB.r;obtain ⟨e0,e1,e2,e3,hres⟩:=HSB.res;have r0:=hres.at_ (i:=0) rfl;have r1:=hres.at_ (i:=1) rfl;have r2:=hres.at_ (i:=2) rfl;have r3:=hres.at_ (i:=3) rfl;have y0:=hres.fr 0;have y1:=hres.fr 1;have y2:=hres.fr 2;have y3:=hres.fr 3;have ka:=HSB.box.at_ (i:=0) rfl;have kr:=HSB.box.at_ (i:=1) rfl;have HRES:=oH hres;clear hres
 have h8:decide ((8:Int)<(fs.length:Int))=false:=by simp;omega
 have sw:w.heap.size<wa.heap.size:=by omega
 go_wp2_with fail;have hR:=(((HRES.set 0 (.slice Aa at1.length ca)).set 1 (.slice Ar rs.length cr)).set 2 (.slice Af fs.length cf)).set 3 (.int .i64 lb);have q0:=hR.at_ (i:=0) rfl;have q1:=hR.at_ (i:=1) rfl;have q2:=hR.at_ (i:=2) rfl;have q3:=hR.at_ (i:=3) rfl;have hS:=((((HSB.setres 0 (.slice Aa at1.length ca)).setres 1 (.slice Ar rs.length cr)).setres 2 (.slice Af fs.length cf)).setres 3 (.int .i64 lb));refine bodyPost_ret (v := .agg #[.slice Aa at1.length ca,.slice Ar rs.length cr,.slice Af fs.length cf,.int .i64 lb]) (by simp [results,Tryz.results12,go_sem,q0,q1,q2,q3]) rfl ⟨⟨at1,Aa,ca,rs,Ar,cr,fs,Af,cf,lb⟩,rfl,good_ok HGA.out HGR.out HFG.out (HAT1.out oMx) (show at1.length<=8 by omega) (show 1<=rs.length by have:=HIR.out;omega) (show rs.length<=3 by have:=HIR.out;omega) hcf,hat,(show rs.length<=3 by have:=HIR.out;omega),HGA.out,HGR.out,hS.inmem,hS.src,hS.gr,fun w'' hg hs'=>(hS.src_ hg hs').inmem⟩
end Go.Proofs.YtafflnognagadaaGreatDoor
