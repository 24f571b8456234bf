import Derived.Test.YtbjaplppalcmgaaGreatDoorZOX
set_option maxHeartbeats 16000000
set_option maxRecDepth 100000
set_option linter.unusedVariables false
set_option linter.unusedSimpArgs false
set_option linter.unusedSectionVars false
namespace Go.Proofs.YtbjaplppalcmgaaGreatDoor
open Go.RowKit
attribute [local go_sem] zNb zNa
theorem sqE_nil:sqE []=0:=by
 unfold sqE;rw [zZp]
 rfl
theorem zRe (w:World) (A:oAx):zCj w A []:=⟨zHh.nil _ _,fun r hr=>by cases hr⟩
theorem sht_nil:Sht []:=⟨dCx,fun r hr=>(by cases hr),fun r hr=>(by cases hr)⟩
theorem PSq_0 (A:oAx) (c:Nat) (w:World) (henv:Env w):Calls Tryz.prog 30 #[.slice A 0 c] w fun e w'=>e = .returned (.int .i64 0)/\Below w.heap.size w w':=by
 have:=PSq (c:=c) (zRe w A) sht_nil henv;rw [sqE_nil] at this;exact this
theorem zCy (A:oAx) (c:Nat) (w:World):Calls Tryz.prog 35 #[.slice A 0 c,.int .i64 0] w fun e w'=>∃ (R:oAx) (cR:Nat) (v:zCq),e = .returned (.agg #[.slice R 0 cR,.slice none 0 0,.bool v.nb,.slice v.ad v.l v.c,.bool false])/\zBs w' v.val 1/\Below w.heap.size w w':=zCz A c 0 w (.inl rfl) dCx
theorem POf_0 (A:oAx) (c:Nat) (w:World) (henv:Env w):Calls Tryz.prog 34 #[.slice A 0 c] w fun e w'=>∃ (R:oAx) (cR:Nat) (dv:zCq),e = .returned (.agg #[.bool dv.nb,.slice dv.ad dv.l dv.c,.slice R 0 cR])/\zBs w' dv.val 1/\Below w.heap.size w w' :=
 (POf_z A c 0 w (.inl rfl) dCx henv).mono fun e w' ⟨R,cR,dv,h1,h2,_,h4⟩=>⟨R,cR,dv,h1,h2,h4⟩
theorem zCv (A:oAx) (c:Nat) (w:World) (henv:Env w):Calls Tryz.prog 32 #[.slice A 0 c] w fun e w'=>e = .returned (.bool false)/\Below w.heap.size w w':=zCw A c 0 w (.inl rfl) dCx henv
theorem PTexts_0 (A:oAx) (c:Nat) (w:World) (henv:Env w):Calls Tryz.prog 38 #[.slice A 0 c] w (zAu [] 0 w) :=
 (zHc A [] [] c w (fun i h=>absurd h (Nat.not_lt_zero i)) ⟨rfl,fun i h=>absurd h (Nat.not_lt_zero i)⟩ dCx (fun q hq=>by cases hq) henv).mono fun e w' h=>by
  rcases h with ⟨A',c', -,h2, -,h4⟩|⟨⟨q,hq, -⟩, -⟩
  ·exact ⟨A',c',h2,zGx.nil _ _,h4⟩
  cases hq
theorem PSol_z (A Ab:oAx) (c cb:Nat) (w:World) (henv:Env w):Calls Tryz.prog 13 #[.slice A 0 c,.slice Ab 0 cb] w (zAu [] 0 w):=by
 go_enter Tryz.func13,Tryz.ntmps13
 go_wp2_with fail;refine (PSq_0 A c w henv).mono ?_;rintro e w1 ⟨rfl,hb1⟩;have HE:=oH henv;have HB1:=oH hb1;clear hb1 henv;have HNB:=zTc Ab [] cb w1 (zGx.nil _ _) dCx (fun s hs=>by cases hs) (HE.below HB1.out);replace HNB:=oH HNB;go_wp2_with fail;refine HNB.mono ?_;rintro e w2 ⟨rfl,hb2⟩;have HB2:=bTx2 HB1 hb2;clear hb2;simp only [List.all_nil];go_wp2_with fail;refine (zCv A c w2 (HE.below HB2.out)).mono ?_;rintro e w3 ⟨rfl,hb3⟩;have HB3:=bTx2 HB2 hb3;have HC:=oH (fun W=>zAf Ab [] cb W (zGx.nil _ _) dCx);clear hb3;go_wp2_with fail;refine (HC.out w3).mono ?_;rintro e w4 ⟨v4,rs4,rfl,hmap4,hmo4,hb4⟩;have HB4:=bTx2 HB3 hb4
 obtain rfl:rs4=[]:=by simpa using hmap4
 obtain ⟨A4,c4,rfl, -⟩:=zUj hmo4.o;simp only [List.length_nil];clear hmap4 hmo4 hb4;go_wp2_with fail;refine (zCv A4 c4 w4 (HE.below HB4.out)).mono ?_;rintro e w5 ⟨rfl,hb5⟩;have HB5:=bTx2 HB4 hb5;clear hb5;go_wp2_with fail;refine (POf_0 A c w5 (HE.below HB5.out)).mono ?_;rintro e w6 ⟨R,cR,dv,rfl, -,hb6⟩;have HB6:=bTx2 HB5 hb6;clear hb6;go_wp2_with fail;refine (HC.out w6).mono ?_;rintro e w7 ⟨v7,rs7,rfl,hmap7,hmo7,hb7⟩;have HB7:=bTx2 HB6 hb7
 obtain rfl:rs7=[]:=by simpa using hmap7
 obtain ⟨A7,c7,rfl, -⟩:=zUj hmo7.o;simp only [List.length_nil];clear hmap7 hmo7 hb7;go_wp2_with fail;refine (POf_0 A7 c7 w7 (HE.below HB7.out)).mono ?_;rintro e w8 ⟨R8,cR8,dv8,rfl, -,hb8⟩;have HB8:=bTx2 HB7 hb8;clear hb8;go_upto_region 11 with (fail);have hbW:Below w8.heap.size w8 ((w8.alloc (.cells #[.bool dv.nb,.slice dv.ad dv.l dv.c,.slice R 0 cR] 65)).alloc (.cells #[.bool dv8.nb,.slice dv8.ad dv8.l dv8.c,.slice R8 0 cR8] 65)):=(bA).alloc sMx _;have HBW:=bTx2 HB8 hbW;have HX:=oH ((Blk.new w8 65 [.bool dv.nb,.slice dv.ad dv.l dv.c,.slice R 0 cR]).alloc (.cells #[.bool dv8.nb,.slice dv8.ad dv8.l dv8.c,.slice R8 0 cR8] 65));clear hbW;generalize ((w8.alloc (.cells #[.bool dv.nb,.slice dv.ad dv.l dv.c,.slice R 0 cR] 65)).alloc (.cells #[.bool dv8.nb,.slice dv8.ad dv8.l dv8.c,.slice R8 0 cR8] 65))=W0 at *;generalize w8.heap.size=x at *;have x2:=HX.at_ (i:=2) rfl;go_wp2_with fail
 go_loopw [45] (fun iv wr=>iv = .int .i64 (0:Int)/\W0=wr) (fun _ _=>0)
 ·exact ⟨rfl,rfl⟩
 obtain ⟨rfl,rfl⟩:=hrel;go_wp2_with fail;refine (zCy R cR W0).mono ?_;rintro e w9 ⟨R9,c9,v,rfl, -,hb9⟩;have HB9:=bTx2 HBW hb9;clear hb9 x2;have hb10:Below w9.heap.size w9 (w9.alloc (.cells #[.slice R9 0 c9,.slice none 0 0,.bool v.nb,.slice v.ad v.l v.c,.bool false] 69)):=bA;have HB10:=bTx2 HB9 hb10;have HT10:=oH (Blk.new w9 69 [.slice R9 0 c9,.slice none 0 0,.bool v.nb,.slice v.ad v.l v.c,.bool false]);clear hb10;go_upto_region 17 with (fail);generalize w9.alloc (.cells #[.slice R9 0 c9,.slice none 0 0,.bool v.nb,.slice v.ad v.l v.c,.bool false] 69)=W at *;generalize w9.heap.size=y at *;have y0:=HT10.at_ (i:=0) rfl;have y1:=HT10.at_ (i:=1) rfl;go_wp2_with fail
 go_loopw [11,81] (fun v iv wr=>v = .slice none 0 0/\iv = .int .i64 (0:Int)/\W=wr) (fun _ _ _=>0)
 ·exact ⟨rfl,rfl,rfl⟩
 obtain ⟨rfl,rfl,rfl⟩:=hrel;go_wp2_with fail;refine (PTexts_0 none 0 W (HE.below HB10.out)).mono ?_;rintro e w11 ⟨A11,c11,rfl, -,hb11⟩;have HB11:=bTx2 HB10 hb11;simp only [List.length_nil];clear hb11;go_wp2_with fail;go_ret2
 exact ⟨A11,c11,rfl,zGx.nil _ _,HB11.out⟩
theorem PInv_z (A:oAx) (c:Nat) (w:World) (henv:Env w):Calls Tryz.prog 16 #[.slice A 0 c] w (zAt [] 0 w):=by
 have hb0:Below w.heap.size w (w.alloc (.cells #[.slice A 0 c] 24)):=bA;have HB0:=oH hb0;have HK0:=oH (Blk.new w 24 [.slice A 0 c]);have HE:=oH henv;clear hb0 henv
 go_enter Tryz.func16,Tryz.ntmps16
 go_upto_region 1 with (fail);generalize w.alloc (.cells #[.slice A 0 c] 24)=wa at *;obtain ⟨ab,hab⟩:=eXx (w.heap.size);have HAB:=oH hab;rw [hab] at HK0 ⊢;clear hab;have a0:=HK0.at_ (i:=0) rfl;go_wp2_with fail;refine (PSq_0 A c wa (HE.below HB0.out)).mono ?_;rintro e w1 ⟨rfl,hb1⟩;have HB1:=bTx2 HB0 hb1;replace HK0:=oH (HK0.below hb1);clear hb1 a0;have a0:=HK0.at_ (i:=0) rfl;go_wp2_with fail;refine (zCv A c w1 (HE.below HB1.out)).mono ?_;rintro e w3 ⟨rfl,hb3⟩;have HB3:=bTx2 HB1 hb3;replace HK0:=oH (HK0.below hb3);clear hb3 a0;have a0:=HK0.at_ (i:=0) rfl;go_wp2_with fail;refine (POf_0 A c w3 (HE.below HB3.out)).mono ?_;rintro e w6 ⟨R,cR,dv,rfl, -,hb6⟩;have HB6:=bTx2 HB3 hb6;have hb7:Below w6.heap.size w6 (w6.alloc (.cells #[.bool dv.nb,.slice dv.ad dv.l dv.c,.slice R 0 cR] 65)):=bA;replace HK0:=oH ((HK0.below hb6).below hb7);have HX:=oH (Blk.new w6 65 [.bool dv.nb,.slice dv.ad dv.l dv.c,.slice R 0 cR])
 have HB7:=bTx2 HB6 hb7;clear hb6 hb7 a0;go_upto_region 7 with (fail);generalize w6.alloc (.cells #[.bool dv.nb,.slice dv.ad dv.l dv.c,.slice R 0 cR] 65)=W0 at *;generalize w6.heap.size=x at *;have a0:=HK0.at_ (i:=0) rfl;have x2:=HX.at_ (i:=2) rfl;go_wp2_with fail
 go_loopw [22] (fun iv wr=>iv = .int .i64 (0:Int)/\W0=wr) (fun _ _=>0)
 ·exact ⟨rfl,rfl⟩
 obtain ⟨rfl,rfl⟩:=hrel;go_wp2_with fail;refine (zCy R cR W0).mono ?_;rintro e w9 ⟨R9,c9,v,rfl, -,hb9⟩;have HB9:=bTx2 HB7 hb9;have hb10:Below w9.heap.size w9 (w9.alloc (.cells #[.slice R9 0 c9,.slice none 0 0,.bool v.nb,.slice v.ad v.l v.c,.bool false] 69)):=bA;have HB10:=bTx2 HB9 hb10;have HT10:=oH (Blk.new w9 69 [.slice R9 0 c9,.slice none 0 0,.bool v.nb,.slice v.ad v.l v.c,.bool false]);replace HK0:=oH ((HK0.below hb9).below hb10);clear hb10 hb9 x2 a0;go_upto_region 20 with (fail);generalize w9.alloc (.cells #[.slice R9 0 c9,.slice none 0 0,.bool v.nb,.slice v.ad v.l v.c,.bool false] 69)=W at *;generalize w9.heap.size=y at *;have y1:=HT10.at_ (i:=1) rfl;have a0:=HK0.at_ (i:=0) rfl;have HBU:=oH (zAd y ab x 0 0 (fun _ _=>0) W dCx dCx (fun i k hi=>absurd hi (Nat.not_lt_zero i)) (HE.below HB10.out) (fun W' _ i k hi=>absurd hi (Nat.not_lt_zero i)));go_wp2_with fail;refine HBU.mono ?_;rintro e w11 (⟨A11,c11,rs11,rfl,hmf,ht,hb11⟩|⟨⟨i,k,hi, -⟩, -⟩)
 ·have HB11:=bTx2 HB10 hb11;obtain rfl:rs11=[]:=List.eq_nil_of_length_eq_zero hmf.len;clear hmf ht hb11;go_wp2_with fail;go_ret2
  exact ⟨A11,c11,[],rfl,zRe _ _,rfl,HB11.out⟩
 exact absurd hi (Nat.not_lt_zero i)
theorem PDet_z (A:oAx) (c:Nat) (w:World) (henv:Env w):Calls Tryz.prog 18 #[.slice A 0 c] w fun e w'=>e = .returned (.tuple #[.string ⟨#[49]⟩,.int .i64 0])/\Below w.heap.size w w':=by
 have H1:=oH (show zUa (Rat.divInt 1 1)=⟨#[49]⟩/\zUb (Rat.divInt 1 1)=0 from by
  have e:Rat.divInt 1 1=((1:Int):Rat):=by rw [Rat.divInt_eq_div];first|grind|simp
  rw [e];have hf:zBd ((1:Int):Rat):=xAa (z:=1) dCx;rw [zUe hf,zUc hf]
  exact ⟨zXm,rfl⟩)
 go_enter Tryz.func18,Tryz.ntmps18
 go_wp2_with fail;refine (PSq_0 A c w henv).mono ?_;rintro e w1 ⟨rfl,hb1⟩;have HE:=oH henv;have HB1:=oH hb1;clear hb1 henv;go_wp2_with fail;refine (zCv A c w1 (HE.below HB1.out)).mono ?_;rintro e w2 ⟨rfl,hb2⟩;have HB2:=bTx2 HB1 hb2;clear hb2;go_wp2_with fail;refine (POf_0 A c w2 (HE.below HB2.out)).mono ?_;rintro e w3 ⟨R,cR,dv,rfl, -,hb3⟩;have HB3:=bTx2 HB2 hb3;have HB5:=oH (HB3.alloc HB3.size (.cells #[.bool dv.nb,.slice dv.ad dv.l dv.c,.slice R 0 cR] 65));clear hb3;go_wp2_with fail;refine (zCy R cR _).mono ?_;rintro e w4 ⟨R4,cR4,v,rfl,hv4,hb4⟩;have HB4:=bTx2 HB5 hb4;have hb6:Below w4.heap.size w4 (w4.alloc (.cells #[.slice R4 0 cR4,.slice none 0 0,.bool v.nb,.slice v.ad v.l v.c,.bool false] 69)):=bA;have HB6:=bTx2 HB4 hb6;have HT6:=oH (Blk.new w4 69 [.slice R4 0 cR4,.slice none 0 0,.bool v.nb,.slice v.ad v.l v.c,.bool false]);have HV6:=oH (hv4.below hb6);clear hb4 hb6 hv4 HB5;go_upto_region 8 with (fail)
 generalize (w4.alloc (.cells #[.slice R4 0 cR4,.slice none 0 0,.bool v.nb,.slice v.ad v.l v.c,.bool false] 69))=W at *;generalize w4.heap.size=y at *;have k1:=HT6.at_ (i:=1) rfl;go_upto_region 10 with (fail);clear k1;have k2:=HT6.at_ (i:=2) rfl;have k3:=HT6.at_ (i:=3) rfl;have hyW:=HT6.lt;have KB:=oH (fun W' (hW:Below W.heap.size W W')=>(show W'.cell? ⟨y,2,none⟩=some (.bool v.nb)/\W'.cell? ⟨y,3,none⟩=some (.slice v.ad v.l v.c) from ⟨kP hW k2,kP hW k3⟩))
 go_cut [7,8] (fun p7 p8 wc=>∃ (g7 g8:Nat) (u:zCq),p7 = .pointer (some ⟨g7,0,none⟩)/\p8 = .pointer (some ⟨g8,0,none⟩)/\zHg wc g7 g8 v u/\zBs wc u.val 1/\W.heap.size<=g7/\W.heap.size<=g8/\Below W.heap.size W wc)
 case first =>
  have KS0:Hid (W.drew.cell? ⟨y,2,none⟩=some (.bool v.nb)/\W.drew.cell? ⟨y,3,none⟩=some (.slice v.ad v.l v.c)):=oH ⟨k2,k3⟩
  have nx00:¬(y=W.heap.size):=oMx;have nx01:¬(W.heap.size=y):=oMx;have nx02:¬(y=W.heap.size+1):=oMx;have nx03:¬(W.heap.size+1=y):=oMx;skip
  have ng0:=World.new_ne W ⟨y,2,none⟩ k2
  go_region_held3 (fun w'=>w'.cell? ⟨y,2,none⟩=some (.bool v.nb)/\w'.cell? ⟨y,3,none⟩=some (.slice v.ad v.l v.c)) (first|with_reducible exact KS0.out|with_reducible exact KS5.out|(with_reducible refine zYs ?_ _;assumption)|go_keep) (first|(go_at_call 47;(with_reducible refine (zCb _).mono ?_);rintro e w5 ⟨v5,rfl,hv,hb⟩;have HV5:=oH hv;have hbw:Below W.heap.size W w5:=Below.trans (by first|with_reducible exact bRx|with_reducible exact bRx.drew|with_reducible exact bA|with_reducible exact (bA).alloc sMx _|with_reducible exact bA.drew|with_reducible exact ((bA).alloc sMx _).drew) (hb.mono leH);have HW5:=oH hbw;have KS5:=oH (KB.out w5 hbw);have sz5:=hbw.size;(first|(have za1:=((Blk.new W 62 [.bool false,.slice none 0 0]).alloc (.cells #[.bool false,.slice none 0 0] 62)).below (Below.trans bRd (hb.mono leH));have zb1:=(Blk.new' (w:=W.alloc (.cells #[.bool false,.slice none 0 0] 62)) (g:=W.heap.size+1) sMx 62 [.bool false,.slice none 0 0]).below (Below.trans bRd (hb.mono leH));have za10:=za1.at_ (i:=0) rfl;have za11:=za1.at_ (i:=1) rfl;have zb10:=zb1.at_ (i:=0) rfl;have zb11:=zb1.at_ (i:=1) rfl;have ya10:=za1.fr 0;have ya11:=za1.fr 1;have yb10:=zb1.fr 0;have yb11:=zb1.fr 1;have sa1:=za1.lt;have sb1:=zb1.lt;have ZA1:=oH za1;have ZB1:=oH zb1;clear za1 zb1)|(have za1:=(Blk.new W 62 [.bool false,.slice none 0 0]).below (Below.trans bRd (hb.mono leH));have za10:=za1.at_ (i:=0) rfl;have za11:=za1.at_ (i:=1) rfl;have ya10:=za1.fr 0;have ya11:=za1.fr 1;have sa1:=za1.lt;have ZA1:=oH za1;clear za1)|skip);obtain ⟨x2,X2,y2,z2,rfl⟩:=hv.slice;obtain ⟨q0,q1⟩:=KB.out w5 hbw;have nx50:¬(y=w5.heap.size):=oMx;have nx51:¬(w5.heap.size=y):=oMx;have nx52:¬(y=w5.heap.size+1):=oMx;have nx53:¬(w5.heap.size+1=y):=oMx;clear hv hb hbw))
  all_goals go_wp2_with fail
  all_goals go_meet
  all_goals
   have hz5:=HW5.size;refine xDp (w2:=w5) (v:=v) (u:=⟨x2,X2,y2,z2⟩) ?_ ⟨by go_simp,by go_simp,by go_simp,by go_simp,by go_simp,by go_simp,by go_simp,by go_simp,oMx⟩ HV5.out HW5.out oMx oMx
   repeat' first
    | with_reducible exact Kp.refl _ _
    | (with_reducible refine Kp.set ?_ oMx (by first|exact .inl oMx|with_reducible exact .inr ZA1.out|with_reducible exact .inr ZB1.out) _ _)
    | (with_reducible refine Kp.alloc ?_ oMx _)
    | (with_reducible refine Kp.drew ?_)
 case rest =>
  obtain ⟨g7,g8,u0,rfl,rfl,htb,hu,hg7,hg8,hbc⟩:=hcut;have HTB:=oH htb;have HU:=oH (show zBs wc (.agg #[.bool u0.nb,.slice u0.ad u0.l u0.c]) 1 from hu);have HBC:=bTx2 HB6 hbc;have HVr:=oH (show zBs wc (.agg #[.bool v.nb,.slice v.ad v.l v.c]) 1 from HV6.below hbc);have HT6c:=oH (HT6.below hbc);clear htb hu hbc k2 k3;go_wp2_with fail
  go_loopw [34] (fun iv wr=>iv = .int .i64 (0:Int)/\wc=wr) (fun _ _=>0)
  ·exact ⟨rfl,rfl⟩
  obtain ⟨rfl,rfl⟩:=hrel;have a0:=HTB.a0;have a1:=HTB.a1;have b0:=HTB.b0;have b1:=HTB.b1;have k4:=HT6c.at_ (i:=4) rfl;have h1:(limbs (1:Int).natAbs).length<=70:=zBz;go_wp2_with fail;refine (zCp _ _ 1 1 _ HVr.out HU.out oMx oMx dCx).mono ?_;rintro e wf ⟨vf,rfl,hvf,hbf⟩;have HFF:=zAw vf _ wf hvf (Sz.divInt dCx (Nat.le_trans h1 dCx) (Nat.le_trans h1 dCx)) (HE.below (HBC.trans (hbf.mono HBC.size)));rw [H1.1,H1.2] at HFF;replace HFF:=oH HFF;have HBg:=bTx2 HBC hbf;obtain ⟨fa,fb,FA,FA',fl,fc,fl',fc',rfl⟩:=hvf.slice;clear hvf hbf;go_wp2_with fail;refine HFF.mono ?_;rintro e wg ⟨rfl,hbg⟩;have HBh:=bTx2 HBg hbg;clear hbg;go_wp2_with fail;go_ret2
  exact ⟨rfl,HBh.out⟩
theorem PRank_z {rs:List zGh} (A:oAx) (c:Nat) (w:World) (h:zCj w A rs) (hs:Sht rs) (hsh:(zZm rs).2.2=0) (h0:zJr rs=0) (henv:Env w):Calls Tryz.prog 20 #[.slice A rs.length c] w fun e w'=>e = .returned (.tuple #[.int .i64 0,.int .i64 0])/\Below w.heap.size w w':=by
 have hg:=zZo hsh;have HB0:=oH ((Below.refl w.heap.size w).alloc lRx (.cells #[.slice A rs.length c] 24));have HBG:=zCt A rs c w.heap.size (w.alloc (.cells #[.slice A rs.length c] 24)) (h.below HB0.out) hs.l1.1 hs.l1.2.1 hs.l1.2.2 ((Blk.new w 24 [.slice A rs.length c]).at_ (i:=0) rfl) (henv.below HB0.out);rw [hsh] at HBG;replace HBG:=oH HBG
 have HWD:=oH (fun W (hW:Below w.heap.size w W)=>(show Calls Tryz.prog 56 #[.slice A rs.length c] W fun e w'=>e = .returned (.int .i64 0)/\Below W.heap.size W w' by
  have:=zDc A rs c W (h.below hW) hs.l1.1 hs.l1.2.1 hs.l1.2.2 (henv.below hW);rw [hg.1] at this;simp only [h0] at this
  exact this))
 have HM:=oH (zMv h (fun r hr=>(hg.2.1.row r hr).trans h0));have hm:=hs.m;have HE:=oH henv;clear hg h hs hsh h0 henv;generalize rs.length=m at *;have HHV:=oH (fun W (hW:Below w.heap.size w W)=>zCw A c m W (HM.below hW) oMx (HE.below hW));have HOF:=oH (fun W (hW:Below w.heap.size w W)=>POf_z A c m W (HM.below hW) oMx (HE.below hW))
 go_enter Tryz.func20,Tryz.ntmps20
 go_wp2_with fail;refine HBG.mono ?_;rintro e w1 ⟨rfl,hb1⟩;have HB1:=bTx2 HB0 hb1;clear hb1;go_wp2_with fail;refine (HHV.out w1 HB1.out).mono ?_;rintro e w2 ⟨rfl,hb2⟩;have HB2:=bTx2 HB1 hb2;clear hb2;go_wp2_with fail;refine (HOF.out w2 HB2.out).mono ?_;rintro e w3 ⟨R,cR,dv,rfl, -,hR,hb3⟩;have HB3:=bTx2 HB2 hb3;have HR:=oH hR;clear hb3 hR;go_wp2_with fail;refine (HWD.out w3 HB3.out).mono ?_;rintro e w4 ⟨rfl,hb4⟩;have HB4:=bTx2 HB3 hb4;have HR4:=oH (HR.below hb4);clear hb4;go_wp2_with fail;refine (zCz R cR m w4 HR4.out oMx).mono ?_;rintro e w5 ⟨R5,c5,v,rfl, -,hb5⟩;have HB5:=bTx2 HB4 hb5;clear hb5;go_wp2_with fail;go_ret2
 exact ⟨rfl,HB5.out⟩
theorem PKer_z {rs:List zGh} (A:oAx) (c:Nat) (w:World) (h:zCj w A rs) (hs:Sht rs) (hsh:(zZm rs).2.2=0) (h0:zJr rs=0) (henv:Env w):Calls Tryz.prog 22 #[.slice A rs.length c] w (zAu [] 12 w):=by
 have hg:=zZo hsh;have HB0:=oH ((Below.refl w.heap.size w).alloc lRx (.cells #[.slice A rs.length c] 24));have HBG:=zCt A rs c w.heap.size (w.alloc (.cells #[.slice A rs.length c] 24)) (h.below HB0.out) hs.l1.1 hs.l1.2.1 hs.l1.2.2 ((Blk.new w 24 [.slice A rs.length c]).at_ (i:=0) rfl) (henv.below HB0.out);rw [hsh] at HBG;replace HBG:=oH HBG
 have HWD:=oH (fun W (hW:Below w.heap.size w W)=>(show Calls Tryz.prog 56 #[.slice A rs.length c] W fun e w'=>e = .returned (.int .i64 0)/\Below W.heap.size W w' by
  have:=zDc A rs c W (h.below hW) hs.l1.1 hs.l1.2.1 hs.l1.2.2 (henv.below hW);rw [hg.1] at this;simp only [h0] at this
  exact this))
 have HM:=oH (zMv h (fun r hr=>(hg.2.1.row r hr).trans h0));have hm:=hs.m;have HE:=oH henv;clear hg h hs hsh h0 henv;generalize rs.length=m at *;have HHV:=oH (fun W (hW:Below w.heap.size w W)=>zCw A c m W (HM.below hW) oMx (HE.below hW));have HOF:=oH (fun W (hW:Below w.heap.size w W)=>POf_z A c m W (HM.below hW) oMx (HE.below hW))
 go_enter Tryz.func22,Tryz.ntmps22
 go_wp2_with fail;refine HBG.mono ?_;rintro e w1 ⟨rfl,hb1⟩;have HB1:=bTx2 HB0 hb1;clear hb1;go_wp2_with fail;refine (HHV.out w1 HB1.out).mono ?_;rintro e w2 ⟨rfl,hb2⟩;have HB2:=bTx2 HB1 hb2;clear hb2;go_wp2_with fail;refine (HWD.out w2 HB2.out).mono ?_;rintro e w4 ⟨rfl,hb4⟩;have HB4:=bTx2 HB2 hb4;clear hb4;go_wp2_with fail;refine (HOF.out w4 HB4.out).mono ?_;rintro e w3 ⟨R,cR,dv,rfl, -,hR,hb3⟩;have HB3:=bTx2 HB4 hb3;have HR:=oH hR;clear hb3 hR;go_wp2_with fail;refine (zCz R cR m w3 HR.out oMx).mono ?_;rintro e w5 ⟨R5,c5,v,rfl, -,hb5⟩;have HB5:=bTx2 HB3 hb5;clear hb5;have HB6:=oH (HB5.alloc HB5.size (.cells #[.slice R5 m c5,.slice none 0 0,.bool v.nb,.slice v.ad v.l v.c,.bool false] 69));go_wp2_with fail;go_ret2
 exact zAu.err ⟨rfl,HB6.out⟩
end Go.Proofs.YtbjaplppalcmgaaGreatDoor
namespace Go.Proofs.YtbjaplppalcmgaaGreatDoor
open Go.RowKit
section
variable {rs:List zGh} {ss:List ByteArray} {A Ab:oAx} {c cb:Nat} {w w':World} {e:Ending}
theorem sq_good (h:sqE rs=0):(zZm rs).2.2=0/\rs.length=zJr rs:=by
 unfold sqE at h
 by_cases h1:(zZm rs).2.2=0
 ·rw [if_pos h1] at h;refine ⟨h1,?_⟩;rw [(zZo h1).1] at h
  by_cases h2:rs.length=zJr rs
  ·exact h2
  rw [if_neg h2] at h;exact absurd h dCx
 rw [if_neg h1] at h;exact absurd h h1
theorem xAn (h:sqE rs=0):zCi rs rs.length rs.length (zRi rs):=by
 obtain ⟨h1,h2⟩:=sq_good h;have:=(zZo h1).2.1;rw [<-h2] at this;exact this
theorem zGv.toW (h1:sqE rs=0) (h2:ss.length=rs.length) (h3:ss.all vR=true) (h4:rs≠[]) (h:zGv rs.length (zRi rs) (xFj ss) w e w'):∃ ts er,zHo rs ss ts er/\zAu ts er w e w':=by
 rcases h with ⟨hH,h5⟩|⟨hH,r,hr,⟨hl,h5⟩|⟨hl,x,hx,h5⟩⟩
 ·exact ⟨[],3,.inr (.inr (.inr (.inr ⟨h1,h2,h3,h4,.inl ⟨hH,rfl,rfl⟩⟩))),zAu.err h5⟩
 ·exact ⟨[],6,.inr (.inr (.inr (.inr ⟨h1,h2,h3,h4,.inr ⟨hH,r,hr,.inl ⟨hl,rfl,rfl⟩⟩⟩))),zAu.err h5⟩
 obtain ⟨ts,er,h6,h7⟩:=h5.endT;exact ⟨ts,er,.inr (.inr (.inr (.inr ⟨h1,h2,h3,h4,.inr ⟨hH,r,hr,.inr ⟨hl,x,hx,h6⟩⟩⟩))),h7⟩
theorem zRo {n:Nat} {X:mRx} {rs':List zGh} (h:zCi rs' n n X):rs'.map (·.ss)=(List.range n).map fun i=>(List.range n).map fun k=>zXl (X i k):=by
 refine List.ext_getElem (by rw [List.length_map,List.length_map,List.length_range];exact h.len) fun i h1 h2=>?_
 have hi:i<rs'.length:=by simpa using h1
 rw [List.getElem_map,List.getElem_map,List.getElem_range]
 refine List.ext_getElem (by have:=h.rowAt hi;simpa using this) fun k h3 h4=>?_
 rw [List.getElem_map,List.getElem_range,h.cel i k hi h3]
theorem zGs.toW (h1:sqE rs=0) (h4:rs≠[]) (h:zGs rs.length (zRi rs) w e w'):∃ ts er,zHl rs ts er/\zAt ts er w e w':=by
 rcases h with ⟨hH,h5⟩|⟨hH,r,hr,⟨hl,h5⟩|⟨hl,X,hX,⟨A',c',h5,⟨rs',h6,h7⟩,h8⟩|⟨h5,h6⟩⟩⟩
 ·exact ⟨[],3,.inr (.inr ⟨h1,h4,.inl ⟨hH,rfl,rfl⟩⟩),zAt.err h5⟩
 ·exact ⟨[],6,.inr (.inr ⟨h1,h4,.inr ⟨hH,r,hr,.inl ⟨hl,rfl,rfl⟩⟩⟩),zAt.err h5⟩
 ·exact ⟨_,0,.inr (.inr ⟨h1,h4,.inr ⟨hH,r,hr,.inr ⟨hl,X,hX,.inl ⟨h7.fit,rfl,rfl⟩⟩⟩⟩),A',c',rs',by rw [h7.len];exact h5,h6,zRo h7,h8⟩
 exact ⟨[],3,.inr (.inr ⟨h1,h4,.inr ⟨hH,r,hr,.inr ⟨hl,X,hX,.inr ⟨h5,rfl,rfl⟩⟩⟩⟩),zAt.err h6⟩
theorem P_sol (h:zCj w A rs) (hs:Sht rs) (hv:zGx w Ab ss) (hss:zGk ss) (henv:Env w):Calls Tryz.prog 13 #[.slice A rs.length c,.slice Ab ss.length cb] w fun e w'=>∃ ts er,zHo rs ss ts er/\zAu ts er w e w':=by
 by_cases hbad:sqE rs≠0\/ss.length≠rs.length\/ss.all vR=false
 ·exact PSol_bad h hs hv (Nat.le_trans hss.1 dCx) (fun s hm=>Nat.le_trans (hss.2 s hm) dCx) henv hbad
 have h1:sqE rs=0:=Classical.byContradiction fun h=>hbad (.inl h)
 have h2:ss.length=rs.length:=Classical.byContradiction fun h=>hbad (.inr (.inl h))
 have h3:ss.all vR=true:=by
  rcases hb:ss.all vR with _|_
  ·exact absurd (.inr (.inr hb)) hbad
  rfl
 by_cases h0:rs=[]
 ·subst h0;obtain rfl:ss=[]:=List.eq_nil_of_length_eq_zero h2
  exact (PSol_z A Ab c cb w henv).mono fun e w' h=>⟨[],0,.inr (.inr (.inr (.inl ⟨h1,rfl,h3,rfl,rfl,rfl⟩))),h⟩
 have hn:1<=rs.length:=Nat.pos_of_ne_zero fun e=>h0 (List.eq_nil_of_length_eq_zero e)
 have hv':VcIn w Ab rs.length (xFj ss):=⟨ss,hv,by have:=xFi h3;rw [h2] at this;exact this⟩;rw [h2]
 exact (PSol_sp ⟨rs,h,xAn h1⟩ hv' hn (Nat.le_trans hs.m dCx) henv).mono fun e w' h=>h.toW h1 h2 h3 h0
theorem R_sol (h:zCj w A rs) (hs:Sht rs) (hv:zGx w Ab ss) (hss:zGk ss):Calls Tryz.prog 14 #[.slice A rs.length c,.slice Ab ss.length cb] w fun e w'=>∃ ts er,zHo rs ss ts er/\zAu ts er w e w':=by
 by_cases hbad:sqE rs≠0\/ss.length≠rs.length\/ss.all vR=false
 ·exact RSol_bad h hs hv (Nat.le_trans hss.1 dCx) (fun s hm=>Nat.le_trans (hss.2 s hm) dCx) hbad
 have h1:sqE rs=0:=Classical.byContradiction fun h=>hbad (.inl h)
 have h2:ss.length=rs.length:=Classical.byContradiction fun h=>hbad (.inr (.inl h))
 have h3:ss.all vR=true:=by
  rcases hb:ss.all vR with _|_
  ·exact absurd (.inr (.inr hb)) hbad
  rfl
 by_cases h0:rs=[]
 ·subst h0;obtain rfl:ss=[]:=List.eq_nil_of_length_eq_zero h2
  exact (RSol_z A Ab c cb w).mono fun e w' h=>⟨[],0,.inr (.inr (.inr (.inl ⟨h1,rfl,h3,rfl,rfl,rfl⟩))),h⟩
 have hn:1<=rs.length:=Nat.pos_of_ne_zero fun e=>h0 (List.eq_nil_of_length_eq_zero e)
 have hvf:VecF ss rs.length (xFj ss):=by have:=xFi h3;rw [h2] at this;exact this
 have hd:∀ i,i<rs.length->zAl 30 (xFj ss i):=fun i hi=>by
  have hi':i<ss.length:=by omega
  have:=hss.2 _ (List.getElem_mem hi');rw [hvf.cel i hi'] at this;exact zMg this
 rw [h2]
 exact (RSol_sp ⟨rs,h,xAn h1⟩ ⟨ss,hv,hvf⟩ hn hs.m (hs.dig (xAn h1)) hd).mono fun e w' h=>h.toW h1 h2 h3 h0
theorem P_inv (h:zCj w A rs) (hs:Sht rs) (henv:Env w):Calls Tryz.prog 16 #[.slice A rs.length c] w fun e w'=>∃ ts er,zHl rs ts er/\zAt ts er w e w':=by
 by_cases h1:sqE rs=0
 ·by_cases h0:rs=[]
  ·subst h0
   exact (PInv_z A c w henv).mono fun e w' h=>⟨[],0,.inr (.inl ⟨h1,rfl,rfl,rfl⟩),h⟩
  have hn:1<=rs.length:=Nat.pos_of_ne_zero fun e=>h0 (List.eq_nil_of_length_eq_zero e)
  exact (PInv_sp ⟨rs,h,xAn h1⟩ hn (Nat.le_trans hs.m dCx) henv).mono fun e w' h=>h.toR.toW h1 h0
 exact PInv_bad h hs henv h1
theorem R_inv (h:zCj w A rs) (hs:Sht rs):Calls Tryz.prog 17 #[.slice A rs.length c] w fun e w'=>∃ ts er,zHl rs ts er/\zAt ts er w e w':=by
 by_cases h1:sqE rs=0
 ·by_cases h0:rs=[]
  ·subst h0
   exact (RInv_z A c w).mono fun e w' h=>⟨[],0,.inr (.inl ⟨h1,rfl,rfl,rfl⟩),h⟩
  have hn:1<=rs.length:=Nat.pos_of_ne_zero fun e=>h0 (List.eq_nil_of_length_eq_zero e)
  exact (RInv_sp ⟨rs,h,xAn h1⟩ hn hs.m (hs.dig (xAn h1))).mono fun e w' h=>h.toW h1 h0
 exact RInv_bad h hs h1
def EndS (s:ByteArray) (er:Int) (w:World) (e:Ending) (w':World):Prop:=e = .returned (.tuple #[.string s,.int .i64 er])/\Below w.heap.size w w'
def EndZ (z er:Int) (w:World) (e:Ending) (w':World):Prop:=e = .returned (.tuple #[.int .i64 z,.int .i64 er])/\Below w.heap.size w w'
theorem zGr.toW (h1:sqE rs=0) (h4:rs≠[]) (h:zGr rs.length (zRi rs) w e w'):∃ s er,zHk rs s er/\EndS s er w e w':=by
 rcases h with ⟨hH,h5⟩|⟨hH,h5⟩
 ·exact ⟨_,3,.inr (.inr ⟨h1,h4,.inl ⟨hH,rfl,rfl⟩⟩),h5⟩
 exact ⟨_,_,.inr (.inr ⟨h1,h4,.inr ⟨hH,rfl,rfl⟩⟩),h5⟩
theorem P_det (h:zCj w A rs) (hs:Sht rs) (henv:Env w):Calls Tryz.prog 18 #[.slice A rs.length c] w fun e w'=>∃ s er,zHk rs s er/\EndS s er w e w':=by
 by_cases h1:sqE rs=0
 ·by_cases h0:rs=[]
  ·subst h0
   exact (PDet_z A c w henv).mono fun e w' h=>⟨_,0,.inr (.inl ⟨h1,rfl,rfl,rfl⟩),h⟩
  have hn:1<=rs.length:=Nat.pos_of_ne_zero fun e=>h0 (List.eq_nil_of_length_eq_zero e)
  exact (PDet_sp ⟨rs,h,xAn h1⟩ hn (Nat.le_trans hs.m dCx) henv).mono fun e w' h=>h.toW h1 h0
 exact PDet_bad h hs henv h1
theorem R_det (h:zCj w A rs) (hs:Sht rs):Calls Tryz.prog 19 #[.slice A rs.length c] w fun e w'=>∃ s er,zHk rs s er/\EndS s er w e w':=by
 by_cases h1:sqE rs=0
 ·by_cases h0:rs=[]
  ·subst h0
   exact (RDet_z A c w).mono fun e w' h=>⟨_,0,.inr (.inl ⟨h1,rfl,rfl,rfl⟩),h⟩
  have hn:1<=rs.length:=Nat.pos_of_ne_zero fun e=>h0 (List.eq_nil_of_length_eq_zero e)
  exact (RDet_sp ⟨rs,h,xAn h1⟩ hn hs.m (hs.dig (xAn h1))).mono fun e w' h=>h.toW h1 h0
 exact RDet_bad h hs h1
theorem zJt (h1:(zZm rs).2.2=0) (h0:zJr rs≠0):1<=rs.length/\1<=zJr rs/\zJr rs<=12/\zCi rs rs.length (zJr rs) (zRi rs):=by
 have hl:1<=rs.length:=Nat.pos_of_ne_zero fun e=>h0 (by rw [List.eq_nil_of_length_eq_zero e];rfl)
 have:=zZo h1;exact ⟨hl,Nat.pos_of_ne_zero h0,this.2.2 hl,this.2.1⟩
theorem zGu.toW (h1:(zZm rs).2.2=0) (h0:zJr rs≠0) (h:zGu rs.length (zJr rs) (zRi rs) w e w'):∃ z er,zHn rs z er/\EndZ z er w e w':=by
 rcases h with ⟨hH,h5⟩|⟨hH,r,hr,h5⟩
 ·exact ⟨0,3,.inr (.inr ⟨h1,h0,.inl ⟨hH,rfl,rfl⟩⟩),h5⟩
 exact ⟨_,0,.inr (.inr ⟨h1,h0,.inr ⟨hH,r,hr,rfl,rfl⟩⟩),h5⟩
theorem zGt.toW (h1:(zZm rs).2.2=0) (h0:zJr rs≠0) (h:zGt rs.length (zJr rs) (zRi rs) w e w'):∃ ts er,zHm rs ts er/\zAu ts er w e w':=by
 rcases h with ⟨hH,h5⟩|⟨hH,⟨hr,h5⟩|⟨a,x,hk,h5⟩⟩
 ·exact ⟨[],3,.inr (.inr ⟨h1,h0,.inl ⟨hH,rfl,rfl⟩⟩),zAu.err h5⟩
 ·exact ⟨[],12,.inr (.inr ⟨h1,h0,.inr ⟨hH,.inl ⟨hr,rfl,rfl⟩⟩⟩),zAu.err h5⟩
 obtain ⟨ts,er,h6,h7⟩:=h5.endT;exact ⟨ts,er,.inr (.inr ⟨h1,h0,.inr ⟨hH,.inr ⟨a,x,hk,h6⟩⟩⟩),h7⟩
theorem P_rank (h:zCj w A rs) (hs:Sht rs) (henv:Env w):Calls Tryz.prog 20 #[.slice A rs.length c] w fun e w'=>∃ z er,zHn rs z er/\EndZ z er w e w':=by
 by_cases h1:(zZm rs).2.2=0
 ·by_cases h0:zJr rs=0
  ·exact (PRank_z A c w h hs h1 h0 henv).mono fun e w' h=>⟨0,0,.inr (.inl ⟨h1,h0,rfl,rfl⟩),h⟩
  obtain ⟨k1,k2,k3,k4⟩:=zJt h1 h0
  exact (PRank_sp ⟨rs,h,k4⟩ k1 (Nat.le_trans hs.m dCx) k2 k3 henv).mono fun e w' h=>h.toW h1 h0
 exact zCx h hs henv h1
theorem R_rank (h:zCj w A rs) (hs:Sht rs):Calls Tryz.prog 21 #[.slice A rs.length c] w fun e w'=>∃ z er,zHn rs z er/\EndZ z er w e w':=by
 by_cases h1:(zZm rs).2.2=0
 ·by_cases h0:zJr rs=0
  ·exact (RRank_z A c w h hs h1 h0).mono fun e w' h=>⟨0,0,.inr (.inl ⟨h1,h0,rfl,rfl⟩),h⟩
  obtain ⟨k1,k2,k3,k4⟩:=zJt h1 h0
  exact (RRank_sp ⟨rs,h,k4⟩ k1 hs.m k2 k3 (hs.dig k4)).mono fun e w' h=>h.toW h1 h0
 exact zEp h hs h1
theorem P_ker (h:zCj w A rs) (hs:Sht rs) (henv:Env w):Calls Tryz.prog 22 #[.slice A rs.length c] w fun e w'=>∃ ts er,zHm rs ts er/\zAu ts er w e w':=by
 by_cases h1:(zZm rs).2.2=0
 ·by_cases h0:zJr rs=0
  ·exact (PKer_z A c w h hs h1 h0 henv).mono fun e w' h=>⟨[],12,.inr (.inl ⟨h1,h0,rfl,rfl⟩),h⟩
  obtain ⟨k1,k2,k3,k4⟩:=zJt h1 h0
  exact (PKer_sp ⟨rs,h,k4⟩ k1 (Nat.le_trans hs.m dCx) k2 k3 henv).mono fun e w' h=>h.toW h1 h0
 exact PKer_bad h hs henv h1
theorem R_ker (h:zCj w A rs) (hs:Sht rs):Calls Tryz.prog 23 #[.slice A rs.length c] w fun e w'=>∃ ts er,zHm rs ts er/\zAu ts er w e w':=by
 by_cases h1:(zZm rs).2.2=0
 ·by_cases h0:zJr rs=0
  ·exact (RKer_z A c w h hs h1 h0).mono fun e w' h=>⟨[],12,.inr (.inl ⟨h1,h0,rfl,rfl⟩),h⟩
  obtain ⟨k1,k2,k3,k4⟩:=zJt h1 h0
  exact (RKer_sp ⟨rs,h,k4⟩ k1 hs.m k2 k3 (hs.dig k4)).mono fun e w' h=>h.toW h1 h0
 exact RKer_bad h hs h1
end
end Go.Proofs.YtbjaplppalcmgaaGreatDoor
