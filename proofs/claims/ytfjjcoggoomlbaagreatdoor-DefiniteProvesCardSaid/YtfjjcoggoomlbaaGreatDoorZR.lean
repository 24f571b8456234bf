import Derived.Test.YtfjjcoggoomlbaaGreatDoorZQ
set_option maxHeartbeats 16000000
set_option maxRecDepth 100000
namespace Go.Proofs.YtfjjcoggoomlbaaGreatDoor
open Go.RowKit
def Env (w:World):Prop:=Tab w/\∃ m:Int,w.cell? ⟨0,0,none⟩=some (.int .i64 m)
theorem Env.tab {w:World} (h:Env w):Tab w:=h.1
theorem Env.below {w w':World} (h:Env w) (hb:Below w.heap.size w w'):Env w':=by
 obtain ⟨h1,m,hm⟩:=h;refine ⟨h1.below hb,m,?_⟩;rw [hb.cell (p:=⟨0,0,none⟩)]
 ·exact hm
 show 0<w.heap.size
 rcases Nat.lt_or_ge 0 w.heap.size with h|h
 ·exact h
 unfold World.cell? at hm;rw [Array.getElem?_eq_none h] at hm
 simp at hm
def zYy (q:Rat):ByteArray:=⟨(zZj q).toArray⟩
instance (q:Rat):Decidable (zBt q):=inferInstanceAs (Decidable (_/\_))
def outR (q:Rat):ByteArray:=if zBt q then zYy q else ⟨#[]⟩
def zVd (q:Rat):Int:=if zBt q then 0 else 3
theorem zVg {q:Rat} (h:zBt q):outR q=zYy q:=if_pos h
theorem zVe {q:Rat} (h:zBt q):zVd q=0:=if_pos h
theorem zVh {q:Rat} (h:¬zBt q):outR q=⟨#[]⟩:=if_neg h
theorem zVf {q:Rat} (h:¬zBt q):zVd q=3:=if_neg h
theorem zPh {x:Int} (h:Fits x):(Lib.itoa x).length<=401:=by have:=zPi x;unfold Fits at h;omega
theorem zZl {q:Rat} (h:zBt q):(zZj q).length<=803:=by
 have h1:=zPh h.1;have h2:=zPh h.2;unfold zZj
 split
 ·omega
 simp;omega
theorem zZg (q:Rat):(zYy q).size=(zZj q).length:=by unfold zYy;simp [ByteArray.size]
theorem zZb (q:Rat):(zYy q).data.toList=zZj q:=by unfold zYy;simp
theorem zZf {q:Rat} (h:q.den≠1):(str q.num++⟨#[47]⟩)++str (q.den:Int)=zYy q:=by
 unfold zYy str;rw [zZn h,show (⟨#[47]⟩:ByteArray)=⟨[47].toArray⟩ from rfl,zIe,zIe]
 simp
theorem zZh {q:Rat} (h:q.den=1):zYy q=str q.num:=by unfold zYy str;rw [zZo h]
theorem zAm (l:List UInt8) (w:World) (hl:l.length<4294967281) (he:Env w) :
  Calls Tryz.prog 129 #[.string ⟨l.toArray⟩,.string ⟨#[47]⟩] w fun e w'=>e = .returned (.tuple #[.string ⟨(zKg l).1.toArray⟩,.string ⟨(zKg l).2.1.toArray⟩,.bool (zKg l).2.2])/\Below w.heap.size w w':=by
 obtain ⟨_,m,hm⟩:=he;have h:=Tryz.strings_Cut ⟨l.toArray⟩ ⟨#[47]⟩ m w (by simpa [ByteArray.size] using hl) hm;rw [show (⟨l.toArray⟩:ByteArray).data.toList=l by simp,show (⟨#[47]⟩:ByteArray).data.toList=[47] from rfl,zKm] at h;refine h.mono ?_;rintro e w' ⟨rfl,n,rfl⟩;exact ⟨rfl,below_drewN bRx _⟩
theorem zAo {q:Rat} (h:q.den=1) (hf:zBt q) (w:World) (he:Env w) :
  Calls Tryz.prog 129 #[.string (zYy q),.string ⟨#[47]⟩] w fun e w'=>e = .returned (.tuple #[.string (str q.num),.string ⟨#[]⟩,.bool false])/\Below w.heap.size w w':=by
 have:=zAm (zZj q) w (by have:=zZl hf;omega) he;rw [zKn h] at this;exact this
theorem zAn {q:Rat} (h:q.den≠1) (hf:zBt q) (w:World) (he:Env w) :
  Calls Tryz.prog 129 #[.string (zYy q),.string ⟨#[47]⟩] w fun e w'=>e = .returned (.tuple #[.string (str q.num),.string (str (q.den:Int)),.bool true])/\Below w.heap.size w w':=by
 have:=zAm (zZj q) w (by have:=zZl hf;omega) he;rw [zKl h] at this;exact this
theorem zCt (x:Int) (w:World) (hf:Fits x):Calls Tryz.prog 130 #[.string (str x)] w (zFw w x):=zFh x w (by unfold Fits at hf;omega)
theorem zUv:Fits 1:=zNq dCx
theorem zCu (w:World):Calls Tryz.prog 130 #[.string ⟨#[49]⟩] w (zFw w 1):=by
 have:=zCt 1 w zUv
 rwa [str_1] at this
theorem zBm (q:Rat) (w:World) (hf:zBt q) (henv:Env w):Calls Tryz.prog 60 #[.string (zYy q)] w (zFr w q):=by
 have HR0:=oH (Blk.new w 89 [.bool false,.slice none 0 0,.bool false,.slice none 0 0]);have HBW:Hid (Below w.heap.size w (w.alloc (.cells #[.bool false,.slice none 0 0,.bool false,.slice none 0 0] 89))):=bA;have H1:=oH (fun W=>zCt q.num W hf.1)
 by_cases h:q.den=1
 ·have HC:=oH (fun W he=>zAo h hf W he);have H2:=oH zCu
  have ED:Hid ((1:Int)=(q.den:Int)):=by rw [h];rfl
  have HE:=oH henv;clear h hf henv
  go_enter Tryz.func60,Tryz.ntmps60
  go_wp2_with fail;generalize w.alloc (.cells #[.bool false,.slice none 0 0,.bool false,.slice none 0 0] 89)=W at *;refine (HC.out W (HE.below HBW.out)).mono ?_;rintro e w1 ⟨rfl,hb⟩;replace HR0:=oH (HR0.below hb);replace HBW:=bTx2 HBW hb;clear hb;go_wp2_with fail;refine (H1.out w1).mono ?_;rintro e w2 ⟨v2,rfl,hv2,hb⟩;have HN:=oH hv2;obtain ⟨x2,X2,y2,z2,rfl⟩:=hv2.slice;replace HR0:=oH (HR0.below hb);replace HBW:=bTx2 HBW hb;clear hb hv2;go_wp2_with fail;refine (H2.out w2).mono ?_;rintro e w3 ⟨v3,rfl,hv3,hb⟩;have HD:=oH hv3;obtain ⟨x3,X3,y3,z3,rfl⟩:=hv3.slice;replace HN:=oH (HN.below hb);replace HR0:=oH (HR0.below hb);replace HBW:=bTx2 HBW hb;have r0:=HR0.at_ (i:=0) rfl;have r1:=HR0.at_ (i:=1) rfl;have r2:=HR0.at_ (i:=2) rfl;have r3:=HR0.at_ (i:=3) rfl;have f0:=HR0.fr 0;have f1:=HR0.fr 1;have f2:=HR0.fr 2;have f3:=HR0.fr 3;clear hb hv3;go_wp2_with fail;refine bodyPost_ret (v := .agg #[.bool x2,.slice X2 y2 z2,.bool x3,.slice X3 y3 z3]) (by simp [results,Tryz.results60,go_sem, *]) rfl ?_
  exact zOb HR0.out zTm HBW.out lRx (zCh.mk HN.out HD.out rfl ED.out) rfl
 have HC:=oH (fun W he=>zAn h hf W he);have H2:=oH (fun W=>zCt (q.den:Int) W hf.2);have HE:=oH henv;clear h hf henv
 go_enter Tryz.func60,Tryz.ntmps60
 go_wp2_with fail;generalize w.alloc (.cells #[.bool false,.slice none 0 0,.bool false,.slice none 0 0] 89)=W at *;refine (HC.out W (HE.below HBW.out)).mono ?_;rintro e w1 ⟨rfl,hb⟩;replace HR0:=oH (HR0.below hb);replace HBW:=bTx2 HBW hb;clear hb;go_wp2_with fail;refine (H1.out w1).mono ?_;rintro e w2 ⟨v2,rfl,hv2,hb⟩;have HN:=oH hv2;obtain ⟨x2,X2,y2,z2,rfl⟩:=hv2.slice;replace HR0:=oH (HR0.below hb);replace HBW:=bTx2 HBW hb;clear hb hv2;go_wp2_with fail;refine (H2.out w2).mono ?_;rintro e w3 ⟨v3,rfl,hv3,hb⟩;have HD:=oH hv3;obtain ⟨x3,X3,y3,z3,rfl⟩:=hv3.slice;replace HN:=oH (HN.below hb);replace HR0:=oH (HR0.below hb);replace HBW:=bTx2 HBW hb;have r0:=HR0.at_ (i:=0) rfl;have r1:=HR0.at_ (i:=1) rfl;have r2:=HR0.at_ (i:=2) rfl;have r3:=HR0.at_ (i:=3) rfl;have f0:=HR0.fr 0;have f1:=HR0.fr 1;have f2:=HR0.fr 2;have f3:=HR0.fr 3;clear hb hv3;go_wp2_with fail;refine bodyPost_ret (v := .agg #[.bool x2,.slice X2 y2 z2,.bool x3,.slice X3 y3 z3]) (by simp [results,Tryz.results60,go_sem, *]) rfl ?_
 exact zOb HR0.out zTm HBW.out lRx (zCh.mk HN.out HD.out rfl rfl) rfl
theorem xCy {x:Int} (h:Fits x):(str x).size<=401:=by unfold str;simpa [ByteArray.size] using zPh h
theorem zCv (u:Value) (x:Int) (w:World) (hx:zCk w u x) (hlx:(limbs x.natAbs).length<=10000000) (htab:Tab w) :
  Calls Tryz.prog 132 #[u] w fun e w'=>e = .returned (.string (str x))/\Below w.heap.size w w':=zGv u x w hx hlx htab
theorem zBk (u:Value) (a:Rat) (w:World) (ha:zCh w u a) (hf:zBt a) (henv:Env w) :
  Calls Tryz.prog 62 #[u] w fun e w'=>e = .returned (.string (zYy a))/\Below w.heap.size w w':=by
 have sa:=hf.sz;have sda:=sa.2;have an:=sa.n;have ad:=sa.d;have z1:=xCy hf.1;have z2:=xCy hf.2;have HE:=oH henv;clear henv hf;have HA:=oH ha;obtain ⟨na,nb,A,A',l,c,l',c',rfl,h1,h2⟩:=ha.open_;have HAN:=oH h1;have HAD:=oH h2;clear ha h1 h2;have HS1:=oH (fun U V (hV:zCk V U a.num) (hE:Env V)=>zCv U a.num V hV oMx hE.tab);have HS2:=oH (fun U V (hV:zCk V U (a.den:Int)) (hE:Env V)=>zCv U (a.den:Int) V hV oMx hE.tab);have HWA:=oH (fun U V (hV:zCh V U a)=>xHg U a V hV oMx)
 by_cases hw:a.den=1
 ·have ew:xHf a=true:=decide_eq_true hw;rw [ew] at HWA;have EW:=oH (zZh hw);clear ew hw sa
  go_enter Tryz.func62,Tryz.ntmps62
  go_wp2_with fail;have hHK:=(Blk.new w 89 [.bool na,.slice A l c,.bool nb,.slice A' l' c']);have hB0:Below w.heap.size w (w.alloc (.cells #[.bool na,.slice A l c,.bool nb,.slice A' l' c'] 89)):=bA;generalize w.alloc (.cells #[.bool na,.slice A l c,.bool nb,.slice A' l' c'] 89)=W at *;have HK:=oH hHK;have HB:=oH hB0;clear hB0 hHK;replace HE:=oH (HE.below HB.out);replace HA:=oH (HA.below HB.out);replace HAN:=oH (HAN.below HB.out);replace HAD:=oH (HAD.below HB.out);refine (HWA.out _ W HA.out).mono ?_;rintro e w1 ⟨rfl,hb⟩;clear HA;replace HK:=oH (HK.below hb);replace HE:=oH (HE.below hb);replace HAN:=oH (HAN.below hb);replace HAD:=oH (HAD.below hb);replace HB:=bTx2 HB hb;clear hb;have k0:=HK.at_ (i:=0) rfl;have k1:=HK.at_ (i:=1) rfl;have k2:=HK.at_ (i:=2) rfl;have k3:=HK.at_ (i:=3) rfl;go_wp2_with fail;refine (HS1.out _ w1 HAN.out HE.out).mono ?_;rintro e w2 ⟨rfl,hb⟩;replace HK:=oH (HK.below hb)
  replace HE:=oH (HE.below hb);replace HAN:=oH (HAN.below hb);replace HAD:=oH (HAD.below hb);replace HB:=bTx2 HB hb;clear hb k0 k1 k2 k3;have k0:=HK.at_ (i:=0) rfl;have k1:=HK.at_ (i:=1) rfl;have k2:=HK.at_ (i:=2) rfl;have k3:=HK.at_ (i:=3) rfl;go_wp2_with fail;go_ret
  exact ⟨by rw [EW.out];rfl,HB.out⟩
 have ew:xHf a=false:=decide_eq_false hw;rw [ew] at HWA;have EW:=oH (zZf hw);clear ew hw sa;generalize str a.num=s1 at *;generalize str (a.den:Int)=s2 at *
 have q1:¬(9223372036854775807<s1.size+1):=by omega
 have q1':¬(9223372036854775807<=s1.size):=by omega
 have q2:¬(9223372036854775807<s1.size+1+s2.size):=by omega
 go_enter Tryz.func62,Tryz.ntmps62
 go_wp2_with fail;have hHK:=(Blk.new w 89 [.bool na,.slice A l c,.bool nb,.slice A' l' c']);have hB0:Below w.heap.size w (w.alloc (.cells #[.bool na,.slice A l c,.bool nb,.slice A' l' c'] 89)):=bA;generalize w.alloc (.cells #[.bool na,.slice A l c,.bool nb,.slice A' l' c'] 89)=W at *;have HK:=oH hHK;have HB:=oH hB0;clear hB0 hHK;replace HE:=oH (HE.below HB.out);replace HA:=oH (HA.below HB.out);replace HAN:=oH (HAN.below HB.out);replace HAD:=oH (HAD.below HB.out);refine (HWA.out _ W HA.out).mono ?_;rintro e w1 ⟨rfl,hb⟩;clear HA;replace HK:=oH (HK.below hb);replace HE:=oH (HE.below hb);replace HAN:=oH (HAN.below hb);replace HAD:=oH (HAD.below hb);replace HB:=bTx2 HB hb;clear hb;have k0:=HK.at_ (i:=0) rfl;have k1:=HK.at_ (i:=1) rfl;have k2:=HK.at_ (i:=2) rfl;have k3:=HK.at_ (i:=3) rfl;clear HWA;go_wp2_with fail;have P0:=oH (Blk.c4 HK.drew)
 have HED:Hid (∀ V:World,Env V->Env V.drew):=fun V h=>h
 go_region_held3 (fun w'=>C4 w' w.heap.size (.bool na) (.slice A l c) (.bool nb) (.slice A' l' c')) (first|with_reducible exact P0.out|with_reducible exact P5.out|with_reducible exact P6.out|go_keep) (first|(go_at_call 132;(with_reducible refine (HS2.out _ _ HAD5.out HE5.out).mono ?_);rintro e w6 ⟨rfl,hb⟩;have HK6:=oH (HK5.out.below hb);have HE6:=oH (HE5.out.below hb);have HAN6:=oH (HAN5.out.below hb);have HAD6:=oH (HAD5.out.below hb);have HB6:=bTx2 HB5 hb;have P6:=oH (Blk.c4 HK6.out);clear hb)|(go_at_call 132;(with_reducible refine (HS1.out _ _ HAN.out.drew (HED.out _ HE.out)).mono ?_);rintro e w5 ⟨rfl,hb⟩;have HK5:=oH (HK.out.drew.below hb);have HE5:=oH ((HED.out _ HE.out).below hb);have HAN5:=oH (HAN.out.drew.below hb);have HAD5:=oH (HAD.out.drew.below hb);have HB5:=oH (HB.out.drew.trans (hb.mono HB.out.size));have P5:=oH (Blk.c4 HK5.out);clear hb))
 go_wp2_with fail;go_ret
 exact ⟨by rw [<-EW.out];rfl,HB6.out⟩
theorem zBf (u:Value) (a:Rat) (w:World) (ha:zCh w u a) (sa:Sz 5000000 a) (henv:Env w) :
  Calls Tryz.prog 54 #[u] w fun e w'=>e = .returned (.tuple #[.string (outR a),.int .i64 (zVd a)])/\Below w.heap.size w w':=by
 have an:=sa.n;have ad:=sa.d;have HE:=oH henv;clear henv;have HA:=oH ha;obtain ⟨na,nb,A,A',l,c,l',c',rfl,h1,h2⟩:=ha.open_;have HAN:=oH h1;have HAD:=oH h2;clear ha h1 h2;have HD1:=oH (fun U V (hV:zCk V U a.num) (hE:Env V)=>zAw U a.num V hV oMx hE.tab);have HD2:=oH (fun U V (hV:zCk V U (a.den:Int)) (hE:Env V)=>zAw U (a.den:Int) V hV oMx hE.tab)
 have F1:Fits a.num↔Lib.nDigits a.num.natAbs<=400:=by unfold Fits;rw [Lib.decDigits_length]
 have F2:Fits (a.den:Int)↔Lib.nDigits ((a.den:Int)).natAbs<=400:=by unfold Fits;rw [Lib.decDigits_length]
 have HR:=oH (fun U V (hV:zCh V U a) (hf:zBt a) (hE:Env V)=>zBk U a V hV hf hE);have F3:zBt a↔Fits a.num/\Fits (a.den:Int):=Iff.rfl;generalize Lib.nDigits a.num.natAbs=k1 at *;generalize Lib.nDigits ((a.den:Int)).natAbs=k2 at *
 by_cases h1:k1<=400
 ·have g1:decide ((k1:Int)>400)=false:=decide_eq_false oMx
  have g1':¬(400<k1):=by omega
  by_cases h2:k2<=400
  ·have HF:Hid (zBt a):=⟨F1.2 h1,F2.2 h2⟩;have E1:=oH (zVg HF.out);have E2:=oH (zVe HF.out)
   have g2:¬(400<k2):=by omega
   clear F1 F2 F3 h1 h2
   go_enter Tryz.func54,Tryz.ntmps54
   go_wp2_with fail;have hHK:=(Blk.new w 89 [.bool na,.slice A l c,.bool nb,.slice A' l' c']);have hB0:Below w.heap.size w (w.alloc (.cells #[.bool na,.slice A l c,.bool nb,.slice A' l' c'] 89)):=bA;generalize w.alloc (.cells #[.bool na,.slice A l c,.bool nb,.slice A' l' c'] 89)=W at *;have HK:=oH hHK;have HB:=oH hB0;clear hB0 hHK;replace HE:=oH (HE.below HB.out);replace HA:=oH (HA.below HB.out);replace HAN:=oH (HAN.below HB.out);replace HAD:=oH (HAD.below HB.out);refine (HD1.out _ W HAN.out HE.out).mono ?_;rintro e w1 ⟨rfl,hb⟩;replace HK:=oH (HK.below hb);replace HE:=oH (HE.below hb);replace HA:=oH (HA.below hb);replace HAN:=oH (HAN.below hb);replace HAD:=oH (HAD.below hb);replace HB:=bTx2 HB hb;clear hb;have k0:=HK.at_ (i:=0) rfl;have k1:=HK.at_ (i:=1) rfl;have k2:=HK.at_ (i:=2) rfl;have k3:=HK.at_ (i:=3) rfl;go_wp2_with fail;refine (HD2.out _ w1 HAD.out HE.out).mono ?_;rintro e w2 ⟨rfl,hb⟩
   replace HK:=oH (HK.below hb);replace HE:=oH (HE.below hb);replace HA:=oH (HA.below hb);replace HAN:=oH (HAN.below hb);replace HAD:=oH (HAD.below hb);replace HB:=bTx2 HB hb;clear hb k0 k1 k2 k3;have k0:=HK.at_ (i:=0) rfl;have k1:=HK.at_ (i:=1) rfl;have k2:=HK.at_ (i:=2) rfl;have k3:=HK.at_ (i:=3) rfl;go_wp2_with fail;refine (HR.out _ w2 HA.out HF.out HE.out).mono ?_;rintro e w3 ⟨rfl,hb⟩;replace HK:=oH (HK.below hb);replace HE:=oH (HE.below hb);replace HA:=oH (HA.below hb);replace HAN:=oH (HAN.below hb);replace HAD:=oH (HAD.below hb);replace HB:=bTx2 HB hb;clear hb k0 k1 k2 k3;have k0:=HK.at_ (i:=0) rfl;have k1:=HK.at_ (i:=1) rfl;have k2:=HK.at_ (i:=2) rfl;have k3:=HK.at_ (i:=3) rfl;go_wp2_with fail;go_ret2
   exact ⟨by rw [E1.out,E2.out];rfl,HB.out⟩
  have HF:Hid (¬zBt a):=fun h=>h2 (F2.1 h.2)
  have E1:=oH (zVh HF.out);have E2:=oH (zVf HF.out)
  have g2:400<k2:=by omega
  clear F1 F2 F3 h1 h2
  go_enter Tryz.func54,Tryz.ntmps54
  go_wp2_with fail;have hHK:=(Blk.new w 89 [.bool na,.slice A l c,.bool nb,.slice A' l' c']);have hB0:Below w.heap.size w (w.alloc (.cells #[.bool na,.slice A l c,.bool nb,.slice A' l' c'] 89)):=bA;generalize w.alloc (.cells #[.bool na,.slice A l c,.bool nb,.slice A' l' c'] 89)=W at *;have HK:=oH hHK;have HB:=oH hB0;clear hB0 hHK;replace HE:=oH (HE.below HB.out);replace HA:=oH (HA.below HB.out);replace HAN:=oH (HAN.below HB.out);replace HAD:=oH (HAD.below HB.out);refine (HD1.out _ W HAN.out HE.out).mono ?_;rintro e w1 ⟨rfl,hb⟩;replace HK:=oH (HK.below hb);replace HE:=oH (HE.below hb);replace HA:=oH (HA.below hb);replace HAN:=oH (HAN.below hb);replace HAD:=oH (HAD.below hb);replace HB:=bTx2 HB hb;clear hb;have k0:=HK.at_ (i:=0) rfl;have k1:=HK.at_ (i:=1) rfl;have k2:=HK.at_ (i:=2) rfl;have k3:=HK.at_ (i:=3) rfl;go_wp2_with fail;refine (HD2.out _ w1 HAD.out HE.out).mono ?_;rintro e w2 ⟨rfl,hb⟩
  replace HK:=oH (HK.below hb);replace HE:=oH (HE.below hb);replace HA:=oH (HA.below hb);replace HAN:=oH (HAN.below hb);replace HAD:=oH (HAD.below hb);replace HB:=bTx2 HB hb;clear hb k0 k1 k2 k3;have k0:=HK.at_ (i:=0) rfl;have k1:=HK.at_ (i:=1) rfl;have k2:=HK.at_ (i:=2) rfl;have k3:=HK.at_ (i:=3) rfl;go_wp2_with fail;go_ret2
  exact ⟨by rw [E1.out,E2.out];rfl,HB.out⟩
 have HF:Hid (¬zBt a):=fun h=>h1 (F1.1 h.1)
 have E1:=oH (zVh HF.out);have E2:=oH (zVf HF.out)
 have g2:400<k1:=by omega
 clear F1 F2 F3 h1
 go_enter Tryz.func54,Tryz.ntmps54
 go_wp2_with fail;have hHK:=(Blk.new w 89 [.bool na,.slice A l c,.bool nb,.slice A' l' c']);have hB0:Below w.heap.size w (w.alloc (.cells #[.bool na,.slice A l c,.bool nb,.slice A' l' c'] 89)):=bA;generalize w.alloc (.cells #[.bool na,.slice A l c,.bool nb,.slice A' l' c'] 89)=W at *;have HK:=oH hHK;have HB:=oH hB0;clear hB0 hHK;replace HE:=oH (HE.below HB.out);replace HA:=oH (HA.below HB.out);replace HAN:=oH (HAN.below HB.out);replace HAD:=oH (HAD.below HB.out);refine (HD1.out _ W HAN.out HE.out).mono ?_;rintro e w1 ⟨rfl,hb⟩;replace HK:=oH (HK.below hb);replace HE:=oH (HE.below hb);replace HA:=oH (HA.below hb);replace HAN:=oH (HAN.below hb);replace HAD:=oH (HAD.below hb);replace HB:=bTx2 HB hb;clear hb;have k0:=HK.at_ (i:=0) rfl;have k1:=HK.at_ (i:=1) rfl;have k2:=HK.at_ (i:=2) rfl;have k3:=HK.at_ (i:=3) rfl;go_wp2_with fail;go_ret2
 exact ⟨by rw [E1.out,E2.out];rfl,HB.out⟩
theorem zBj (n:Nat) (w:World) (hn:n<9223372036854775808):Calls Tryz.prog 71 #[.int .i64 (n:Int)] w (zFr w ((n:Int):Rat)):=by
 go_enter Tryz.func71,Tryz.ntmps71
 go_wp2_with fail;have hHR:=(Blk.new w 89 [.bool false,.slice none 0 0,.bool false,.slice none 0 0]);have hB0:Below w.heap.size w (w.alloc (.cells #[.bool false,.slice none 0 0,.bool false,.slice none 0 0] 89)):=bA;generalize w.alloc (.cells #[.bool false,.slice none 0 0,.bool false,.slice none 0 0] 89)=W at *;have HR:=oH hHR;have HB:=oH hB0;clear hB0 hHR;refine (zCr n W hn).mono ?_;rintro e w1 ⟨v1,rfl,hv,hb⟩;replace HR:=oH (HR.below hb);have HN:=oH hv;obtain ⟨x1,X1,y1,z1,rfl⟩:=hv.slice;replace HB:=bTx2 HB hb;clear hb hv;go_wp2_with fail;refine (zBp _ _ w1 HN.out).mono ?_;rintro e w2 ⟨v2,rfl,hv,hb⟩;replace HR:=oH (HR.below hb);replace HN:=oH (HN.below hb);have HF:=oH hv;obtain ⟨x2,x2',X2,X2',y2,z2,y2',z2',rfl⟩:=hv.slice;replace HB:=bTx2 HB hb;clear hb hv;have r0:=HR.at_ (i:=0) rfl;have r1:=HR.at_ (i:=1) rfl;have r2:=HR.at_ (i:=2) rfl;have r3:=HR.at_ (i:=3) rfl;have fr0:=HR.fr 0;have fr1:=HR.fr 1
 have fr2:=HR.fr 2;have fr3:=HR.fr 3;go_wp2_with fail;refine bodyPost_ret (v := .agg #[.bool x2,.slice X2 y2 z2,.bool x2',.slice X2' y2' z2']) (by simp [results,Tryz.results71,go_sem, *]) rfl ?_;exact zOb HR.out zTm HB.out lRx HF.out rfl
theorem xGn {l:List UInt8} (h:xGk (zKg l).1=false):xGl l=false:=by
 cases hk:(zKg l).2.2
 ·rw [xGs hk]
  rcases zKh l with ⟨h1,_⟩|⟨_,h2,_⟩
  ·rw [hk] at h1;cases h1
  rw [h2];exact h
 cases hv:xGl l
 ·rfl
 obtain ⟨n,d,h1,_,hf,_⟩:=(xGt hk).1 hv
 rw [h1,xGy hf] at h;cases h
theorem xGq {l:List UInt8} (h:xGk (zKg l).1=true) (hk:(zKg l).2.2=false):xGl l=true:=by
 rw [xGs hk]
 rcases zKh l with ⟨h1,_⟩|⟨_,h2,_⟩
 ·rw [hk] at h1;cases h1
 rw [h2];exact h
theorem xGw {l:List UInt8} (hk:(zKg l).2.2=true) (h:(zKg l).1=Lib.itoa 0):xGl l=false:=by
 cases hv:xGl l
 ·rfl
 obtain ⟨n,d,h1,_,_,_,hn,_⟩:=(xGt hk).1 hv;rw [h1] at h;exact absurd (zPg h) hn
theorem xGm {l:List UInt8} (hk:(zKg l).2.2=true) (h:xGk (zKg l).2.1=false):xGl l=false:=by
 cases hv:xGl l
 ·rfl
 obtain ⟨n,d,_,h2,_,hg,_⟩:=(xGt hk).1 hv
 rw [h2,xGy hg] at h;cases h
theorem xGu {l:List UInt8} {m:Int} (hk:(zKg l).2.2=true) (h:(zKg l).2.1=Lib.itoa m) (hm:m<=1):xGl l=false:=by
 cases hv:xGl l
 ·rfl
 obtain ⟨n,d,_,h2,_,_,_,hd,_⟩:=(xGt hk).1 hv;rw [h2] at h;have:=zPg h;omega
theorem xGp {l:List UInt8} {n m:Int} (hk:(zKg l).2.2=true) (h1:(zKg l).1=Lib.itoa n) (h2:(zKg l).2.1=Lib.itoa m) (fn:Fits n) (fm:Fits m) (hn:n≠0) (hm:1<m):xGl l=decide (n.natAbs.gcd m.natAbs=1):=by
 by_cases hg:n.natAbs.gcd m.natAbs=1
 ·rw [decide_eq_true hg];exact (xGt hk).2 ⟨n,m,h1,h2,fn,fm,hn,hm,hg⟩
 rw [decide_eq_false hg]
 cases hv:xGl l
 ·rfl
 obtain ⟨n',d',k1,k2,_,_,_,_,hc⟩:=(xGt hk).1 hv
 rw [k1] at h1;rw [k2] at h2
 rw [zPg h1,zPg h2] at hc;exact absurd hc hg
theorem gcd_sg (a b:Nat) (hb:0<b):(sg (((a.gcd b:Nat):Int)-1)==0)=decide (a.gcd b=1):=by
 have:=Nat.gcd_pos_of_pos_right a hb;unfold sg
 by_cases h:a.gcd b=1
 ·simp [h]
 rw [if_neg oMx,if_pos oMx]
 simp [h]
theorem zFe (l:List UInt8) (w:World) (hl:l.length<=4000000000) (henv:Env w) :
  Calls Tryz.prog 77 #[.string ⟨l.toArray⟩] w fun e w'=>e = .returned (.bool (xGl l))/\Below w.heap.size w w':=by
 have HC:=oH (zAm l w oMx henv);have HV1:=oH (fun W=>zHi (zKg l).1 W (by have:=(zKi l).1;omega));have HV2:=oH (fun W=>zHi (zKg l).2.1 W (by have:=(zKi l).2;omega));clear henv
 cases hv1:xGk (zKg l).1
 ·have E:=oH (xGn hv1);rw [hv1] at HV1;clear hv1 HV2;generalize (zKg l).1=p at *;generalize (zKg l).2.1=q at *;generalize (zKg l).2.2=k at *
  cases k
  ·have tok:True:=trivial
   go_enter Tryz.func77,Tryz.ntmps77
   go_wp2_with fail;refine (HC.out).mono ?_;rintro e w1 ⟨rfl,hb⟩;have HB:=oH hb;clear hb;go_wp2_with fail;refine (HV1.out w1).mono ?_;rintro e w2 ⟨rfl,hb⟩;replace HB:=bTx2 HB hb;clear hb;go_wp2_with fail;refine (HV1.out w2).mono ?_;rintro e w3 ⟨rfl,hb⟩;replace HB:=bTx2 HB hb;clear hb;go_wp2_with fail;go_ret
   exact ⟨by rw [E.out];rfl,HB.out⟩
  have tok:True:=trivial
  go_enter Tryz.func77,Tryz.ntmps77
  go_wp2_with fail;refine (HC.out).mono ?_;rintro e w1 ⟨rfl,hb⟩;have HB:=oH hb;clear hb;go_wp2_with fail;refine (HV1.out w1).mono ?_;rintro e w2 ⟨rfl,hb⟩;replace HB:=bTx2 HB hb;clear hb;go_wp2_with fail;go_ret
  exact ⟨by rw [E.out];rfl,HB.out⟩
 cases hk:(zKg l).2.2
 ·have E:=oH (xGq hv1 hk);rw [hk] at HC;rw [hv1] at HV1;clear hv1 hk HV2;generalize (zKg l).1=p at *;generalize (zKg l).2.1=q at *
  go_enter Tryz.func77,Tryz.ntmps77
  go_wp2_with fail;refine (HC.out).mono ?_;rintro e w1 ⟨rfl,hb⟩;have HB:=oH hb;clear hb;go_wp2_with fail;refine (HV1.out w1).mono ?_;rintro e w2 ⟨rfl,hb⟩;replace HB:=bTx2 HB hb;clear hb;go_wp2_with fail;refine (HV1.out w2).mono ?_;rintro e w3 ⟨rfl,hb⟩;replace HB:=bTx2 HB hb;clear hb;go_wp2_with fail;go_ret
  exact ⟨by rw [E.out];rfl,HB.out⟩
 obtain ⟨n,hn,fn⟩:=xGx hv1
 by_cases hn0:n=0
 ·subst hn0;have E:=oH (xGw hk hn);rw [hk] at HC;rw [hv1] at HV1;rw [hn,zPo] at HC HV1;clear hv1 hk hn HV2;generalize (zKg l).2.1=q at *
  go_enter Tryz.func77,Tryz.ntmps77
  go_wp2_with fail;refine (HC.out).mono ?_;rintro e w1 ⟨rfl,hb⟩;have HB:=oH hb;clear hb;go_wp2_with fail;refine (HV1.out w1).mono ?_;rintro e w2 ⟨rfl,hb⟩;replace HB:=bTx2 HB hb;clear hb;go_wp2_with fail;go_ret
  exact ⟨by rw [E.out];rfl,HB.out⟩
 have hq0:((⟨(Lib.itoa n).toArray⟩:ByteArray).toList==[48])=false:=by rw [Lib.toList_data,beq_eq_false_iff_ne];exact fun e=>hn0 (zPf.1 e)
 have hq0':(Lib.itoa n==[48])=false:=by rw [beq_eq_false_iff_ne];exact fun e=>hn0 (zPf.1 e)
 have HRN:=oH (fun W=>zCt n W fn);have lnn:=fn.len
 cases hv2:xGk (zKg l).2.1
 ·have E:=oH (xGm hk hv2);rw [hk] at HC;rw [hv1] at HV1;rw [hv2] at HV2;rw [hn] at HC HV1;clear hv1 hv2 hk hn;generalize (zKg l).2.1=q at *;generalize Lib.itoa n=p at *
  go_enter Tryz.func77,Tryz.ntmps77
  go_wp2_with fail;refine (HC.out).mono ?_;rintro e w1 ⟨rfl,hb⟩;have HB:=oH hb;clear hb;go_wp2_with fail;refine (HV1.out w1).mono ?_;rintro e w2 ⟨rfl,hb⟩;replace HB:=bTx2 HB hb;clear hb;go_wp2_with fail;refine (HV2.out w2).mono ?_;rintro e w3 ⟨rfl,hb⟩;replace HB:=bTx2 HB hb;clear hb;go_wp2_with fail;go_ret
  exact ⟨by rw [E.out];rfl,HB.out⟩
 obtain ⟨m,hm,fm⟩:=xGx hv2;have HCM:=oH (fun W=>zCc m 1 W fm zUv);rw [str_1] at HCM;have HRM:=oH (fun W=>zCt m W fm);have lmm:=fm.len;unfold str at HCM HRN HRM
 by_cases hm1:m<=1
 ·have E:=oH (xGu hk hm hm1)
  have hs:sg (m-1)<=0:=by unfold sg;split<;>(try split)<;>omega
  rw [hk] at HC;rw [hv1] at HV1;rw [hv2] at HV2;rw [hn,hm] at HC;rw [hn] at HV1;rw [hm] at HV2;clear hv1 hv2 hk hn hm HRN HRM;generalize Lib.itoa n=p at *;generalize Lib.itoa m=q at *
  go_enter Tryz.func77,Tryz.ntmps77
  go_wp2_with fail;refine (HC.out).mono ?_;rintro e w1 ⟨rfl,hb⟩;have HB:=oH hb;clear hb;go_wp2_with fail;refine (HV1.out w1).mono ?_;rintro e w2 ⟨rfl,hb⟩;replace HB:=bTx2 HB hb;clear hb;go_wp2_with fail;refine (HV2.out w2).mono ?_;rintro e w3 ⟨rfl,hb⟩;replace HB:=bTx2 HB hb;clear hb;go_wp2_with fail;refine (HCM.out w3).mono ?_;rintro e w4 ⟨rfl,hb⟩;replace HB:=bTx2 HB hb;clear hb;go_wp2_with fail;go_ret
  exact ⟨by rw [E.out];rfl,HB.out⟩
 have hmp:0<m.natAbs:=by omega
 have E:=oH ((xGp hk hn hm fn fm hn0 oMx).trans (gcd_sg n.natAbs m.natAbs hmp).symm)
 have hs:¬sg (m-1)<=0:=by unfold sg;rw [if_neg oMx,if_pos oMx];omega
 have lg:(limbs (((n.natAbs.gcd m.natAbs:Nat):Int)).natAbs).length<=45:=by rw [Int.natAbs_natCast];exact Nat.le_trans (zRe (Nat.gcd_le_right _ hmp)) lmm
 rw [hk] at HC;rw [hv1] at HV1;rw [hv2] at HV2;rw [hn,hm] at HC;rw [hn] at HV1;rw [hm] at HV2;have HGC:=oH (fun U V W (hU:zCk W U n) (hV:zCk W V m)=>zBy U V n m W hU hV oMx oMx);clear hv1 hv2 hk hn hm;generalize Lib.itoa n=p at *;generalize Lib.itoa m=q at *;generalize ((n.natAbs.gcd m.natAbs:Nat):Int)=G at *
 go_enter Tryz.func77,Tryz.ntmps77
 go_wp2_with fail;refine (HC.out).mono ?_;rintro e w1 ⟨rfl,hb⟩;have HB:=oH hb;clear hb;go_wp2_with fail;refine (HV1.out w1).mono ?_;rintro e w2 ⟨rfl,hb⟩;replace HB:=bTx2 HB hb;clear hb;go_wp2_with fail;refine (HV2.out w2).mono ?_;rintro e w3 ⟨rfl,hb⟩;replace HB:=bTx2 HB hb;clear hb;go_wp2_with fail;refine (HCM.out w3).mono ?_;rintro e w4 ⟨rfl,hb⟩;replace HB:=bTx2 HB hb;clear hb;go_wp2_with fail;refine (HRN.out w4).mono ?_;rintro e w5 ⟨v5,rfl,hv,hb⟩;have HN:=oH hv;obtain ⟨x5,X5,y5,z5,rfl⟩:=hv.slice;replace HB:=bTx2 HB hb;clear hb hv;go_wp2_with fail;refine (HRM.out w5).mono ?_;rintro e w6 ⟨v6,rfl,hv,hb⟩;replace HN:=oH (HN.below hb);have HM:=oH hv;obtain ⟨x6,X6,y6,z6,rfl⟩:=hv.slice;replace HB:=bTx2 HB hb;clear hb hv;go_wp2_with fail;refine (HGC.out _ _ w6 HN.out HM.out).mono ?_;rintro e w7 ⟨v7,rfl,hv,hb⟩;clear HN HM;have HG:=oH hv;obtain ⟨x7,X7,y7,z7,rfl⟩:=hv.slice;replace HB:=bTx2 HB hb;clear hb hv
 go_wp2_with fail;refine (zCs w7).mono ?_;rintro e w8 ⟨v8,rfl,hv,hb⟩;replace HG:=oH (HG.below hb);have HO:=oH hv;obtain ⟨x8,X8,y8,z8,rfl⟩:=hv.slice;replace HB:=bTx2 HB hb;clear hb hv;go_wp2_with fail;refine (zAk _ _ G 1 w8 HG.out HO.out oMx (Nat.le_trans zQo dCx)).mono ?_;rintro e w9 ⟨rfl,hb⟩;clear HG HO;replace HB:=bTx2 HB hb;clear hb;go_wp2_with fail;go_ret
 exact ⟨by rw [E.out];rfl,HB.out⟩
theorem zFg (q:Rat) (w:World) (hf:zBt q) (henv:Env w):Calls Tryz.prog 77 #[.string (zYy q)] w fun e w'=>e = .returned (.bool true)/\Below w.heap.size w w':=by
 have:=zFe (zZj q) w (by have:=zZl hf;omega) henv;rw [xGv hf] at this;exact this
theorem zFd (q:Rat) (w:World) (hf:zBt q) (henv:Env w):Calls Tryz.prog 69 #[.string (zYy q)] w fun e w'=>e = .returned (.int .i64 (sgR q))/\Below w.heap.size w w':=by
 have HV:=oH (zFg q w hf henv);have HR:=oH (fun W hE=>zBm q W hf hE);have HE:=oH henv;have sz:=hf.sz;clear henv hf
 go_enter Tryz.func69,Tryz.ntmps69
 go_wp2_with fail;refine (HV.out).mono ?_;rintro e w1 ⟨rfl,hb⟩;replace HE:=oH (HE.below hb);have HB:=oH hb;clear hb;go_wp2_with fail;refine (HR.out w1 HE.out).mono ?_;rintro e w2 ⟨v2,rfl,hv,hb⟩;replace HE:=oH (HE.below hb);have HF:=oH hv;obtain ⟨x2,x2',X2,X2',y2,z2,y2',z2',rfl⟩:=hv.slice;replace HB:=bTx2 HB hb;clear hb hv;go_wp2_with fail;refine (zBn _ q w2 HF.out (sz.mono oMx)).mono ?_;rintro e w3 ⟨rfl,hb⟩;replace HE:=oH (HE.below hb);replace HF:=oH (HF.below hb);replace HB:=bTx2 HB hb;clear hb;go_wp2_with fail;go_ret
 exact ⟨rfl,HB.out⟩
theorem zZa (n:Int):zYy (n:Rat)=str n:=by rw [zZh (Rat.den_intCast n),Rat.num_intCast]
def digR (q:Rat):Nat:=max (Lib.nDigits q.num.natAbs) (Lib.nDigits q.den)
def zGw (w:World) (A:oAx) (ss:List ByteArray):Prop:=ss≠[]->∃ b off,A=some ⟨b,off,none⟩/\b<w.heap.size/\∀ i,(h:i<ss.length)->w.cell? ⟨b,off+i,none⟩=some (.string ss[i])
theorem zGw.below {w w':World} {A:oAx} {ss:List ByteArray} (h:zGw w A ss) (hb:Below w.heap.size w w'):zGw w' A ss:=fun hn=>by
 obtain ⟨b,off,e,hlt,hc⟩:=h hn;have:=hb.size;exact ⟨b,off,e,oMx,fun i hi=>(hb.cell (p:=⟨b,off+i,none⟩) hlt).trans (hc i hi)⟩
theorem zGw.two {w:World} {g:Nat} {t:TypeId} {a b:ByteArray} (h:Blk w g t [.string a,.string b]):zGw w (some ⟨g,0,none⟩) [a,b]:=fun _=>⟨g,0,rfl,h.lt,fun i hi=>by
 rw [Nat.zero_add,h.cell]
 match i,hi with
 | 0,_=>rfl
 | 1,_=>rfl⟩
theorem zIf (s:ByteArray):(⟨s.data.toList.toArray⟩:ByteArray)=s:=by cases s;simp
theorem zIg (s:ByteArray):s.data.toList.length=s.size:=Array.length_toList
noncomputable def vR (s:ByteArray):Bool:=xGl s.data.toList
theorem xFo {q:Rat} (h:zBt q):vR (zYy q)=true:=by unfold vR;rw [zZb];exact xGv h
theorem vR_ex {s:ByteArray} (h:vR s=true):∃ q,s=zYy q/\zBt q:=by
 obtain ⟨q,hq,hf⟩:=xGo h;exact ⟨q,by rw [<-zIf s,hq];rfl,hf⟩
theorem zFf (s:ByteArray) (w:World) (hl:s.size<=4000000000) (henv:Env w) :
  Calls Tryz.prog 77 #[.string s] w fun e w'=>e = .returned (.bool (vR s))/\Below w.heap.size w w':=by
 have:=zFe s.data.toList w (by rw [zIg];exact hl) henv;rw [zIf] at this;exact this
def RetIdx (w:World) (ss:List ByteArray) (e:Ending) (w':World):Prop:=∃ r:Int,e = .returned (.int .i64 r)/\decide (0<=r) = !ss.all vR/\Below w.heap.size w w'
theorem zZd {q:Rat} (h:q≠0):zZj q≠[48]:=fun e=>by
 apply h
 apply zZk
 rw [e,zZo (show (0:Rat).den=1 from rfl)];exact zPo.symm
theorem zZi:zYy 0=⟨#[48]⟩:=by rw [zZh (show (0:Rat).den=1 from rfl)];exact str_zero
end Go.Proofs.YtfjjcoggoomlbaaGreatDoor
