import Derived.Test.YtbjaplppalcmgaaGreatDoorZP
set_option maxHeartbeats 16000000
set_option maxRecDepth 100000
namespace Go.Proofs.YtbjaplppalcmgaaGreatDoor
open Go.RowKit
def Env (w:World):Prop:=Tab w/\∃ m:Int,w.cell? ⟨0,0,none⟩=some (.int .i64 m)
theorem Env.tab {w:World} (h:Env w):Tab w:=h.1
theorem Env.below {w w':World} (h:Env w) (hb:Below w.heap.size w w'):Env w':=by
 obtain ⟨h1,m,hm⟩:=h;refine ⟨h1.below hb,m,?_⟩;rw [hb.cell (p:=⟨0,0,none⟩)]
 ·exact hm
 show 0<w.heap.size
 rcases Nat.lt_or_ge 0 w.heap.size with h|h
 ·exact h
 unfold World.cell? at hm;rw [Array.getElem?_eq_none h] at hm
 simp at hm
def zXl (q:Rat):ByteArray:=⟨(zXu q).toArray⟩
instance (q:Rat):Decidable (zBd q):=inferInstanceAs (Decidable (_/\_))
def zUa (q:Rat):ByteArray:=if zBd q then zXl q else ⟨#[]⟩
def zUb (q:Rat):Int:=if zBd q then 0 else 3
theorem zUe {q:Rat} (h:zBd q):zUa q=zXl q:=if_pos h
theorem zUc {q:Rat} (h:zBd q):zUb q=0:=if_pos h
theorem zUf {q:Rat} (h:¬zBd q):zUa q=⟨#[]⟩:=if_neg h
theorem zUd {q:Rat} (h:¬zBd q):zUb q=3:=if_neg h
theorem zOx {x:Int} (h:Fits x):(Lib.itoa x).length<=401:=by have:=zOy x;unfold Fits at h;omega
theorem zXw {q:Rat} (h:zBd q):(zXu q).length<=803:=by
 have h1:=zOx h.1;have h2:=zOx h.2;unfold zXu
 split
 ·omega
 simp;omega
theorem zXr (q:Rat):(zXl q).size=(zXu q).length:=by unfold zXl;simp [ByteArray.size]
theorem zXo (q:Rat):(zXl q).data.toList=zXu q:=by unfold zXl;simp
theorem zXq {q:Rat} (h:q.den≠1):(str q.num++⟨#[47]⟩)++str (q.den:Int)=zXl q:=by
 unfold zXl str;rw [zXy h,show (⟨#[47]⟩:ByteArray)=⟨[47].toArray⟩ from rfl,zIf,zIf]
 simp
theorem zXs {q:Rat} (h:q.den=1):zXl q=str q.num:=by unfold zXl str;rw [zXz h]
theorem zAh (l:List UInt8) (w:World) (hl:l.length<4294967281) (he:Env w) :
  Calls Tryz.prog 105 #[.string ⟨l.toArray⟩,.string ⟨#[47]⟩] w fun e w'=>e = .returned (.tuple #[.string ⟨(zJy l).1.toArray⟩,.string ⟨(zJy l).2.1.toArray⟩,.bool (zJy l).2.2])/\Below w.heap.size w w':=by
 obtain ⟨_,m,hm⟩:=he;have h:=Tryz.strings_Cut ⟨l.toArray⟩ ⟨#[47]⟩ m w (by simpa [ByteArray.size] using hl) hm;rw [show (⟨l.toArray⟩:ByteArray).data.toList=l by simp,show (⟨#[47]⟩:ByteArray).data.toList=[47] from rfl,zKe] at h;refine h.mono ?_;rintro e w' ⟨rfl,n,rfl⟩;exact ⟨rfl,below_drewN bRx _⟩
theorem zAj {q:Rat} (h:q.den=1) (hf:zBd q) (w:World) (he:Env w) :
  Calls Tryz.prog 105 #[.string (zXl q),.string ⟨#[47]⟩] w fun e w'=>e = .returned (.tuple #[.string (str q.num),.string ⟨#[]⟩,.bool false])/\Below w.heap.size w w':=by
 have:=zAh (zXu q) w (by have:=zXw hf;omega) he;rw [zKf h] at this;exact this
theorem zAi {q:Rat} (h:q.den≠1) (hf:zBd q) (w:World) (he:Env w) :
  Calls Tryz.prog 105 #[.string (zXl q),.string ⟨#[47]⟩] w fun e w'=>e = .returned (.tuple #[.string (str q.num),.string (str (q.den:Int)),.bool true])/\Below w.heap.size w w':=by
 have:=zAh (zXu q) w (by have:=zXw hf;omega) he;rw [zKd h] at this;exact this
theorem zCc (x:Int) (w:World) (hf:Fits x):Calls Tryz.prog 108 #[.string (str x)] w (zFw w x):=zFf x w (by unfold Fits at hf;omega)
theorem zTt:Fits 1:=zNe dCx
theorem zCd (w:World):Calls Tryz.prog 108 #[.string ⟨#[49]⟩] w (zFw w 1):=by
 have:=zCc 1 w zTt
 rwa [str_1] at this
theorem FRead_ok (q:Rat) (w:World) (hf:zBd q) (henv:Env w):Calls Tryz.prog 109 #[.string (zXl q)] w (zFp w q):=by
 have HR0:=oH (Blk.new w 73 [.bool false,.slice none 0 0,.bool false,.slice none 0 0]);have HBW:Hid (Below w.heap.size w (w.alloc (.cells #[.bool false,.slice none 0 0,.bool false,.slice none 0 0] 73))):=bA;have H1:=oH (fun W=>zCc q.num W hf.1)
 by_cases h:q.den=1
 ·have HC:=oH (fun W he=>zAj h hf W he);have H2:=oH zCd
  have ED:Hid ((1:Int)=(q.den:Int)):=by rw [h];rfl
  have HE:=oH henv;clear h hf henv
  go_enter Tryz.func109,Tryz.ntmps109
  go_wp2_with fail;generalize w.alloc (.cells #[.bool false,.slice none 0 0,.bool false,.slice none 0 0] 73)=W at *;refine (HC.out W (HE.below HBW.out)).mono ?_;rintro e w1 ⟨rfl,hb⟩;replace HR0:=oH (HR0.below hb);replace HBW:=bTx2 HBW hb;clear hb;go_wp2_with fail;refine (H1.out w1).mono ?_;rintro e w2 ⟨v2,rfl,hv2,hb⟩;have HN:=oH hv2;obtain ⟨x2,X2,y2,z2,rfl⟩:=hv2.slice;replace HR0:=oH (HR0.below hb);replace HBW:=bTx2 HBW hb;clear hb hv2;go_wp2_with fail;refine (H2.out w2).mono ?_;rintro e w3 ⟨v3,rfl,hv3,hb⟩;have HD:=oH hv3;obtain ⟨x3,X3,y3,z3,rfl⟩:=hv3.slice;replace HN:=oH (HN.below hb);replace HR0:=oH (HR0.below hb);replace HBW:=bTx2 HBW hb;have r0:=HR0.at_ (i:=0) rfl;have r1:=HR0.at_ (i:=1) rfl;have r2:=HR0.at_ (i:=2) rfl;have r3:=HR0.at_ (i:=3) rfl;have f0:=HR0.fr 0;have f1:=HR0.fr 1;have f2:=HR0.fr 2;have f3:=HR0.fr 3;clear hb hv3;go_wp2_with fail;refine bodyPost_ret (v := .agg #[.bool x2,.slice X2 y2 z2,.bool x3,.slice X3 y3 z3]) (by simp [results,Tryz.results109,go_sem, *]) rfl ?_
  exact zNl HR0.out zSk HBW.out lRx (zBo.mk HN.out HD.out rfl ED.out) rfl
 have HC:=oH (fun W he=>zAi h hf W he);have H2:=oH (fun W=>zCc (q.den:Int) W hf.2);have HE:=oH henv;clear h hf henv
 go_enter Tryz.func109,Tryz.ntmps109
 go_wp2_with fail;generalize w.alloc (.cells #[.bool false,.slice none 0 0,.bool false,.slice none 0 0] 73)=W at *;refine (HC.out W (HE.below HBW.out)).mono ?_;rintro e w1 ⟨rfl,hb⟩;replace HR0:=oH (HR0.below hb);replace HBW:=bTx2 HBW hb;clear hb;go_wp2_with fail;refine (H1.out w1).mono ?_;rintro e w2 ⟨v2,rfl,hv2,hb⟩;have HN:=oH hv2;obtain ⟨x2,X2,y2,z2,rfl⟩:=hv2.slice;replace HR0:=oH (HR0.below hb);replace HBW:=bTx2 HBW hb;clear hb hv2;go_wp2_with fail;refine (H2.out w2).mono ?_;rintro e w3 ⟨v3,rfl,hv3,hb⟩;have HD:=oH hv3;obtain ⟨x3,X3,y3,z3,rfl⟩:=hv3.slice;replace HN:=oH (HN.below hb);replace HR0:=oH (HR0.below hb);replace HBW:=bTx2 HBW hb;have r0:=HR0.at_ (i:=0) rfl;have r1:=HR0.at_ (i:=1) rfl;have r2:=HR0.at_ (i:=2) rfl;have r3:=HR0.at_ (i:=3) rfl;have f0:=HR0.fr 0;have f1:=HR0.fr 1;have f2:=HR0.fr 2;have f3:=HR0.fr 3;clear hb hv3;go_wp2_with fail;refine bodyPost_ret (v := .agg #[.bool x2,.slice X2 y2 z2,.bool x3,.slice X3 y3 z3]) (by simp [results,Tryz.results109,go_sem, *]) rfl ?_
 exact zNl HR0.out zSk HBW.out lRx (zBo.mk HN.out HD.out rfl rfl) rfl
theorem xBm {x:Int} (h:Fits x):(str x).size<=401:=by unfold str;simpa [ByteArray.size] using zOx h
theorem zCf (u:Value) (x:Int) (w:World) (hx:zBs w u x) (hlx:(limbs x.natAbs).length<=10000000) (htab:Tab w) :
  Calls Tryz.prog 122 #[u] w fun e w'=>e = .returned (.string (str x))/\Below w.heap.size w w':=zGw u x w hx hlx htab
theorem FRat_any (u:Value) (a:Rat) (w:World) (ha:zBo w u a) (hf:zBd a) (henv:Env w) :
  Calls Tryz.prog 93 #[u] w fun e w'=>e = .returned (.string (zXl a))/\Below w.heap.size w w':=by
 have sa:=hf.sz;have sda:=sa.2;have an:=sa.n;have ad:=sa.d;have z1:=xBm hf.1;have z2:=xBm hf.2;have HE:=oH henv;clear henv hf;have HA:=oH ha;obtain ⟨na,nb,A,A',l,c,l',c',rfl,h1,h2⟩:=ha.open_;have HAN:=oH h1;have HAD:=oH h2;clear ha h1 h2;have HS1:=oH (fun U V (hV:zBs V U a.num) (hE:Env V)=>zCf U a.num V hV oMx hE.tab);have HS2:=oH (fun U V (hV:zBs V U (a.den:Int)) (hE:Env V)=>zCf U (a.den:Int) V hV oMx hE.tab);have HWA:=oH (fun U V (hV:zBo V U a)=>xFs U a V hV oMx)
 by_cases hw:a.den=1
 ·have ew:xFr a=true:=decide_eq_true hw;rw [ew] at HWA;have EW:=oH (zXs hw);clear ew hw sa
  go_enter Tryz.func93,Tryz.ntmps93
  go_wp2_with fail;have hHK:=(Blk.new w 73 [.bool na,.slice A l c,.bool nb,.slice A' l' c']);have hB0:Below w.heap.size w (w.alloc (.cells #[.bool na,.slice A l c,.bool nb,.slice A' l' c'] 73)):=bA;generalize w.alloc (.cells #[.bool na,.slice A l c,.bool nb,.slice A' l' c'] 73)=W at *;have HK:=oH hHK;have HB:=oH hB0;clear hB0 hHK;replace HE:=oH (HE.below HB.out);replace HA:=oH (HA.below HB.out);replace HAN:=oH (HAN.below HB.out);replace HAD:=oH (HAD.below HB.out);refine (HWA.out _ W HA.out).mono ?_;rintro e w1 ⟨rfl,hb⟩;clear HA;replace HK:=oH (HK.below hb);replace HE:=oH (HE.below hb);replace HAN:=oH (HAN.below hb);replace HAD:=oH (HAD.below hb);replace HB:=bTx2 HB hb;clear hb;have k0:=HK.at_ (i:=0) rfl;have k1:=HK.at_ (i:=1) rfl;have k2:=HK.at_ (i:=2) rfl;have k3:=HK.at_ (i:=3) rfl;go_wp2_with fail;refine (HS1.out _ w1 HAN.out HE.out).mono ?_;rintro e w2 ⟨rfl,hb⟩;replace HK:=oH (HK.below hb)
  replace HE:=oH (HE.below hb);replace HAN:=oH (HAN.below hb);replace HAD:=oH (HAD.below hb);replace HB:=bTx2 HB hb;clear hb k0 k1 k2 k3;have k0:=HK.at_ (i:=0) rfl;have k1:=HK.at_ (i:=1) rfl;have k2:=HK.at_ (i:=2) rfl;have k3:=HK.at_ (i:=3) rfl;go_wp2_with fail;go_ret
  exact ⟨by rw [EW.out];rfl,HB.out⟩
 have ew:xFr a=false:=decide_eq_false hw;rw [ew] at HWA;have EW:=oH (zXq hw);clear ew hw sa;generalize str a.num=s1 at *;generalize str (a.den:Int)=s2 at *
 have q1:¬(9223372036854775807<s1.size+1):=by omega
 have q1':¬(9223372036854775807<=s1.size):=by omega
 have q2:¬(9223372036854775807<s1.size+1+s2.size):=by omega
 go_enter Tryz.func93,Tryz.ntmps93
 go_wp2_with fail;have hHK:=(Blk.new w 73 [.bool na,.slice A l c,.bool nb,.slice A' l' c']);have hB0:Below w.heap.size w (w.alloc (.cells #[.bool na,.slice A l c,.bool nb,.slice A' l' c'] 73)):=bA;generalize w.alloc (.cells #[.bool na,.slice A l c,.bool nb,.slice A' l' c'] 73)=W at *;have HK:=oH hHK;have HB:=oH hB0;clear hB0 hHK;replace HE:=oH (HE.below HB.out);replace HA:=oH (HA.below HB.out);replace HAN:=oH (HAN.below HB.out);replace HAD:=oH (HAD.below HB.out);refine (HWA.out _ W HA.out).mono ?_;rintro e w1 ⟨rfl,hb⟩;clear HA;replace HK:=oH (HK.below hb);replace HE:=oH (HE.below hb);replace HAN:=oH (HAN.below hb);replace HAD:=oH (HAD.below hb);replace HB:=bTx2 HB hb;clear hb;have k0:=HK.at_ (i:=0) rfl;have k1:=HK.at_ (i:=1) rfl;have k2:=HK.at_ (i:=2) rfl;have k3:=HK.at_ (i:=3) rfl;clear HWA;go_wp2_with fail;have P0:=oH (Blk.c4 HK.drew)
 have HED:Hid (∀ V:World,Env V->Env V.drew):=fun V h=>h
 go_region_held3 (fun w'=>C4 w' w.heap.size (.bool na) (.slice A l c) (.bool nb) (.slice A' l' c')) (first|with_reducible exact P0.out|with_reducible exact P5.out|with_reducible exact P6.out|go_keep) (first|(go_at_call 122;(with_reducible refine (HS2.out _ _ HAD5.out HE5.out).mono ?_);rintro e w6 ⟨rfl,hb⟩;have HK6:=oH (HK5.out.below hb);have HE6:=oH (HE5.out.below hb);have HAN6:=oH (HAN5.out.below hb);have HAD6:=oH (HAD5.out.below hb);have HB6:=bTx2 HB5 hb;have P6:=oH (Blk.c4 HK6.out);clear hb)|(go_at_call 122;(with_reducible refine (HS1.out _ _ HAN.out.drew (HED.out _ HE.out)).mono ?_);rintro e w5 ⟨rfl,hb⟩;have HK5:=oH (HK.out.drew.below hb);have HE5:=oH ((HED.out _ HE.out).below hb);have HAN5:=oH (HAN.out.drew.below hb);have HAD5:=oH (HAD.out.drew.below hb);have HB5:=oH (HB.out.drew.trans (hb.mono HB.out.size));have P5:=oH (Blk.c4 HK5.out);clear hb))
 go_wp2_with fail;go_ret
 exact ⟨by rw [<-EW.out];rfl,HB6.out⟩
theorem zAw (u:Value) (a:Rat) (w:World) (ha:zBo w u a) (sa:Sz 5000000 a) (henv:Env w) :
  Calls Tryz.prog 53 #[u] w fun e w'=>e = .returned (.tuple #[.string (zUa a),.int .i64 (zUb a)])/\Below w.heap.size w w':=by
 have an:=sa.n;have ad:=sa.d;have HE:=oH henv;clear henv;have HA:=oH ha;obtain ⟨na,nb,A,A',l,c,l',c',rfl,h1,h2⟩:=ha.open_;have HAN:=oH h1;have HAD:=oH h2;clear ha h1 h2;have HD1:=oH (fun U V (hV:zBs V U a.num) (hE:Env V)=>zAm U a.num V hV oMx hE.tab);have HD2:=oH (fun U V (hV:zBs V U (a.den:Int)) (hE:Env V)=>zAm U (a.den:Int) V hV oMx hE.tab)
 have F1:Fits a.num↔Lib.nDigits a.num.natAbs<=400:=by unfold Fits;rw [Lib.decDigits_length]
 have F2:Fits (a.den:Int)↔Lib.nDigits ((a.den:Int)).natAbs<=400:=by unfold Fits;rw [Lib.decDigits_length]
 have HR:=oH (fun U V (hV:zBo V U a) (hf:zBd a) (hE:Env V)=>FRat_any U a V hV hf hE);have F3:zBd a↔Fits a.num/\Fits (a.den:Int):=Iff.rfl;generalize Lib.nDigits a.num.natAbs=k1 at *;generalize Lib.nDigits ((a.den:Int)).natAbs=k2 at *
 by_cases h1:k1<=400
 ·have g1:decide ((k1:Int)>400)=false:=decide_eq_false oMx
  have g1':¬(400<k1):=by omega
  by_cases h2:k2<=400
  ·have HF:Hid (zBd a):=⟨F1.2 h1,F2.2 h2⟩;have E1:=oH (zUe HF.out);have E2:=oH (zUc HF.out)
   have g2:¬(400<k2):=by omega
   clear F1 F2 F3 h1 h2
   go_enter Tryz.func53,Tryz.ntmps53
   go_wp2_with fail;have hHK:=(Blk.new w 73 [.bool na,.slice A l c,.bool nb,.slice A' l' c']);have hB0:Below w.heap.size w (w.alloc (.cells #[.bool na,.slice A l c,.bool nb,.slice A' l' c'] 73)):=bA;generalize w.alloc (.cells #[.bool na,.slice A l c,.bool nb,.slice A' l' c'] 73)=W at *;have HK:=oH hHK;have HB:=oH hB0;clear hB0 hHK;replace HE:=oH (HE.below HB.out);replace HA:=oH (HA.below HB.out);replace HAN:=oH (HAN.below HB.out);replace HAD:=oH (HAD.below HB.out);refine (HD1.out _ W HAN.out HE.out).mono ?_;rintro e w1 ⟨rfl,hb⟩;replace HK:=oH (HK.below hb);replace HE:=oH (HE.below hb);replace HA:=oH (HA.below hb);replace HAN:=oH (HAN.below hb);replace HAD:=oH (HAD.below hb);replace HB:=bTx2 HB hb;clear hb;have k0:=HK.at_ (i:=0) rfl;have k1:=HK.at_ (i:=1) rfl;have k2:=HK.at_ (i:=2) rfl;have k3:=HK.at_ (i:=3) rfl;go_wp2_with fail;refine (HD2.out _ w1 HAD.out HE.out).mono ?_;rintro e w2 ⟨rfl,hb⟩
   replace HK:=oH (HK.below hb);replace HE:=oH (HE.below hb);replace HA:=oH (HA.below hb);replace HAN:=oH (HAN.below hb);replace HAD:=oH (HAD.below hb);replace HB:=bTx2 HB hb;clear hb k0 k1 k2 k3;have k0:=HK.at_ (i:=0) rfl;have k1:=HK.at_ (i:=1) rfl;have k2:=HK.at_ (i:=2) rfl;have k3:=HK.at_ (i:=3) rfl;go_wp2_with fail;refine (HR.out _ w2 HA.out HF.out HE.out).mono ?_;rintro e w3 ⟨rfl,hb⟩;replace HK:=oH (HK.below hb);replace HE:=oH (HE.below hb);replace HA:=oH (HA.below hb);replace HAN:=oH (HAN.below hb);replace HAD:=oH (HAD.below hb);replace HB:=bTx2 HB hb;clear hb k0 k1 k2 k3;have k0:=HK.at_ (i:=0) rfl;have k1:=HK.at_ (i:=1) rfl;have k2:=HK.at_ (i:=2) rfl;have k3:=HK.at_ (i:=3) rfl;go_wp2_with fail;go_ret2
   exact ⟨by rw [E1.out,E2.out];rfl,HB.out⟩
  have HF:Hid (¬zBd a):=fun h=>h2 (F2.1 h.2)
  have E1:=oH (zUf HF.out);have E2:=oH (zUd HF.out)
  have g2:400<k2:=by omega
  clear F1 F2 F3 h1 h2
  go_enter Tryz.func53,Tryz.ntmps53
  go_wp2_with fail;have hHK:=(Blk.new w 73 [.bool na,.slice A l c,.bool nb,.slice A' l' c']);have hB0:Below w.heap.size w (w.alloc (.cells #[.bool na,.slice A l c,.bool nb,.slice A' l' c'] 73)):=bA;generalize w.alloc (.cells #[.bool na,.slice A l c,.bool nb,.slice A' l' c'] 73)=W at *;have HK:=oH hHK;have HB:=oH hB0;clear hB0 hHK;replace HE:=oH (HE.below HB.out);replace HA:=oH (HA.below HB.out);replace HAN:=oH (HAN.below HB.out);replace HAD:=oH (HAD.below HB.out);refine (HD1.out _ W HAN.out HE.out).mono ?_;rintro e w1 ⟨rfl,hb⟩;replace HK:=oH (HK.below hb);replace HE:=oH (HE.below hb);replace HA:=oH (HA.below hb);replace HAN:=oH (HAN.below hb);replace HAD:=oH (HAD.below hb);replace HB:=bTx2 HB hb;clear hb;have k0:=HK.at_ (i:=0) rfl;have k1:=HK.at_ (i:=1) rfl;have k2:=HK.at_ (i:=2) rfl;have k3:=HK.at_ (i:=3) rfl;go_wp2_with fail;refine (HD2.out _ w1 HAD.out HE.out).mono ?_;rintro e w2 ⟨rfl,hb⟩
  replace HK:=oH (HK.below hb);replace HE:=oH (HE.below hb);replace HA:=oH (HA.below hb);replace HAN:=oH (HAN.below hb);replace HAD:=oH (HAD.below hb);replace HB:=bTx2 HB hb;clear hb k0 k1 k2 k3;have k0:=HK.at_ (i:=0) rfl;have k1:=HK.at_ (i:=1) rfl;have k2:=HK.at_ (i:=2) rfl;have k3:=HK.at_ (i:=3) rfl;go_wp2_with fail;go_ret2
  exact ⟨by rw [E1.out,E2.out];rfl,HB.out⟩
 have HF:Hid (¬zBd a):=fun h=>h1 (F1.1 h.1)
 have E1:=oH (zUf HF.out);have E2:=oH (zUd HF.out)
 have g2:400<k1:=by omega
 clear F1 F2 F3 h1
 go_enter Tryz.func53,Tryz.ntmps53
 go_wp2_with fail;have hHK:=(Blk.new w 73 [.bool na,.slice A l c,.bool nb,.slice A' l' c']);have hB0:Below w.heap.size w (w.alloc (.cells #[.bool na,.slice A l c,.bool nb,.slice A' l' c'] 73)):=bA;generalize w.alloc (.cells #[.bool na,.slice A l c,.bool nb,.slice A' l' c'] 73)=W at *;have HK:=oH hHK;have HB:=oH hB0;clear hB0 hHK;replace HE:=oH (HE.below HB.out);replace HA:=oH (HA.below HB.out);replace HAN:=oH (HAN.below HB.out);replace HAD:=oH (HAD.below HB.out);refine (HD1.out _ W HAN.out HE.out).mono ?_;rintro e w1 ⟨rfl,hb⟩;replace HK:=oH (HK.below hb);replace HE:=oH (HE.below hb);replace HA:=oH (HA.below hb);replace HAN:=oH (HAN.below hb);replace HAD:=oH (HAD.below hb);replace HB:=bTx2 HB hb;clear hb;have k0:=HK.at_ (i:=0) rfl;have k1:=HK.at_ (i:=1) rfl;have k2:=HK.at_ (i:=2) rfl;have k3:=HK.at_ (i:=3) rfl;go_wp2_with fail;go_ret2
 exact ⟨by rw [E1.out,E2.out];rfl,HB.out⟩
theorem zAy (n:Nat) (w:World) (hn:n<9223372036854775808):Calls Tryz.prog 58 #[.int .i64 (n:Int)] w (zFp w ((n:Int):Rat)):=by
 go_enter Tryz.func58,Tryz.ntmps58
 go_wp2_with fail;have hHR:=(Blk.new w 73 [.bool false,.slice none 0 0,.bool false,.slice none 0 0]);have hB0:Below w.heap.size w (w.alloc (.cells #[.bool false,.slice none 0 0,.bool false,.slice none 0 0] 73)):=bA;generalize w.alloc (.cells #[.bool false,.slice none 0 0,.bool false,.slice none 0 0] 73)=W at *;have HR:=oH hHR;have HB:=oH hB0;clear hB0 hHR;refine (zCa n W hn).mono ?_;rintro e w1 ⟨v1,rfl,hv,hb⟩;replace HR:=oH (HR.below hb);have HN:=oH hv;obtain ⟨x1,X1,y1,z1,rfl⟩:=hv.slice;replace HB:=bTx2 HB hb;clear hb hv;go_wp2_with fail;refine (zAz _ _ w1 HN.out).mono ?_;rintro e w2 ⟨v2,rfl,hv,hb⟩;replace HR:=oH (HR.below hb);replace HN:=oH (HN.below hb);have HF:=oH hv;obtain ⟨x2,x2',X2,X2',y2,z2,y2',z2',rfl⟩:=hv.slice;replace HB:=bTx2 HB hb;clear hb hv;have r0:=HR.at_ (i:=0) rfl;have r1:=HR.at_ (i:=1) rfl;have r2:=HR.at_ (i:=2) rfl;have r3:=HR.at_ (i:=3) rfl;have fr0:=HR.fr 0;have fr1:=HR.fr 1
 have fr2:=HR.fr 2;have fr3:=HR.fr 3;go_wp2_with fail;refine bodyPost_ret (v := .agg #[.bool x2,.slice X2 y2 z2,.bool x2',.slice X2' y2' z2']) (by simp [results,Tryz.results58,go_sem, *]) rfl ?_;exact zNl HR.out zSk HB.out lRx HF.out rfl
theorem xEw {l:List UInt8} (h:xEt (zJy l).1=false):xEu l=false:=by
 cases hk:(zJy l).2.2
 ·rw [xFb hk]
  rcases zJz l with ⟨h1,_⟩|⟨_,h2,_⟩
  ·rw [hk] at h1;cases h1
  rw [h2];exact h
 cases hv:xEu l
 ·rfl
 obtain ⟨n,d,h1,_,hf,_⟩:=(xFc hk).1 hv
 rw [h1,xFh hf] at h;cases h
theorem xEz {l:List UInt8} (h:xEt (zJy l).1=true) (hk:(zJy l).2.2=false):xEu l=true:=by
 rw [xFb hk]
 rcases zJz l with ⟨h1,_⟩|⟨_,h2,_⟩
 ·rw [hk] at h1;cases h1
 rw [h2];exact h
theorem xFf {l:List UInt8} (hk:(zJy l).2.2=true) (h:(zJy l).1=Lib.itoa 0):xEu l=false:=by
 cases hv:xEu l
 ·rfl
 obtain ⟨n,d,h1,_,_,_,hn,_⟩:=(xFc hk).1 hv;rw [h1] at h;exact absurd (zOw h) hn
theorem xEv {l:List UInt8} (hk:(zJy l).2.2=true) (h:xEt (zJy l).2.1=false):xEu l=false:=by
 cases hv:xEu l
 ·rfl
 obtain ⟨n,d,_,h2,_,hg,_⟩:=(xFc hk).1 hv
 rw [h2,xFh hg] at h;cases h
theorem xFd {l:List UInt8} {m:Int} (hk:(zJy l).2.2=true) (h:(zJy l).2.1=Lib.itoa m) (hm:m<=1):xEu l=false:=by
 cases hv:xEu l
 ·rfl
 obtain ⟨n,d,_,h2,_,_,_,hd,_⟩:=(xFc hk).1 hv;rw [h2] at h;have:=zOw h;omega
theorem xEy {l:List UInt8} {n m:Int} (hk:(zJy l).2.2=true) (h1:(zJy l).1=Lib.itoa n) (h2:(zJy l).2.1=Lib.itoa m) (fn:Fits n) (fm:Fits m) (hn:n≠0) (hm:1<m):xEu l=decide (n.natAbs.gcd m.natAbs=1):=by
 by_cases hg:n.natAbs.gcd m.natAbs=1
 ·rw [decide_eq_true hg];exact (xFc hk).2 ⟨n,m,h1,h2,fn,fm,hn,hm,hg⟩
 rw [decide_eq_false hg]
 cases hv:xEu l
 ·rfl
 obtain ⟨n',d',k1,k2,_,_,_,_,hc⟩:=(xFc hk).1 hv
 rw [k1] at h1;rw [k2] at h2
 rw [zOw h1,zOw h2] at hc;exact absurd hc hg
theorem gcd_sg (a b:Nat) (hb:0<b):(sg (((a.gcd b:Nat):Int)-1)==0)=decide (a.gcd b=1):=by
 have:=Nat.gcd_pos_of_pos_right a hb;unfold sg
 by_cases h:a.gcd b=1
 ·simp [h]
 rw [if_neg oMx,if_pos oMx]
 simp [h]
theorem RatValid (l:List UInt8) (w:World) (hl:l.length<=4000000000) (henv:Env w) :
  Calls Tryz.prog 68 #[.string ⟨l.toArray⟩] w fun e w'=>e = .returned (.bool (xEu l))/\Below w.heap.size w w':=by
 have HC:=oH (zAh l w oMx henv);have HV1:=oH (fun W=>zHi (zJy l).1 W (by have:=(zKa l).1;omega));have HV2:=oH (fun W=>zHi (zJy l).2.1 W (by have:=(zKa l).2;omega));clear henv
 cases hv1:xEt (zJy l).1
 ·have E:=oH (xEw hv1);rw [hv1] at HV1;clear hv1 HV2;generalize (zJy l).1=p at *;generalize (zJy l).2.1=q at *;generalize (zJy l).2.2=k at *
  cases k
  ·have tok:True:=trivial
   go_enter Tryz.func68,Tryz.ntmps68
   go_wp2_with fail;refine (HC.out).mono ?_;rintro e w1 ⟨rfl,hb⟩;have HB:=oH hb;clear hb;go_wp2_with fail;refine (HV1.out w1).mono ?_;rintro e w2 ⟨rfl,hb⟩;replace HB:=bTx2 HB hb;clear hb;go_wp2_with fail;refine (HV1.out w2).mono ?_;rintro e w3 ⟨rfl,hb⟩;replace HB:=bTx2 HB hb;clear hb;go_wp2_with fail;go_ret
   exact ⟨by rw [E.out];rfl,HB.out⟩
  have tok:True:=trivial
  go_enter Tryz.func68,Tryz.ntmps68
  go_wp2_with fail;refine (HC.out).mono ?_;rintro e w1 ⟨rfl,hb⟩;have HB:=oH hb;clear hb;go_wp2_with fail;refine (HV1.out w1).mono ?_;rintro e w2 ⟨rfl,hb⟩;replace HB:=bTx2 HB hb;clear hb;go_wp2_with fail;go_ret
  exact ⟨by rw [E.out];rfl,HB.out⟩
 cases hk:(zJy l).2.2
 ·have E:=oH (xEz hv1 hk);rw [hk] at HC;rw [hv1] at HV1;clear hv1 hk HV2;generalize (zJy l).1=p at *;generalize (zJy l).2.1=q at *
  go_enter Tryz.func68,Tryz.ntmps68
  go_wp2_with fail;refine (HC.out).mono ?_;rintro e w1 ⟨rfl,hb⟩;have HB:=oH hb;clear hb;go_wp2_with fail;refine (HV1.out w1).mono ?_;rintro e w2 ⟨rfl,hb⟩;replace HB:=bTx2 HB hb;clear hb;go_wp2_with fail;refine (HV1.out w2).mono ?_;rintro e w3 ⟨rfl,hb⟩;replace HB:=bTx2 HB hb;clear hb;go_wp2_with fail;go_ret
  exact ⟨by rw [E.out];rfl,HB.out⟩
 obtain ⟨n,hn,fn⟩:=xFg hv1
 by_cases hn0:n=0
 ·subst hn0;have E:=oH (xFf hk hn);rw [hk] at HC;rw [hv1] at HV1;rw [hn,zPe] at HC HV1;clear hv1 hk hn HV2;generalize (zJy l).2.1=q at *
  go_enter Tryz.func68,Tryz.ntmps68
  go_wp2_with fail;refine (HC.out).mono ?_;rintro e w1 ⟨rfl,hb⟩;have HB:=oH hb;clear hb;go_wp2_with fail;refine (HV1.out w1).mono ?_;rintro e w2 ⟨rfl,hb⟩;replace HB:=bTx2 HB hb;clear hb;go_wp2_with fail;go_ret
  exact ⟨by rw [E.out];rfl,HB.out⟩
 have hq0:((⟨(Lib.itoa n).toArray⟩:ByteArray).toList==[48])=false:=by rw [Lib.toList_data,beq_eq_false_iff_ne];exact fun e=>hn0 (zOv.1 e)
 have hq0':(Lib.itoa n==[48])=false:=by rw [beq_eq_false_iff_ne];exact fun e=>hn0 (zOv.1 e)
 have HRN:=oH (fun W=>zCc n W fn);have lnn:=fn.len
 cases hv2:xEt (zJy l).2.1
 ·have E:=oH (xEv hk hv2);rw [hk] at HC;rw [hv1] at HV1;rw [hv2] at HV2;rw [hn] at HC HV1;clear hv1 hv2 hk hn;generalize (zJy l).2.1=q at *;generalize Lib.itoa n=p at *
  go_enter Tryz.func68,Tryz.ntmps68
  go_wp2_with fail;refine (HC.out).mono ?_;rintro e w1 ⟨rfl,hb⟩;have HB:=oH hb;clear hb;go_wp2_with fail;refine (HV1.out w1).mono ?_;rintro e w2 ⟨rfl,hb⟩;replace HB:=bTx2 HB hb;clear hb;go_wp2_with fail;refine (HV2.out w2).mono ?_;rintro e w3 ⟨rfl,hb⟩;replace HB:=bTx2 HB hb;clear hb;go_wp2_with fail;go_ret
  exact ⟨by rw [E.out];rfl,HB.out⟩
 obtain ⟨m,hm,fm⟩:=xFg hv2;have HCM:=oH (fun W=>zBi m 1 W fm zTt);rw [str_1] at HCM;have HRM:=oH (fun W=>zCc m W fm);have lmm:=fm.len;unfold str at HCM HRN HRM
 by_cases hm1:m<=1
 ·have E:=oH (xFd hk hm hm1)
  have hs:sg (m-1)<=0:=by unfold sg;split<;>(try split)<;>omega
  rw [hk] at HC;rw [hv1] at HV1;rw [hv2] at HV2;rw [hn,hm] at HC;rw [hn] at HV1;rw [hm] at HV2;clear hv1 hv2 hk hn hm HRN HRM;generalize Lib.itoa n=p at *;generalize Lib.itoa m=q at *
  go_enter Tryz.func68,Tryz.ntmps68
  go_wp2_with fail;refine (HC.out).mono ?_;rintro e w1 ⟨rfl,hb⟩;have HB:=oH hb;clear hb;go_wp2_with fail;refine (HV1.out w1).mono ?_;rintro e w2 ⟨rfl,hb⟩;replace HB:=bTx2 HB hb;clear hb;go_wp2_with fail;refine (HV2.out w2).mono ?_;rintro e w3 ⟨rfl,hb⟩;replace HB:=bTx2 HB hb;clear hb;go_wp2_with fail;refine (HCM.out w3).mono ?_;rintro e w4 ⟨rfl,hb⟩;replace HB:=bTx2 HB hb;clear hb;go_wp2_with fail;go_ret
  exact ⟨by rw [E.out];rfl,HB.out⟩
 have hmp:0<m.natAbs:=by omega
 have E:=oH ((xEy hk hn hm fn fm hn0 oMx).trans (gcd_sg n.natAbs m.natAbs hmp).symm)
 have hs:¬sg (m-1)<=0:=by unfold sg;rw [if_neg oMx,if_pos oMx];omega
 have lg:(limbs (((n.natAbs.gcd m.natAbs:Nat):Int)).natAbs).length<=45:=by rw [Int.natAbs_natCast];exact Nat.le_trans (zQd (Nat.gcd_le_right _ hmp)) lmm
 rw [hk] at HC;rw [hv1] at HV1;rw [hv2] at HV2;rw [hn,hm] at HC;rw [hn] at HV1;rw [hm] at HV2;have HGC:=oH (fun U V W (hU:zBs W U n) (hV:zBs W V m)=>zBg U V n m W hU hV oMx oMx);clear hv1 hv2 hk hn hm;generalize Lib.itoa n=p at *;generalize Lib.itoa m=q at *;generalize ((n.natAbs.gcd m.natAbs:Nat):Int)=G at *
 go_enter Tryz.func68,Tryz.ntmps68
 go_wp2_with fail;refine (HC.out).mono ?_;rintro e w1 ⟨rfl,hb⟩;have HB:=oH hb;clear hb;go_wp2_with fail;refine (HV1.out w1).mono ?_;rintro e w2 ⟨rfl,hb⟩;replace HB:=bTx2 HB hb;clear hb;go_wp2_with fail;refine (HV2.out w2).mono ?_;rintro e w3 ⟨rfl,hb⟩;replace HB:=bTx2 HB hb;clear hb;go_wp2_with fail;refine (HCM.out w3).mono ?_;rintro e w4 ⟨rfl,hb⟩;replace HB:=bTx2 HB hb;clear hb;go_wp2_with fail;refine (HRN.out w4).mono ?_;rintro e w5 ⟨v5,rfl,hv,hb⟩;have HN:=oH hv;obtain ⟨x5,X5,y5,z5,rfl⟩:=hv.slice;replace HB:=bTx2 HB hb;clear hb hv;go_wp2_with fail;refine (HRM.out w5).mono ?_;rintro e w6 ⟨v6,rfl,hv,hb⟩;replace HN:=oH (HN.below hb);have HM:=oH hv;obtain ⟨x6,X6,y6,z6,rfl⟩:=hv.slice;replace HB:=bTx2 HB hb;clear hb hv;go_wp2_with fail;refine (HGC.out _ _ w6 HN.out HM.out).mono ?_;rintro e w7 ⟨v7,rfl,hv,hb⟩;clear HN HM;have HG:=oH hv;obtain ⟨x7,X7,y7,z7,rfl⟩:=hv.slice;replace HB:=bTx2 HB hb;clear hb hv
 go_wp2_with fail;refine (zCb w7).mono ?_;rintro e w8 ⟨v8,rfl,hv,hb⟩;replace HG:=oH (HG.below hb);have HO:=oH hv;obtain ⟨x8,X8,y8,z8,rfl⟩:=hv.slice;replace HB:=bTx2 HB hb;clear hb hv;go_wp2_with fail;refine (zAg _ _ G 1 w8 HG.out HO.out oMx (Nat.le_trans zPn dCx)).mono ?_;rintro e w9 ⟨rfl,hb⟩;clear HG HO;replace HB:=bTx2 HB hb;clear hb;go_wp2_with fail;go_ret
 exact ⟨by rw [E.out];rfl,HB.out⟩
theorem zXn (n:Int):zXl (n:Rat)=str n:=by rw [zXs (Rat.den_intCast n),Rat.num_intCast]
def digR (q:Rat):Nat:=max (Lib.nDigits q.num.natAbs) (Lib.nDigits q.den)
def zGx (w:World) (A:oAx) (ss:List ByteArray):Prop:=ss≠[]->∃ b off,A=some ⟨b,off,none⟩/\b<w.heap.size/\∀ i,(h:i<ss.length)->w.cell? ⟨b,off+i,none⟩=some (.string ss[i])
theorem zGx.below {w w':World} {A:oAx} {ss:List ByteArray} (h:zGx w A ss) (hb:Below w.heap.size w w'):zGx w' A ss:=fun hn=>by
 obtain ⟨b,off,e,hlt,hc⟩:=h hn;have:=hb.size;exact ⟨b,off,e,oMx,fun i hi=>(hb.cell (p:=⟨b,off+i,none⟩) hlt).trans (hc i hi)⟩
theorem zGx.two {w:World} {g:Nat} {t:TypeId} {a b:ByteArray} (h:Blk w g t [.string a,.string b]):zGx w (some ⟨g,0,none⟩) [a,b]:=fun _=>⟨g,0,rfl,h.lt,fun i hi=>by
 rw [Nat.zero_add,h.cell]
 match i,hi with
 | 0,_=>rfl
 | 1,_=>rfl⟩
theorem zIg (s:ByteArray):(⟨s.data.toList.toArray⟩:ByteArray)=s:=by cases s;simp
theorem zIh (s:ByteArray):s.data.toList.length=s.size:=Array.length_toList
noncomputable def vR (s:ByteArray):Bool:=xEu s.data.toList
theorem xDv {q:Rat} (h:zBd q):vR (zXl q)=true:=by unfold vR;rw [zXo];exact xFe h
theorem vR_ex {s:ByteArray} (h:vR s=true):∃ q,s=zXl q/\zBd q:=by
 obtain ⟨q,hq,hf⟩:=xEx h;exact ⟨q,by rw [<-zIg s,hq];rfl,hf⟩
theorem zFd (s:ByteArray) (w:World) (hl:s.size<=4000000000) (henv:Env w) :
  Calls Tryz.prog 68 #[.string s] w fun e w'=>e = .returned (.bool (vR s))/\Below w.heap.size w w':=by
 have:=RatValid s.data.toList w (by rw [zIh];exact hl) henv;rw [zIg] at this;exact this
def RetIdx (w:World) (ss:List ByteArray) (e:Ending) (w':World):Prop:=∃ r:Int,e = .returned (.int .i64 r)/\decide (0<=r) = !ss.all vR/\Below w.heap.size w w'
theorem zXt:zXl 0=⟨#[48]⟩:=by rw [zXs (show (0:Rat).den=1 from rfl)];exact str_zero
end Go.Proofs.YtbjaplppalcmgaaGreatDoor
