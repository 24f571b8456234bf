import Derived.Test.YtfjjcoggoomlbaaGreatDoorZQ
set_option maxHeartbeats 16000000
set_option maxRecDepth 100000
namespace Go.Proofs.YtfjjcoggoomlbaaGreatDoor
open Go.RowKit
def Env (w:World):Prop:=Tab w∧∃ m:Int,w.cell? ⟨0,0,none⟩=some (.int .i64 m)
theorem Env.tab {w:World} (h:Env w):Tab w:=h.1
theorem Env.below {w w':World} (h:Env w) (hb:Below w.heap.size w w'):Env w':=by
 obtain ⟨h1,m,hm⟩:=h
 refine ⟨h1.below hb,m,?_⟩
 rw [hb.cell (p:=⟨0,0,none⟩)]
 ·exact hm
 ·show 0<w.heap.size
  rcases Nat.lt_or_ge 0 w.heap.size with h|h
  ·exact h
  ·unfold World.cell? at hm
   rw [Array.getElem?_eq_none h] at hm
   simp at hm
def zYj (q:Rat):ByteArray:=⟨(zYt q).toArray⟩
instance (q:Rat):Decidable (zBp q):=inferInstanceAs (Decidable (_∧_))
def outR (q:Rat):ByteArray:=if zBp q then zYj q else ⟨#[]⟩
def zUk (q:Rat):Int:=if zBp q then 0 else 3
theorem zUn {q:Rat} (h:zBp q):outR q=zYj q:=if_pos h
theorem zUl {q:Rat} (h:zBp q):zUk q=0:=if_pos h
theorem zUo {q:Rat} (h:¬zBp q):outR q=⟨#[]⟩:=if_neg h
theorem zUm {q:Rat} (h:¬zBp q):zUk q=3:=if_neg h
theorem zOm {x:Int} (h:Fits x):(Lib.itoa x).length≤401:=by have:=zOn x;unfold Fits at h;omega
theorem zYv {q:Rat} (h:zBp q):(zYt q).length≤803:=by
 have h1:=zOm h.1
 have h2:=zOm h.2
 unfold zYt
 split
 ·omega
 ·simp;omega
theorem zYq (q:Rat):(zYj q).size=(zYt q).length:=by unfold zYj;simp [ByteArray.size]
theorem zYm (q:Rat):(zYj q).data.toList=zYt q:=by unfold zYj;simp
theorem zYp {q:Rat} (h:q.den≠1):(str q.num++⟨#[47]⟩)++str (q.den:Int)=zYj q:=by
 unfold zYj str
 rw [zYx h,show (⟨#[47]⟩:ByteArray)=⟨[47].toArray⟩ from rfl,zHo,zHo]
 simp
theorem zYr {q:Rat} (h:q.den=1):zYj q=str q.num:=by unfold zYj str;rw [zYy h]
theorem zAk (l:List UInt8) (w:World) (hl:l.length<4294967281) (he:Env w) :
  Calls Tryz.prog 129 #[.string ⟨l.toArray⟩,.string ⟨#[47]⟩] w fun e w'=>e = .returned (.tuple #[.string ⟨(zJo l).1.toArray⟩,.string ⟨(zJo l).2.1.toArray⟩,.bool (zJo l).2.2])∧Below w.heap.size w w':=by
 obtain ⟨_,m,hm⟩:=he
 have h:=Tryz.strings_Cut ⟨l.toArray⟩ ⟨#[47]⟩ m w (by simpa [ByteArray.size] using hl) hm
 rw [show (⟨l.toArray⟩:ByteArray).data.toList=l by simp,show (⟨#[47]⟩:ByteArray).data.toList=[47] from rfl,zJv] at h
 refine h.mono ?_
 rintro e w' ⟨rfl,n,rfl⟩
 exact ⟨rfl,below_drewN bRx _⟩
theorem zAm {q:Rat} (h:q.den=1) (hf:zBp q) (w:World) (he:Env w) :
  Calls Tryz.prog 129 #[.string (zYj q),.string ⟨#[47]⟩] w fun e w'=>e = .returned (.tuple #[.string (str q.num),.string ⟨#[]⟩,.bool false])∧Below w.heap.size w w':=by
 have:=zAk (zYt q) w (by have:=zYv hf;omega) he
 rw [zJw h] at this
 exact this
theorem zAl {q:Rat} (h:q.den≠1) (hf:zBp q) (w:World) (he:Env w) :
  Calls Tryz.prog 129 #[.string (zYj q),.string ⟨#[47]⟩] w fun e w'=>e = .returned (.tuple #[.string (str q.num),.string (str (q.den:Int)),.bool true])∧Below w.heap.size w w':=by
 have:=zAk (zYt q) w (by have:=zYv hf;omega) he
 rw [zJu h] at this
 exact this
theorem zCn (x:Int) (w:World) (hf:Fits x):Calls Tryz.prog 130 #[.string (str x)] w (zFq w x):=zFb x w (by unfold Fits at hf;omega)
theorem zUc:Fits 1:=zMy dCx
theorem zCo (w:World):Calls Tryz.prog 130 #[.string ⟨#[49]⟩] w (zFq w 1):=by
 have:=zCn 1 w zUc
 rwa [str_1] at this
theorem zBj (q:Rat) (w:World) (hf:zBp q) (henv:Env w):Calls Tryz.prog 60 #[.string (zYj q)] w (zFl w q):=by
 have HR0:=oH (Blk.new w 89 [.bool false,.slice none 0 0,.bool false,.slice none 0 0])
 have HBW:Hid (Below w.heap.size w (w.alloc (.cells #[.bool false,.slice none 0 0,.bool false,.slice none 0 0] 89))):=bA
 have H1:=oH (fun W=>zCn q.num W hf.1)
 by_cases h:q.den=1
 ·have HC:=oH (fun W he=>zAm h hf W he)
  have H2:=oH zCo
  have ED:Hid ((1:Int)=(q.den:Int)):=by rw [h];rfl
  have HE:=oH henv
  clear h hf henv
  go_enter Tryz.func60,Tryz.ntmps60
  go_wp2_with fail
  generalize w.alloc (.cells #[.bool false,.slice none 0 0,.bool false,.slice none 0 0] 89)=W at *
  refine (HC.out W (HE.below HBW.out)).mono ?_
  rintro e w1 ⟨rfl,hb⟩
  replace HR0:=oH (HR0.below hb)
  replace HBW:=oH (HBW.trans (hb.mono HBW.size))
  clear hb
  go_wp2_with fail
  refine (H1.out w1).mono ?_
  rintro e w2 ⟨v2,rfl,hv2,hb⟩
  have HN:=oH hv2
  obtain ⟨x2,X2,y2,z2,rfl⟩:=hv2.slice
  replace HR0:=oH (HR0.below hb)
  replace HBW:=oH (HBW.trans (hb.mono HBW.size))
  clear hb hv2
  go_wp2_with fail
  refine (H2.out w2).mono ?_
  rintro e w3 ⟨v3,rfl,hv3,hb⟩
  have HD:=oH hv3
  obtain ⟨x3,X3,y3,z3,rfl⟩:=hv3.slice
  replace HN:=oH (HN.below hb)
  replace HR0:=oH (HR0.below hb)
  replace HBW:=oH (HBW.trans (hb.mono HBW.size))
  have r0:=HR0.at_ (i:=0) rfl
  have r1:=HR0.at_ (i:=1) rfl
  have r2:=HR0.at_ (i:=2) rfl
  have r3:=HR0.at_ (i:=3) rfl
  have f0:=HR0.fr 0
  have f1:=HR0.fr 1
  have f2:=HR0.fr 2
  have f3:=HR0.fr 3
  clear hb hv3
  go_wp2_with fail
  refine bodyPost_ret (v := .agg #[.bool x2,.slice X2 y2 z2,.bool x3,.slice X3 y3 z3]) (by simp [results,Tryz.results60,go_sem, *]) rfl ?_
  exact zNk HR0.out zSt HBW.out lRx (zCb.mk HN.out HD.out rfl ED.out) rfl
 ·have HC:=oH (fun W he=>zAl h hf W he)
  have H2:=oH (fun W=>zCn (q.den:Int) W hf.2)
  have HE:=oH henv
  clear h hf henv
  go_enter Tryz.func60,Tryz.ntmps60
  go_wp2_with fail
  generalize w.alloc (.cells #[.bool false,.slice none 0 0,.bool false,.slice none 0 0] 89)=W at *
  refine (HC.out W (HE.below HBW.out)).mono ?_
  rintro e w1 ⟨rfl,hb⟩
  replace HR0:=oH (HR0.below hb)
  replace HBW:=oH (HBW.trans (hb.mono HBW.size))
  clear hb
  go_wp2_with fail
  refine (H1.out w1).mono ?_
  rintro e w2 ⟨v2,rfl,hv2,hb⟩
  have HN:=oH hv2
  obtain ⟨x2,X2,y2,z2,rfl⟩:=hv2.slice
  replace HR0:=oH (HR0.below hb)
  replace HBW:=oH (HBW.trans (hb.mono HBW.size))
  clear hb hv2
  go_wp2_with fail
  refine (H2.out w2).mono ?_
  rintro e w3 ⟨v3,rfl,hv3,hb⟩
  have HD:=oH hv3
  obtain ⟨x3,X3,y3,z3,rfl⟩:=hv3.slice
  replace HN:=oH (HN.below hb)
  replace HR0:=oH (HR0.below hb)
  replace HBW:=oH (HBW.trans (hb.mono HBW.size))
  have r0:=HR0.at_ (i:=0) rfl
  have r1:=HR0.at_ (i:=1) rfl
  have r2:=HR0.at_ (i:=2) rfl
  have r3:=HR0.at_ (i:=3) rfl
  have f0:=HR0.fr 0
  have f1:=HR0.fr 1
  have f2:=HR0.fr 2
  have f3:=HR0.fr 3
  clear hb hv3
  go_wp2_with fail
  refine bodyPost_ret (v := .agg #[.bool x2,.slice X2 y2 z2,.bool x3,.slice X3 y3 z3]) (by simp [results,Tryz.results60,go_sem, *]) rfl ?_
  exact zNk HR0.out zSt HBW.out lRx (zCb.mk HN.out HD.out rfl rfl) rfl
theorem xCc {x:Int} (h:Fits x):(str x).size≤401:=by unfold str;simpa [ByteArray.size] using zOm h
theorem zCp (u:Value) (x:Int) (w:World) (hx:zCe w u x) (hlx:(limbs x.natAbs).length≤10000000) (htab:Tab w) :
  Calls Tryz.prog 132 #[u] w fun e w'=>e = .returned (.string (str x))∧Below w.heap.size w w':=zGn u x w hx hlx htab
theorem zBh (u:Value) (a:Rat) (w:World) (ha:zCb w u a) (hf:zBp a) (henv:Env w) :
  Calls Tryz.prog 62 #[u] w fun e w'=>e = .returned (.string (zYj a))∧Below w.heap.size w w':=by
 have sa:=hf.sz
 have sda:=sa.2
 have an:=sa.n
 have ad:=sa.d
 have z1:=xCc hf.1
 have z2:=xCc hf.2
 have HE:=oH henv
 clear henv hf
 have HA:=oH ha
 obtain ⟨na,nb,A,A',l,c,l',c',rfl,h1,h2⟩:=ha.open_
 have HAN:=oH h1
 have HAD:=oH h2
 clear ha h1 h2
 have HS1:=oH (fun U V (hV:zCe V U a.num) (hE:Env V)=>zCp U a.num V hV oMx hE.tab)
 have HS2:=oH (fun U V (hV:zCe V U (a.den:Int)) (hE:Env V)=>zCp U (a.den:Int) V hV oMx hE.tab)
 have HWA:=oH (fun U V (hV:zCb V U a)=>xGi U a V hV oMx)
 by_cases hw:a.den=1
 ·have ew:xGh a=true:=decide_eq_true hw
  rw [ew] at HWA
  have EW:=oH (zYr hw)
  clear ew hw sa
  go_enter Tryz.func62,Tryz.ntmps62
  go_wp2_with fail
  have hHK:=(Blk.new w 89 [.bool na,.slice A l c,.bool nb,.slice A' l' c'])
  have hB0:Below w.heap.size w (w.alloc (.cells #[.bool na,.slice A l c,.bool nb,.slice A' l' c'] 89)):=bA
  generalize w.alloc (.cells #[.bool na,.slice A l c,.bool nb,.slice A' l' c'] 89)=W at *
  have HK:=oH hHK
  have HB:=oH hB0
  clear hB0 hHK
  replace HE:=oH (HE.below HB.out)
  replace HA:=oH (HA.below HB.out)
  replace HAN:=oH (HAN.below HB.out)
  replace HAD:=oH (HAD.below HB.out)
  refine (HWA.out _ W HA.out).mono ?_
  rintro e w1 ⟨rfl,hb⟩
  clear HA
  replace HK:=oH (HK.below hb)
  replace HE:=oH (HE.below hb)
  replace HAN:=oH (HAN.below hb)
  replace HAD:=oH (HAD.below hb)
  replace HB:=oH (HB.trans (hb.mono HB.size))
  clear hb
  have k0:=HK.at_ (i:=0) rfl
  have k1:=HK.at_ (i:=1) rfl
  have k2:=HK.at_ (i:=2) rfl
  have k3:=HK.at_ (i:=3) rfl
  go_wp2_with fail
  refine (HS1.out _ w1 HAN.out HE.out).mono ?_
  rintro e w2 ⟨rfl,hb⟩
  replace HK:=oH (HK.below hb)
  replace HE:=oH (HE.below hb)
  replace HAN:=oH (HAN.below hb)
  replace HAD:=oH (HAD.below hb)
  replace HB:=oH (HB.trans (hb.mono HB.size))
  clear hb k0 k1 k2 k3
  have k0:=HK.at_ (i:=0) rfl
  have k1:=HK.at_ (i:=1) rfl
  have k2:=HK.at_ (i:=2) rfl
  have k3:=HK.at_ (i:=3) rfl
  go_wp2_with fail
  go_ret
  exact ⟨by rw [EW.out];rfl,HB.out⟩
 ·have ew:xGh a=false:=decide_eq_false hw
  rw [ew] at HWA
  have EW:=oH (zYp hw)
  clear ew hw sa
  generalize str a.num=s1 at *
  generalize str (a.den:Int)=s2 at *
  have q1:¬(9223372036854775807<s1.size+1):=by omega
  have q1':¬(9223372036854775807≤s1.size):=by omega
  have q2:¬(9223372036854775807<s1.size+1+s2.size):=by omega
  go_enter Tryz.func62,Tryz.ntmps62
  go_wp2_with fail
  have hHK:=(Blk.new w 89 [.bool na,.slice A l c,.bool nb,.slice A' l' c'])
  have hB0:Below w.heap.size w (w.alloc (.cells #[.bool na,.slice A l c,.bool nb,.slice A' l' c'] 89)):=bA
  generalize w.alloc (.cells #[.bool na,.slice A l c,.bool nb,.slice A' l' c'] 89)=W at *
  have HK:=oH hHK
  have HB:=oH hB0
  clear hB0 hHK
  replace HE:=oH (HE.below HB.out)
  replace HA:=oH (HA.below HB.out)
  replace HAN:=oH (HAN.below HB.out)
  replace HAD:=oH (HAD.below HB.out)
  refine (HWA.out _ W HA.out).mono ?_
  rintro e w1 ⟨rfl,hb⟩
  clear HA
  replace HK:=oH (HK.below hb)
  replace HE:=oH (HE.below hb)
  replace HAN:=oH (HAN.below hb)
  replace HAD:=oH (HAD.below hb)
  replace HB:=oH (HB.trans (hb.mono HB.size))
  clear hb
  have k0:=HK.at_ (i:=0) rfl
  have k1:=HK.at_ (i:=1) rfl
  have k2:=HK.at_ (i:=2) rfl
  have k3:=HK.at_ (i:=3) rfl
  clear HWA
  go_wp2_with fail
  have P0:=oH (Blk.c4 HK.drew)
  have HED:Hid (∀ V:World,Env V→Env V.drew):=fun V h=>h
  go_region_held3 (fun w'=>C4 w' w.heap.size (.bool na) (.slice A l c) (.bool nb) (.slice A' l' c')) (first|with_reducible exact P0.out|with_reducible exact P5.out|with_reducible exact P6.out|go_keep) (first|(go_at_call 132;(with_reducible refine (HS2.out _ _ HAD5.out HE5.out).mono ?_);rintro e w6 ⟨rfl,hb⟩;have HK6:=oH (HK5.out.below hb);have HE6:=oH (HE5.out.below hb);have HAN6:=oH (HAN5.out.below hb);have HAD6:=oH (HAD5.out.below hb);have HB6:=oH (HB5.out.trans (hb.mono HB5.out.size));have P6:=oH (Blk.c4 HK6.out);clear hb)|(go_at_call 132;(with_reducible refine (HS1.out _ _ HAN.out.drew (HED.out _ HE.out)).mono ?_);rintro e w5 ⟨rfl,hb⟩;have HK5:=oH (HK.out.drew.below hb);have HE5:=oH ((HED.out _ HE.out).below hb);have HAN5:=oH (HAN.out.drew.below hb);have HAD5:=oH (HAD.out.drew.below hb);have HB5:=oH (HB.out.drew.trans (hb.mono HB.out.size));have P5:=oH (Blk.c4 HK5.out);clear hb))
  go_wp2_with fail
  go_ret
  exact ⟨by rw [←EW.out];rfl,HB6.out⟩
theorem zBd (u:Value) (a:Rat) (w:World) (ha:zCb w u a) (sa:Sz 5000000 a) (henv:Env w) :
  Calls Tryz.prog 54 #[u] w fun e w'=>e = .returned (.tuple #[.string (outR a),.int .i64 (zUk a)])∧Below w.heap.size w w':=by
 have an:=sa.n
 have ad:=sa.d
 have HE:=oH henv
 clear henv
 have HA:=oH ha
 obtain ⟨na,nb,A,A',l,c,l',c',rfl,h1,h2⟩:=ha.open_
 have HAN:=oH h1
 have HAD:=oH h2
 clear ha h1 h2
 have HD1:=oH (fun U V (hV:zCe V U a.num) (hE:Env V)=>zAu U a.num V hV oMx hE.tab)
 have HD2:=oH (fun U V (hV:zCe V U (a.den:Int)) (hE:Env V)=>zAu U (a.den:Int) V hV oMx hE.tab)
 have F1:Fits a.num↔Lib.nDigits a.num.natAbs≤400:=by unfold Fits;rw [Lib.decDigits_length]
 have F2:Fits (a.den:Int)↔Lib.nDigits ((a.den:Int)).natAbs≤400:=by unfold Fits;rw [Lib.decDigits_length]
 have HR:=oH (fun U V (hV:zCb V U a) (hf:zBp a) (hE:Env V)=>zBh U a V hV hf hE)
 have F3:zBp a↔Fits a.num∧Fits (a.den:Int):=Iff.rfl
 generalize Lib.nDigits a.num.natAbs=k1 at *
 generalize Lib.nDigits ((a.den:Int)).natAbs=k2 at *
 by_cases h1:k1≤400
 ·have g1:decide ((k1:Int)>400)=false:=decide_eq_false oMx
  have g1':¬(400<k1):=by omega
  by_cases h2:k2≤400
  ·have HF:Hid (zBp a):=⟨F1.2 h1,F2.2 h2⟩
   have E1:=oH (zUn HF.out)
   have E2:=oH (zUl HF.out)
   have g2:¬(400<k2):=by omega
   clear F1 F2 F3 h1 h2
   go_enter Tryz.func54,Tryz.ntmps54
   go_wp2_with fail
   have hHK:=(Blk.new w 89 [.bool na,.slice A l c,.bool nb,.slice A' l' c'])
   have hB0:Below w.heap.size w (w.alloc (.cells #[.bool na,.slice A l c,.bool nb,.slice A' l' c'] 89)):=bA
   generalize w.alloc (.cells #[.bool na,.slice A l c,.bool nb,.slice A' l' c'] 89)=W at *
   have HK:=oH hHK
   have HB:=oH hB0
   clear hB0 hHK
   replace HE:=oH (HE.below HB.out)
   replace HA:=oH (HA.below HB.out)
   replace HAN:=oH (HAN.below HB.out)
   replace HAD:=oH (HAD.below HB.out)
   refine (HD1.out _ W HAN.out HE.out).mono ?_
   rintro e w1 ⟨rfl,hb⟩
   replace HK:=oH (HK.below hb)
   replace HE:=oH (HE.below hb)
   replace HA:=oH (HA.below hb)
   replace HAN:=oH (HAN.below hb)
   replace HAD:=oH (HAD.below hb)
   replace HB:=oH (HB.trans (hb.mono HB.size))
   clear hb
   have k0:=HK.at_ (i:=0) rfl
   have k1:=HK.at_ (i:=1) rfl
   have k2:=HK.at_ (i:=2) rfl
   have k3:=HK.at_ (i:=3) rfl
   go_wp2_with fail
   refine (HD2.out _ w1 HAD.out HE.out).mono ?_
   rintro e w2 ⟨rfl,hb⟩
   replace HK:=oH (HK.below hb)
   replace HE:=oH (HE.below hb)
   replace HA:=oH (HA.below hb)
   replace HAN:=oH (HAN.below hb)
   replace HAD:=oH (HAD.below hb)
   replace HB:=oH (HB.trans (hb.mono HB.size))
   clear hb k0 k1 k2 k3
   have k0:=HK.at_ (i:=0) rfl
   have k1:=HK.at_ (i:=1) rfl
   have k2:=HK.at_ (i:=2) rfl
   have k3:=HK.at_ (i:=3) rfl
   go_wp2_with fail
   refine (HR.out _ w2 HA.out HF.out HE.out).mono ?_
   rintro e w3 ⟨rfl,hb⟩
   replace HK:=oH (HK.below hb)
   replace HE:=oH (HE.below hb)
   replace HA:=oH (HA.below hb)
   replace HAN:=oH (HAN.below hb)
   replace HAD:=oH (HAD.below hb)
   replace HB:=oH (HB.trans (hb.mono HB.size))
   clear hb k0 k1 k2 k3
   have k0:=HK.at_ (i:=0) rfl
   have k1:=HK.at_ (i:=1) rfl
   have k2:=HK.at_ (i:=2) rfl
   have k3:=HK.at_ (i:=3) rfl
   go_wp2_with fail
   go_ret2
   exact ⟨by rw [E1.out,E2.out];rfl,HB.out⟩
  ·have HF:Hid (¬zBp a):=fun h=>h2 (F2.1 h.2)
   have E1:=oH (zUo HF.out)
   have E2:=oH (zUm HF.out)
   have g2:400<k2:=by omega
   clear F1 F2 F3 h1 h2
   go_enter Tryz.func54,Tryz.ntmps54
   go_wp2_with fail
   have hHK:=(Blk.new w 89 [.bool na,.slice A l c,.bool nb,.slice A' l' c'])
   have hB0:Below w.heap.size w (w.alloc (.cells #[.bool na,.slice A l c,.bool nb,.slice A' l' c'] 89)):=bA
   generalize w.alloc (.cells #[.bool na,.slice A l c,.bool nb,.slice A' l' c'] 89)=W at *
   have HK:=oH hHK
   have HB:=oH hB0
   clear hB0 hHK
   replace HE:=oH (HE.below HB.out)
   replace HA:=oH (HA.below HB.out)
   replace HAN:=oH (HAN.below HB.out)
   replace HAD:=oH (HAD.below HB.out)
   refine (HD1.out _ W HAN.out HE.out).mono ?_
   rintro e w1 ⟨rfl,hb⟩
   replace HK:=oH (HK.below hb)
   replace HE:=oH (HE.below hb)
   replace HA:=oH (HA.below hb)
   replace HAN:=oH (HAN.below hb)
   replace HAD:=oH (HAD.below hb)
   replace HB:=oH (HB.trans (hb.mono HB.size))
   clear hb
   have k0:=HK.at_ (i:=0) rfl
   have k1:=HK.at_ (i:=1) rfl
   have k2:=HK.at_ (i:=2) rfl
   have k3:=HK.at_ (i:=3) rfl
   go_wp2_with fail
   refine (HD2.out _ w1 HAD.out HE.out).mono ?_
   rintro e w2 ⟨rfl,hb⟩
   replace HK:=oH (HK.below hb)
   replace HE:=oH (HE.below hb)
   replace HA:=oH (HA.below hb)
   replace HAN:=oH (HAN.below hb)
   replace HAD:=oH (HAD.below hb)
   replace HB:=oH (HB.trans (hb.mono HB.size))
   clear hb k0 k1 k2 k3
   have k0:=HK.at_ (i:=0) rfl
   have k1:=HK.at_ (i:=1) rfl
   have k2:=HK.at_ (i:=2) rfl
   have k3:=HK.at_ (i:=3) rfl
   go_wp2_with fail
   go_ret2
   exact ⟨by rw [E1.out,E2.out];rfl,HB.out⟩
 ·have HF:Hid (¬zBp a):=fun h=>h1 (F1.1 h.1)
  have E1:=oH (zUo HF.out)
  have E2:=oH (zUm HF.out)
  have g2:400<k1:=by omega
  clear F1 F2 F3 h1
  go_enter Tryz.func54,Tryz.ntmps54
  go_wp2_with fail
  have hHK:=(Blk.new w 89 [.bool na,.slice A l c,.bool nb,.slice A' l' c'])
  have hB0:Below w.heap.size w (w.alloc (.cells #[.bool na,.slice A l c,.bool nb,.slice A' l' c'] 89)):=bA
  generalize w.alloc (.cells #[.bool na,.slice A l c,.bool nb,.slice A' l' c'] 89)=W at *
  have HK:=oH hHK
  have HB:=oH hB0
  clear hB0 hHK
  replace HE:=oH (HE.below HB.out)
  replace HA:=oH (HA.below HB.out)
  replace HAN:=oH (HAN.below HB.out)
  replace HAD:=oH (HAD.below HB.out)
  refine (HD1.out _ W HAN.out HE.out).mono ?_
  rintro e w1 ⟨rfl,hb⟩
  replace HK:=oH (HK.below hb)
  replace HE:=oH (HE.below hb)
  replace HA:=oH (HA.below hb)
  replace HAN:=oH (HAN.below hb)
  replace HAD:=oH (HAD.below hb)
  replace HB:=oH (HB.trans (hb.mono HB.size))
  clear hb
  have k0:=HK.at_ (i:=0) rfl
  have k1:=HK.at_ (i:=1) rfl
  have k2:=HK.at_ (i:=2) rfl
  have k3:=HK.at_ (i:=3) rfl
  go_wp2_with fail
  go_ret2
  exact ⟨by rw [E1.out,E2.out];rfl,HB.out⟩
theorem zBg (n:Nat) (w:World) (hn:n<9223372036854775808):Calls Tryz.prog 71 #[.int .i64 (n:Int)] w (zFl w ((n:Int):Rat)):=by
 go_enter Tryz.func71,Tryz.ntmps71
 go_wp2_with fail
 have hHR:=(Blk.new w 89 [.bool false,.slice none 0 0,.bool false,.slice none 0 0])
 have hB0:Below w.heap.size w (w.alloc (.cells #[.bool false,.slice none 0 0,.bool false,.slice none 0 0] 89)):=bA
 generalize w.alloc (.cells #[.bool false,.slice none 0 0,.bool false,.slice none 0 0] 89)=W at *
 have HR:=oH hHR
 have HB:=oH hB0
 clear hB0 hHR
 refine (zCl n W hn).mono ?_
 rintro e w1 ⟨v1,rfl,hv,hb⟩
 replace HR:=oH (HR.below hb)
 have HN:=oH hv
 obtain ⟨x1,X1,y1,z1,rfl⟩:=hv.slice
 replace HB:=oH (HB.trans (hb.mono HB.size))
 clear hb hv
 go_wp2_with fail
 refine (zBl _ _ w1 HN.out).mono ?_
 rintro e w2 ⟨v2,rfl,hv,hb⟩
 replace HR:=oH (HR.below hb)
 replace HN:=oH (HN.below hb)
 have HF:=oH hv
 obtain ⟨x2,x2',X2,X2',y2,z2,y2',z2',rfl⟩:=hv.slice
 replace HB:=oH (HB.trans (hb.mono HB.size))
 clear hb hv
 have r0:=HR.at_ (i:=0) rfl
 have r1:=HR.at_ (i:=1) rfl
 have r2:=HR.at_ (i:=2) rfl
 have r3:=HR.at_ (i:=3) rfl
 have fr0:=HR.fr 0
 have fr1:=HR.fr 1
 have fr2:=HR.fr 2
 have fr3:=HR.fr 3
 go_wp2_with fail
 refine bodyPost_ret (v := .agg #[.bool x2,.slice X2 y2 z2,.bool x2',.slice X2' y2' z2']) (by simp [results,Tryz.results71,go_sem, *]) rfl ?_
 exact zNk HR.out zSt HB.out lRx HF.out rfl
end Go.Proofs.YtfjjcoggoomlbaaGreatDoor
