import Derived.Test.YtfjjcoggoomlbaaGreatDoorZQ
set_option maxHeartbeats 16000000
set_option maxRecDepth 100000
namespace Go.Proofs.YtfjjcoggoomlbaaGreatDoor
open Go.RowKit
def Env (w:World):Prop:=Tab w∧∃ m:Int,w.cell? ⟨0,0,none⟩=some (.int .i64 m)
theorem Env.tab {w:World} (h:Env w):Tab w:=h.1
theorem Env.below {w w':World} (h:Env w) (hb:Below w.heap.size w w'):Env w':=by
 obtain ⟨h1,m,hm⟩:=h
 refine ⟨h1.below hb,m,?_⟩
 rw [hb.cell (p:=⟨0,0,none⟩)]
 ·exact hm
 ·show 0<w.heap.size
  rcases Nat.lt_or_ge 0 w.heap.size with h|h
  ·exact h
  ·unfold World.cell? at hm
   rw [Array.getElem?_eq_none h] at hm
   simp at hm
def zYd (q:Rat):ByteArray:=⟨(zYo q).toArray⟩
instance (q:Rat):Decidable (zBq q):=inferInstanceAs (Decidable (_∧_))
def outR (q:Rat):ByteArray:=if zBq q then zYd q else ⟨#[]⟩
def zUl (q:Rat):Int:=if zBq q then 0 else 3
theorem zUo {q:Rat} (h:zBq q):outR q=zYd q:=if_pos h
theorem zUm {q:Rat} (h:zBq q):zUl q=0:=if_pos h
theorem zUp {q:Rat} (h:¬zBq q):outR q=⟨#[]⟩:=if_neg h
theorem zUn {q:Rat} (h:¬zBq q):zUl q=3:=if_neg h
theorem zOo {x:Int} (h:Fits x):(Lib.itoa x).length≤401:=by have:=zOp x;unfold Fits at h;omega
theorem zYq {q:Rat} (h:zBq q):(zYo q).length≤803:=by
 have h1:=zOo h.1
 have h2:=zOo h.2
 unfold zYo
 split
 ·omega
 ·simp;omega
theorem zYl (q:Rat):(zYd q).size=(zYo q).length:=by unfold zYd;simp [ByteArray.size]
theorem zYg (q:Rat):(zYd q).data.toList=zYo q:=by unfold zYd;simp
theorem zYk {q:Rat} (h:q.den≠1):(str q.num++⟨#[47]⟩)++str (q.den:Int)=zYd q:=by
 unfold zYd str
 rw [zYs h,show (⟨#[47]⟩:ByteArray)=⟨[47].toArray⟩ from rfl,zHx,zHx]
 simp
theorem zYm {q:Rat} (h:q.den=1):zYd q=str q.num:=by unfold zYd str;rw [zYt h]
theorem zAk (l:List UInt8) (w:World) (hl:l.length<4294967281) (he:Env w) :
  Calls Tryz.prog 129 #[.string ⟨l.toArray⟩,.string ⟨#[47]⟩] w fun e w'=>e = .returned (.tuple #[.string ⟨(zJt l).1.toArray⟩,.string ⟨(zJt l).2.1.toArray⟩,.bool (zJt l).2.2])∧Below w.heap.size w w':=by
 obtain ⟨_,m,hm⟩:=he
 have h:=Tryz.strings_Cut ⟨l.toArray⟩ ⟨#[47]⟩ m w (by simpa [ByteArray.size] using hl) hm
 rw [show (⟨l.toArray⟩:ByteArray).data.toList=l by simp,show (⟨#[47]⟩:ByteArray).data.toList=[47] from rfl,zJz] at h
 refine h.mono ?_
 rintro e w' ⟨rfl,n,rfl⟩
 exact ⟨rfl,below_drewN (Below.refl _ _) _⟩
theorem zAm {q:Rat} (h:q.den=1) (hf:zBq q) (w:World) (he:Env w) :
  Calls Tryz.prog 129 #[.string (zYd q),.string ⟨#[47]⟩] w fun e w'=>e = .returned (.tuple #[.string (str q.num),.string ⟨#[]⟩,.bool false])∧Below w.heap.size w w':=by
 have:=zAk (zYo q) w (by have:=zYq hf;omega) he
 rw [zKa h] at this
 exact this
theorem zAl {q:Rat} (h:q.den≠1) (hf:zBq q) (w:World) (he:Env w) :
  Calls Tryz.prog 129 #[.string (zYd q),.string ⟨#[47]⟩] w fun e w'=>e = .returned (.tuple #[.string (str q.num),.string (str (q.den:Int)),.bool true])∧Below w.heap.size w w':=by
 have:=zAk (zYo q) w (by have:=zYq hf;omega) he
 rw [zJy h] at this
 exact this
theorem zCo (x:Int) (w:World) (hf:Fits x):Calls Tryz.prog 130 #[.string (str x)] w (zFt w x):=zFf x w (by unfold Fits at hf;omega)
theorem zUd:Fits 1:=zNc (by decide)
theorem zCp (w:World):Calls Tryz.prog 130 #[.string ⟨#[49]⟩] w (zFt w 1):=by
 have:=zCo 1 w zUd
 rwa [str_1] at this
theorem zBk (q:Rat) (w:World) (hf:zBq q) (henv:Env w):Calls Tryz.prog 60 #[.string (zYd q)] w (zFn w q):=by
 have HR0:=oH (Blk.new w 89 [.bool false,.slice none 0 0,.bool false,.slice none 0 0])
 have HBW:Hid (Below w.heap.size w (w.alloc (.cells #[.bool false,.slice none 0 0,.bool false,.slice none 0 0] 89))):=bA
 have H1:=oH (fun W=>zCo q.num W hf.1)
 by_cases h:q.den=1
 ·have HC:=oH (fun W he=>zAm h hf W he)
  have H2:=oH zCp
  have ED:Hid ((1:Int)=(q.den:Int)):=by rw [h];rfl
  have HE:=oH henv
  clear h hf henv
  go_enter Tryz.func60,Tryz.ntmps60
  go_wp2_with fail
  generalize w.alloc (.cells #[.bool false,.slice none 0 0,.bool false,.slice none 0 0] 89)=W at *
  refine (HC.out W (HE.out.below HBW.out)).mono ?_
  rintro e w1 ⟨rfl,hb⟩
  replace HR0:=oH (HR0.out.below hb)
  replace HBW:=oH (HBW.out.trans (hb.mono HBW.out.size))
  clear hb
  go_wp2_with fail
  refine (H1.out w1).mono ?_
  rintro e w2 ⟨v2,rfl,hv2,hb⟩
  have HN:=oH hv2
  obtain ⟨x2,X2,y2,z2,rfl⟩:=hv2.slice
  replace HR0:=oH (HR0.out.below hb)
  replace HBW:=oH (HBW.out.trans (hb.mono HBW.out.size))
  clear hb hv2
  go_wp2_with fail
  refine (H2.out w2).mono ?_
  rintro e w3 ⟨v3,rfl,hv3,hb⟩
  have HD:=oH hv3
  obtain ⟨x3,X3,y3,z3,rfl⟩:=hv3.slice
  replace HN:=oH (HN.out.below hb)
  replace HR0:=oH (HR0.out.below hb)
  replace HBW:=oH (HBW.out.trans (hb.mono HBW.out.size))
  have r0:=HR0.out.at_ (i:=0) rfl
  have r1:=HR0.out.at_ (i:=1) rfl
  have r2:=HR0.out.at_ (i:=2) rfl
  have r3:=HR0.out.at_ (i:=3) rfl
  have f0:=HR0.out.fr 0
  have f1:=HR0.out.fr 1
  have f2:=HR0.out.fr 2
  have f3:=HR0.out.fr 3
  clear hb hv3
  go_wp2_with fail
  refine bodyPost_ret (v := .agg #[.bool x2,.slice X2 y2 z2,.bool x3,.slice X3 y3 z3]) (by simp [results,Tryz.results60,go_sem, *]) rfl ?_
  exact zNn HR0.out zSu HBW.out (Nat.le_refl _) (zCc.mk HN.out HD.out rfl ED.out) rfl
 ·have HC:=oH (fun W he=>zAl h hf W he)
  have H2:=oH (fun W=>zCo (q.den:Int) W hf.2)
  have HE:=oH henv
  clear h hf henv
  go_enter Tryz.func60,Tryz.ntmps60
  go_wp2_with fail
  generalize w.alloc (.cells #[.bool false,.slice none 0 0,.bool false,.slice none 0 0] 89)=W at *
  refine (HC.out W (HE.out.below HBW.out)).mono ?_
  rintro e w1 ⟨rfl,hb⟩
  replace HR0:=oH (HR0.out.below hb)
  replace HBW:=oH (HBW.out.trans (hb.mono HBW.out.size))
  clear hb
  go_wp2_with fail
  refine (H1.out w1).mono ?_
  rintro e w2 ⟨v2,rfl,hv2,hb⟩
  have HN:=oH hv2
  obtain ⟨x2,X2,y2,z2,rfl⟩:=hv2.slice
  replace HR0:=oH (HR0.out.below hb)
  replace HBW:=oH (HBW.out.trans (hb.mono HBW.out.size))
  clear hb hv2
  go_wp2_with fail
  refine (H2.out w2).mono ?_
  rintro e w3 ⟨v3,rfl,hv3,hb⟩
  have HD:=oH hv3
  obtain ⟨x3,X3,y3,z3,rfl⟩:=hv3.slice
  replace HN:=oH (HN.out.below hb)
  replace HR0:=oH (HR0.out.below hb)
  replace HBW:=oH (HBW.out.trans (hb.mono HBW.out.size))
  have r0:=HR0.out.at_ (i:=0) rfl
  have r1:=HR0.out.at_ (i:=1) rfl
  have r2:=HR0.out.at_ (i:=2) rfl
  have r3:=HR0.out.at_ (i:=3) rfl
  have f0:=HR0.out.fr 0
  have f1:=HR0.out.fr 1
  have f2:=HR0.out.fr 2
  have f3:=HR0.out.fr 3
  clear hb hv3
  go_wp2_with fail
  refine bodyPost_ret (v := .agg #[.bool x2,.slice X2 y2 z2,.bool x3,.slice X3 y3 z3]) (by simp [results,Tryz.results60,go_sem, *]) rfl ?_
  exact zNn HR0.out zSu HBW.out (Nat.le_refl _) (zCc.mk HN.out HD.out rfl rfl) rfl
theorem xBw {x:Int} (h:Fits x):(str x).size≤401:=by unfold str;simpa [ByteArray.size] using zOo h
theorem zCq (u:Value) (x:Int) (w:World) (hx:zCf w u x) (hlx:(limbs x.natAbs).length≤10000000) (htab:Tab w) :
  Calls Tryz.prog 132 #[u] w fun e w'=>e = .returned (.string (str x))∧Below w.heap.size w w':=zGt u x w hx hlx htab
theorem zBi (u:Value) (a:Rat) (w:World) (ha:zCc w u a) (hf:zBq a) (henv:Env w) :
  Calls Tryz.prog 62 #[u] w fun e w'=>e = .returned (.string (zYd a))∧Below w.heap.size w w':=by
 have sa:=hf.sz
 have sda:=sa.2
 have an:=sa.n
 have ad:=sa.d
 have z1:=xBw hf.1
 have z2:=xBw hf.2
 have HE:=oH henv
 clear henv hf
 have HA:=oH ha
 obtain ⟨na,nb,A,A',l,c,l',c',rfl,h1,h2⟩:=ha.open_
 have HAN:=oH h1
 have HAD:=oH h2
 clear ha h1 h2
 have HS1:=oH (fun U V (hV:zCf V U a.num) (hE:Env V)=>zCq U a.num V hV (by omega) hE.tab)
 have HS2:=oH (fun U V (hV:zCf V U (a.den:Int)) (hE:Env V)=>zCq U (a.den:Int) V hV (by omega) hE.tab)
 have HWA:=oH (fun U V (hV:zCc V U a)=>xGj U a V hV (by omega))
 by_cases hw:a.den=1
 ·have ew:xGi a=true:=decide_eq_true hw
  rw [ew] at HWA
  have EW:=oH (zYm hw)
  clear ew hw sa
  go_enter Tryz.func62,Tryz.ntmps62
  go_wp2_with fail
  have hHK:=(Blk.new w 89 [.bool na,.slice A l c,.bool nb,.slice A' l' c'])
  have hB0:Below w.heap.size w (w.alloc (.cells #[.bool na,.slice A l c,.bool nb,.slice A' l' c'] 89)):=bA
  generalize w.alloc (.cells #[.bool na,.slice A l c,.bool nb,.slice A' l' c'] 89)=W at *
  have HK:=oH hHK
  have HB:=oH hB0
  clear hB0 hHK
  replace HE:=oH (HE.out.below HB.out)
  replace HA:=oH (HA.out.below HB.out)
  replace HAN:=oH (HAN.out.below HB.out)
  replace HAD:=oH (HAD.out.below HB.out)
  refine (HWA.out _ W HA.out).mono ?_
  rintro e w1 ⟨rfl,hb⟩
  clear HA
  replace HK:=oH (HK.out.below hb)
  replace HE:=oH (HE.out.below hb)
  replace HAN:=oH (HAN.out.below hb)
  replace HAD:=oH (HAD.out.below hb)
  replace HB:=oH (HB.out.trans (hb.mono HB.out.size))
  clear hb
  have k0:=HK.out.at_ (i:=0) rfl
  have k1:=HK.out.at_ (i:=1) rfl
  have k2:=HK.out.at_ (i:=2) rfl
  have k3:=HK.out.at_ (i:=3) rfl
  go_wp2_with fail
  refine (HS1.out _ w1 HAN.out HE.out).mono ?_
  rintro e w2 ⟨rfl,hb⟩
  replace HK:=oH (HK.out.below hb)
  replace HE:=oH (HE.out.below hb)
  replace HAN:=oH (HAN.out.below hb)
  replace HAD:=oH (HAD.out.below hb)
  replace HB:=oH (HB.out.trans (hb.mono HB.out.size))
  clear hb k0 k1 k2 k3
  have k0:=HK.out.at_ (i:=0) rfl
  have k1:=HK.out.at_ (i:=1) rfl
  have k2:=HK.out.at_ (i:=2) rfl
  have k3:=HK.out.at_ (i:=3) rfl
  go_wp2_with fail
  go_ret
  exact ⟨by rw [EW.out];rfl,HB.out⟩
 ·have ew:xGi a=false:=decide_eq_false hw
  rw [ew] at HWA
  have EW:=oH (zYk hw)
  clear ew hw sa
  generalize str a.num=s1 at *
  generalize str (a.den:Int)=s2 at *
  have q1:¬(9223372036854775807<s1.size+1):=by omega
  have q1':¬(9223372036854775807≤s1.size):=by omega
  have q2:¬(9223372036854775807<s1.size+1+s2.size):=by omega
  go_enter Tryz.func62,Tryz.ntmps62
  go_wp2_with fail
  have hHK:=(Blk.new w 89 [.bool na,.slice A l c,.bool nb,.slice A' l' c'])
  have hB0:Below w.heap.size w (w.alloc (.cells #[.bool na,.slice A l c,.bool nb,.slice A' l' c'] 89)):=bA
  generalize w.alloc (.cells #[.bool na,.slice A l c,.bool nb,.slice A' l' c'] 89)=W at *
  have HK:=oH hHK
  have HB:=oH hB0
  clear hB0 hHK
  replace HE:=oH (HE.out.below HB.out)
  replace HA:=oH (HA.out.below HB.out)
  replace HAN:=oH (HAN.out.below HB.out)
  replace HAD:=oH (HAD.out.below HB.out)
  refine (HWA.out _ W HA.out).mono ?_
  rintro e w1 ⟨rfl,hb⟩
  clear HA
  replace HK:=oH (HK.out.below hb)
  replace HE:=oH (HE.out.below hb)
  replace HAN:=oH (HAN.out.below hb)
  replace HAD:=oH (HAD.out.below hb)
  replace HB:=oH (HB.out.trans (hb.mono HB.out.size))
  clear hb
  have k0:=HK.out.at_ (i:=0) rfl
  have k1:=HK.out.at_ (i:=1) rfl
  have k2:=HK.out.at_ (i:=2) rfl
  have k3:=HK.out.at_ (i:=3) rfl
  clear HWA
  go_wp2_with fail
  have P0:=oH (Blk.c4 HK.out.drew)
  have HED:Hid (∀ V:World,Env V→Env V.drew):=fun V h=>h
  go_region_held3 (fun w'=>C4 w' w.heap.size (.bool na) (.slice A l c) (.bool nb) (.slice A' l' c')) (first|with_reducible exact P0.out|with_reducible exact P5.out|with_reducible exact P6.out|go_keep) (first|(go_at_call 132;(with_reducible refine (HS2.out _ _ HAD5.out HE5.out).mono ?_);rintro e w6 ⟨rfl,hb⟩;have HK6:=oH (HK5.out.below hb);have HE6:=oH (HE5.out.below hb);have HAN6:=oH (HAN5.out.below hb);have HAD6:=oH (HAD5.out.below hb);have HB6:=oH (HB5.out.trans (hb.mono HB5.out.size));have P6:=oH (Blk.c4 HK6.out);clear hb)|(go_at_call 132;(with_reducible refine (HS1.out _ _ HAN.out.drew (HED.out _ HE.out)).mono ?_);rintro e w5 ⟨rfl,hb⟩;have HK5:=oH (HK.out.drew.below hb);have HE5:=oH ((HED.out _ HE.out).below hb);have HAN5:=oH (HAN.out.drew.below hb);have HAD5:=oH (HAD.out.drew.below hb);have HB5:=oH (HB.out.drew.trans (hb.mono HB.out.size));have P5:=oH (Blk.c4 HK5.out);clear hb))
  go_wp2_with fail
  go_ret
  exact ⟨by rw [←EW.out];rfl,HB6.out⟩
theorem zBe (u:Value) (a:Rat) (w:World) (ha:zCc w u a) (sa:Sz 5000000 a) (henv:Env w) :
  Calls Tryz.prog 54 #[u] w fun e w'=>e = .returned (.tuple #[.string (outR a),.int .i64 (zUl a)])∧Below w.heap.size w w':=by
 have an:=sa.n
 have ad:=sa.d
 have HE:=oH henv
 clear henv
 have HA:=oH ha
 obtain ⟨na,nb,A,A',l,c,l',c',rfl,h1,h2⟩:=ha.open_
 have HAN:=oH h1
 have HAD:=oH h2
 clear ha h1 h2
 have HD1:=oH (fun U V (hV:zCf V U a.num) (hE:Env V)=>zAv U a.num V hV (by omega) hE.tab)
 have HD2:=oH (fun U V (hV:zCf V U (a.den:Int)) (hE:Env V)=>zAv U (a.den:Int) V hV (by omega) hE.tab)
 have F1:Fits a.num↔Lib.nDigits a.num.natAbs≤400:=by unfold Fits;rw [Lib.decDigits_length]
 have F2:Fits (a.den:Int)↔Lib.nDigits ((a.den:Int)).natAbs≤400:=by unfold Fits;rw [Lib.decDigits_length]
 have HR:=oH (fun U V (hV:zCc V U a) (hf:zBq a) (hE:Env V)=>zBi U a V hV hf hE)
 have F3:zBq a↔Fits a.num∧Fits (a.den:Int):=Iff.rfl
 generalize Lib.nDigits a.num.natAbs=k1 at *
 generalize Lib.nDigits ((a.den:Int)).natAbs=k2 at *
 by_cases h1:k1≤400
 ·have g1:decide ((k1:Int)>400)=false:=decide_eq_false (by omega)
  have g1':¬(400<k1):=by omega
  by_cases h2:k2≤400
  ·have HF:Hid (zBq a):=⟨F1.2 h1,F2.2 h2⟩
   have E1:=oH (zUo HF.out)
   have E2:=oH (zUm HF.out)
   have g2:¬(400<k2):=by omega
   clear F1 F2 F3 h1 h2
   go_enter Tryz.func54,Tryz.ntmps54
   go_wp2_with fail
   have hHK:=(Blk.new w 89 [.bool na,.slice A l c,.bool nb,.slice A' l' c'])
   have hB0:Below w.heap.size w (w.alloc (.cells #[.bool na,.slice A l c,.bool nb,.slice A' l' c'] 89)):=bA
   generalize w.alloc (.cells #[.bool na,.slice A l c,.bool nb,.slice A' l' c'] 89)=W at *
   have HK:=oH hHK
   have HB:=oH hB0
   clear hB0 hHK
   replace HE:=oH (HE.out.below HB.out)
   replace HA:=oH (HA.out.below HB.out)
   replace HAN:=oH (HAN.out.below HB.out)
   replace HAD:=oH (HAD.out.below HB.out)
   refine (HD1.out _ W HAN.out HE.out).mono ?_
   rintro e w1 ⟨rfl,hb⟩
   replace HK:=oH (HK.out.below hb)
   replace HE:=oH (HE.out.below hb)
   replace HA:=oH (HA.out.below hb)
   replace HAN:=oH (HAN.out.below hb)
   replace HAD:=oH (HAD.out.below hb)
   replace HB:=oH (HB.out.trans (hb.mono HB.out.size))
   clear hb
   have k0:=HK.out.at_ (i:=0) rfl
   have k1:=HK.out.at_ (i:=1) rfl
   have k2:=HK.out.at_ (i:=2) rfl
   have k3:=HK.out.at_ (i:=3) rfl
   go_wp2_with fail
   refine (HD2.out _ w1 HAD.out HE.out).mono ?_
   rintro e w2 ⟨rfl,hb⟩
   replace HK:=oH (HK.out.below hb)
   replace HE:=oH (HE.out.below hb)
   replace HA:=oH (HA.out.below hb)
   replace HAN:=oH (HAN.out.below hb)
   replace HAD:=oH (HAD.out.below hb)
   replace HB:=oH (HB.out.trans (hb.mono HB.out.size))
   clear hb k0 k1 k2 k3
   have k0:=HK.out.at_ (i:=0) rfl
   have k1:=HK.out.at_ (i:=1) rfl
   have k2:=HK.out.at_ (i:=2) rfl
   have k3:=HK.out.at_ (i:=3) rfl
   go_wp2_with fail
   refine (HR.out _ w2 HA.out HF.out HE.out).mono ?_
   rintro e w3 ⟨rfl,hb⟩
   replace HK:=oH (HK.out.below hb)
   replace HE:=oH (HE.out.below hb)
   replace HA:=oH (HA.out.below hb)
   replace HAN:=oH (HAN.out.below hb)
   replace HAD:=oH (HAD.out.below hb)
   replace HB:=oH (HB.out.trans (hb.mono HB.out.size))
   clear hb k0 k1 k2 k3
   have k0:=HK.out.at_ (i:=0) rfl
   have k1:=HK.out.at_ (i:=1) rfl
   have k2:=HK.out.at_ (i:=2) rfl
   have k3:=HK.out.at_ (i:=3) rfl
   go_wp2_with fail
   go_ret2
   exact ⟨by rw [E1.out,E2.out];rfl,HB.out⟩
  ·have HF:Hid (¬zBq a):=fun h=>h2 (F2.1 h.2)
   have E1:=oH (zUp HF.out)
   have E2:=oH (zUn HF.out)
   have g2:400<k2:=by omega
   clear F1 F2 F3 h1 h2
   go_enter Tryz.func54,Tryz.ntmps54
   go_wp2_with fail
   have hHK:=(Blk.new w 89 [.bool na,.slice A l c,.bool nb,.slice A' l' c'])
   have hB0:Below w.heap.size w (w.alloc (.cells #[.bool na,.slice A l c,.bool nb,.slice A' l' c'] 89)):=bA
   generalize w.alloc (.cells #[.bool na,.slice A l c,.bool nb,.slice A' l' c'] 89)=W at *
   have HK:=oH hHK
   have HB:=oH hB0
   clear hB0 hHK
   replace HE:=oH (HE.out.below HB.out)
   replace HA:=oH (HA.out.below HB.out)
   replace HAN:=oH (HAN.out.below HB.out)
   replace HAD:=oH (HAD.out.below HB.out)
   refine (HD1.out _ W HAN.out HE.out).mono ?_
   rintro e w1 ⟨rfl,hb⟩
   replace HK:=oH (HK.out.below hb)
   replace HE:=oH (HE.out.below hb)
   replace HA:=oH (HA.out.below hb)
   replace HAN:=oH (HAN.out.below hb)
   replace HAD:=oH (HAD.out.below hb)
   replace HB:=oH (HB.out.trans (hb.mono HB.out.size))
   clear hb
   have k0:=HK.out.at_ (i:=0) rfl
   have k1:=HK.out.at_ (i:=1) rfl
   have k2:=HK.out.at_ (i:=2) rfl
   have k3:=HK.out.at_ (i:=3) rfl
   go_wp2_with fail
   refine (HD2.out _ w1 HAD.out HE.out).mono ?_
   rintro e w2 ⟨rfl,hb⟩
   replace HK:=oH (HK.out.below hb)
   replace HE:=oH (HE.out.below hb)
   replace HA:=oH (HA.out.below hb)
   replace HAN:=oH (HAN.out.below hb)
   replace HAD:=oH (HAD.out.below hb)
   replace HB:=oH (HB.out.trans (hb.mono HB.out.size))
   clear hb k0 k1 k2 k3
   have k0:=HK.out.at_ (i:=0) rfl
   have k1:=HK.out.at_ (i:=1) rfl
   have k2:=HK.out.at_ (i:=2) rfl
   have k3:=HK.out.at_ (i:=3) rfl
   go_wp2_with fail
   go_ret2
   exact ⟨by rw [E1.out,E2.out];rfl,HB.out⟩
 ·have HF:Hid (¬zBq a):=fun h=>h1 (F1.1 h.1)
  have E1:=oH (zUp HF.out)
  have E2:=oH (zUn HF.out)
  have g2:400<k1:=by omega
  clear F1 F2 F3 h1
  go_enter Tryz.func54,Tryz.ntmps54
  go_wp2_with fail
  have hHK:=(Blk.new w 89 [.bool na,.slice A l c,.bool nb,.slice A' l' c'])
  have hB0:Below w.heap.size w (w.alloc (.cells #[.bool na,.slice A l c,.bool nb,.slice A' l' c'] 89)):=bA
  generalize w.alloc (.cells #[.bool na,.slice A l c,.bool nb,.slice A' l' c'] 89)=W at *
  have HK:=oH hHK
  have HB:=oH hB0
  clear hB0 hHK
  replace HE:=oH (HE.out.below HB.out)
  replace HA:=oH (HA.out.below HB.out)
  replace HAN:=oH (HAN.out.below HB.out)
  replace HAD:=oH (HAD.out.below HB.out)
  refine (HD1.out _ W HAN.out HE.out).mono ?_
  rintro e w1 ⟨rfl,hb⟩
  replace HK:=oH (HK.out.below hb)
  replace HE:=oH (HE.out.below hb)
  replace HA:=oH (HA.out.below hb)
  replace HAN:=oH (HAN.out.below hb)
  replace HAD:=oH (HAD.out.below hb)
  replace HB:=oH (HB.out.trans (hb.mono HB.out.size))
  clear hb
  have k0:=HK.out.at_ (i:=0) rfl
  have k1:=HK.out.at_ (i:=1) rfl
  have k2:=HK.out.at_ (i:=2) rfl
  have k3:=HK.out.at_ (i:=3) rfl
  go_wp2_with fail
  go_ret2
  exact ⟨by rw [E1.out,E2.out];rfl,HB.out⟩
theorem zBh (n:Nat) (w:World) (hn:n<9223372036854775808):Calls Tryz.prog 71 #[.int .i64 (n:Int)] w (zFn w ((n:Int):Rat)):=by
 go_enter Tryz.func71,Tryz.ntmps71
 go_wp2_with fail
 have hHR:=(Blk.new w 89 [.bool false,.slice none 0 0,.bool false,.slice none 0 0])
 have hB0:Below w.heap.size w (w.alloc (.cells #[.bool false,.slice none 0 0,.bool false,.slice none 0 0] 89)):=bA
 generalize w.alloc (.cells #[.bool false,.slice none 0 0,.bool false,.slice none 0 0] 89)=W at *
 have HR:=oH hHR
 have HB:=oH hB0
 clear hB0 hHR
 refine (zCm n W hn).mono ?_
 rintro e w1 ⟨v1,rfl,hv,hb⟩
 replace HR:=oH (HR.out.below hb)
 have HN:=oH hv
 obtain ⟨x1,X1,y1,z1,rfl⟩:=hv.slice
 replace HB:=oH (HB.out.trans (hb.mono HB.out.size))
 clear hb hv
 go_wp2_with fail
 refine (zBm _ _ w1 HN.out).mono ?_
 rintro e w2 ⟨v2,rfl,hv,hb⟩
 replace HR:=oH (HR.out.below hb)
 replace HN:=oH (HN.out.below hb)
 have HF:=oH hv
 obtain ⟨x2,x2',X2,X2',y2,z2,y2',z2',rfl⟩:=hv.slice
 replace HB:=oH (HB.out.trans (hb.mono HB.out.size))
 clear hb hv
 have r0:=HR.out.at_ (i:=0) rfl
 have r1:=HR.out.at_ (i:=1) rfl
 have r2:=HR.out.at_ (i:=2) rfl
 have r3:=HR.out.at_ (i:=3) rfl
 have fr0:=HR.out.fr 0
 have fr1:=HR.out.fr 1
 have fr2:=HR.out.fr 2
 have fr3:=HR.out.fr 3
 go_wp2_with fail
 refine bodyPost_ret (v := .agg #[.bool x2,.slice X2 y2 z2,.bool x2',.slice X2' y2' z2']) (by simp [results,Tryz.results71,go_sem, *]) rfl ?_
 exact zNn HR.out zSu HB.out (Nat.le_refl _) HF.out rfl
end Go.Proofs.YtfjjcoggoomlbaaGreatDoor
