import Derived.Test.YtfjjcoggoomlbaaGreatDoorZP
set_option maxHeartbeats 16000000
set_option maxRecDepth 100000
namespace Go.Proofs.YtfjjcoggoomlbaaGreatDoor
open Go.RowKit
theorem zHi {a b:Rat} (ha:a.den=1) (hb:b.den=1):((a.num+b.num:Int):Rat)=a+b:=by rw [Rat.intCast_add,←zWy ha,←zWy hb]
theorem zSf {a b:Rat} (ha:a.den=1) (hb:b.den=1):((a.num*b.num:Int):Rat)=a*b:=by rw [Rat.intCast_mul,←zWy ha,←zWy hb]
theorem zCb.open_ {w:World} {v:Value} {q:Rat} (h:zCb w v q):∃ (na nb:Bool) (A A':Option Addr) (l c l' c':Nat),v = .agg #[.bool na,.slice A l c,.bool nb,.slice A' l' c']∧zCe w (.agg #[.bool na,.slice A l c]) q.num∧zCe w (.agg #[.bool nb,.slice A' l' c']) (q.den:Int):=h
theorem zCb.slice {w:World} {v:Value} {q:Rat} (h:zCb w v q):∃ (na nb:Bool) (A A':Option Addr) (l c l' c':Nat),v = .agg #[.bool na,.slice A l c,.bool nb,.slice A' l' c']:=by
 obtain ⟨na,nb,A,A',l,c,l',c',e,_,_⟩:=h
 exact ⟨na,nb,A,A',l,c,l',c',e⟩
theorem Sz.n {k:Nat} {q:Rat} (h:Sz k q):(limbs q.num.natAbs).length≤k:=h.1
theorem Sz.d {k:Nat} {q:Rat} (h:Sz k q):(limbs ((q.den:Int)).natAbs).length≤k:=by rw [Int.natAbs_natCast];exact h.2
theorem zBa (u v:Value) (a b:Rat) (w:World) (ha:zCb w u a) (hb:zCb w v b) (sa:Sz 1000000 a) (sb:Sz 1000000 b) :
  Calls Tryz.prog 72 #[u,v] w (zFl w (a+b)):=by
 have an:=sa.n
 have ad:=sa.d
 have bn:=sb.n
 have bd:=sb.d
 have ld:=zPr ad bd
 have l1:=zPr an bd
 have l2:=zPr bn ad
 have l3:=zPq l1 l2
 have EQ:=oH (zWq a b)
 have hdd:(a.den:Int)*(b.den:Int)≠0:=Int.mul_ne_zero (zLj a) (zLj b)
 have sda:=sa.2
 have sdb:=sb.2
 have HA:=oH ha
 obtain ⟨na,nb,A,A',l,c,l',c',rfl,h1,h2⟩:=ha.open_
 have HAN:=oH h1
 have HAD:=oH h2
 clear ha h1 h2
 have HBB:=oH hb
 obtain ⟨ma,mb,B,B',m,d,m',d',rfl,h1,h2⟩:=hb.open_
 have HBN:=oH h1
 have HBD:=oH h2
 clear hb h1 h2
 go_enter Tryz.func72,Tryz.ntmps72
 go_wp2_with fail
 have hk:=(((Blk.new w 89 [.bool na,.slice A l c,.bool nb,.slice A' l' c']).alloc (.cells #[.bool ma,.slice B m d,.bool mb,.slice B' m' d'] 89)).alloc (.cells #[.bool false,.slice none 0 0,.bool false,.slice none 0 0] 89))
 have hl:=((Blk.new (w.alloc (.cells #[.bool na,.slice A l c,.bool nb,.slice A' l' c'] 89)) 89 [.bool ma,.slice B m d,.bool mb,.slice B' m' d']).alloc (.cells #[.bool false,.slice none 0 0,.bool false,.slice none 0 0] 89))
 rw [World.size_alloc] at hl
 have hr:=Blk.new ((w.alloc (.cells #[.bool na,.slice A l c,.bool nb,.slice A' l' c'] 89)).alloc (.cells #[.bool ma,.slice B m d,.bool mb,.slice B' m' d'] 89)) 89 [.bool false,.slice none 0 0,.bool false,.slice none 0 0]
 rw [World.size_alloc] at hr
 rw [World.size_alloc] at hr
 have hb:Below w.heap.size w (((w.alloc (.cells #[.bool na,.slice A l c,.bool nb,.slice A' l' c'] 89)).alloc (.cells #[.bool ma,.slice B m d,.bool mb,.slice B' m' d'] 89)).alloc (.cells #[.bool false,.slice none 0 0,.bool false,.slice none 0 0] 89)):=((bA).alloc sMx _).alloc (by simp;omega) _
 generalize ((w.alloc (.cells #[.bool na,.slice A l c,.bool nb,.slice A' l' c'] 89)).alloc (.cells #[.bool ma,.slice B m d,.bool mb,.slice B' m' d'] 89)).alloc (.cells #[.bool false,.slice none 0 0,.bool false,.slice none 0 0] 89)=W at *
 have HK:=oH hk
 have HL:=oH hl
 have HR:=oH hr
 have HB:=oH hb
 clear hk hb hl hr
 have HWA:=oH (xGi _ a W (HA.below HB.out) oMx)
 have HWB:=oH (fun U V (hV:zCb V U b)=>xGi U b V hV oMx)
 replace HAN:=oH (HAN.below HB.out)
 replace HAD:=oH (HAD.below HB.out)
 replace HBN:=oH (HBN.below HB.out)
 replace HBD:=oH (HBD.below HB.out)
 replace HBB:=oH (HBB.below HB.out)
 clear HA
 by_cases hwa:a.den=1
 ·have ewa:xGh a=true:=decide_eq_true hwa
  rw [ewa] at HWA
  clear ewa
  refine HWA.mono ?_
  rintro e w2 ⟨rfl,hb⟩
  replace HB:=oH (HB.trans (hb.mono HB.size))
  replace HK:=oH (HK.below hb)
  replace HL:=oH (HL.below hb)
  replace HR:=oH (HR.below hb)
  replace HAN:=oH (HAN.below hb)
  replace HAD:=oH (HAD.below hb)
  replace HBN:=oH (HBN.below hb)
  replace HBD:=oH (HBD.below hb)
  replace HBB:=oH (HBB.below hb)
  clear hb HWA
  have cb0:=HL.at_ (i:=0) rfl
  have cb1:=HL.at_ (i:=1) rfl
  have cb2:=HL.at_ (i:=2) rfl
  have cb3:=HL.at_ (i:=3) rfl
  replace HWB:=oH (HWB.out _ w2 HBB.out)
  by_cases hwb:b.den=1
  ·have ewb:xGh b=true:=decide_eq_true hwb
   rw [ewb] at HWB
   have EW:=oH (zHi hwa hwb)
   clear ewb hwa hwb
   go_wp2_with fail
   refine HWB.mono ?_
   rintro e w3 ⟨rfl,hb⟩
   clear cb0 cb1 cb2 cb3
   replace HB:=oH (HB.trans (hb.mono HB.size))
   replace HK:=oH (HK.below hb)
   replace HL:=oH (HL.below hb)
   replace HR:=oH (HR.below hb)
   replace HAN:=oH (HAN.below hb)
   replace HAD:=oH (HAD.below hb)
   replace HBN:=oH (HBN.below hb)
   replace HBD:=oH (HBD.below hb)
   replace HBB:=oH (HBB.below hb)
   clear hb HWB
   have ca0:=HK.at_ (i:=0) rfl
   have ca1:=HK.at_ (i:=1) rfl
   have ca2:=HK.at_ (i:=2) rfl
   have ca3:=HK.at_ (i:=3) rfl
   have cb0:=HL.at_ (i:=0) rfl
   have cb1:=HL.at_ (i:=1) rfl
   have cb2:=HL.at_ (i:=2) rfl
   have cb3:=HL.at_ (i:=3) rfl
   go_wp2_with fail
   refine (zAa _ _ a.num b.num _ HAN.out HBN.out oMx oMx).mono ?_
   rintro e w4 ⟨v4,rfl,hv,hb⟩
   have HV:=oH hv
   obtain ⟨x4,X4,y4,z4,rfl⟩:=hv.slice
   clear hv ca0 ca1 ca2 ca3 cb0 cb1 cb2 cb3
   replace HB:=oH (HB.trans (hb.mono HB.size))
   replace HK:=oH (HK.below hb)
   replace HL:=oH (HL.below hb)
   replace HR:=oH (HR.below hb)
   replace HAN:=oH (HAN.below hb)
   replace HAD:=oH (HAD.below hb)
   replace HBN:=oH (HBN.below hb)
   replace HBD:=oH (HBD.below hb)
   replace HBB:=oH (HBB.below hb)
   clear hb
   go_wp2_with fail
   refine (zBl _ _ _ HV.out).mono ?_
   rintro e w5 ⟨v5,rfl,hv,hb⟩
   have HF5:=oH hv
   obtain ⟨x5,x5',X5,X5',y5,z5,y5',z5',rfl⟩:=hv.slice
   clear hv
   replace HB:=oH (HB.trans (hb.mono HB.size))
   replace HK:=oH (HK.below hb)
   replace HL:=oH (HL.below hb)
   replace HR:=oH (HR.below hb)
   replace HAN:=oH (HAN.below hb)
   replace HAD:=oH (HAD.below hb)
   replace HBN:=oH (HBN.below hb)
   replace HBD:=oH (HBD.below hb)
   replace HBB:=oH (HBB.below hb)
   clear hb
   have r0:=HR.at_ (i:=0) rfl
   have r1:=HR.at_ (i:=1) rfl
   have r2:=HR.at_ (i:=2) rfl
   have r3:=HR.at_ (i:=3) rfl
   have fr0:=HR.fr 0
   have fr1:=HR.fr 1
   have fr2:=HR.fr 2
   have fr3:=HR.fr 3
   have HR5:=HR
   have HB5:=HB
   go_wp2_with fail
   refine bodyPost_ret (v := .agg #[.bool x5,.slice X5 y5 z5,.bool x5',.slice X5' y5' z5']) (by simp [results,Tryz.results72,go_sem, *]) rfl ?_
   exact zNk HR5.out zSt HB5.out oMx HF5.out EW.out
  ·have ewb:xGh b=false:=decide_eq_false hwb
   rw [ewb] at HWB
   clear ewb hwa hwb
   go_wp2_with fail
   refine HWB.mono ?_
   rintro e w3 ⟨rfl,hb⟩
   clear cb0 cb1 cb2 cb3
   replace HB:=oH (HB.trans (hb.mono HB.size))
   replace HK:=oH (HK.below hb)
   replace HL:=oH (HL.below hb)
   replace HR:=oH (HR.below hb)
   replace HAN:=oH (HAN.below hb)
   replace HAD:=oH (HAD.below hb)
   replace HBN:=oH (HBN.below hb)
   replace HBD:=oH (HBD.below hb)
   replace HBB:=oH (HBB.below hb)
   clear hb HWB HBB
   have ca0:=HK.at_ (i:=0) rfl
   have ca1:=HK.at_ (i:=1) rfl
   have ca2:=HK.at_ (i:=2) rfl
   have ca3:=HK.at_ (i:=3) rfl
   have cb0:=HL.at_ (i:=0) rfl
   have cb1:=HL.at_ (i:=1) rfl
   have cb2:=HL.at_ (i:=2) rfl
   have cb3:=HL.at_ (i:=3) rfl
   go_wp2_with fail
   have P0:=oH (Blk.c44 HK.drew HL.drew)
   go_region_held3 (fun w'=>C44 w' w.heap.size (w.heap.size+1) (.bool na) (.slice A l c) (.bool nb) (.slice A' l' c') (.bool ma) (.slice B m d) (.bool mb) (.slice B' m' d')) (first|with_reducible exact P0.out|with_reducible exact P5.out|with_reducible exact P6.out|with_reducible exact P7.out|with_reducible exact P8.out|with_reducible exact P9.out|with_reducible exact Q9.out _ _ _ _|go_keep) (first|(go_at_call 57;(with_reducible refine (zCx _ _ _ _ _ HZ8.out HT8.out oMx oMx hdd).mono ?_);rintro e w9 ⟨v9,rfl,hv,hb⟩;have HK9:=oH (HK8.out.below hb);have HL9:=oH (HL8.out.below hb);have HR9:=oH (HR8.out.below hb);have HAN9:=oH (HAN8.out.below hb);have HAD9:=oH (HAD8.out.below hb);have HBN9:=oH (HBN8.out.below hb);have HBD9:=oH (HBD8.out.below hb);have HX9:=oH (HX8.out.below hb);have HY9:=oH (HY8.out.below hb);have HZ9:=oH (HZ8.out.below hb);have HT9:=oH (HT8.out.below hb);have HB9:=oH (HB8.out.trans (hb.mono HB8.out.size));have HF9:=oH hv;obtain ⟨x9,x9',X9,X9',y9,z9,y9',z9',rfl⟩:=hv.slice;have P9:=oH (Blk.c44 HK9.out HL9.out);have Q9:=oH (fun z0 z1 z2 z3=>Blk.c44_4 (r:=w.heap.size+1+1) HK9.out HL9.out oMx oMx z0 z1 z2 z3);have r0:=HR9.out.at_ (i:=0) rfl;have r1:=HR9.out.at_ (i:=1) rfl;have r2:=HR9.out.at_ (i:=2) rfl;have r3:=HR9.out.at_ (i:=3) rfl;have fr0:=HR9.out.fr 0;have fr1:=HR9.out.fr 1;have fr2:=HR9.out.fr 2;have fr3:=HR9.out.fr 3;clear hb hv)|(go_at_call 58;(with_reducible refine (zCv _ _ (a.den:Int) (b.den:Int) _ HAD7.out HBD7.out oMx oMx).mono ?_);rintro e w8 ⟨v8,rfl,hv,hb⟩;have HK8:=oH (HK7.out.below hb);have HL8:=oH (HL7.out.below hb);have HR8:=oH (HR7.out.below hb);have HAN8:=oH (HAN7.out.below hb);have HAD8:=oH (HAD7.out.below hb);have HBN8:=oH (HBN7.out.below hb);have HBD8:=oH (HBD7.out.below hb);have HX8:=oH (HX7.out.below hb);have HY8:=oH (HY7.out.below hb);have HZ8:=oH (HZ7.out.below hb);have HB8:=oH (HB7.out.trans (hb.mono HB7.out.size));have HT8:=oH hv;obtain ⟨x8,X8,y8,z8,rfl⟩:=hv.slice;have P8:=oH (Blk.c44 HK8.out HL8.out);clear hb hv)|(go_at_call 145;(with_reducible refine (zAa _ _ _ _ _ HX6.out HY6.out oMx oMx).mono ?_);rintro e w7 ⟨v7,rfl,hv,hb⟩;have HK7:=oH (HK6.out.below hb);have HL7:=oH (HL6.out.below hb);have HR7:=oH (HR6.out.below hb);have HAN7:=oH (HAN6.out.below hb);have HAD7:=oH (HAD6.out.below hb);have HBN7:=oH (HBN6.out.below hb);have HBD7:=oH (HBD6.out.below hb);have HX7:=oH (HX6.out.below hb);have HY7:=oH (HY6.out.below hb);have HB7:=oH (HB6.out.trans (hb.mono HB6.out.size));have HZ7:=oH hv;obtain ⟨x7,X7,y7,z7,rfl⟩:=hv.slice;have P7:=oH (Blk.c44 HK7.out HL7.out);clear hb hv)|(go_at_call 58;(with_reducible refine (zCv _ _ b.num (a.den:Int) _ HBN5.out HAD5.out oMx oMx).mono ?_);rintro e w6 ⟨v6,rfl,hv,hb⟩;have HK6:=oH (HK5.out.below hb);have HL6:=oH (HL5.out.below hb);have HR6:=oH (HR5.out.below hb);have HAN6:=oH (HAN5.out.below hb);have HAD6:=oH (HAD5.out.below hb);have HBN6:=oH (HBN5.out.below hb);have HBD6:=oH (HBD5.out.below hb);have HX6:=oH (HX5.out.below hb);have HB6:=oH (HB5.out.trans (hb.mono HB5.out.size));have HY6:=oH hv;obtain ⟨x6,X6,y6,z6,rfl⟩:=hv.slice;have P6:=oH (Blk.c44 HK6.out HL6.out);clear hb hv)|(go_at_call 58;(with_reducible refine (zCv _ _ a.num (b.den:Int) _ HAN.out.drew HBD.out.drew oMx oMx).mono ?_);rintro e w5 ⟨v5,rfl,hv,hb⟩;have HK5:=oH (HK.out.drew.below hb);have HL5:=oH (HL.out.drew.below hb);have HR5:=oH (HR.out.drew.below hb);have HAN5:=oH (HAN.out.drew.below hb);have HAD5:=oH (HAD.out.drew.below hb);have HBN5:=oH (HBN.out.drew.below hb);have HBD5:=oH (HBD.out.drew.below hb);have HB5:=oH (HB.out.drew.trans (hb.mono HB.out.size));have HX5:=oH hv;obtain ⟨x5,X5,y5,z5,rfl⟩:=hv.slice;have P5:=oH (Blk.c44 HK5.out HL5.out);clear hb hv))
   go_wp2_with fail
   refine bodyPost_ret (v := .agg #[.bool x9,.slice X9 y9 z9,.bool x9',.slice X9' y9' z9']) (by simp [results,Tryz.results72,go_sem, *]) rfl ?_
   exact zNk HR9.out zSt HB9.out oMx HF9.out EQ.out
 ·have ewa:xGh a=false:=decide_eq_false hwa
  rw [ewa] at HWA
  clear ewa hwa
  refine HWA.mono ?_
  rintro e w2 ⟨rfl,hb⟩
  replace HB:=oH (HB.trans (hb.mono HB.size))
  replace HK:=oH (HK.below hb)
  replace HL:=oH (HL.below hb)
  replace HR:=oH (HR.below hb)
  replace HAN:=oH (HAN.below hb)
  replace HAD:=oH (HAD.below hb)
  replace HBN:=oH (HBN.below hb)
  replace HBD:=oH (HBD.below hb)
  replace HBB:=oH (HBB.below hb)
  clear hb HWA HWB HBB
  have ca0:=HK.at_ (i:=0) rfl
  have ca1:=HK.at_ (i:=1) rfl
  have ca2:=HK.at_ (i:=2) rfl
  have ca3:=HK.at_ (i:=3) rfl
  have cb0:=HL.at_ (i:=0) rfl
  have cb1:=HL.at_ (i:=1) rfl
  have cb2:=HL.at_ (i:=2) rfl
  have cb3:=HL.at_ (i:=3) rfl
  go_wp2_with fail
  have P0:=oH (Blk.c44 HK.drew HL.drew)
  go_region_held3 (fun w'=>C44 w' w.heap.size (w.heap.size+1) (.bool na) (.slice A l c) (.bool nb) (.slice A' l' c') (.bool ma) (.slice B m d) (.bool mb) (.slice B' m' d')) (first|with_reducible exact P0.out|with_reducible exact P5.out|with_reducible exact P6.out|with_reducible exact P7.out|with_reducible exact P8.out|with_reducible exact P9.out|with_reducible exact Q9.out _ _ _ _|go_keep) (first|(go_at_call 57;(with_reducible refine (zCx _ _ _ _ _ HZ8.out HT8.out oMx oMx hdd).mono ?_);rintro e w9 ⟨v9,rfl,hv,hb⟩;have HK9:=oH (HK8.out.below hb);have HL9:=oH (HL8.out.below hb);have HR9:=oH (HR8.out.below hb);have HAN9:=oH (HAN8.out.below hb);have HAD9:=oH (HAD8.out.below hb);have HBN9:=oH (HBN8.out.below hb);have HBD9:=oH (HBD8.out.below hb);have HX9:=oH (HX8.out.below hb);have HY9:=oH (HY8.out.below hb);have HZ9:=oH (HZ8.out.below hb);have HT9:=oH (HT8.out.below hb);have HB9:=oH (HB8.out.trans (hb.mono HB8.out.size));have HF9:=oH hv;obtain ⟨x9,x9',X9,X9',y9,z9,y9',z9',rfl⟩:=hv.slice;have P9:=oH (Blk.c44 HK9.out HL9.out);have Q9:=oH (fun z0 z1 z2 z3=>Blk.c44_4 (r:=w.heap.size+1+1) HK9.out HL9.out oMx oMx z0 z1 z2 z3);have r0:=HR9.out.at_ (i:=0) rfl;have r1:=HR9.out.at_ (i:=1) rfl;have r2:=HR9.out.at_ (i:=2) rfl;have r3:=HR9.out.at_ (i:=3) rfl;have fr0:=HR9.out.fr 0;have fr1:=HR9.out.fr 1;have fr2:=HR9.out.fr 2;have fr3:=HR9.out.fr 3;clear hb hv)|(go_at_call 58;(with_reducible refine (zCv _ _ (a.den:Int) (b.den:Int) _ HAD7.out HBD7.out oMx oMx).mono ?_);rintro e w8 ⟨v8,rfl,hv,hb⟩;have HK8:=oH (HK7.out.below hb);have HL8:=oH (HL7.out.below hb);have HR8:=oH (HR7.out.below hb);have HAN8:=oH (HAN7.out.below hb);have HAD8:=oH (HAD7.out.below hb);have HBN8:=oH (HBN7.out.below hb);have HBD8:=oH (HBD7.out.below hb);have HX8:=oH (HX7.out.below hb);have HY8:=oH (HY7.out.below hb);have HZ8:=oH (HZ7.out.below hb);have HB8:=oH (HB7.out.trans (hb.mono HB7.out.size));have HT8:=oH hv;obtain ⟨x8,X8,y8,z8,rfl⟩:=hv.slice;have P8:=oH (Blk.c44 HK8.out HL8.out);clear hb hv)|(go_at_call 145;(with_reducible refine (zAa _ _ _ _ _ HX6.out HY6.out oMx oMx).mono ?_);rintro e w7 ⟨v7,rfl,hv,hb⟩;have HK7:=oH (HK6.out.below hb);have HL7:=oH (HL6.out.below hb);have HR7:=oH (HR6.out.below hb);have HAN7:=oH (HAN6.out.below hb);have HAD7:=oH (HAD6.out.below hb);have HBN7:=oH (HBN6.out.below hb);have HBD7:=oH (HBD6.out.below hb);have HX7:=oH (HX6.out.below hb);have HY7:=oH (HY6.out.below hb);have HB7:=oH (HB6.out.trans (hb.mono HB6.out.size));have HZ7:=oH hv;obtain ⟨x7,X7,y7,z7,rfl⟩:=hv.slice;have P7:=oH (Blk.c44 HK7.out HL7.out);clear hb hv)|(go_at_call 58;(with_reducible refine (zCv _ _ b.num (a.den:Int) _ HBN5.out HAD5.out oMx oMx).mono ?_);rintro e w6 ⟨v6,rfl,hv,hb⟩;have HK6:=oH (HK5.out.below hb);have HL6:=oH (HL5.out.below hb);have HR6:=oH (HR5.out.below hb);have HAN6:=oH (HAN5.out.below hb);have HAD6:=oH (HAD5.out.below hb);have HBN6:=oH (HBN5.out.below hb);have HBD6:=oH (HBD5.out.below hb);have HX6:=oH (HX5.out.below hb);have HB6:=oH (HB5.out.trans (hb.mono HB5.out.size));have HY6:=oH hv;obtain ⟨x6,X6,y6,z6,rfl⟩:=hv.slice;have P6:=oH (Blk.c44 HK6.out HL6.out);clear hb hv)|(go_at_call 58;(with_reducible refine (zCv _ _ a.num (b.den:Int) _ HAN.out.drew HBD.out.drew oMx oMx).mono ?_);rintro e w5 ⟨v5,rfl,hv,hb⟩;have HK5:=oH (HK.out.drew.below hb);have HL5:=oH (HL.out.drew.below hb);have HR5:=oH (HR.out.drew.below hb);have HAN5:=oH (HAN.out.drew.below hb);have HAD5:=oH (HAD.out.drew.below hb);have HBN5:=oH (HBN.out.drew.below hb);have HBD5:=oH (HBD.out.drew.below hb);have HB5:=oH (HB.out.drew.trans (hb.mono HB.out.size));have HX5:=oH hv;obtain ⟨x5,X5,y5,z5,rfl⟩:=hv.slice;have P5:=oH (Blk.c44 HK5.out HL5.out);clear hb hv))
  go_wp2_with fail
  refine bodyPost_ret (v := .agg #[.bool x9,.slice X9 y9 z9,.bool x9',.slice X9' y9' z9']) (by simp [results,Tryz.results72,go_sem, *]) rfl ?_
  exact zNk HR9.out zSt HB9.out oMx HF9.out EQ.out
theorem zBf (u v:Value) (a b:Rat) (w:World) (ha:zCb w u a) (hb:zCb w v b) (sa:Sz 1000000 a) (sb:Sz 1000000 b) :
  Calls Tryz.prog 73 #[u,v] w (zFl w (a*b)):=by
 have an:=sa.n
 have ad:=sa.d
 have bn:=sb.n
 have bd:=sb.d
 have ld:=zPr ad bd
 have l3:=zPr an bn
 have EQ:=oH (zWt a b)
 have hdd:(a.den:Int)*(b.den:Int)≠0:=Int.mul_ne_zero (zLj a) (zLj b)
 have sda:=sa.2
 have sdb:=sb.2
 have HA:=oH ha
 obtain ⟨na,nb,A,A',l,c,l',c',rfl,h1,h2⟩:=ha.open_
 have HAN:=oH h1
 have HAD:=oH h2
 clear ha h1 h2
 have HBB:=oH hb
 obtain ⟨ma,mb,B,B',m,d,m',d',rfl,h1,h2⟩:=hb.open_
 have HBN:=oH h1
 have HBD:=oH h2
 clear hb h1 h2
 go_enter Tryz.func73,Tryz.ntmps73
 go_wp2_with fail
 have hk:=(((Blk.new w 89 [.bool na,.slice A l c,.bool nb,.slice A' l' c']).alloc (.cells #[.bool ma,.slice B m d,.bool mb,.slice B' m' d'] 89)).alloc (.cells #[.bool false,.slice none 0 0,.bool false,.slice none 0 0] 89))
 have hl:=((Blk.new (w.alloc (.cells #[.bool na,.slice A l c,.bool nb,.slice A' l' c'] 89)) 89 [.bool ma,.slice B m d,.bool mb,.slice B' m' d']).alloc (.cells #[.bool false,.slice none 0 0,.bool false,.slice none 0 0] 89))
 rw [World.size_alloc] at hl
 have hr:=Blk.new ((w.alloc (.cells #[.bool na,.slice A l c,.bool nb,.slice A' l' c'] 89)).alloc (.cells #[.bool ma,.slice B m d,.bool mb,.slice B' m' d'] 89)) 89 [.bool false,.slice none 0 0,.bool false,.slice none 0 0]
 rw [World.size_alloc] at hr
 rw [World.size_alloc] at hr
 have hb:Below w.heap.size w (((w.alloc (.cells #[.bool na,.slice A l c,.bool nb,.slice A' l' c'] 89)).alloc (.cells #[.bool ma,.slice B m d,.bool mb,.slice B' m' d'] 89)).alloc (.cells #[.bool false,.slice none 0 0,.bool false,.slice none 0 0] 89)):=((bA).alloc sMx _).alloc (by simp;omega) _
 generalize ((w.alloc (.cells #[.bool na,.slice A l c,.bool nb,.slice A' l' c'] 89)).alloc (.cells #[.bool ma,.slice B m d,.bool mb,.slice B' m' d'] 89)).alloc (.cells #[.bool false,.slice none 0 0,.bool false,.slice none 0 0] 89)=W at *
 have HK:=oH hk
 have HL:=oH hl
 have HR:=oH hr
 have HB:=oH hb
 clear hk hb hl hr
 have HWA:=oH (xGi _ a W (HA.below HB.out) oMx)
 have HWB:=oH (fun U V (hV:zCb V U b)=>xGi U b V hV oMx)
 replace HAN:=oH (HAN.below HB.out)
 replace HAD:=oH (HAD.below HB.out)
 replace HBN:=oH (HBN.below HB.out)
 replace HBD:=oH (HBD.below HB.out)
 replace HBB:=oH (HBB.below HB.out)
 clear HA
 by_cases hwa:a.den=1
 ·have ewa:xGh a=true:=decide_eq_true hwa
  rw [ewa] at HWA
  clear ewa
  refine HWA.mono ?_
  rintro e w2 ⟨rfl,hb⟩
  replace HB:=oH (HB.trans (hb.mono HB.size))
  replace HK:=oH (HK.below hb)
  replace HL:=oH (HL.below hb)
  replace HR:=oH (HR.below hb)
  replace HAN:=oH (HAN.below hb)
  replace HAD:=oH (HAD.below hb)
  replace HBN:=oH (HBN.below hb)
  replace HBD:=oH (HBD.below hb)
  replace HBB:=oH (HBB.below hb)
  clear hb HWA
  have cb0:=HL.at_ (i:=0) rfl
  have cb1:=HL.at_ (i:=1) rfl
  have cb2:=HL.at_ (i:=2) rfl
  have cb3:=HL.at_ (i:=3) rfl
  replace HWB:=oH (HWB.out _ w2 HBB.out)
  by_cases hwb:b.den=1
  ·have ewb:xGh b=true:=decide_eq_true hwb
   rw [ewb] at HWB
   have EW:=oH (zSf hwa hwb)
   clear ewb hwa hwb
   go_wp2_with fail
   refine HWB.mono ?_
   rintro e w3 ⟨rfl,hb⟩
   clear cb0 cb1 cb2 cb3
   replace HB:=oH (HB.trans (hb.mono HB.size))
   replace HK:=oH (HK.below hb)
   replace HL:=oH (HL.below hb)
   replace HR:=oH (HR.below hb)
   replace HAN:=oH (HAN.below hb)
   replace HAD:=oH (HAD.below hb)
   replace HBN:=oH (HBN.below hb)
   replace HBD:=oH (HBD.below hb)
   replace HBB:=oH (HBB.below hb)
   clear hb HWB
   have ca0:=HK.at_ (i:=0) rfl
   have ca1:=HK.at_ (i:=1) rfl
   have ca2:=HK.at_ (i:=2) rfl
   have ca3:=HK.at_ (i:=3) rfl
   have cb0:=HL.at_ (i:=0) rfl
   have cb1:=HL.at_ (i:=1) rfl
   have cb2:=HL.at_ (i:=2) rfl
   have cb3:=HL.at_ (i:=3) rfl
   go_wp2_with fail
   refine (zCv _ _ a.num b.num _ HAN.out HBN.out oMx oMx).mono ?_
   rintro e w4 ⟨v4,rfl,hv,hb⟩
   have HV:=oH hv
   obtain ⟨x4,X4,y4,z4,rfl⟩:=hv.slice
   clear hv ca0 ca1 ca2 ca3 cb0 cb1 cb2 cb3
   replace HB:=oH (HB.trans (hb.mono HB.size))
   replace HK:=oH (HK.below hb)
   replace HL:=oH (HL.below hb)
   replace HR:=oH (HR.below hb)
   replace HAN:=oH (HAN.below hb)
   replace HAD:=oH (HAD.below hb)
   replace HBN:=oH (HBN.below hb)
   replace HBD:=oH (HBD.below hb)
   replace HBB:=oH (HBB.below hb)
   clear hb
   go_wp2_with fail
   refine (zBl _ _ _ HV.out).mono ?_
   rintro e w5 ⟨v5,rfl,hv,hb⟩
   have HF5:=oH hv
   obtain ⟨x5,x5',X5,X5',y5,z5,y5',z5',rfl⟩:=hv.slice
   clear hv
   replace HB:=oH (HB.trans (hb.mono HB.size))
   replace HK:=oH (HK.below hb)
   replace HL:=oH (HL.below hb)
   replace HR:=oH (HR.below hb)
   replace HAN:=oH (HAN.below hb)
   replace HAD:=oH (HAD.below hb)
   replace HBN:=oH (HBN.below hb)
   replace HBD:=oH (HBD.below hb)
   replace HBB:=oH (HBB.below hb)
   clear hb
   have r0:=HR.at_ (i:=0) rfl
   have r1:=HR.at_ (i:=1) rfl
   have r2:=HR.at_ (i:=2) rfl
   have r3:=HR.at_ (i:=3) rfl
   have fr0:=HR.fr 0
   have fr1:=HR.fr 1
   have fr2:=HR.fr 2
   have fr3:=HR.fr 3
   have HR5:=HR
   have HB5:=HB
   go_wp2_with fail
   refine bodyPost_ret (v := .agg #[.bool x5,.slice X5 y5 z5,.bool x5',.slice X5' y5' z5']) (by simp [results,Tryz.results73,go_sem, *]) rfl ?_
   exact zNk HR5.out zSt HB5.out oMx HF5.out EW.out
  ·have ewb:xGh b=false:=decide_eq_false hwb
   rw [ewb] at HWB
   clear ewb hwa hwb
   go_wp2_with fail
   refine HWB.mono ?_
   rintro e w3 ⟨rfl,hb⟩
   clear cb0 cb1 cb2 cb3
   replace HB:=oH (HB.trans (hb.mono HB.size))
   replace HK:=oH (HK.below hb)
   replace HL:=oH (HL.below hb)
   replace HR:=oH (HR.below hb)
   replace HAN:=oH (HAN.below hb)
   replace HAD:=oH (HAD.below hb)
   replace HBN:=oH (HBN.below hb)
   replace HBD:=oH (HBD.below hb)
   replace HBB:=oH (HBB.below hb)
   clear hb HWB HBB
   have ca0:=HK.at_ (i:=0) rfl
   have ca1:=HK.at_ (i:=1) rfl
   have ca2:=HK.at_ (i:=2) rfl
   have ca3:=HK.at_ (i:=3) rfl
   have cb0:=HL.at_ (i:=0) rfl
   have cb1:=HL.at_ (i:=1) rfl
   have cb2:=HL.at_ (i:=2) rfl
   have cb3:=HL.at_ (i:=3) rfl
   go_wp2_with fail
   have P0:=oH (Blk.c44 HK.drew HL.drew)
   go_region_held3 (fun w'=>C44 w' w.heap.size (w.heap.size+1) (.bool na) (.slice A l c) (.bool nb) (.slice A' l' c') (.bool ma) (.slice B m d) (.bool mb) (.slice B' m' d')) (first|with_reducible exact P0.out|with_reducible exact P5.out|with_reducible exact P6.out|with_reducible exact P7.out|with_reducible exact Q7.out _ _ _ _|go_keep) (first|(go_at_call 57;(with_reducible refine (zCx _ _ _ _ _ HZ6.out HT6.out oMx oMx hdd).mono ?_);rintro e w7 ⟨v7,rfl,hv,hb⟩;have HK7:=oH (HK6.out.below hb);have HL7:=oH (HL6.out.below hb);have HR7:=oH (HR6.out.below hb);have HAN7:=oH (HAN6.out.below hb);have HAD7:=oH (HAD6.out.below hb);have HBN7:=oH (HBN6.out.below hb);have HBD7:=oH (HBD6.out.below hb);have HZ7:=oH (HZ6.out.below hb);have HT7:=oH (HT6.out.below hb);have HB7:=oH (HB6.out.trans (hb.mono HB6.out.size));have HF7:=oH hv;obtain ⟨x7,x7',X7,X7',y7,z7,y7',z7',rfl⟩:=hv.slice;have P7:=oH (Blk.c44 HK7.out HL7.out);have Q7:=oH (fun z0 z1 z2 z3=>Blk.c44_4 (r:=w.heap.size+1+1) HK7.out HL7.out oMx oMx z0 z1 z2 z3);have r0:=HR7.out.at_ (i:=0) rfl;have r1:=HR7.out.at_ (i:=1) rfl;have r2:=HR7.out.at_ (i:=2) rfl;have r3:=HR7.out.at_ (i:=3) rfl;have fr0:=HR7.out.fr 0;have fr1:=HR7.out.fr 1;have fr2:=HR7.out.fr 2;have fr3:=HR7.out.fr 3;clear hb hv)|(go_at_call 58;(with_reducible refine (zCv _ _ (a.den:Int) (b.den:Int) _ HAD5.out HBD5.out oMx oMx).mono ?_);rintro e w6 ⟨v6,rfl,hv,hb⟩;have HK6:=oH (HK5.out.below hb);have HL6:=oH (HL5.out.below hb);have HR6:=oH (HR5.out.below hb);have HAN6:=oH (HAN5.out.below hb);have HAD6:=oH (HAD5.out.below hb);have HBN6:=oH (HBN5.out.below hb);have HBD6:=oH (HBD5.out.below hb);have HZ6:=oH (HZ5.out.below hb);have HB6:=oH (HB5.out.trans (hb.mono HB5.out.size));have HT6:=oH hv;obtain ⟨x6,X6,y6,z6,rfl⟩:=hv.slice;have P6:=oH (Blk.c44 HK6.out HL6.out);clear hb hv)|(go_at_call 58;(with_reducible refine (zCv _ _ a.num b.num _ HAN.out.drew HBN.out.drew oMx oMx).mono ?_);rintro e w5 ⟨v5,rfl,hv,hb⟩;have HK5:=oH (HK.out.drew.below hb);have HL5:=oH (HL.out.drew.below hb);have HR5:=oH (HR.out.drew.below hb);have HAN5:=oH (HAN.out.drew.below hb);have HAD5:=oH (HAD.out.drew.below hb);have HBN5:=oH (HBN.out.drew.below hb);have HBD5:=oH (HBD.out.drew.below hb);have HB5:=oH (HB.out.drew.trans (hb.mono HB.out.size));have HZ5:=oH hv;obtain ⟨x5,X5,y5,z5,rfl⟩:=hv.slice;have P5:=oH (Blk.c44 HK5.out HL5.out);clear hb hv))
   go_wp2_with fail
   refine bodyPost_ret (v := .agg #[.bool x7,.slice X7 y7 z7,.bool x7',.slice X7' y7' z7']) (by simp [results,Tryz.results73,go_sem, *]) rfl ?_
   exact zNk HR7.out zSt HB7.out oMx HF7.out EQ.out
 ·have ewa:xGh a=false:=decide_eq_false hwa
  rw [ewa] at HWA
  clear ewa hwa
  refine HWA.mono ?_
  rintro e w2 ⟨rfl,hb⟩
  replace HB:=oH (HB.trans (hb.mono HB.size))
  replace HK:=oH (HK.below hb)
  replace HL:=oH (HL.below hb)
  replace HR:=oH (HR.below hb)
  replace HAN:=oH (HAN.below hb)
  replace HAD:=oH (HAD.below hb)
  replace HBN:=oH (HBN.below hb)
  replace HBD:=oH (HBD.below hb)
  replace HBB:=oH (HBB.below hb)
  clear hb HWA HWB HBB
  have ca0:=HK.at_ (i:=0) rfl
  have ca1:=HK.at_ (i:=1) rfl
  have ca2:=HK.at_ (i:=2) rfl
  have ca3:=HK.at_ (i:=3) rfl
  have cb0:=HL.at_ (i:=0) rfl
  have cb1:=HL.at_ (i:=1) rfl
  have cb2:=HL.at_ (i:=2) rfl
  have cb3:=HL.at_ (i:=3) rfl
  go_wp2_with fail
  have P0:=oH (Blk.c44 HK.drew HL.drew)
  go_region_held3 (fun w'=>C44 w' w.heap.size (w.heap.size+1) (.bool na) (.slice A l c) (.bool nb) (.slice A' l' c') (.bool ma) (.slice B m d) (.bool mb) (.slice B' m' d')) (first|with_reducible exact P0.out|with_reducible exact P5.out|with_reducible exact P6.out|with_reducible exact P7.out|with_reducible exact Q7.out _ _ _ _|go_keep) (first|(go_at_call 57;(with_reducible refine (zCx _ _ _ _ _ HZ6.out HT6.out oMx oMx hdd).mono ?_);rintro e w7 ⟨v7,rfl,hv,hb⟩;have HK7:=oH (HK6.out.below hb);have HL7:=oH (HL6.out.below hb);have HR7:=oH (HR6.out.below hb);have HAN7:=oH (HAN6.out.below hb);have HAD7:=oH (HAD6.out.below hb);have HBN7:=oH (HBN6.out.below hb);have HBD7:=oH (HBD6.out.below hb);have HZ7:=oH (HZ6.out.below hb);have HT7:=oH (HT6.out.below hb);have HB7:=oH (HB6.out.trans (hb.mono HB6.out.size));have HF7:=oH hv;obtain ⟨x7,x7',X7,X7',y7,z7,y7',z7',rfl⟩:=hv.slice;have P7:=oH (Blk.c44 HK7.out HL7.out);have Q7:=oH (fun z0 z1 z2 z3=>Blk.c44_4 (r:=w.heap.size+1+1) HK7.out HL7.out oMx oMx z0 z1 z2 z3);have r0:=HR7.out.at_ (i:=0) rfl;have r1:=HR7.out.at_ (i:=1) rfl;have r2:=HR7.out.at_ (i:=2) rfl;have r3:=HR7.out.at_ (i:=3) rfl;have fr0:=HR7.out.fr 0;have fr1:=HR7.out.fr 1;have fr2:=HR7.out.fr 2;have fr3:=HR7.out.fr 3;clear hb hv)|(go_at_call 58;(with_reducible refine (zCv _ _ (a.den:Int) (b.den:Int) _ HAD5.out HBD5.out oMx oMx).mono ?_);rintro e w6 ⟨v6,rfl,hv,hb⟩;have HK6:=oH (HK5.out.below hb);have HL6:=oH (HL5.out.below hb);have HR6:=oH (HR5.out.below hb);have HAN6:=oH (HAN5.out.below hb);have HAD6:=oH (HAD5.out.below hb);have HBN6:=oH (HBN5.out.below hb);have HBD6:=oH (HBD5.out.below hb);have HZ6:=oH (HZ5.out.below hb);have HB6:=oH (HB5.out.trans (hb.mono HB5.out.size));have HT6:=oH hv;obtain ⟨x6,X6,y6,z6,rfl⟩:=hv.slice;have P6:=oH (Blk.c44 HK6.out HL6.out);clear hb hv)|(go_at_call 58;(with_reducible refine (zCv _ _ a.num b.num _ HAN.out.drew HBN.out.drew oMx oMx).mono ?_);rintro e w5 ⟨v5,rfl,hv,hb⟩;have HK5:=oH (HK.out.drew.below hb);have HL5:=oH (HL.out.drew.below hb);have HR5:=oH (HR.out.drew.below hb);have HAN5:=oH (HAN.out.drew.below hb);have HAD5:=oH (HAD.out.drew.below hb);have HBN5:=oH (HBN.out.drew.below hb);have HBD5:=oH (HBD.out.drew.below hb);have HB5:=oH (HB.out.drew.trans (hb.mono HB.out.size));have HZ5:=oH hv;obtain ⟨x5,X5,y5,z5,rfl⟩:=hv.slice;have P5:=oH (Blk.c44 HK5.out HL5.out);clear hb hv))
  go_wp2_with fail
  refine bodyPost_ret (v := .agg #[.bool x7,.slice X7 y7 z7,.bool x7',.slice X7' y7' z7']) (by simp [results,Tryz.results73,go_sem, *]) rfl ?_
  exact zNk HR7.out zSt HB7.out oMx HF7.out EQ.out
theorem zBb (u v:Value) (a b:Rat) (w:World) (ha:zCb w u a) (hb:zCb w v b) (sa:Sz 1000000 a) (sb:Sz 1000000 b) :
  Calls Tryz.prog 74 #[u,v] w fun e w'=>e = .returned (.int .i64 (sgR (a-b)))∧Below w.heap.size w w':=by
 have an:=sa.n
 have ad:=sa.d
 have bn:=sb.n
 have bd:=sb.d
 have ld:=zPr ad bd
 have l3:=zPr an bd
 have l4:=zPr bn ad
 have EQ:=oH (sgR_sub a b)
 have HA:=oH ha
 obtain ⟨na,nb,A,A',l,c,l',c',rfl,h1,h2⟩:=ha.open_
 have HAN:=oH h1
 have HAD:=oH h2
 clear ha h1 h2
 have HBB:=oH hb
 obtain ⟨ma,mb,B,B',m,d,m',d',rfl,h1,h2⟩:=hb.open_
 have HBN:=oH h1
 have HBD:=oH h2
 clear hb h1 h2
 go_enter Tryz.func74,Tryz.ntmps74
 go_wp2_with fail
 have hk:=((Blk.new w 89 [.bool na,.slice A l c,.bool nb,.slice A' l' c']).alloc (.cells #[.bool ma,.slice B m d,.bool mb,.slice B' m' d'] 89))
 have hl:=(Blk.new (w.alloc (.cells #[.bool na,.slice A l c,.bool nb,.slice A' l' c'] 89)) 89 [.bool ma,.slice B m d,.bool mb,.slice B' m' d'])
 rw [World.size_alloc] at hl
 have hb:Below w.heap.size w ((w.alloc (.cells #[.bool na,.slice A l c,.bool nb,.slice A' l' c'] 89)).alloc (.cells #[.bool ma,.slice B m d,.bool mb,.slice B' m' d'] 89)):=(bA).alloc sMx _
 generalize (w.alloc (.cells #[.bool na,.slice A l c,.bool nb,.slice A' l' c'] 89)).alloc (.cells #[.bool ma,.slice B m d,.bool mb,.slice B' m' d'] 89)=W at *
 have HK:=oH hk
 have HL:=oH hl
 have HB:=oH hb
 clear hk hb hl
 replace HAN:=oH (HAN.below HB.out)
 replace HAD:=oH (HAD.below HB.out)
 replace HBN:=oH (HBN.below HB.out)
 replace HBD:=oH (HBD.below HB.out)
 have ca0:=HK.at_ (i:=0) rfl
 have ca1:=HK.at_ (i:=1) rfl
 have ca2:=HK.at_ (i:=2) rfl
 have ca3:=HK.at_ (i:=3) rfl
 have cb0:=HL.at_ (i:=0) rfl
 have cb1:=HL.at_ (i:=1) rfl
 have cb2:=HL.at_ (i:=2) rfl
 have cb3:=HL.at_ (i:=3) rfl
 have P0:=oH (Blk.c44 HK.drew HL.drew)
 go_region_held3 (fun w'=>C44 w' w.heap.size (w.heap.size+1) (.bool na) (.slice A l c) (.bool nb) (.slice A' l' c') (.bool ma) (.slice B m d) (.bool mb) (.slice B' m' d')) (first|with_reducible exact P0.out|with_reducible exact P5.out|with_reducible exact P6.out|with_reducible exact P7.out|go_keep) (first|(go_at_call 125;(with_reducible refine (zAj _ _ _ _ _ HZ6.out HT6.out oMx oMx).mono ?_);rintro e w7 ⟨rfl,hb⟩;have HK7:=oH (HK6.out.below hb);have HL7:=oH (HL6.out.below hb);have HAN7:=oH (HAN6.out.below hb);have HAD7:=oH (HAD6.out.below hb);have HBN7:=oH (HBN6.out.below hb);have HBD7:=oH (HBD6.out.below hb);have HZ7:=oH (HZ6.out.below hb);have HT7:=oH (HT6.out.below hb);have HB7:=oH (HB6.out.trans (hb.mono HB6.out.size));have P7:=oH (Blk.c44 HK7.out HL7.out);clear hb)|(go_at_call 58;(with_reducible refine (zCv _ _ b.num (a.den:Int) _ HBN5.out HAD5.out oMx oMx).mono ?_);rintro e w6 ⟨v6,rfl,hv,hb⟩;have HK6:=oH (HK5.out.below hb);have HL6:=oH (HL5.out.below hb);have HAN6:=oH (HAN5.out.below hb);have HAD6:=oH (HAD5.out.below hb);have HBN6:=oH (HBN5.out.below hb);have HBD6:=oH (HBD5.out.below hb);have HZ6:=oH (HZ5.out.below hb);have HB6:=oH (HB5.out.trans (hb.mono HB5.out.size));have HT6:=oH hv;obtain ⟨x6,X6,y6,z6,rfl⟩:=hv.slice;have P6:=oH (Blk.c44 HK6.out HL6.out);clear hb hv)|(go_at_call 58;(with_reducible refine (zCv _ _ a.num (b.den:Int) _ HAN.out.drew HBD.out.drew oMx oMx).mono ?_);rintro e w5 ⟨v5,rfl,hv,hb⟩;have HK5:=oH (HK.out.drew.below hb);have HL5:=oH (HL.out.drew.below hb);have HAN5:=oH (HAN.out.drew.below hb);have HAD5:=oH (HAD.out.drew.below hb);have HBN5:=oH (HBN.out.drew.below hb);have HBD5:=oH (HBD.out.drew.below hb);have HB5:=oH (HB.out.drew.trans (hb.mono HB.out.size));have HZ5:=oH hv;obtain ⟨x5,X5,y5,z5,rfl⟩:=hv.slice;have P5:=oH (Blk.c44 HK5.out HL5.out);clear hb hv))
 go_wp2_with fail
 go_ret
 exact ⟨by rw [EQ.out];rfl,HB7.out⟩
theorem FNeg_any (u:Value) (a:Rat) (w:World) (ha:zCb w u a) (sa:Sz 3000000 a) :
  Calls Tryz.prog 61 #[u] w (zFl w (-a)):=by
 have an:=sa.n
 have ad:=sa.d
 have E1:=oH (Rat.neg_num a)
 have E2:=oH (Rat.neg_den a)
 have HA:=oH ha
 obtain ⟨na,nb,A,A',l,c,l',c',rfl,h1,h2⟩:=ha.open_
 have HAN:=oH h1
 have HAD:=oH h2
 clear ha h1 h2
 go_enter Tryz.func61,Tryz.ntmps61
 go_wp2_with fail
 have hk:=((Blk.new w 89 [.bool na,.slice A l c,.bool nb,.slice A' l' c']).alloc (.cells #[.bool false,.slice none 0 0,.bool false,.slice none 0 0] 89))
 have hr:=Blk.new (w.alloc (.cells #[.bool na,.slice A l c,.bool nb,.slice A' l' c'] 89)) 89 [.bool false,.slice none 0 0,.bool false,.slice none 0 0]
 rw [World.size_alloc] at hr
 have hb:Below w.heap.size w ((w.alloc (.cells #[.bool na,.slice A l c,.bool nb,.slice A' l' c'] 89)).alloc (.cells #[.bool false,.slice none 0 0,.bool false,.slice none 0 0] 89)):=(bA).alloc sMx _
 generalize (w.alloc (.cells #[.bool na,.slice A l c,.bool nb,.slice A' l' c'] 89)).alloc (.cells #[.bool false,.slice none 0 0,.bool false,.slice none 0 0] 89)=W at *
 have HK:=oH hk
 have HR:=oH hr
 have HB:=oH hb
 clear hk hb hr
 replace HAN:=oH (HAN.below HB.out)
 replace HAD:=oH (HAD.below HB.out)
 have ca0:=HK.at_ (i:=0) rfl
 have ca1:=HK.at_ (i:=1) rfl
 have ca2:=HK.at_ (i:=2) rfl
 have ca3:=HK.at_ (i:=3) rfl
 have P0:=oH (Blk.c4 HK.drew)
 go_region_held3 (fun w'=>C4 w' w.heap.size (.bool na) (.slice A l c) (.bool nb) (.slice A' l' c')) (first|with_reducible exact P0.out|with_reducible exact P5.out|with_reducible exact Q5.out _ _ _ _|go_keep) (first|(go_at_call 123;(with_reducible refine (zCw _ a.num _ HAN.out.drew oMx).mono ?_);rintro e w5 ⟨v5,rfl,hv,hb⟩;have HK5:=oH (HK.out.drew.below hb);have HR5:=oH (HR.out.drew.below hb);have HAN5:=oH (HAN.out.drew.below hb);have HAD5:=oH (HAD.out.drew.below hb);have HB5:=oH (HB.out.drew.trans (hb.mono HB.out.size));have HZ5:=oH hv;obtain ⟨x5,X5,y5,z5,rfl⟩:=hv.slice;have P5:=oH (Blk.c4 HK5.out);have Q5:=oH (fun z0 z1 z2 z3=>Blk.c4_4 (r:=w.heap.size+1) HK5.out oMx z0 z1 z2 z3);have r0:=HR5.out.at_ (i:=0) rfl;have r1:=HR5.out.at_ (i:=1) rfl;have r2:=HR5.out.at_ (i:=2) rfl;have r3:=HR5.out.at_ (i:=3) rfl;have fr0:=HR5.out.fr 0;have fr1:=HR5.out.fr 1;have fr2:=HR5.out.fr 2;have fr3:=HR5.out.fr 3;clear hb hv))
 go_wp2_with fail
 refine bodyPost_ret (v := .agg #[.bool x5,.slice X5 y5 z5,.bool nb,.slice A' l' c']) (by simp [results,Tryz.results61,go_sem, *]) rfl ?_
 exact zNk HR5.out zSt HB5.out oMx (zCb.mk (q := -a) HZ5.out HAD5.out (by rw [E1.out]) (by rw [E2.out])) rfl
theorem zBk (u:Value) (a:Rat) (w:World) (ha:zCb w u a) (sa:Sz 3000000 a) :
  Calls Tryz.prog 143 #[u] w fun e w'=>e = .returned (.int .i64 (sgR a))∧Below w.heap.size w w':=by
 have an:=sa.n
 have ad:=sa.d
 have HA:=oH ha
 obtain ⟨na,nb,A,A',l,c,l',c',rfl,h1,h2⟩:=ha.open_
 have HAN:=oH h1
 have HAD:=oH h2
 clear ha h1 h2
 go_enter Tryz.func143,Tryz.ntmps143
 go_wp2_with fail
 have hk:=(Blk.new w 89 [.bool na,.slice A l c,.bool nb,.slice A' l' c'])
 have hb:Below w.heap.size w (w.alloc (.cells #[.bool na,.slice A l c,.bool nb,.slice A' l' c'] 89)):=bA
 generalize w.alloc (.cells #[.bool na,.slice A l c,.bool nb,.slice A' l' c'] 89)=W at *
 have HK:=oH hk
 have HB:=oH hb
 clear hk hb
 refine (zGh _ a.num _ (HAN.below HB.out) oMx).mono ?_
 rintro e w2 ⟨rfl,hb⟩
 replace HB:=oH (HB.trans (hb.mono HB.size))
 clear hb
 go_wp2_with fail
 go_ret
 exact ⟨rfl,HB.out⟩
end Go.Proofs.YtfjjcoggoomlbaaGreatDoor
