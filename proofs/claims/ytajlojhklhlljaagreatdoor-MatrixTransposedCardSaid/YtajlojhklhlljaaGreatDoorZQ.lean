import Derived.Test.YtajlojhklhlljaaGreatDoorZP
set_option maxHeartbeats 16000000
set_option maxRecDepth 100000
namespace Go.Proofs.YtajlojhklhlljaaGreatDoor
open Go.RowKit
theorem add_whole {a b : Rat} (ha : a.den = 1) (hb : b.den = 1) : ((a.num + b.num : Int) : Rat) = a + b := by rw [Rat.intCast_add, ← rat_whole ha, ← rat_whole hb]
theorem mul_whole {a b : Rat} (ha : a.den = 1) (hb : b.den = 1) : ((a.num * b.num : Int) : Rat) = a * b := by rw [Rat.intCast_mul, ← rat_whole ha, ← rat_whole hb]
theorem IsFrac.open_ {w : World} {v : Value} {q : Rat} (h : IsFrac w v q) : ∃ (na nb : Bool) (A A' : Option Addr) (l c l' c' : Nat), v = .agg #[.bool na, .slice A l c, .bool nb, .slice A' l' c'] ∧ IsNum w (.agg #[.bool na, .slice A l c]) q.num ∧ IsNum w (.agg #[.bool nb, .slice A' l' c']) (q.den : Int) := h
theorem IsFrac.slice {w : World} {v : Value} {q : Rat} (h : IsFrac w v q) : ∃ (na nb : Bool) (A A' : Option Addr) (l c l' c' : Nat), v = .agg #[.bool na, .slice A l c, .bool nb, .slice A' l' c'] := by
 obtain ⟨na, nb, A, A', l, c, l', c', e, _, _⟩ := h
 exact ⟨na, nb, A, A', l, c, l', c', e⟩
theorem Sz.n {k : Nat} {q : Rat} (h : Sz k q) : (limbs q.num.natAbs).length ≤ k := h.1
theorem Sz.d {k : Nat} {q : Rat} (h : Sz k q) : (limbs ((q.den : Int)).natAbs).length ≤ k := by rw [Int.natAbs_natCast]; exact h.2
theorem FAdd_any (u v : Value) (a b : Rat) (w : World) (ha : IsFrac w u a) (hb : IsFrac w v b) (sa : Sz 1000000 a) (sb : Sz 1000000 b) :
  Calls Tryz.prog 100 #[u, v] w (RetFrac w (a + b)) := by
 have an := sa.n
 have ad := sa.d
 have bn := sb.n
 have bd := sb.d
 have ld := len_mul ad bd
 have l1 := len_mul an bd
 have l2 := len_mul bn ad
 have l3 := len_add l1 l2
 have EQ := Lib.hid (rat_add a b)
 have hdd : (a.den : Int) * (b.den : Int) ≠ 0 := Int.mul_ne_zero (den_ne a) (den_ne b)
 have sda := sa.2
 have sdb := sb.2
 have HA := Lib.hid ha
 obtain ⟨na, nb, A, A', l, c, l', c', rfl, h1, h2⟩ := ha.open_
 have HAN := Lib.hid h1
 have HAD := Lib.hid h2
 clear ha h1 h2
 have HBB := Lib.hid hb
 obtain ⟨ma, mb, B, B', m, d, m', d', rfl, h1, h2⟩ := hb.open_
 have HBN := Lib.hid h1
 have HBD := Lib.hid h2
 clear hb h1 h2
 go_enter Tryz.func100, Tryz.ntmps100
 go_wp2_with fail
 have hk := (((Blk.new w 93 [.bool na, .slice A l c, .bool nb, .slice A' l' c']).alloc (.cells #[.bool ma, .slice B m d, .bool mb, .slice B' m' d'] 93)).alloc (.cells #[.bool false, .slice none 0 0, .bool false, .slice none 0 0] 93))
 have hl := ((Blk.new (w.alloc (.cells #[.bool na, .slice A l c, .bool nb, .slice A' l' c'] 93)) 93 [.bool ma, .slice B m d, .bool mb, .slice B' m' d']).alloc (.cells #[.bool false, .slice none 0 0, .bool false, .slice none 0 0] 93))
 rw [World.size_alloc] at hl
 have hr := Blk.new ((w.alloc (.cells #[.bool na, .slice A l c, .bool nb, .slice A' l' c'] 93)).alloc (.cells #[.bool ma, .slice B m d, .bool mb, .slice B' m' d'] 93)) 93 [.bool false, .slice none 0 0, .bool false, .slice none 0 0]
 rw [World.size_alloc] at hr
 rw [World.size_alloc] at hr
 have hb : Below w.heap.size w (((w.alloc (.cells #[.bool na, .slice A l c, .bool nb, .slice A' l' c'] 93)).alloc (.cells #[.bool ma, .slice B m d, .bool mb, .slice B' m' d'] 93)).alloc (.cells #[.bool false, .slice none 0 0, .bool false, .slice none 0 0] 93)) := (((Below.refl _ _).alloc (Nat.le_refl _) _).alloc (by simp) _).alloc (by simp; omega) _
 generalize ((w.alloc (.cells #[.bool na, .slice A l c, .bool nb, .slice A' l' c'] 93)).alloc (.cells #[.bool ma, .slice B m d, .bool mb, .slice B' m' d'] 93)).alloc (.cells #[.bool false, .slice none 0 0, .bool false, .slice none 0 0] 93) = W at *
 have HK := Lib.hid hk
 have HL := Lib.hid hl
 have HR := Lib.hid hr
 have HB := Lib.hid hb
 clear hk hb hl hr
 have HWA := Lib.hid (whole_any _ a W (HA.out.below HB.out) (by omega))
 have HWB := Lib.hid (fun U V (hV : IsFrac V U b) => whole_any U b V hV (by omega))
 replace HAN := Lib.hid (HAN.out.below HB.out)
 replace HAD := Lib.hid (HAD.out.below HB.out)
 replace HBN := Lib.hid (HBN.out.below HB.out)
 replace HBD := Lib.hid (HBD.out.below HB.out)
 replace HBB := Lib.hid (HBB.out.below HB.out)
 clear HA
 by_cases hwa : a.den = 1
 ·have ewa : wholeB a = true := decide_eq_true hwa
  rw [ewa] at HWA
  clear ewa
  refine HWA.out.mono ?_
  rintro e w2 ⟨rfl, hb⟩
  replace HB := Lib.hid (HB.out.trans (hb.mono HB.out.size))
  replace HK := Lib.hid (HK.out.below hb)
  replace HL := Lib.hid (HL.out.below hb)
  replace HR := Lib.hid (HR.out.below hb)
  replace HAN := Lib.hid (HAN.out.below hb)
  replace HAD := Lib.hid (HAD.out.below hb)
  replace HBN := Lib.hid (HBN.out.below hb)
  replace HBD := Lib.hid (HBD.out.below hb)
  replace HBB := Lib.hid (HBB.out.below hb)
  clear hb HWA
  have cb0 := HL.out.at_ (i := 0) rfl
  have cb1 := HL.out.at_ (i := 1) rfl
  have cb2 := HL.out.at_ (i := 2) rfl
  have cb3 := HL.out.at_ (i := 3) rfl
  replace HWB := Lib.hid (HWB.out _ w2 HBB.out)
  by_cases hwb : b.den = 1
  ·have ewb : wholeB b = true := decide_eq_true hwb
   rw [ewb] at HWB
   have EW := Lib.hid (add_whole hwa hwb)
   clear ewb hwa hwb
   go_wp2_with fail
   refine HWB.out.mono ?_
   rintro e w3 ⟨rfl, hb⟩
   clear cb0 cb1 cb2 cb3
   replace HB := Lib.hid (HB.out.trans (hb.mono HB.out.size))
   replace HK := Lib.hid (HK.out.below hb)
   replace HL := Lib.hid (HL.out.below hb)
   replace HR := Lib.hid (HR.out.below hb)
   replace HAN := Lib.hid (HAN.out.below hb)
   replace HAD := Lib.hid (HAD.out.below hb)
   replace HBN := Lib.hid (HBN.out.below hb)
   replace HBD := Lib.hid (HBD.out.below hb)
   replace HBB := Lib.hid (HBB.out.below hb)
   clear hb HWB
   have ca0 := HK.out.at_ (i := 0) rfl
   have ca1 := HK.out.at_ (i := 1) rfl
   have ca2 := HK.out.at_ (i := 2) rfl
   have ca3 := HK.out.at_ (i := 3) rfl
   have cb0 := HL.out.at_ (i := 0) rfl
   have cb1 := HL.out.at_ (i := 1) rfl
   have cb2 := HL.out.at_ (i := 2) rfl
   have cb3 := HL.out.at_ (i := 3) rfl
   go_wp2_with fail
   refine (Add_any _ _ a.num b.num _ HAN.out HBN.out (by omega) (by omega)).mono ?_
   rintro e w4 ⟨v4, rfl, hv, hb⟩
   have HV := Lib.hid hv
   obtain ⟨x4, X4, y4, z4, rfl⟩ := hv.slice
   clear hv ca0 ca1 ca2 ca3 cb0 cb1 cb2 cb3
   replace HB := Lib.hid (HB.out.trans (hb.mono HB.out.size))
   replace HK := Lib.hid (HK.out.below hb)
   replace HL := Lib.hid (HL.out.below hb)
   replace HR := Lib.hid (HR.out.below hb)
   replace HAN := Lib.hid (HAN.out.below hb)
   replace HAD := Lib.hid (HAD.out.below hb)
   replace HBN := Lib.hid (HBN.out.below hb)
   replace HBD := Lib.hid (HBD.out.below hb)
   replace HBB := Lib.hid (HBB.out.below hb)
   clear hb
   go_wp2_with fail
   refine (FWhole_any _ _ _ HV.out).mono ?_
   rintro e w5 ⟨v5, rfl, hv, hb⟩
   have HF5 := Lib.hid hv
   obtain ⟨x5, x5', X5, X5', y5, z5, y5', z5', rfl⟩ := hv.slice
   clear hv
   replace HB := Lib.hid (HB.out.trans (hb.mono HB.out.size))
   replace HK := Lib.hid (HK.out.below hb)
   replace HL := Lib.hid (HL.out.below hb)
   replace HR := Lib.hid (HR.out.below hb)
   replace HAN := Lib.hid (HAN.out.below hb)
   replace HAD := Lib.hid (HAD.out.below hb)
   replace HBN := Lib.hid (HBN.out.below hb)
   replace HBD := Lib.hid (HBD.out.below hb)
   replace HBB := Lib.hid (HBB.out.below hb)
   clear hb
   have r0 := HR.out.at_ (i := 0) rfl
   have r1 := HR.out.at_ (i := 1) rfl
   have r2 := HR.out.at_ (i := 2) rfl
   have r3 := HR.out.at_ (i := 3) rfl
   have fr0 := HR.out.fr 0
   have fr1 := HR.out.fr 1
   have fr2 := HR.out.fr 2
   have fr3 := HR.out.fr 3
   have HR5 := HR
   have HB5 := HB
   go_wp2_with fail
   refine bodyPost_ret (v := .agg #[.bool x5, .slice X5 y5 z5, .bool x5', .slice X5' y5' z5']) (by simp [results, Tryz.results100, go_sem, *]) rfl ?_
   exact frac_end HR5.out no_int4 HB5.out (by omega) HF5.out EW.out
  ·have ewb : wholeB b = false := decide_eq_false hwb
   rw [ewb] at HWB
   clear ewb hwa hwb
   go_wp2_with fail
   refine HWB.out.mono ?_
   rintro e w3 ⟨rfl, hb⟩
   clear cb0 cb1 cb2 cb3
   replace HB := Lib.hid (HB.out.trans (hb.mono HB.out.size))
   replace HK := Lib.hid (HK.out.below hb)
   replace HL := Lib.hid (HL.out.below hb)
   replace HR := Lib.hid (HR.out.below hb)
   replace HAN := Lib.hid (HAN.out.below hb)
   replace HAD := Lib.hid (HAD.out.below hb)
   replace HBN := Lib.hid (HBN.out.below hb)
   replace HBD := Lib.hid (HBD.out.below hb)
   replace HBB := Lib.hid (HBB.out.below hb)
   clear hb HWB HBB
   have ca0 := HK.out.at_ (i := 0) rfl
   have ca1 := HK.out.at_ (i := 1) rfl
   have ca2 := HK.out.at_ (i := 2) rfl
   have ca3 := HK.out.at_ (i := 3) rfl
   have cb0 := HL.out.at_ (i := 0) rfl
   have cb1 := HL.out.at_ (i := 1) rfl
   have cb2 := HL.out.at_ (i := 2) rfl
   have cb3 := HL.out.at_ (i := 3) rfl
   go_wp2_with fail
   have P0 := Lib.hid (Blk.c44 HK.out.drew HL.out.drew)
   go_region_held3 (fun w' => C44 w' w.heap.size (w.heap.size + 1) (.bool na) (.slice A l c) (.bool nb) (.slice A' l' c') (.bool ma) (.slice B m d) (.bool mb) (.slice B' m' d')) (first | with_reducible exact P0.out | with_reducible exact P5.out | with_reducible exact P6.out | with_reducible exact P7.out | with_reducible exact P8.out | with_reducible exact P9.out | with_reducible exact Q9.out _ _ _ _ | go_keep) (first | (go_at_call 79; (with_reducible refine (New_num _ _ _ _ _ HZ8.out HT8.out (by omega) (by omega) hdd).mono ?_); rintro e w9 ⟨v9, rfl, hv, hb⟩; have HK9 := Lib.hid (HK8.out.below hb); have HL9 := Lib.hid (HL8.out.below hb); have HR9 := Lib.hid (HR8.out.below hb); have HAN9 := Lib.hid (HAN8.out.below hb); have HAD9 := Lib.hid (HAD8.out.below hb); have HBN9 := Lib.hid (HBN8.out.below hb); have HBD9 := Lib.hid (HBD8.out.below hb); have HX9 := Lib.hid (HX8.out.below hb); have HY9 := Lib.hid (HY8.out.below hb); have HZ9 := Lib.hid (HZ8.out.below hb); have HT9 := Lib.hid (HT8.out.below hb); have HB9 := Lib.hid (HB8.out.trans (hb.mono HB8.out.size)); have HF9 := Lib.hid hv; obtain ⟨x9, x9', X9, X9', y9, z9, y9', z9', rfl⟩ := hv.slice; have P9 := Lib.hid (Blk.c44 HK9.out HL9.out); have Q9 := Lib.hid (fun z0 z1 z2 z3 => Blk.c44_4 (r := w.heap.size + 1 + 1) HK9.out HL9.out (by omega) (by omega) z0 z1 z2 z3); have r0 := HR9.out.at_ (i := 0) rfl; have r1 := HR9.out.at_ (i := 1) rfl; have r2 := HR9.out.at_ (i := 2) rfl; have r3 := HR9.out.at_ (i := 3) rfl; have fr0 := HR9.out.fr 0; have fr1 := HR9.out.fr 1; have fr2 := HR9.out.fr 2; have fr3 := HR9.out.fr 3; clear hb hv) | (go_at_call 77; (with_reducible refine (Mul_any _ _ (a.den : Int) (b.den : Int) _ HAD7.out HBD7.out (by omega) (by omega)).mono ?_); rintro e w8 ⟨v8, rfl, hv, hb⟩; have HK8 := Lib.hid (HK7.out.below hb); have HL8 := Lib.hid (HL7.out.below hb); have HR8 := Lib.hid (HR7.out.below hb); have HAN8 := Lib.hid (HAN7.out.below hb); have HAD8 := Lib.hid (HAD7.out.below hb); have HBN8 := Lib.hid (HBN7.out.below hb); have HBD8 := Lib.hid (HBD7.out.below hb); have HX8 := Lib.hid (HX7.out.below hb); have HY8 := Lib.hid (HY7.out.below hb); have HZ8 := Lib.hid (HZ7.out.below hb); have HB8 := Lib.hid (HB7.out.trans (hb.mono HB7.out.size)); have HT8 := Lib.hid hv; obtain ⟨x8, X8, y8, z8, rfl⟩ := hv.slice; have P8 := Lib.hid (Blk.c44 HK8.out HL8.out); clear hb hv) | (go_at_call 178; (with_reducible refine (Add_any _ _ _ _ _ HX6.out HY6.out (by omega) (by omega)).mono ?_); rintro e w7 ⟨v7, rfl, hv, hb⟩; have HK7 := Lib.hid (HK6.out.below hb); have HL7 := Lib.hid (HL6.out.below hb); have HR7 := Lib.hid (HR6.out.below hb); have HAN7 := Lib.hid (HAN6.out.below hb); have HAD7 := Lib.hid (HAD6.out.below hb); have HBN7 := Lib.hid (HBN6.out.below hb); have HBD7 := Lib.hid (HBD6.out.below hb); have HX7 := Lib.hid (HX6.out.below hb); have HY7 := Lib.hid (HY6.out.below hb); have HB7 := Lib.hid (HB6.out.trans (hb.mono HB6.out.size)); have HZ7 := Lib.hid hv; obtain ⟨x7, X7, y7, z7, rfl⟩ := hv.slice; have P7 := Lib.hid (Blk.c44 HK7.out HL7.out); clear hb hv) | (go_at_call 77; (with_reducible refine (Mul_any _ _ b.num (a.den : Int) _ HBN5.out HAD5.out (by omega) (by omega)).mono ?_); rintro e w6 ⟨v6, rfl, hv, hb⟩; have HK6 := Lib.hid (HK5.out.below hb); have HL6 := Lib.hid (HL5.out.below hb); have HR6 := Lib.hid (HR5.out.below hb); have HAN6 := Lib.hid (HAN5.out.below hb); have HAD6 := Lib.hid (HAD5.out.below hb); have HBN6 := Lib.hid (HBN5.out.below hb); have HBD6 := Lib.hid (HBD5.out.below hb); have HX6 := Lib.hid (HX5.out.below hb); have HB6 := Lib.hid (HB5.out.trans (hb.mono HB5.out.size)); have HY6 := Lib.hid hv; obtain ⟨x6, X6, y6, z6, rfl⟩ := hv.slice; have P6 := Lib.hid (Blk.c44 HK6.out HL6.out); clear hb hv) | (go_at_call 77; (with_reducible refine (Mul_any _ _ a.num (b.den : Int) _ HAN.out.drew HBD.out.drew (by omega) (by omega)).mono ?_); rintro e w5 ⟨v5, rfl, hv, hb⟩; have HK5 := Lib.hid (HK.out.drew.below hb); have HL5 := Lib.hid (HL.out.drew.below hb); have HR5 := Lib.hid (HR.out.drew.below hb); have HAN5 := Lib.hid (HAN.out.drew.below hb); have HAD5 := Lib.hid (HAD.out.drew.below hb); have HBN5 := Lib.hid (HBN.out.drew.below hb); have HBD5 := Lib.hid (HBD.out.drew.below hb); have HB5 := Lib.hid (HB.out.drew.trans (hb.mono HB.out.size)); have HX5 := Lib.hid hv; obtain ⟨x5, X5, y5, z5, rfl⟩ := hv.slice; have P5 := Lib.hid (Blk.c44 HK5.out HL5.out); clear hb hv))
   go_wp2_with fail
   refine bodyPost_ret (v := .agg #[.bool x9, .slice X9 y9 z9, .bool x9', .slice X9' y9' z9']) (by simp [results, Tryz.results100, go_sem, *]) rfl ?_
   exact frac_end HR9.out no_int4 HB9.out (by omega) HF9.out EQ.out
 ·have ewa : wholeB a = false := decide_eq_false hwa
  rw [ewa] at HWA
  clear ewa hwa
  refine HWA.out.mono ?_
  rintro e w2 ⟨rfl, hb⟩
  replace HB := Lib.hid (HB.out.trans (hb.mono HB.out.size))
  replace HK := Lib.hid (HK.out.below hb)
  replace HL := Lib.hid (HL.out.below hb)
  replace HR := Lib.hid (HR.out.below hb)
  replace HAN := Lib.hid (HAN.out.below hb)
  replace HAD := Lib.hid (HAD.out.below hb)
  replace HBN := Lib.hid (HBN.out.below hb)
  replace HBD := Lib.hid (HBD.out.below hb)
  replace HBB := Lib.hid (HBB.out.below hb)
  clear hb HWA HWB HBB
  have ca0 := HK.out.at_ (i := 0) rfl
  have ca1 := HK.out.at_ (i := 1) rfl
  have ca2 := HK.out.at_ (i := 2) rfl
  have ca3 := HK.out.at_ (i := 3) rfl
  have cb0 := HL.out.at_ (i := 0) rfl
  have cb1 := HL.out.at_ (i := 1) rfl
  have cb2 := HL.out.at_ (i := 2) rfl
  have cb3 := HL.out.at_ (i := 3) rfl
  go_wp2_with fail
  have P0 := Lib.hid (Blk.c44 HK.out.drew HL.out.drew)
  go_region_held3 (fun w' => C44 w' w.heap.size (w.heap.size + 1) (.bool na) (.slice A l c) (.bool nb) (.slice A' l' c') (.bool ma) (.slice B m d) (.bool mb) (.slice B' m' d')) (first | with_reducible exact P0.out | with_reducible exact P5.out | with_reducible exact P6.out | with_reducible exact P7.out | with_reducible exact P8.out | with_reducible exact P9.out | with_reducible exact Q9.out _ _ _ _ | go_keep) (first | (go_at_call 79; (with_reducible refine (New_num _ _ _ _ _ HZ8.out HT8.out (by omega) (by omega) hdd).mono ?_); rintro e w9 ⟨v9, rfl, hv, hb⟩; have HK9 := Lib.hid (HK8.out.below hb); have HL9 := Lib.hid (HL8.out.below hb); have HR9 := Lib.hid (HR8.out.below hb); have HAN9 := Lib.hid (HAN8.out.below hb); have HAD9 := Lib.hid (HAD8.out.below hb); have HBN9 := Lib.hid (HBN8.out.below hb); have HBD9 := Lib.hid (HBD8.out.below hb); have HX9 := Lib.hid (HX8.out.below hb); have HY9 := Lib.hid (HY8.out.below hb); have HZ9 := Lib.hid (HZ8.out.below hb); have HT9 := Lib.hid (HT8.out.below hb); have HB9 := Lib.hid (HB8.out.trans (hb.mono HB8.out.size)); have HF9 := Lib.hid hv; obtain ⟨x9, x9', X9, X9', y9, z9, y9', z9', rfl⟩ := hv.slice; have P9 := Lib.hid (Blk.c44 HK9.out HL9.out); have Q9 := Lib.hid (fun z0 z1 z2 z3 => Blk.c44_4 (r := w.heap.size + 1 + 1) HK9.out HL9.out (by omega) (by omega) z0 z1 z2 z3); have r0 := HR9.out.at_ (i := 0) rfl; have r1 := HR9.out.at_ (i := 1) rfl; have r2 := HR9.out.at_ (i := 2) rfl; have r3 := HR9.out.at_ (i := 3) rfl; have fr0 := HR9.out.fr 0; have fr1 := HR9.out.fr 1; have fr2 := HR9.out.fr 2; have fr3 := HR9.out.fr 3; clear hb hv) | (go_at_call 77; (with_reducible refine (Mul_any _ _ (a.den : Int) (b.den : Int) _ HAD7.out HBD7.out (by omega) (by omega)).mono ?_); rintro e w8 ⟨v8, rfl, hv, hb⟩; have HK8 := Lib.hid (HK7.out.below hb); have HL8 := Lib.hid (HL7.out.below hb); have HR8 := Lib.hid (HR7.out.below hb); have HAN8 := Lib.hid (HAN7.out.below hb); have HAD8 := Lib.hid (HAD7.out.below hb); have HBN8 := Lib.hid (HBN7.out.below hb); have HBD8 := Lib.hid (HBD7.out.below hb); have HX8 := Lib.hid (HX7.out.below hb); have HY8 := Lib.hid (HY7.out.below hb); have HZ8 := Lib.hid (HZ7.out.below hb); have HB8 := Lib.hid (HB7.out.trans (hb.mono HB7.out.size)); have HT8 := Lib.hid hv; obtain ⟨x8, X8, y8, z8, rfl⟩ := hv.slice; have P8 := Lib.hid (Blk.c44 HK8.out HL8.out); clear hb hv) | (go_at_call 178; (with_reducible refine (Add_any _ _ _ _ _ HX6.out HY6.out (by omega) (by omega)).mono ?_); rintro e w7 ⟨v7, rfl, hv, hb⟩; have HK7 := Lib.hid (HK6.out.below hb); have HL7 := Lib.hid (HL6.out.below hb); have HR7 := Lib.hid (HR6.out.below hb); have HAN7 := Lib.hid (HAN6.out.below hb); have HAD7 := Lib.hid (HAD6.out.below hb); have HBN7 := Lib.hid (HBN6.out.below hb); have HBD7 := Lib.hid (HBD6.out.below hb); have HX7 := Lib.hid (HX6.out.below hb); have HY7 := Lib.hid (HY6.out.below hb); have HB7 := Lib.hid (HB6.out.trans (hb.mono HB6.out.size)); have HZ7 := Lib.hid hv; obtain ⟨x7, X7, y7, z7, rfl⟩ := hv.slice; have P7 := Lib.hid (Blk.c44 HK7.out HL7.out); clear hb hv) | (go_at_call 77; (with_reducible refine (Mul_any _ _ b.num (a.den : Int) _ HBN5.out HAD5.out (by omega) (by omega)).mono ?_); rintro e w6 ⟨v6, rfl, hv, hb⟩; have HK6 := Lib.hid (HK5.out.below hb); have HL6 := Lib.hid (HL5.out.below hb); have HR6 := Lib.hid (HR5.out.below hb); have HAN6 := Lib.hid (HAN5.out.below hb); have HAD6 := Lib.hid (HAD5.out.below hb); have HBN6 := Lib.hid (HBN5.out.below hb); have HBD6 := Lib.hid (HBD5.out.below hb); have HX6 := Lib.hid (HX5.out.below hb); have HB6 := Lib.hid (HB5.out.trans (hb.mono HB5.out.size)); have HY6 := Lib.hid hv; obtain ⟨x6, X6, y6, z6, rfl⟩ := hv.slice; have P6 := Lib.hid (Blk.c44 HK6.out HL6.out); clear hb hv) | (go_at_call 77; (with_reducible refine (Mul_any _ _ a.num (b.den : Int) _ HAN.out.drew HBD.out.drew (by omega) (by omega)).mono ?_); rintro e w5 ⟨v5, rfl, hv, hb⟩; have HK5 := Lib.hid (HK.out.drew.below hb); have HL5 := Lib.hid (HL.out.drew.below hb); have HR5 := Lib.hid (HR.out.drew.below hb); have HAN5 := Lib.hid (HAN.out.drew.below hb); have HAD5 := Lib.hid (HAD.out.drew.below hb); have HBN5 := Lib.hid (HBN.out.drew.below hb); have HBD5 := Lib.hid (HBD.out.drew.below hb); have HB5 := Lib.hid (HB.out.drew.trans (hb.mono HB.out.size)); have HX5 := Lib.hid hv; obtain ⟨x5, X5, y5, z5, rfl⟩ := hv.slice; have P5 := Lib.hid (Blk.c44 HK5.out HL5.out); clear hb hv))
  go_wp2_with fail
  refine bodyPost_ret (v := .agg #[.bool x9, .slice X9 y9 z9, .bool x9', .slice X9' y9' z9']) (by simp [results, Tryz.results100, go_sem, *]) rfl ?_
  exact frac_end HR9.out no_int4 HB9.out (by omega) HF9.out EQ.out
theorem FMul_any (u v : Value) (a b : Rat) (w : World) (ha : IsFrac w u a) (hb : IsFrac w v b) (sa : Sz 1000000 a) (sb : Sz 1000000 b) :
  Calls Tryz.prog 102 #[u, v] w (RetFrac w (a * b)) := by
 have an := sa.n
 have ad := sa.d
 have bn := sb.n
 have bd := sb.d
 have ld := len_mul ad bd
 have l3 := len_mul an bn
 have EQ := Lib.hid (rat_mul a b)
 have hdd : (a.den : Int) * (b.den : Int) ≠ 0 := Int.mul_ne_zero (den_ne a) (den_ne b)
 have sda := sa.2
 have sdb := sb.2
 have HA := Lib.hid ha
 obtain ⟨na, nb, A, A', l, c, l', c', rfl, h1, h2⟩ := ha.open_
 have HAN := Lib.hid h1
 have HAD := Lib.hid h2
 clear ha h1 h2
 have HBB := Lib.hid hb
 obtain ⟨ma, mb, B, B', m, d, m', d', rfl, h1, h2⟩ := hb.open_
 have HBN := Lib.hid h1
 have HBD := Lib.hid h2
 clear hb h1 h2
 go_enter Tryz.func102, Tryz.ntmps102
 go_wp2_with fail
 have hk := (((Blk.new w 93 [.bool na, .slice A l c, .bool nb, .slice A' l' c']).alloc (.cells #[.bool ma, .slice B m d, .bool mb, .slice B' m' d'] 93)).alloc (.cells #[.bool false, .slice none 0 0, .bool false, .slice none 0 0] 93))
 have hl := ((Blk.new (w.alloc (.cells #[.bool na, .slice A l c, .bool nb, .slice A' l' c'] 93)) 93 [.bool ma, .slice B m d, .bool mb, .slice B' m' d']).alloc (.cells #[.bool false, .slice none 0 0, .bool false, .slice none 0 0] 93))
 rw [World.size_alloc] at hl
 have hr := Blk.new ((w.alloc (.cells #[.bool na, .slice A l c, .bool nb, .slice A' l' c'] 93)).alloc (.cells #[.bool ma, .slice B m d, .bool mb, .slice B' m' d'] 93)) 93 [.bool false, .slice none 0 0, .bool false, .slice none 0 0]
 rw [World.size_alloc] at hr
 rw [World.size_alloc] at hr
 have hb : Below w.heap.size w (((w.alloc (.cells #[.bool na, .slice A l c, .bool nb, .slice A' l' c'] 93)).alloc (.cells #[.bool ma, .slice B m d, .bool mb, .slice B' m' d'] 93)).alloc (.cells #[.bool false, .slice none 0 0, .bool false, .slice none 0 0] 93)) := (((Below.refl _ _).alloc (Nat.le_refl _) _).alloc (by simp) _).alloc (by simp; omega) _
 generalize ((w.alloc (.cells #[.bool na, .slice A l c, .bool nb, .slice A' l' c'] 93)).alloc (.cells #[.bool ma, .slice B m d, .bool mb, .slice B' m' d'] 93)).alloc (.cells #[.bool false, .slice none 0 0, .bool false, .slice none 0 0] 93) = W at *
 have HK := Lib.hid hk
 have HL := Lib.hid hl
 have HR := Lib.hid hr
 have HB := Lib.hid hb
 clear hk hb hl hr
 have HWA := Lib.hid (whole_any _ a W (HA.out.below HB.out) (by omega))
 have HWB := Lib.hid (fun U V (hV : IsFrac V U b) => whole_any U b V hV (by omega))
 replace HAN := Lib.hid (HAN.out.below HB.out)
 replace HAD := Lib.hid (HAD.out.below HB.out)
 replace HBN := Lib.hid (HBN.out.below HB.out)
 replace HBD := Lib.hid (HBD.out.below HB.out)
 replace HBB := Lib.hid (HBB.out.below HB.out)
 clear HA
 by_cases hwa : a.den = 1
 ·have ewa : wholeB a = true := decide_eq_true hwa
  rw [ewa] at HWA
  clear ewa
  refine HWA.out.mono ?_
  rintro e w2 ⟨rfl, hb⟩
  replace HB := Lib.hid (HB.out.trans (hb.mono HB.out.size))
  replace HK := Lib.hid (HK.out.below hb)
  replace HL := Lib.hid (HL.out.below hb)
  replace HR := Lib.hid (HR.out.below hb)
  replace HAN := Lib.hid (HAN.out.below hb)
  replace HAD := Lib.hid (HAD.out.below hb)
  replace HBN := Lib.hid (HBN.out.below hb)
  replace HBD := Lib.hid (HBD.out.below hb)
  replace HBB := Lib.hid (HBB.out.below hb)
  clear hb HWA
  have cb0 := HL.out.at_ (i := 0) rfl
  have cb1 := HL.out.at_ (i := 1) rfl
  have cb2 := HL.out.at_ (i := 2) rfl
  have cb3 := HL.out.at_ (i := 3) rfl
  replace HWB := Lib.hid (HWB.out _ w2 HBB.out)
  by_cases hwb : b.den = 1
  ·have ewb : wholeB b = true := decide_eq_true hwb
   rw [ewb] at HWB
   have EW := Lib.hid (mul_whole hwa hwb)
   clear ewb hwa hwb
   go_wp2_with fail
   refine HWB.out.mono ?_
   rintro e w3 ⟨rfl, hb⟩
   clear cb0 cb1 cb2 cb3
   replace HB := Lib.hid (HB.out.trans (hb.mono HB.out.size))
   replace HK := Lib.hid (HK.out.below hb)
   replace HL := Lib.hid (HL.out.below hb)
   replace HR := Lib.hid (HR.out.below hb)
   replace HAN := Lib.hid (HAN.out.below hb)
   replace HAD := Lib.hid (HAD.out.below hb)
   replace HBN := Lib.hid (HBN.out.below hb)
   replace HBD := Lib.hid (HBD.out.below hb)
   replace HBB := Lib.hid (HBB.out.below hb)
   clear hb HWB
   have ca0 := HK.out.at_ (i := 0) rfl
   have ca1 := HK.out.at_ (i := 1) rfl
   have ca2 := HK.out.at_ (i := 2) rfl
   have ca3 := HK.out.at_ (i := 3) rfl
   have cb0 := HL.out.at_ (i := 0) rfl
   have cb1 := HL.out.at_ (i := 1) rfl
   have cb2 := HL.out.at_ (i := 2) rfl
   have cb3 := HL.out.at_ (i := 3) rfl
   go_wp2_with fail
   refine (Mul_any _ _ a.num b.num _ HAN.out HBN.out (by omega) (by omega)).mono ?_
   rintro e w4 ⟨v4, rfl, hv, hb⟩
   have HV := Lib.hid hv
   obtain ⟨x4, X4, y4, z4, rfl⟩ := hv.slice
   clear hv ca0 ca1 ca2 ca3 cb0 cb1 cb2 cb3
   replace HB := Lib.hid (HB.out.trans (hb.mono HB.out.size))
   replace HK := Lib.hid (HK.out.below hb)
   replace HL := Lib.hid (HL.out.below hb)
   replace HR := Lib.hid (HR.out.below hb)
   replace HAN := Lib.hid (HAN.out.below hb)
   replace HAD := Lib.hid (HAD.out.below hb)
   replace HBN := Lib.hid (HBN.out.below hb)
   replace HBD := Lib.hid (HBD.out.below hb)
   replace HBB := Lib.hid (HBB.out.below hb)
   clear hb
   go_wp2_with fail
   refine (FWhole_any _ _ _ HV.out).mono ?_
   rintro e w5 ⟨v5, rfl, hv, hb⟩
   have HF5 := Lib.hid hv
   obtain ⟨x5, x5', X5, X5', y5, z5, y5', z5', rfl⟩ := hv.slice
   clear hv
   replace HB := Lib.hid (HB.out.trans (hb.mono HB.out.size))
   replace HK := Lib.hid (HK.out.below hb)
   replace HL := Lib.hid (HL.out.below hb)
   replace HR := Lib.hid (HR.out.below hb)
   replace HAN := Lib.hid (HAN.out.below hb)
   replace HAD := Lib.hid (HAD.out.below hb)
   replace HBN := Lib.hid (HBN.out.below hb)
   replace HBD := Lib.hid (HBD.out.below hb)
   replace HBB := Lib.hid (HBB.out.below hb)
   clear hb
   have r0 := HR.out.at_ (i := 0) rfl
   have r1 := HR.out.at_ (i := 1) rfl
   have r2 := HR.out.at_ (i := 2) rfl
   have r3 := HR.out.at_ (i := 3) rfl
   have fr0 := HR.out.fr 0
   have fr1 := HR.out.fr 1
   have fr2 := HR.out.fr 2
   have fr3 := HR.out.fr 3
   have HR5 := HR
   have HB5 := HB
   go_wp2_with fail
   refine bodyPost_ret (v := .agg #[.bool x5, .slice X5 y5 z5, .bool x5', .slice X5' y5' z5']) (by simp [results, Tryz.results102, go_sem, *]) rfl ?_
   exact frac_end HR5.out no_int4 HB5.out (by omega) HF5.out EW.out
  ·have ewb : wholeB b = false := decide_eq_false hwb
   rw [ewb] at HWB
   clear ewb hwa hwb
   go_wp2_with fail
   refine HWB.out.mono ?_
   rintro e w3 ⟨rfl, hb⟩
   clear cb0 cb1 cb2 cb3
   replace HB := Lib.hid (HB.out.trans (hb.mono HB.out.size))
   replace HK := Lib.hid (HK.out.below hb)
   replace HL := Lib.hid (HL.out.below hb)
   replace HR := Lib.hid (HR.out.below hb)
   replace HAN := Lib.hid (HAN.out.below hb)
   replace HAD := Lib.hid (HAD.out.below hb)
   replace HBN := Lib.hid (HBN.out.below hb)
   replace HBD := Lib.hid (HBD.out.below hb)
   replace HBB := Lib.hid (HBB.out.below hb)
   clear hb HWB HBB
   have ca0 := HK.out.at_ (i := 0) rfl
   have ca1 := HK.out.at_ (i := 1) rfl
   have ca2 := HK.out.at_ (i := 2) rfl
   have ca3 := HK.out.at_ (i := 3) rfl
   have cb0 := HL.out.at_ (i := 0) rfl
   have cb1 := HL.out.at_ (i := 1) rfl
   have cb2 := HL.out.at_ (i := 2) rfl
   have cb3 := HL.out.at_ (i := 3) rfl
   go_wp2_with fail
   have P0 := Lib.hid (Blk.c44 HK.out.drew HL.out.drew)
   go_region_held3 (fun w' => C44 w' w.heap.size (w.heap.size + 1) (.bool na) (.slice A l c) (.bool nb) (.slice A' l' c') (.bool ma) (.slice B m d) (.bool mb) (.slice B' m' d')) (first | with_reducible exact P0.out | with_reducible exact P5.out | with_reducible exact P6.out | with_reducible exact P7.out | with_reducible exact Q7.out _ _ _ _ | go_keep) (first | (go_at_call 79; (with_reducible refine (New_num _ _ _ _ _ HZ6.out HT6.out (by omega) (by omega) hdd).mono ?_); rintro e w7 ⟨v7, rfl, hv, hb⟩; have HK7 := Lib.hid (HK6.out.below hb); have HL7 := Lib.hid (HL6.out.below hb); have HR7 := Lib.hid (HR6.out.below hb); have HAN7 := Lib.hid (HAN6.out.below hb); have HAD7 := Lib.hid (HAD6.out.below hb); have HBN7 := Lib.hid (HBN6.out.below hb); have HBD7 := Lib.hid (HBD6.out.below hb); have HZ7 := Lib.hid (HZ6.out.below hb); have HT7 := Lib.hid (HT6.out.below hb); have HB7 := Lib.hid (HB6.out.trans (hb.mono HB6.out.size)); have HF7 := Lib.hid hv; obtain ⟨x7, x7', X7, X7', y7, z7, y7', z7', rfl⟩ := hv.slice; have P7 := Lib.hid (Blk.c44 HK7.out HL7.out); have Q7 := Lib.hid (fun z0 z1 z2 z3 => Blk.c44_4 (r := w.heap.size + 1 + 1) HK7.out HL7.out (by omega) (by omega) z0 z1 z2 z3); have r0 := HR7.out.at_ (i := 0) rfl; have r1 := HR7.out.at_ (i := 1) rfl; have r2 := HR7.out.at_ (i := 2) rfl; have r3 := HR7.out.at_ (i := 3) rfl; have fr0 := HR7.out.fr 0; have fr1 := HR7.out.fr 1; have fr2 := HR7.out.fr 2; have fr3 := HR7.out.fr 3; clear hb hv) | (go_at_call 77; (with_reducible refine (Mul_any _ _ (a.den : Int) (b.den : Int) _ HAD5.out HBD5.out (by omega) (by omega)).mono ?_); rintro e w6 ⟨v6, rfl, hv, hb⟩; have HK6 := Lib.hid (HK5.out.below hb); have HL6 := Lib.hid (HL5.out.below hb); have HR6 := Lib.hid (HR5.out.below hb); have HAN6 := Lib.hid (HAN5.out.below hb); have HAD6 := Lib.hid (HAD5.out.below hb); have HBN6 := Lib.hid (HBN5.out.below hb); have HBD6 := Lib.hid (HBD5.out.below hb); have HZ6 := Lib.hid (HZ5.out.below hb); have HB6 := Lib.hid (HB5.out.trans (hb.mono HB5.out.size)); have HT6 := Lib.hid hv; obtain ⟨x6, X6, y6, z6, rfl⟩ := hv.slice; have P6 := Lib.hid (Blk.c44 HK6.out HL6.out); clear hb hv) | (go_at_call 77; (with_reducible refine (Mul_any _ _ a.num b.num _ HAN.out.drew HBN.out.drew (by omega) (by omega)).mono ?_); rintro e w5 ⟨v5, rfl, hv, hb⟩; have HK5 := Lib.hid (HK.out.drew.below hb); have HL5 := Lib.hid (HL.out.drew.below hb); have HR5 := Lib.hid (HR.out.drew.below hb); have HAN5 := Lib.hid (HAN.out.drew.below hb); have HAD5 := Lib.hid (HAD.out.drew.below hb); have HBN5 := Lib.hid (HBN.out.drew.below hb); have HBD5 := Lib.hid (HBD.out.drew.below hb); have HB5 := Lib.hid (HB.out.drew.trans (hb.mono HB.out.size)); have HZ5 := Lib.hid hv; obtain ⟨x5, X5, y5, z5, rfl⟩ := hv.slice; have P5 := Lib.hid (Blk.c44 HK5.out HL5.out); clear hb hv))
   go_wp2_with fail
   refine bodyPost_ret (v := .agg #[.bool x7, .slice X7 y7 z7, .bool x7', .slice X7' y7' z7']) (by simp [results, Tryz.results102, go_sem, *]) rfl ?_
   exact frac_end HR7.out no_int4 HB7.out (by omega) HF7.out EQ.out
 ·have ewa : wholeB a = false := decide_eq_false hwa
  rw [ewa] at HWA
  clear ewa hwa
  refine HWA.out.mono ?_
  rintro e w2 ⟨rfl, hb⟩
  replace HB := Lib.hid (HB.out.trans (hb.mono HB.out.size))
  replace HK := Lib.hid (HK.out.below hb)
  replace HL := Lib.hid (HL.out.below hb)
  replace HR := Lib.hid (HR.out.below hb)
  replace HAN := Lib.hid (HAN.out.below hb)
  replace HAD := Lib.hid (HAD.out.below hb)
  replace HBN := Lib.hid (HBN.out.below hb)
  replace HBD := Lib.hid (HBD.out.below hb)
  replace HBB := Lib.hid (HBB.out.below hb)
  clear hb HWA HWB HBB
  have ca0 := HK.out.at_ (i := 0) rfl
  have ca1 := HK.out.at_ (i := 1) rfl
  have ca2 := HK.out.at_ (i := 2) rfl
  have ca3 := HK.out.at_ (i := 3) rfl
  have cb0 := HL.out.at_ (i := 0) rfl
  have cb1 := HL.out.at_ (i := 1) rfl
  have cb2 := HL.out.at_ (i := 2) rfl
  have cb3 := HL.out.at_ (i := 3) rfl
  go_wp2_with fail
  have P0 := Lib.hid (Blk.c44 HK.out.drew HL.out.drew)
  go_region_held3 (fun w' => C44 w' w.heap.size (w.heap.size + 1) (.bool na) (.slice A l c) (.bool nb) (.slice A' l' c') (.bool ma) (.slice B m d) (.bool mb) (.slice B' m' d')) (first | with_reducible exact P0.out | with_reducible exact P5.out | with_reducible exact P6.out | with_reducible exact P7.out | with_reducible exact Q7.out _ _ _ _ | go_keep) (first | (go_at_call 79; (with_reducible refine (New_num _ _ _ _ _ HZ6.out HT6.out (by omega) (by omega) hdd).mono ?_); rintro e w7 ⟨v7, rfl, hv, hb⟩; have HK7 := Lib.hid (HK6.out.below hb); have HL7 := Lib.hid (HL6.out.below hb); have HR7 := Lib.hid (HR6.out.below hb); have HAN7 := Lib.hid (HAN6.out.below hb); have HAD7 := Lib.hid (HAD6.out.below hb); have HBN7 := Lib.hid (HBN6.out.below hb); have HBD7 := Lib.hid (HBD6.out.below hb); have HZ7 := Lib.hid (HZ6.out.below hb); have HT7 := Lib.hid (HT6.out.below hb); have HB7 := Lib.hid (HB6.out.trans (hb.mono HB6.out.size)); have HF7 := Lib.hid hv; obtain ⟨x7, x7', X7, X7', y7, z7, y7', z7', rfl⟩ := hv.slice; have P7 := Lib.hid (Blk.c44 HK7.out HL7.out); have Q7 := Lib.hid (fun z0 z1 z2 z3 => Blk.c44_4 (r := w.heap.size + 1 + 1) HK7.out HL7.out (by omega) (by omega) z0 z1 z2 z3); have r0 := HR7.out.at_ (i := 0) rfl; have r1 := HR7.out.at_ (i := 1) rfl; have r2 := HR7.out.at_ (i := 2) rfl; have r3 := HR7.out.at_ (i := 3) rfl; have fr0 := HR7.out.fr 0; have fr1 := HR7.out.fr 1; have fr2 := HR7.out.fr 2; have fr3 := HR7.out.fr 3; clear hb hv) | (go_at_call 77; (with_reducible refine (Mul_any _ _ (a.den : Int) (b.den : Int) _ HAD5.out HBD5.out (by omega) (by omega)).mono ?_); rintro e w6 ⟨v6, rfl, hv, hb⟩; have HK6 := Lib.hid (HK5.out.below hb); have HL6 := Lib.hid (HL5.out.below hb); have HR6 := Lib.hid (HR5.out.below hb); have HAN6 := Lib.hid (HAN5.out.below hb); have HAD6 := Lib.hid (HAD5.out.below hb); have HBN6 := Lib.hid (HBN5.out.below hb); have HBD6 := Lib.hid (HBD5.out.below hb); have HZ6 := Lib.hid (HZ5.out.below hb); have HB6 := Lib.hid (HB5.out.trans (hb.mono HB5.out.size)); have HT6 := Lib.hid hv; obtain ⟨x6, X6, y6, z6, rfl⟩ := hv.slice; have P6 := Lib.hid (Blk.c44 HK6.out HL6.out); clear hb hv) | (go_at_call 77; (with_reducible refine (Mul_any _ _ a.num b.num _ HAN.out.drew HBN.out.drew (by omega) (by omega)).mono ?_); rintro e w5 ⟨v5, rfl, hv, hb⟩; have HK5 := Lib.hid (HK.out.drew.below hb); have HL5 := Lib.hid (HL.out.drew.below hb); have HR5 := Lib.hid (HR.out.drew.below hb); have HAN5 := Lib.hid (HAN.out.drew.below hb); have HAD5 := Lib.hid (HAD.out.drew.below hb); have HBN5 := Lib.hid (HBN.out.drew.below hb); have HBD5 := Lib.hid (HBD.out.drew.below hb); have HB5 := Lib.hid (HB.out.drew.trans (hb.mono HB.out.size)); have HZ5 := Lib.hid hv; obtain ⟨x5, X5, y5, z5, rfl⟩ := hv.slice; have P5 := Lib.hid (Blk.c44 HK5.out HL5.out); clear hb hv))
  go_wp2_with fail
  refine bodyPost_ret (v := .agg #[.bool x7, .slice X7 y7 z7, .bool x7', .slice X7' y7' z7']) (by simp [results, Tryz.results102, go_sem, *]) rfl ?_
  exact frac_end HR7.out no_int4 HB7.out (by omega) HF7.out EQ.out
end Go.Proofs.YtajlojhklhlljaaGreatDoor
