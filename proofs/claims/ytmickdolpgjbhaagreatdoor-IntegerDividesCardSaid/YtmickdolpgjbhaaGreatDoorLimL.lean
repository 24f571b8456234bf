/-
  Package limbs: Sub, Compare of numbers with signs.
-/
import Derived.Test.YtmickdolpgjbhaaGreatDoorLimK
namespace Go.Proofs.YtmickdolpgjbhaaGreatDoor
open Go.RowKit

set_option maxRecDepth 100000 in
set_option maxHeartbeats 2000000 in
theorem Sub_any (u v : Value) (x y : Int) (w : World) (hx : IsNum w u x) (hy : IsNum w v y) (hlx : (limbs x.natAbs).length ≤ 100000000) (hly : (limbs y.natAbs).length ≤ 100000000) :
    Calls Tryz.prog 55 #[u, v] w (RetNum w (x - y)) := by
  have HX := Lib.hid hx
  have HY := Lib.hid hy
  obtain ⟨_, rfl, A, c, rfl, hlc, hc⟩ := hx
  obtain ⟨_, rfl, A', c', rfl, hlc', hc'⟩ := hy
  generalize decide (x < 0) = na at *
  generalize decide (y < 0) = nb at *
  clear hc hc'
  go_enter Tryz.func55, Tryz.ntmps55
  go_upto_region 1 with (fail)
  have hbx := boxes w na nb (.slice A (limbs x.natAbs).length c) (.slice A' (limbs y.natAbs).length c')
  generalize ((w.alloc (.cells #[.bool na, .slice A (limbs x.natAbs).length c] 62)).alloc (.cells #[.bool nb, .slice A' (limbs y.natAbs).length c'] 62)).alloc (.cells #[.bool false, .slice none 0 0] 62) = W at *
  have HBX := Lib.hid hbx
  have ha0 := hbx.a0
  have ha1 := hbx.a1
  have hb0 := hbx.b0
  have hb1 := hbx.b1
  have HN := Lib.hid (fun (V : World) (hV : Below w.heap.size w V) => Neg_any _ y V (HY.out.below hV) (by omega))
  clear hbx
  go_region_held3 (fun w' => w'.cell? ⟨w.heap.size, 0, none⟩ = some (.bool na) ∧ w'.cell? ⟨w.heap.size, 1, none⟩ = some (.slice A (limbs x.natAbs).length c) ∧ w'.cell? ⟨w.heap.size + 1, 0, none⟩ = some (.bool nb) ∧ w'.cell? ⟨w.heap.size + 1, 1, none⟩ = some (.slice A' (limbs y.natAbs).length c'))
    (first | exact HBX3.out.four_store _ _ | exact HBX3.out.four | exact HBX2.out.four | go_keep)
    (first | (go_at_call 78; refine (HN.out _ (by exact HBX.out.drew.bel)).mono ?_; rintro e w2 ⟨v2, rfl, hv2, hb2⟩; have HBX2 := Lib.hid (HBX.out.drew.below hb2); have HV2 := Lib.hid hv2; clear hv2 hb2) | (go_at_call 43; refine (Add_any _ _ x (-y) _ (HX.out.below HBX2.out.bel) HV2.out hlx (by rw [Int.natAbs_neg]; exact hly)).mono ?_; intro e w3 hret; obtain ⟨A3, c3, rfl, hl3, hs3, hb3⟩ := hret.num; have HBX3 := Lib.hid (HBX2.out.below hb3); have HS3 := Lib.hid hs3; have hr0 := HBX3.out.r0; have hr1 := HBX3.out.r1; have hf0 := HBX3.out.f0; have hf1 := HBX3.out.f1; clear hb3 hs3 hret))
  go_wp2_with fail
  refine bodyPost_ret (v := .agg #[.bool (decide (x + -y < 0)), .slice A3 (limbs (x + -y).natAbs).length c3]) (by simp [results, Tryz.results55, go_sem, hr0, hr1]) rfl ?_
  exact Res.end_ ⟨HBX3.out.rb⟩ HBX3.out.bel (by omega) HS3.out hl3 rfl

theorem limbs_length_natAbs_add {x y : Int} {k : Nat} (hx : (limbs x.natAbs).length ≤ k) (hy : (limbs y.natAbs).length ≤ k) : (limbs (x + y).natAbs).length ≤ k + 1 := by
  have h1 := limbs_length_mono (show (x + y).natAbs ≤ x.natAbs + y.natAbs by omega)
  have h2 := limbs_length_add x.natAbs y.natAbs
  omega
theorem limbs_length_natAbs_sub {x y : Int} {k : Nat} (hx : (limbs x.natAbs).length ≤ k) (hy : (limbs y.natAbs).length ≤ k) : (limbs (x - y).natAbs).length ≤ k + 1 := by
  have h1 := limbs_length_mono (show (x - y).natAbs ≤ x.natAbs + y.natAbs by omega)
  have h2 := limbs_length_add x.natAbs y.natAbs
  omega
theorem limbs_length_natAbs_mul (x y : Int) : (limbs (x * y).natAbs).length ≤ (limbs x.natAbs).length + (limbs y.natAbs).length := by
  rw [Int.natAbs_mul]; exact limbs_length_mul _ _

set_option maxRecDepth 100000 in
set_option maxHeartbeats 1000000 in
theorem Compare_any (u v : Value) (x y : Int) (w : World) (hx : IsNum w u x) (hy : IsNum w v y) (hlx : (limbs x.natAbs).length ≤ 100000000) (hly : (limbs y.natAbs).length ≤ 100000000) :
    Calls Tryz.prog 45 #[u, v] w fun e w' => e = .returned (.int .i64 (sg (x - y))) ∧ Below w.heap.size w w' := by
  have HX := Lib.hid hx
  have HY := Lib.hid hy
  obtain ⟨_, rfl, A, c, rfl, hlc, hc⟩ := hx
  obtain ⟨_, rfl, A', c', rfl, hlc', hc'⟩ := hy
  generalize decide (x < 0) = na at *
  generalize decide (y < 0) = nb at *
  clear hc hc'
  go_enter Tryz.func45, Tryz.ntmps45
  go_wp2_with fail
  have hb : Below w.heap.size w ((w.alloc (.cells #[.bool na, .slice A (limbs x.natAbs).length c] 62)).alloc (.cells #[.bool nb, .slice A' (limbs y.natAbs).length c'] 62)) := ((Below.refl _ _).alloc (Nat.le_refl _) _).alloc (by simp) _
  generalize (w.alloc (.cells #[.bool na, .slice A (limbs x.natAbs).length c] 62)).alloc (.cells #[.bool nb, .slice A' (limbs y.natAbs).length c'] 62) = W at *
  have HB := Lib.hid hb
  clear hb
  refine (Sub_any _ _ x y W (HX.out.below HB.out) (HY.out.below HB.out) hlx hly).mono ?_
  rintro e w2 ⟨v2, rfl, hv2, hb2⟩
  have HV2 := Lib.hid hv2
  have HB2 := Lib.hid hb2
  clear hv2 hb2
  go_wp2_with fail
  refine (Sign_any v2 (x - y) w2 HV2.out (by have := limbs_length_natAbs_sub hlx hly; omega)).mono ?_
  rintro e w3 ⟨rfl, hb3⟩
  have HB3 := Lib.hid hb3
  clear hb3
  go_wp2_with fail
  go_ret
  exact ⟨rfl, (HB.out.trans (HB2.out.mono HB.out.size)).trans (HB3.out.mono (Nat.le_trans HB.out.size HB2.out.size))⟩

end Go.Proofs.YtmickdolpgjbhaaGreatDoor
