/-
  Package limbs: Div of numbers with signs, walked.
-/
import Derived.Test.YtnjccldjlpkgkaaGreatDoorZC
namespace Go.Proofs.YtnjccldjlpkgkaaGreatDoor
open Go.RowKit

theorem sgn_add (x y : Int) (h : decide (x < 0) = decide (y < 0)) : sgn (decide (x < 0)) (x.natAbs + y.natAbs) = x + y := by
  unfold sgn
  by_cases hx : x < 0
  · have hy : y < 0 := by have := h; simp [hx] at this; exact this
    simp [hx]; omega
  · have hy : ¬ y < 0 := by have := h; simp [hx] at this; omega
    simp [hx]; omega
theorem sgn_sub (x y : Int) (h : decide (x < 0) ≠ decide (y < 0)) (hle : y.natAbs ≤ x.natAbs) : sgn (decide (x < 0)) (x.natAbs - y.natAbs) = x + y := by
  unfold sgn
  by_cases hx : x < 0
  · have hy : ¬ y < 0 := by intro hy; simp [hx, hy] at h
    simp [hx]; omega
  · have hy : y < 0 := by
      apply Decidable.byContradiction
      intro hy
      simp [hx, hy] at h
    simp [hx]; omega

set_option maxRecDepth 100000 in
set_option maxHeartbeats 2000000 in
theorem Add_same (u v : Value) (x y : Int) (w : World) (hx : IsNum w u x) (hy : IsNum w v y) (hlx : (limbs x.natAbs).length ≤ 100000000) (hly : (limbs y.natAbs).length ≤ 100000000) (hq : decide (x < 0) = decide (y < 0)) :
    Calls Tryz.prog 97 #[u, v] w (RetNum w (x + y)) := by
  obtain ⟨_, rfl, A, c, rfl, hlc, hc⟩ := hx
  obtain ⟨_, rfl, A', c', rfl, hlc', hc'⟩ := hy
  have HC := Lib.hid hc
  have HC' := Lib.hid hc'
  have HQ := Lib.hid hq
  have hq' : (decide (x < 0) == decide (y < 0)) = true := by rw [hq]; simp
  clear hq
  generalize hna : decide (x < 0) = na at *
  generalize hnb : decide (y < 0) = nb at *
  have HNA := Lib.hid hna
  have HNB := Lib.hid hnb
  clear hc hc' hna hnb
  go_enter Tryz.func97, Tryz.ntmps97
  go_upto_region 1 with (fail)
  have hbx := boxes w na nb (.slice A (limbs x.natAbs).length c) (.slice A' (limbs y.natAbs).length c')
  generalize ((w.alloc (.cells #[.bool na, .slice A (limbs x.natAbs).length c] 98)).alloc (.cells #[.bool nb, .slice A' (limbs y.natAbs).length c'] 98)).alloc (.cells #[.bool false, .slice none 0 0] 98) = W at *
  have HBX := Lib.hid hbx
  have ha0 := hbx.a0
  have ha1 := hbx.a1
  have hb0 := hbx.b0
  have hb1 := hbx.b1
  have HM := Lib.hid (fun (V : World) (hV : Below w.heap.size w V) => add_any A A' x.natAbs y.natAbs c c' V (HC.out.below hV) (HC'.out.below hV) hlx hly)
  clear hbx
  go_wp2_with fail
  go_region_held3 (fun w' => w'.cell? ⟨w.heap.size, 0, none⟩ = some (.bool na) ∧ w'.cell? ⟨w.heap.size, 1, none⟩ = some (.slice A (limbs x.natAbs).length c) ∧ w'.cell? ⟨w.heap.size + 1, 0, none⟩ = some (.bool nb) ∧ w'.cell? ⟨w.heap.size + 1, 1, none⟩ = some (.slice A' (limbs y.natAbs).length c'))
    (first | exact HBX3.out.four_store _ _ | exact HBX3.out.four | exact HBX2.out.four | go_keep)
    (first | (go_at_call 114; refine (HM.out _ (by exact HBX.out.drew.bel)).mono ?_; rintro e w2 ⟨v2, rfl, hv2, hb2⟩; have HBX2 := Lib.hid (HBX.out.drew.below hb2); have HV2 := Lib.hid hv2; clear hv2 hb2) | (go_at_call 85; refine (number_num _ _ _ _ HV2.out (Nat.le_trans (limbs_length_add _ _) (by omega))).mono ?_; intro e w3 hret; obtain ⟨A3, c3, rfl, hl3, hs3, hb3⟩ := hret.num; have HBX3 := Lib.hid (HBX2.out.below hb3); have HS3 := Lib.hid hs3; have hr0 := HBX3.out.r0; have hr1 := HBX3.out.r1; have hf0 := HBX3.out.f0; have hf1 := HBX3.out.f1; clear hb3 hs3 hret))
  go_wp2_with fail
  refine bodyPost_ret (v := .agg #[.bool (decide (sgn na (x.natAbs + y.natAbs) < 0)), .slice A3 (limbs (sgn na (x.natAbs + y.natAbs)).natAbs).length c3]) (by simp [results, Tryz.results97, go_sem, hr0, hr1]) rfl ?_
  exact Res.end_ ⟨HBX3.out.rb⟩ HBX3.out.bel (by omega) HS3.out hl3 (by rw [← HNA.out, sgn_add x y (by rw [HNA.out, HNB.out]; exact HQ.out)])

set_option maxRecDepth 100000 in
set_option maxHeartbeats 2000000 in
theorem Add_ge (u v : Value) (x y : Int) (w : World) (hx : IsNum w u x) (hy : IsNum w v y) (hlx : (limbs x.natAbs).length ≤ 100000000) (hly : (limbs y.natAbs).length ≤ 100000000) (hq : decide (x < 0) ≠ decide (y < 0)) (hle : y.natAbs ≤ x.natAbs) :
    Calls Tryz.prog 97 #[u, v] w (RetNum w (x + y)) := by
  obtain ⟨_, rfl, A, c, rfl, hlc, hc⟩ := hx
  obtain ⟨_, rfl, A', c', rfl, hlc', hc'⟩ := hy
  have HC := Lib.hid hc
  have HC' := Lib.hid hc'
  have HQ := Lib.hid hq
  have hq' : (decide (x < 0) == decide (y < 0)) = false := by simp only [beq_eq_false_iff_ne]; exact hq
  clear hq
  obtain ⟨cm, hcm, hcm0⟩ : ∃ cm : Int, cm = cmpN x.natAbs y.natAbs ∧ 0 ≤ cm := ⟨_, rfl, by rcases Nat.lt_or_eq_of_le hle with h | h; (rw [cmpN_gt h]; omega); (rw [cmpN_eq h.symm]; omega)⟩
  have HCM := Lib.hid hcm
  clear hcm
  generalize hna : decide (x < 0) = na at *
  generalize hnb : decide (y < 0) = nb at *
  have HNA := Lib.hid hna
  have HNB := Lib.hid hnb
  clear hc hc' hna hnb
  go_enter Tryz.func97, Tryz.ntmps97
  go_upto_region 1 with (fail)
  have hbx := boxes w na nb (.slice A (limbs x.natAbs).length c) (.slice A' (limbs y.natAbs).length c')
  generalize ((w.alloc (.cells #[.bool na, .slice A (limbs x.natAbs).length c] 98)).alloc (.cells #[.bool nb, .slice A' (limbs y.natAbs).length c'] 98)).alloc (.cells #[.bool false, .slice none 0 0] 98) = W at *
  have HBX := Lib.hid hbx
  have ha0 := hbx.a0
  have ha1 := hbx.a1
  have hb0 := hbx.b0
  have hb1 := hbx.b1
  have HM := Lib.hid (fun (V : World) (hV : Below w.heap.size w V) => sub_any A A' x.natAbs y.natAbs c c' V (HC.out.below hV) (HC'.out.below hV) hlx hle)
  clear hbx
  have HCMP := Lib.hid (compare_any A A' x.natAbs y.natAbs c c' W (HC.out.below HBX.out.bel) (HC'.out.below HBX.out.bel) (by omega) (by omega))
  rw [← HCM.out] at HCMP
  go_wp2_with fail
  refine HCMP.out.mono ?_
  rintro e w' ⟨rfl, m, rfl⟩
  clear HCMP
  have HBXm : Boxes w (W.drewN m) na nb (.slice A (limbs x.natAbs).length c) (.slice A' (limbs y.natAbs).length c') := ⟨HBX.out.a0, HBX.out.a1, HBX.out.b0, HBX.out.b1, HBX.out.rb, HBX.out.r0, HBX.out.r1, HBX.out.f0, HBX.out.f1, below_drewN HBX.out.bel m, HBX.out.size⟩
  clear HBX
  have HBX := Lib.hid HBXm
  clear HBXm
  go_wp2_with fail
  go_region_held3 (fun w' => w'.cell? ⟨w.heap.size, 0, none⟩ = some (.bool na) ∧ w'.cell? ⟨w.heap.size, 1, none⟩ = some (.slice A (limbs x.natAbs).length c) ∧ w'.cell? ⟨w.heap.size + 1, 0, none⟩ = some (.bool nb) ∧ w'.cell? ⟨w.heap.size + 1, 1, none⟩ = some (.slice A' (limbs y.natAbs).length c'))
    (first | exact HBX3.out.four_store _ _ | exact HBX3.out.four | exact HBX2.out.four | go_keep)
    (first | (go_at_call 115; refine (HM.out _ (by exact HBX.out.drew.bel)).mono ?_; rintro e w2 ⟨v2, rfl, hv2, hb2⟩; have HBX2 := Lib.hid (HBX.out.drew.below hb2); have HV2 := Lib.hid hv2; clear hv2 hb2) | (go_at_call 85; refine (number_num _ _ _ _ HV2.out (Nat.le_trans (limbs_length_mono (Nat.sub_le _ _)) (by omega))).mono ?_; intro e w3 hret; obtain ⟨A3, c3, rfl, hl3, hs3, hb3⟩ := hret.num; have HBX3 := Lib.hid (HBX2.out.below hb3); have HS3 := Lib.hid hs3; have hr0 := HBX3.out.r0; have hr1 := HBX3.out.r1; have hf0 := HBX3.out.f0; have hf1 := HBX3.out.f1; clear hb3 hs3 hret))
  go_wp2_with fail
  refine bodyPost_ret (v := .agg #[.bool (decide (sgn na (x.natAbs - y.natAbs) < 0)), .slice A3 (limbs (sgn na (x.natAbs - y.natAbs)).natAbs).length c3]) (by simp [results, Tryz.results97, go_sem, hr0, hr1]) rfl ?_
  exact Res.end_ ⟨HBX3.out.rb⟩ HBX3.out.bel (by omega) HS3.out hl3 (by rw [← HNA.out, sgn_sub x y (by rw [HNA.out, HNB.out]; exact HQ.out) hle])

set_option maxRecDepth 100000 in
set_option maxHeartbeats 2000000 in
theorem Add_lt (u v : Value) (x y : Int) (w : World) (hx : IsNum w u x) (hy : IsNum w v y) (hlx : (limbs x.natAbs).length ≤ 100000000) (hly : (limbs y.natAbs).length ≤ 100000000) (hq : decide (x < 0) ≠ decide (y < 0)) (hle : x.natAbs < y.natAbs) :
    Calls Tryz.prog 97 #[u, v] w (RetNum w (x + y)) := by
  obtain ⟨_, rfl, A, c, rfl, hlc, hc⟩ := hx
  obtain ⟨_, rfl, A', c', rfl, hlc', hc'⟩ := hy
  have HC := Lib.hid hc
  have HC' := Lib.hid hc'
  have HQ := Lib.hid hq
  have hq' : (decide (x < 0) == decide (y < 0)) = false := by simp only [beq_eq_false_iff_ne]; exact hq
  clear hq
  obtain ⟨cm, hcm, hcm0⟩ : ∃ cm : Int, cm = cmpN x.natAbs y.natAbs ∧ cm < 0 := ⟨_, rfl, by rw [cmpN_lt hle]; omega⟩
  have HCM := Lib.hid hcm
  clear hcm
  generalize hna : decide (x < 0) = na at *
  generalize hnb : decide (y < 0) = nb at *
  have HNA := Lib.hid hna
  have HNB := Lib.hid hnb
  clear hc hc' hna hnb
  go_enter Tryz.func97, Tryz.ntmps97
  go_upto_region 1 with (fail)
  have hbx := boxes w na nb (.slice A (limbs x.natAbs).length c) (.slice A' (limbs y.natAbs).length c')
  generalize ((w.alloc (.cells #[.bool na, .slice A (limbs x.natAbs).length c] 98)).alloc (.cells #[.bool nb, .slice A' (limbs y.natAbs).length c'] 98)).alloc (.cells #[.bool false, .slice none 0 0] 98) = W at *
  have HBX := Lib.hid hbx
  have ha0 := hbx.a0
  have ha1 := hbx.a1
  have hb0 := hbx.b0
  have hb1 := hbx.b1
  have HM := Lib.hid (fun (V : World) (hV : Below w.heap.size w V) => sub_any A' A y.natAbs x.natAbs c' c V (HC'.out.below hV) (HC.out.below hV) hly (Nat.le_of_lt hle))
  clear hbx
  have HCMP := Lib.hid (compare_any A A' x.natAbs y.natAbs c c' W (HC.out.below HBX.out.bel) (HC'.out.below HBX.out.bel) (by omega) (by omega))
  rw [← HCM.out] at HCMP
  go_wp2_with fail
  refine HCMP.out.mono ?_
  rintro e w' ⟨rfl, m, rfl⟩
  clear HCMP
  have HBXm : Boxes w (W.drewN m) na nb (.slice A (limbs x.natAbs).length c) (.slice A' (limbs y.natAbs).length c') := ⟨HBX.out.a0, HBX.out.a1, HBX.out.b0, HBX.out.b1, HBX.out.rb, HBX.out.r0, HBX.out.r1, HBX.out.f0, HBX.out.f1, below_drewN HBX.out.bel m, HBX.out.size⟩
  clear HBX
  have HBX := Lib.hid HBXm
  clear HBXm
  go_wp2_with fail
  go_region_held3 (fun w' => w'.cell? ⟨w.heap.size, 0, none⟩ = some (.bool na) ∧ w'.cell? ⟨w.heap.size, 1, none⟩ = some (.slice A (limbs x.natAbs).length c) ∧ w'.cell? ⟨w.heap.size + 1, 0, none⟩ = some (.bool nb) ∧ w'.cell? ⟨w.heap.size + 1, 1, none⟩ = some (.slice A' (limbs y.natAbs).length c'))
    (first | exact HBX3.out.four_store _ _ | exact HBX3.out.four | exact HBX2.out.four | go_keep)
    (first | (go_at_call 115; refine (HM.out _ (by exact HBX.out.drew.bel)).mono ?_; rintro e w2 ⟨v2, rfl, hv2, hb2⟩; have HBX2 := Lib.hid (HBX.out.drew.below hb2); have HV2 := Lib.hid hv2; clear hv2 hb2) | (go_at_call 85; refine (number_num _ _ _ _ HV2.out (Nat.le_trans (limbs_length_mono (Nat.sub_le _ _)) (by omega))).mono ?_; intro e w3 hret; obtain ⟨A3, c3, rfl, hl3, hs3, hb3⟩ := hret.num; have HBX3 := Lib.hid (HBX2.out.below hb3); have HS3 := Lib.hid hs3; have hr0 := HBX3.out.r0; have hr1 := HBX3.out.r1; have hf0 := HBX3.out.f0; have hf1 := HBX3.out.f1; clear hb3 hs3 hret))
  go_wp2_with fail
  refine bodyPost_ret (v := .agg #[.bool (decide (sgn nb (y.natAbs - x.natAbs) < 0)), .slice A3 (limbs (sgn nb (y.natAbs - x.natAbs)).natAbs).length c3]) (by simp [results, Tryz.results97, go_sem, hr0, hr1]) rfl ?_
  exact Res.end_ ⟨HBX3.out.rb⟩ HBX3.out.bel (by omega) HS3.out hl3 (by rw [← HNB.out, sgn_sub y x (by rw [HNA.out, HNB.out]; exact Ne.symm HQ.out) (Nat.le_of_lt hle), Int.add_comm])

theorem Add_any (u v : Value) (x y : Int) (w : World) (hx : IsNum w u x) (hy : IsNum w v y) (hlx : (limbs x.natAbs).length ≤ 100000000) (hly : (limbs y.natAbs).length ≤ 100000000) :
    Calls Tryz.prog 97 #[u, v] w (RetNum w (x + y)) := by
  by_cases hq : decide (x < 0) = decide (y < 0)
  · exact Add_same u v x y w hx hy hlx hly hq
  · rcases Nat.lt_or_ge x.natAbs y.natAbs with h | h
    · exact Add_lt u v x y w hx hy hlx hly hq h
    · exact Add_ge u v x y w hx hy hlx hly hq h

end Go.Proofs.YtnjccldjlpkgkaaGreatDoor

namespace Go.Proofs.YtnjccldjlpkgkaaGreatDoor
open Go.RowKit

set_option maxRecDepth 100000 in
set_option maxHeartbeats 2000000 in
theorem Sub_any (u v : Value) (x y : Int) (w : World) (hx : IsNum w u x) (hy : IsNum w v y) (hlx : (limbs x.natAbs).length ≤ 100000000) (hly : (limbs y.natAbs).length ≤ 100000000) :
    Calls Tryz.prog 88 #[u, v] w (RetNum w (x - y)) := by
  have HX := Lib.hid hx
  have HY := Lib.hid hy
  obtain ⟨_, rfl, A, c, rfl, hlc, hc⟩ := hx
  obtain ⟨_, rfl, A', c', rfl, hlc', hc'⟩ := hy
  generalize decide (x < 0) = na at *
  generalize decide (y < 0) = nb at *
  clear hc hc'
  go_enter Tryz.func88, Tryz.ntmps88
  go_upto_region 1 with (fail)
  have hbx := boxes w na nb (.slice A (limbs x.natAbs).length c) (.slice A' (limbs y.natAbs).length c')
  generalize ((w.alloc (.cells #[.bool na, .slice A (limbs x.natAbs).length c] 98)).alloc (.cells #[.bool nb, .slice A' (limbs y.natAbs).length c'] 98)).alloc (.cells #[.bool false, .slice none 0 0] 98) = W at *
  have HBX := Lib.hid hbx
  have ha0 := hbx.a0
  have ha1 := hbx.a1
  have hb0 := hbx.b0
  have hb1 := hbx.b1
  have HN := Lib.hid (fun (V : World) (hV : Below w.heap.size w V) => Neg_any _ y V (HY.out.below hV) (by omega))
  clear hbx
  go_region_held3 (fun w' => w'.cell? ⟨w.heap.size, 0, none⟩ = some (.bool na) ∧ w'.cell? ⟨w.heap.size, 1, none⟩ = some (.slice A (limbs x.natAbs).length c) ∧ w'.cell? ⟨w.heap.size + 1, 0, none⟩ = some (.bool nb) ∧ w'.cell? ⟨w.heap.size + 1, 1, none⟩ = some (.slice A' (limbs y.natAbs).length c'))
    (first | exact HBX3.out.four_store _ _ | exact HBX3.out.four | exact HBX2.out.four | go_keep)
    (first | (go_at_call 98; refine (HN.out _ (by exact HBX.out.drew.bel)).mono ?_; rintro e w2 ⟨v2, rfl, hv2, hb2⟩; have HBX2 := Lib.hid (HBX.out.drew.below hb2); have HV2 := Lib.hid hv2; clear hv2 hb2) | (go_at_call 97; refine (Add_any _ _ x (-y) _ (HX.out.below HBX2.out.bel) HV2.out hlx (by rw [Int.natAbs_neg]; exact hly)).mono ?_; intro e w3 hret; obtain ⟨A3, c3, rfl, hl3, hs3, hb3⟩ := hret.num; have HBX3 := Lib.hid (HBX2.out.below hb3); have HS3 := Lib.hid hs3; have hr0 := HBX3.out.r0; have hr1 := HBX3.out.r1; have hf0 := HBX3.out.f0; have hf1 := HBX3.out.f1; clear hb3 hs3 hret))
  go_wp2_with fail
  refine bodyPost_ret (v := .agg #[.bool (decide (x + -y < 0)), .slice A3 (limbs (x + -y).natAbs).length c3]) (by simp [results, Tryz.results88, go_sem, hr0, hr1]) rfl ?_
  exact Res.end_ ⟨HBX3.out.rb⟩ HBX3.out.bel (by omega) HS3.out hl3 rfl

theorem limbs_length_natAbs_add {x y : Int} {k : Nat} (hx : (limbs x.natAbs).length ≤ k) (hy : (limbs y.natAbs).length ≤ k) : (limbs (x + y).natAbs).length ≤ k + 1 := by
  have h1 := limbs_length_mono (show (x + y).natAbs ≤ x.natAbs + y.natAbs by omega)
  have h2 := limbs_length_add x.natAbs y.natAbs
  omega
theorem limbs_length_natAbs_sub {x y : Int} {k : Nat} (hx : (limbs x.natAbs).length ≤ k) (hy : (limbs y.natAbs).length ≤ k) : (limbs (x - y).natAbs).length ≤ k + 1 := by
  have h1 := limbs_length_mono (show (x - y).natAbs ≤ x.natAbs + y.natAbs by omega)
  have h2 := limbs_length_add x.natAbs y.natAbs
  omega
theorem limbs_length_natAbs_mul (x y : Int) : (limbs (x * y).natAbs).length ≤ (limbs x.natAbs).length + (limbs y.natAbs).length := by
  rw [Int.natAbs_mul]; exact limbs_length_mul _ _

set_option maxRecDepth 100000 in
set_option maxHeartbeats 1000000 in
theorem Compare_any (u v : Value) (x y : Int) (w : World) (hx : IsNum w u x) (hy : IsNum w v y) (hlx : (limbs x.natAbs).length ≤ 100000000) (hly : (limbs y.natAbs).length ≤ 100000000) :
    Calls Tryz.prog 73 #[u, v] w fun e w' => e = .returned (.int .i64 (sg (x - y))) ∧ Below w.heap.size w w' := by
  have HX := Lib.hid hx
  have HY := Lib.hid hy
  obtain ⟨_, rfl, A, c, rfl, hlc, hc⟩ := hx
  obtain ⟨_, rfl, A', c', rfl, hlc', hc'⟩ := hy
  generalize decide (x < 0) = na at *
  generalize decide (y < 0) = nb at *
  clear hc hc'
  go_enter Tryz.func73, Tryz.ntmps73
  go_wp2_with fail
  have hb : Below w.heap.size w ((w.alloc (.cells #[.bool na, .slice A (limbs x.natAbs).length c] 98)).alloc (.cells #[.bool nb, .slice A' (limbs y.natAbs).length c'] 98)) := ((Below.refl _ _).alloc (Nat.le_refl _) _).alloc (by simp) _
  generalize (w.alloc (.cells #[.bool na, .slice A (limbs x.natAbs).length c] 98)).alloc (.cells #[.bool nb, .slice A' (limbs y.natAbs).length c'] 98) = W at *
  have HB := Lib.hid hb
  clear hb
  refine (Sub_any _ _ x y W (HX.out.below HB.out) (HY.out.below HB.out) hlx hly).mono ?_
  rintro e w2 ⟨v2, rfl, hv2, hb2⟩
  have HV2 := Lib.hid hv2
  have HB2 := Lib.hid hb2
  clear hv2 hb2
  go_wp2_with fail
  refine (Sign_any v2 (x - y) w2 HV2.out (by have := limbs_length_natAbs_sub hlx hly; omega)).mono ?_
  rintro e w3 ⟨rfl, hb3⟩
  have HB3 := Lib.hid hb3
  clear hb3
  go_wp2_with fail
  go_ret
  exact ⟨rfl, (HB.out.trans (HB2.out.mono HB.out.size)).trans (HB3.out.mono (Nat.le_trans HB.out.size HB2.out.size))⟩

end Go.Proofs.YtnjccldjlpkgkaaGreatDoor

namespace Go.Proofs.YtnjccldjlpkgkaaGreatDoor
open Go.RowKit

/-- The results mean two integers; nothing that was there has changed. -/
def RetNum2 (w : World) (q r : Int) (e : Ending) (w' : World) : Prop := ∃ v u, e = .returned (.tuple #[v, u]) ∧ IsNum w' v q ∧ IsNum w' u r ∧ Below w.heap.size w w'
/-- Two numbers that came in lie in boxes; two boxes are for the results. -/
structure BoxesD (w W : World) (n0 n1 : Bool) (s0 s1 : Value) : Prop where
  a0 : W.cell? ⟨w.heap.size, 0, none⟩ = some (.bool n0)
  a1 : W.cell? ⟨w.heap.size, 1, none⟩ = some s0
  b0 : W.cell? ⟨w.heap.size + 1, 0, none⟩ = some (.bool n1)
  b1 : W.cell? ⟨w.heap.size + 1, 1, none⟩ = some s1
  r0 : Res W (w.heap.size + 1 + 1)
  r1 : Res W (w.heap.size + 1 + 1 + 1)
  bel : Below w.heap.size w W
  size : w.heap.size + 4 ≤ W.heap.size
theorem boxesD (w : World) (n0 n1 : Bool) (s0 s1 : Value) : BoxesD w ((((w.alloc (.cells #[.bool n0, s0] 98)).alloc (.cells #[.bool n1, s1] 98)).alloc (.cells #[.bool false, .slice none 0 0] 98)).alloc (.cells #[.bool false, .slice none 0 0] 98)) n0 n1 s0 s1 := by
  have h := boxes w n0 n1 s0 s1
  have hs : ((((w.alloc (.cells #[.bool n0, s0] 98)).alloc (.cells #[.bool n1, s1] 98)).alloc (.cells #[.bool false, .slice none 0 0] 98))).heap.size = w.heap.size + 1 + 1 + 1 := by simp
  generalize ((w.alloc (.cells #[.bool n0, s0] 98)).alloc (.cells #[.bool n1, s1] 98)).alloc (.cells #[.bool false, .slice none 0 0] 98) = W at *
  have hb : Below W.heap.size W (W.alloc (.cells #[.bool false, .slice none 0 0] 98)) := (Below.refl _ _).alloc (Nat.le_refl _) _
  have h2 := h.below hb
  exact ⟨h2.a0, h2.a1, h2.b0, h2.b1, ⟨h2.rb⟩, hs ▸ Res.new W, h2.bel, by simp; omega⟩
theorem BoxesD.below {w W W' : World} {n0 n1 : Bool} {s0 s1 : Value} (h : BoxesD w W n0 n1 s0 s1) (hb : Below W.heap.size W W') : BoxesD w W' n0 n1 s0 s1 := by
  have hs := h.size
  have hs' := hb.size
  refine ⟨?_, ?_, ?_, ?_, h.r0.below hb, h.r1.below hb, h.bel.trans (hb.mono (by omega)), by omega⟩
  · rw [hb.cell (show (⟨w.heap.size, 0, none⟩ : Addr).block < _ by show w.heap.size < _; omega)]; exact h.a0
  · rw [hb.cell (show (⟨w.heap.size, 1, none⟩ : Addr).block < _ by show w.heap.size < _; omega)]; exact h.a1
  · rw [hb.cell (show (⟨w.heap.size + 1, 0, none⟩ : Addr).block < _ by show w.heap.size + 1 < _; omega)]; exact h.b0
  · rw [hb.cell (show (⟨w.heap.size + 1, 1, none⟩ : Addr).block < _ by show w.heap.size + 1 < _; omega)]; exact h.b1
/-- How Div ends. -/
theorem end2 {w W : World} {g h : Nat} {A A' : Option Addr} {c c' : Nat} {x y x' y' : Int} (hg : Res W g) (hh : Res W h) (hgh : g ≠ h) (hb : Below w.heap.size w W) (hwg : w.heap.size ≤ g) (hwh : w.heap.size ≤ h)
    (hc : Cells .u64 W A (limbs x.natAbs)) (hl : (limbs x.natAbs).length ≤ c) (hc' : Cells .u64 W A' (limbs y.natAbs)) (hl' : (limbs y.natAbs).length ≤ c') (e : x = x') (e' : y = y') :
    RetNum2 w x' y' (.returned (.tuple #[.agg #[.bool (decide (x < 0)), .slice A (limbs x.natAbs).length c], .agg #[.bool (decide (y < 0)), .slice A' (limbs y.natAbs).length c']]))
      ((((W.setCell ⟨g, 0, none⟩ (.bool (decide (x < 0)))).setCell ⟨g, 1, none⟩ (.slice A (limbs x.natAbs).length c)).setCell ⟨h, 0, none⟩ (.bool (decide (y < 0)))).setCell ⟨h, 1, none⟩ (.slice A' (limbs y.natAbs).length c')) := by
  subst e e'
  have hh2 : ((W.setCell ⟨g, 0, none⟩ (.bool (decide (x < 0)))).setCell ⟨g, 1, none⟩ (.slice A (limbs x.natAbs).length c)).heap[h]? = some (.cells #[.bool false, .slice none 0 0] 98 (0, 0)) := by
    rw [Below.heap_setCell _ _ _ _ (by show h ≠ g; omega), Below.heap_setCell _ _ _ _ (by show h ≠ g; omega)]; exact hh.rb
  exact ⟨_, _, rfl, ⟨_, rfl, IsNat.mk hl ((hc.store2 hg.rb _ _).store2 hh2 _ _)⟩, ⟨_, rfl, IsNat.mk hl' ((hc'.store2 hg.rb _ _).store2 hh2 _ _)⟩,
    (((hb.setCell (p := ⟨g, 0, none⟩) hwg _).setCell (p := ⟨g, 1, none⟩) hwg _).setCell (p := ⟨h, 0, none⟩) hwh _).setCell (p := ⟨h, 1, none⟩) hwh _⟩

theorem div_exact (x y : Int) (hy : y ≠ 0) (h : ¬ (x < 0 ∧ x.natAbs % y.natAbs ≠ 0)) : sgn (decide (x < 0) != decide (y < 0)) (x.natAbs / y.natAbs) = x / y ∧ sgn false (x.natAbs % y.natAbs) = x % y := by
  have h1 := Nat.mod_add_div x.natAbs y.natAbs
  have h2 := Nat.mod_lt x.natAbs (show 0 < y.natAbs by omega)
  have key : x = y * sgn (decide (x < 0) != decide (y < 0)) (x.natAbs / y.natAbs) + sgn false (x.natAbs % y.natAbs) := by
    generalize x.natAbs / y.natAbs = q at *
    generalize x.natAbs % y.natAbs = r at *
    have h1' : (r : Int) + (y.natAbs : Int) * (q : Int) = (x.natAbs : Int) := by rw [← Int.natCast_mul]; omega
    by_cases hx : x < 0 <;> by_cases hyn : y < 0 <;> simp only [hx, hyn, sgn, decide_true, decide_false, bne_self_eq_false, Bool.false_eq_true, if_false, if_true, Bool.bne_true, Bool.bne_false, Bool.not_false]
    · have hr : r = 0 := by apply Decidable.byContradiction; intro hr; exact h ⟨hx, hr⟩
      have e1 : (x.natAbs : Int) = -x := by omega
      have e2 : (y.natAbs : Int) = -y := by omega
      subst hr
      rw [e1, e2] at h1'
      grind
    · have hr : r = 0 := by apply Decidable.byContradiction; intro hr; exact h ⟨hx, hr⟩
      have e1 : (x.natAbs : Int) = -x := by omega
      have e2 : (y.natAbs : Int) = y := by omega
      subst hr
      rw [e1, e2] at h1'
      grind
    · have e1 : (x.natAbs : Int) = x := by omega
      have e2 : (y.natAbs : Int) = -y := by omega
      rw [e1, e2] at h1'
      grind
    · have e1 : (x.natAbs : Int) = x := by omega
      have e2 : (y.natAbs : Int) = y := by omega
      rw [e1, e2] at h1'
      grind
  have hr0 : 0 ≤ sgn false (x.natAbs % y.natAbs) := by simp [sgn]; omega
  have hr1 : sgn false (x.natAbs % y.natAbs) < y.natAbs := by simp only [sgn, Bool.false_eq_true, if_false]; omega
  generalize sgn (decide (x < 0) != decide (y < 0)) (x.natAbs / y.natAbs) = q at *
  generalize sgn false (x.natAbs % y.natAbs) = r at *
  exact ediv_unique x y q r hy key hr0 hr1
where
  ediv_unique (x y q r : Int) (hy : y ≠ 0) (h : x = y * q + r) (h0 : 0 ≤ r) (h1 : r < y.natAbs) : q = x / y ∧ r = x % y := by
    rcases Int.lt_or_gt_of_ne hy with hn | hp
    · have := (Int.ediv_emod_unique' (a := x) (b := y) (r := r) (q := q) hn).2 ⟨by omega, h0, by omega⟩
      exact ⟨this.1.symm, this.2.symm⟩
    · have := (Int.ediv_emod_unique (a := x) (b := y) (r := r) (q := q) hp).2 ⟨by omega, h0, by omega⟩
      exact ⟨this.1.symm, this.2.symm⟩
theorem div_more (x y : Int) (hy : y ≠ 0) (hx : x < 0) (hr : x.natAbs % y.natAbs ≠ 0) : sgn (decide (x < 0) != decide (y < 0)) (x.natAbs / y.natAbs + 1) = x / y ∧ sgn false (y.natAbs - x.natAbs % y.natAbs) = x % y := by
  have h1 := Nat.mod_add_div x.natAbs y.natAbs
  have h2 := Nat.mod_lt x.natAbs (show 0 < y.natAbs by omega)
  have key : x = y * sgn (decide (x < 0) != decide (y < 0)) (x.natAbs / y.natAbs + 1) + sgn false (y.natAbs - x.natAbs % y.natAbs) := by
    generalize x.natAbs / y.natAbs = q at *
    generalize x.natAbs % y.natAbs = r at *
    have h1' : (r : Int) + (y.natAbs : Int) * (q : Int) = (x.natAbs : Int) := by rw [← Int.natCast_mul]; omega
    have e0 : ((y.natAbs - r : Nat) : Int) = (y.natAbs : Int) - (r : Int) := by omega
    have e1 : (x.natAbs : Int) = -x := by omega
    by_cases hyn : y < 0 <;> simp only [hx, hyn, sgn, decide_true, decide_false, bne_self_eq_false, Bool.false_eq_true, if_false, if_true, Bool.bne_false]
    · have e2 : (y.natAbs : Int) = -y := by omega
      rw [e0, e2, Int.natCast_succ]
      rw [e1, e2] at h1'
      grind
    · have e2 : (y.natAbs : Int) = y := by omega
      rw [e0, e2, Int.natCast_succ]
      rw [e1, e2] at h1'
      grind
  have hr0 : 0 ≤ sgn false (y.natAbs - x.natAbs % y.natAbs) := by simp [sgn]
  have hr1 : sgn false (y.natAbs - x.natAbs % y.natAbs) < y.natAbs := by simp only [sgn, Bool.false_eq_true, if_false]; omega
  generalize sgn (decide (x < 0) != decide (y < 0)) (x.natAbs / y.natAbs + 1) = q at *
  generalize sgn false (y.natAbs - x.natAbs % y.natAbs) = r at *
  exact div_exact.ediv_unique x y q r hy key hr0 hr1

end Go.Proofs.YtnjccldjlpkgkaaGreatDoor

namespace Go.Proofs.YtnjccldjlpkgkaaGreatDoor
open Go.RowKit

end Go.Proofs.YtnjccldjlpkgkaaGreatDoor
