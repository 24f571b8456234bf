/-
  Package limbs: Add, Sub, Compare of numbers with signs.
-/
import Derived.Test.YtmickdolpgjbhaaGreatDoorLimJ
namespace Go.Proofs.YtmickdolpgjbhaaGreatDoor
open Go.RowKit

theorem sgn_add (x y : Int) (h : decide (x < 0) = decide (y < 0)) : sgn (decide (x < 0)) (x.natAbs + y.natAbs) = x + y := by
  unfold sgn
  by_cases hx : x < 0
  · have hy : y < 0 := by have := h; simp [hx] at this; exact this
    simp [hx]; omega
  · have hy : ¬ y < 0 := by have := h; simp [hx] at this; omega
    simp [hx]; omega
theorem sgn_sub (x y : Int) (h : decide (x < 0) ≠ decide (y < 0)) (hle : y.natAbs ≤ x.natAbs) : sgn (decide (x < 0)) (x.natAbs - y.natAbs) = x + y := by
  unfold sgn
  by_cases hx : x < 0
  · have hy : ¬ y < 0 := by intro hy; simp [hx, hy] at h
    simp [hx]; omega
  · have hy : y < 0 := by
      apply Decidable.byContradiction
      intro hy
      simp [hx, hy] at h
    simp [hx]; omega

set_option maxRecDepth 100000 in
set_option maxHeartbeats 2000000 in
theorem Add_same (u v : Value) (x y : Int) (w : World) (hx : IsNum w u x) (hy : IsNum w v y) (hlx : (limbs x.natAbs).length ≤ 100000000) (hly : (limbs y.natAbs).length ≤ 100000000) (hq : decide (x < 0) = decide (y < 0)) :
    Calls Tryz.prog 43 #[u, v] w (RetNum w (x + y)) := by
  obtain ⟨_, rfl, A, c, rfl, hlc, hc⟩ := hx
  obtain ⟨_, rfl, A', c', rfl, hlc', hc'⟩ := hy
  have HC := Lib.hid hc
  have HC' := Lib.hid hc'
  have HQ := Lib.hid hq
  have hq' : (decide (x < 0) == decide (y < 0)) = true := by rw [hq]; simp
  clear hq
  generalize hna : decide (x < 0) = na at *
  generalize hnb : decide (y < 0) = nb at *
  have HNA := Lib.hid hna
  have HNB := Lib.hid hnb
  clear hc hc' hna hnb
  go_enter Tryz.func43, Tryz.ntmps43
  go_upto_region 1 with (fail)
  have hbx := boxes w na nb (.slice A (limbs x.natAbs).length c) (.slice A' (limbs y.natAbs).length c')
  generalize ((w.alloc (.cells #[.bool na, .slice A (limbs x.natAbs).length c] 62)).alloc (.cells #[.bool nb, .slice A' (limbs y.natAbs).length c'] 62)).alloc (.cells #[.bool false, .slice none 0 0] 62) = W at *
  have HBX := Lib.hid hbx
  have ha0 := hbx.a0
  have ha1 := hbx.a1
  have hb0 := hbx.b0
  have hb1 := hbx.b1
  have HM := Lib.hid (fun (V : World) (hV : Below w.heap.size w V) => add_any A A' x.natAbs y.natAbs c c' V (HC.out.below hV) (HC'.out.below hV) hlx hly)
  clear hbx
  go_wp2_with fail
  go_region_held3 (fun w' => w'.cell? ⟨w.heap.size, 0, none⟩ = some (.bool na) ∧ w'.cell? ⟨w.heap.size, 1, none⟩ = some (.slice A (limbs x.natAbs).length c) ∧ w'.cell? ⟨w.heap.size + 1, 0, none⟩ = some (.bool nb) ∧ w'.cell? ⟨w.heap.size + 1, 1, none⟩ = some (.slice A' (limbs y.natAbs).length c'))
    (first | exact HBX3.out.four_store _ _ | exact HBX3.out.four | exact HBX2.out.four | go_keep)
    (first | (go_at_call 64; refine (HM.out _ (by exact HBX.out.drew.bel)).mono ?_; rintro e w2 ⟨v2, rfl, hv2, hb2⟩; have HBX2 := Lib.hid (HBX.out.drew.below hb2); have HV2 := Lib.hid hv2; clear hv2 hb2) | (go_at_call 60; refine (number_num _ _ _ _ HV2.out (Nat.le_trans (limbs_length_add _ _) (by omega))).mono ?_; intro e w3 hret; obtain ⟨A3, c3, rfl, hl3, hs3, hb3⟩ := hret.num; have HBX3 := Lib.hid (HBX2.out.below hb3); have HS3 := Lib.hid hs3; have hr0 := HBX3.out.r0; have hr1 := HBX3.out.r1; have hf0 := HBX3.out.f0; have hf1 := HBX3.out.f1; clear hb3 hs3 hret))
  go_wp2_with fail
  refine bodyPost_ret (v := .agg #[.bool (decide (sgn na (x.natAbs + y.natAbs) < 0)), .slice A3 (limbs (sgn na (x.natAbs + y.natAbs)).natAbs).length c3]) (by simp [results, Tryz.results43, go_sem, hr0, hr1]) rfl ?_
  exact Res.end_ ⟨HBX3.out.rb⟩ HBX3.out.bel (by omega) HS3.out hl3 (by rw [← HNA.out, sgn_add x y (by rw [HNA.out, HNB.out]; exact HQ.out)])

set_option maxRecDepth 100000 in
set_option maxHeartbeats 2000000 in
theorem Add_ge (u v : Value) (x y : Int) (w : World) (hx : IsNum w u x) (hy : IsNum w v y) (hlx : (limbs x.natAbs).length ≤ 100000000) (hly : (limbs y.natAbs).length ≤ 100000000) (hq : decide (x < 0) ≠ decide (y < 0)) (hle : y.natAbs ≤ x.natAbs) :
    Calls Tryz.prog 43 #[u, v] w (RetNum w (x + y)) := by
  obtain ⟨_, rfl, A, c, rfl, hlc, hc⟩ := hx
  obtain ⟨_, rfl, A', c', rfl, hlc', hc'⟩ := hy
  have HC := Lib.hid hc
  have HC' := Lib.hid hc'
  have HQ := Lib.hid hq
  have hq' : (decide (x < 0) == decide (y < 0)) = false := by simp only [beq_eq_false_iff_ne]; exact hq
  clear hq
  obtain ⟨cm, hcm, hcm0⟩ : ∃ cm : Int, cm = cmpN x.natAbs y.natAbs ∧ 0 ≤ cm := ⟨_, rfl, by rcases Nat.lt_or_eq_of_le hle with h | h; (rw [cmpN_gt h]; omega); (rw [cmpN_eq h.symm]; omega)⟩
  have HCM := Lib.hid hcm
  clear hcm
  generalize hna : decide (x < 0) = na at *
  generalize hnb : decide (y < 0) = nb at *
  have HNA := Lib.hid hna
  have HNB := Lib.hid hnb
  clear hc hc' hna hnb
  go_enter Tryz.func43, Tryz.ntmps43
  go_upto_region 1 with (fail)
  have hbx := boxes w na nb (.slice A (limbs x.natAbs).length c) (.slice A' (limbs y.natAbs).length c')
  generalize ((w.alloc (.cells #[.bool na, .slice A (limbs x.natAbs).length c] 62)).alloc (.cells #[.bool nb, .slice A' (limbs y.natAbs).length c'] 62)).alloc (.cells #[.bool false, .slice none 0 0] 62) = W at *
  have HBX := Lib.hid hbx
  have ha0 := hbx.a0
  have ha1 := hbx.a1
  have hb0 := hbx.b0
  have hb1 := hbx.b1
  have HM := Lib.hid (fun (V : World) (hV : Below w.heap.size w V) => sub_any A A' x.natAbs y.natAbs c c' V (HC.out.below hV) (HC'.out.below hV) hlx hle)
  clear hbx
  have HCMP := Lib.hid (compare_any A A' x.natAbs y.natAbs c c' W (HC.out.below HBX.out.bel) (HC'.out.below HBX.out.bel) (by omega) (by omega))
  rw [← HCM.out] at HCMP
  go_wp2_with fail
  refine HCMP.out.mono ?_
  rintro e w' ⟨rfl, m, rfl⟩
  clear HCMP
  have HBXm : Boxes w (W.drewN m) na nb (.slice A (limbs x.natAbs).length c) (.slice A' (limbs y.natAbs).length c') := ⟨HBX.out.a0, HBX.out.a1, HBX.out.b0, HBX.out.b1, HBX.out.rb, HBX.out.r0, HBX.out.r1, HBX.out.f0, HBX.out.f1, below_drewN HBX.out.bel m, HBX.out.size⟩
  clear HBX
  have HBX := Lib.hid HBXm
  clear HBXm
  go_wp2_with fail
  go_region_held3 (fun w' => w'.cell? ⟨w.heap.size, 0, none⟩ = some (.bool na) ∧ w'.cell? ⟨w.heap.size, 1, none⟩ = some (.slice A (limbs x.natAbs).length c) ∧ w'.cell? ⟨w.heap.size + 1, 0, none⟩ = some (.bool nb) ∧ w'.cell? ⟨w.heap.size + 1, 1, none⟩ = some (.slice A' (limbs y.natAbs).length c'))
    (first | exact HBX3.out.four_store _ _ | exact HBX3.out.four | exact HBX2.out.four | go_keep)
    (first | (go_at_call 65; refine (HM.out _ (by exact HBX.out.drew.bel)).mono ?_; rintro e w2 ⟨v2, rfl, hv2, hb2⟩; have HBX2 := Lib.hid (HBX.out.drew.below hb2); have HV2 := Lib.hid hv2; clear hv2 hb2) | (go_at_call 60; refine (number_num _ _ _ _ HV2.out (Nat.le_trans (limbs_length_mono (Nat.sub_le _ _)) (by omega))).mono ?_; intro e w3 hret; obtain ⟨A3, c3, rfl, hl3, hs3, hb3⟩ := hret.num; have HBX3 := Lib.hid (HBX2.out.below hb3); have HS3 := Lib.hid hs3; have hr0 := HBX3.out.r0; have hr1 := HBX3.out.r1; have hf0 := HBX3.out.f0; have hf1 := HBX3.out.f1; clear hb3 hs3 hret))
  go_wp2_with fail
  refine bodyPost_ret (v := .agg #[.bool (decide (sgn na (x.natAbs - y.natAbs) < 0)), .slice A3 (limbs (sgn na (x.natAbs - y.natAbs)).natAbs).length c3]) (by simp [results, Tryz.results43, go_sem, hr0, hr1]) rfl ?_
  exact Res.end_ ⟨HBX3.out.rb⟩ HBX3.out.bel (by omega) HS3.out hl3 (by rw [← HNA.out, sgn_sub x y (by rw [HNA.out, HNB.out]; exact HQ.out) hle])

set_option maxRecDepth 100000 in
set_option maxHeartbeats 2000000 in
theorem Add_lt (u v : Value) (x y : Int) (w : World) (hx : IsNum w u x) (hy : IsNum w v y) (hlx : (limbs x.natAbs).length ≤ 100000000) (hly : (limbs y.natAbs).length ≤ 100000000) (hq : decide (x < 0) ≠ decide (y < 0)) (hle : x.natAbs < y.natAbs) :
    Calls Tryz.prog 43 #[u, v] w (RetNum w (x + y)) := by
  obtain ⟨_, rfl, A, c, rfl, hlc, hc⟩ := hx
  obtain ⟨_, rfl, A', c', rfl, hlc', hc'⟩ := hy
  have HC := Lib.hid hc
  have HC' := Lib.hid hc'
  have HQ := Lib.hid hq
  have hq' : (decide (x < 0) == decide (y < 0)) = false := by simp only [beq_eq_false_iff_ne]; exact hq
  clear hq
  obtain ⟨cm, hcm, hcm0⟩ : ∃ cm : Int, cm = cmpN x.natAbs y.natAbs ∧ cm < 0 := ⟨_, rfl, by rw [cmpN_lt hle]; omega⟩
  have HCM := Lib.hid hcm
  clear hcm
  generalize hna : decide (x < 0) = na at *
  generalize hnb : decide (y < 0) = nb at *
  have HNA := Lib.hid hna
  have HNB := Lib.hid hnb
  clear hc hc' hna hnb
  go_enter Tryz.func43, Tryz.ntmps43
  go_upto_region 1 with (fail)
  have hbx := boxes w na nb (.slice A (limbs x.natAbs).length c) (.slice A' (limbs y.natAbs).length c')
  generalize ((w.alloc (.cells #[.bool na, .slice A (limbs x.natAbs).length c] 62)).alloc (.cells #[.bool nb, .slice A' (limbs y.natAbs).length c'] 62)).alloc (.cells #[.bool false, .slice none 0 0] 62) = W at *
  have HBX := Lib.hid hbx
  have ha0 := hbx.a0
  have ha1 := hbx.a1
  have hb0 := hbx.b0
  have hb1 := hbx.b1
  have HM := Lib.hid (fun (V : World) (hV : Below w.heap.size w V) => sub_any A' A y.natAbs x.natAbs c' c V (HC'.out.below hV) (HC.out.below hV) hly (Nat.le_of_lt hle))
  clear hbx
  have HCMP := Lib.hid (compare_any A A' x.natAbs y.natAbs c c' W (HC.out.below HBX.out.bel) (HC'.out.below HBX.out.bel) (by omega) (by omega))
  rw [← HCM.out] at HCMP
  go_wp2_with fail
  refine HCMP.out.mono ?_
  rintro e w' ⟨rfl, m, rfl⟩
  clear HCMP
  have HBXm : Boxes w (W.drewN m) na nb (.slice A (limbs x.natAbs).length c) (.slice A' (limbs y.natAbs).length c') := ⟨HBX.out.a0, HBX.out.a1, HBX.out.b0, HBX.out.b1, HBX.out.rb, HBX.out.r0, HBX.out.r1, HBX.out.f0, HBX.out.f1, below_drewN HBX.out.bel m, HBX.out.size⟩
  clear HBX
  have HBX := Lib.hid HBXm
  clear HBXm
  go_wp2_with fail
  go_region_held3 (fun w' => w'.cell? ⟨w.heap.size, 0, none⟩ = some (.bool na) ∧ w'.cell? ⟨w.heap.size, 1, none⟩ = some (.slice A (limbs x.natAbs).length c) ∧ w'.cell? ⟨w.heap.size + 1, 0, none⟩ = some (.bool nb) ∧ w'.cell? ⟨w.heap.size + 1, 1, none⟩ = some (.slice A' (limbs y.natAbs).length c'))
    (first | exact HBX3.out.four_store _ _ | exact HBX3.out.four | exact HBX2.out.four | go_keep)
    (first | (go_at_call 65; refine (HM.out _ (by exact HBX.out.drew.bel)).mono ?_; rintro e w2 ⟨v2, rfl, hv2, hb2⟩; have HBX2 := Lib.hid (HBX.out.drew.below hb2); have HV2 := Lib.hid hv2; clear hv2 hb2) | (go_at_call 60; refine (number_num _ _ _ _ HV2.out (Nat.le_trans (limbs_length_mono (Nat.sub_le _ _)) (by omega))).mono ?_; intro e w3 hret; obtain ⟨A3, c3, rfl, hl3, hs3, hb3⟩ := hret.num; have HBX3 := Lib.hid (HBX2.out.below hb3); have HS3 := Lib.hid hs3; have hr0 := HBX3.out.r0; have hr1 := HBX3.out.r1; have hf0 := HBX3.out.f0; have hf1 := HBX3.out.f1; clear hb3 hs3 hret))
  go_wp2_with fail
  refine bodyPost_ret (v := .agg #[.bool (decide (sgn nb (y.natAbs - x.natAbs) < 0)), .slice A3 (limbs (sgn nb (y.natAbs - x.natAbs)).natAbs).length c3]) (by simp [results, Tryz.results43, go_sem, hr0, hr1]) rfl ?_
  exact Res.end_ ⟨HBX3.out.rb⟩ HBX3.out.bel (by omega) HS3.out hl3 (by rw [← HNB.out, sgn_sub y x (by rw [HNA.out, HNB.out]; exact Ne.symm HQ.out) (Nat.le_of_lt hle), Int.add_comm])

theorem Add_any (u v : Value) (x y : Int) (w : World) (hx : IsNum w u x) (hy : IsNum w v y) (hlx : (limbs x.natAbs).length ≤ 100000000) (hly : (limbs y.natAbs).length ≤ 100000000) :
    Calls Tryz.prog 43 #[u, v] w (RetNum w (x + y)) := by
  by_cases hq : decide (x < 0) = decide (y < 0)
  · exact Add_same u v x y w hx hy hlx hly hq
  · rcases Nat.lt_or_ge x.natAbs y.natAbs with h | h
    · exact Add_lt u v x y w hx hy hlx hly hq h
    · exact Add_ge u v x y w hx hy hlx hly hq h

end Go.Proofs.YtmickdolpgjbhaaGreatDoor
