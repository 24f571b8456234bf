/-
  Package limbs: Div of numbers with signs, walked.
-/
import Derived.Test.YtmickdolpgjbhaaGreatDoorLimM
namespace Go.Proofs.YtmickdolpgjbhaaGreatDoor
open Go.RowKit

set_option maxRecDepth 100000 in
set_option maxHeartbeats 2000000 in
theorem Div_plain (u v : Value) (x y : Int) (w : World) (hx : IsNum w u x) (hy : IsNum w v y) (hlx : (limbs x.natAbs).length ≤ 100000000) (hly : (limbs y.natAbs).length ≤ 100000000) (hy0 : y ≠ 0) (h : ¬ (x < 0 ∧ x.natAbs % y.natAbs ≠ 0)) :
    Calls Tryz.prog 37 #[u, v] w (RetNum2 w (x / y) (x % y)) := by
  obtain ⟨_, rfl, A, c, rfl, hlc, hc⟩ := hx
  obtain ⟨_, rfl, A', c', rfl, hlc', hc'⟩ := hy
  have HC := Lib.hid hc
  have HC' := Lib.hid hc'
  have HE := Lib.hid (div_exact x y hy0 h)
  have hcase : decide (x < 0) = false ∨ (decide (x < 0) = true ∧ ¬ 0 < (limbs (x.natAbs % y.natAbs)).length) := by
    by_cases hxn : x < 0
    · right
      refine ⟨by simp [hxn], fun hh => h ⟨hxn, limbs_length_pos.1 hh⟩⟩
    · left; simp [hxn]
  have hym : 0 < y.natAbs := by omega
  generalize decide (x < 0) = na at *
  generalize decide (y < 0) = nb at *
  clear hc hc' h
  go_enter Tryz.func37, Tryz.ntmps37
  go_wp2_with fail
  have hbx := boxesD w na nb (.slice A (limbs x.natAbs).length c) (.slice A' (limbs y.natAbs).length c')
  generalize (((w.alloc (.cells #[.bool na, .slice A (limbs x.natAbs).length c] 62)).alloc (.cells #[.bool nb, .slice A' (limbs y.natAbs).length c'] 62)).alloc (.cells #[.bool false, .slice none 0 0] 62)).alloc (.cells #[.bool false, .slice none 0 0] 62) = W at *
  have HBX := Lib.hid hbx
  clear hbx
  refine (divide_any A A' x.natAbs y.natAbs c c' W (HC.out.below HBX.out.bel) (HC'.out.below HBX.out.bel) hlx hly hlc hym).mono ?_
  rintro e w2 ⟨vq, vr, rfl, hvq, hvr, hb2⟩
  obtain ⟨Ar, cr, rfl, hlr, hcr⟩ := hvr
  have HVQ := Lib.hid hvq
  have HVR := Lib.hid hcr
  have HBX2 := Lib.hid (HBX.out.below hb2)
  clear hvq hcr hb2
  have ha0 := HBX2.out.a0
  have hb0 := HBX2.out.b0
  have hql : (limbs (x.natAbs / y.natAbs)).length ≤ 1000000000 := Nat.le_trans (limbs_length_mono (Nat.div_le_self _ _)) (by omega)
  have hrl : (limbs (x.natAbs % y.natAbs)).length ≤ 1000000000 := Nat.le_trans (limbs_length_mono (Nat.mod_le _ _)) (by omega)
  rcases hcase with rfl | ⟨rfl, hz⟩
  all_goals (
    go_wp2_with fail
    refine (number_num _ vq _ w2 HVQ.out hql).mono ?_
    intro e w3 hret
    obtain ⟨A3, c3, rfl, hl3, hc3, hb3⟩ := hret.num
    have HC3 := Lib.hid hc3
    have HB3 := Lib.hid hb3
    have HBX3 := Lib.hid (HBX2.out.below hb3)
    clear hret hc3 hb3
    go_wp2_with fail
    refine (number_num false _ _ w3 (IsNat.mk hlr (HVR.out.below HB3.out)) hrl).mono ?_
    intro e w4 hret
    obtain ⟨A4, c4, rfl, hl4, hc4, hb4⟩ := hret.num
    have HC4 := Lib.hid hc4
    have HC34 := Lib.hid (HC3.out.below hb4)
    have HBX4 := Lib.hid (HBX3.out.below hb4)
    have hr0 := HBX4.out.r0.r0
    have hr1 := HBX4.out.r0.r1
    have hf0 := HBX4.out.r0.f 0
    have hf1 := HBX4.out.r0.f 1
    have hs0 := HBX4.out.r1.r0
    have hs1 := HBX4.out.r1.r1
    have hg0 := HBX4.out.r1.f 0
    have hg1 := HBX4.out.r1.f 1
    clear hret hc4 hb4
    go_wp2_with fail
    refine bodyPost_ret (v := .tuple #[.agg #[.bool _, .slice A3 _ c3], .agg #[.bool _, .slice A4 _ c4]]) (by simp [results, Tryz.results37, go_sem, hr0, hr1, hs0, hs1]; exact ⟨⟨rfl, rfl⟩, rfl, rfl⟩) rfl ?_
    exact end2 HBX4.out.r0 HBX4.out.r1 (by omega) HBX4.out.bel (by omega) (by omega) HC34.out hl3 HC4.out hl4 (by have := HE.out.1; cases nb <;> exact this) HE.out.2)

set_option maxRecDepth 100000 in
set_option maxHeartbeats 4000000 in
theorem Div_more (u v : Value) (x y : Int) (w : World) (hx : IsNum w u x) (hy : IsNum w v y) (hlx : (limbs x.natAbs).length ≤ 10000000) (hly : (limbs y.natAbs).length ≤ 10000000) (hy0 : y ≠ 0) (hxn : x < 0) (hrn : x.natAbs % y.natAbs ≠ 0) :
    Calls Tryz.prog 37 #[u, v] w (RetNum2 w (x / y) (x % y)) := by
  obtain ⟨_, rfl, A, c, rfl, hlc, hc⟩ := hx
  obtain ⟨_, rfl, A', c', rfl, hlc', hc'⟩ := hy
  have HC := Lib.hid hc
  have HC' := Lib.hid hc'
  have HE := Lib.hid (div_more x y hy0 hxn hrn)
  rw [show decide (x < 0) = true by simp [hxn]] at HE
  rw [show decide (x < 0) = true by simp [hxn]]
  have hz : 0 < (limbs (x.natAbs % y.natAbs)).length := limbs_length_pos.2 hrn
  have hz' : decide (0 < ((limbs (x.natAbs % y.natAbs)).length : Int)) = true := by simp; omega
  have hym : 0 < y.natAbs := by omega
  generalize decide (y < 0) = nb at *
  clear hc hc' hrn
  go_enter Tryz.func37, Tryz.ntmps37
  go_wp2_with fail
  have hbx := boxesD w true nb (.slice A (limbs x.natAbs).length c) (.slice A' (limbs y.natAbs).length c')
  generalize (((w.alloc (.cells #[.bool true, .slice A (limbs x.natAbs).length c] 62)).alloc (.cells #[.bool nb, .slice A' (limbs y.natAbs).length c'] 62)).alloc (.cells #[.bool false, .slice none 0 0] 62)).alloc (.cells #[.bool false, .slice none 0 0] 62) = W at *
  have HBX := Lib.hid hbx
  clear hbx
  refine (divide_any A A' x.natAbs y.natAbs c c' W (HC.out.below HBX.out.bel) (HC'.out.below HBX.out.bel) (by omega) (by omega) hlc hym).mono ?_
  rintro e w2 ⟨vq, vr, rfl, hvq, hvr, hb2⟩
  obtain ⟨Ar, cr, rfl, hlr, hcr⟩ := hvr
  obtain ⟨Aq, cq, rfl, hlq, hcq⟩ := hvq
  have HVQ := Lib.hid hcq
  have HVR := Lib.hid hcr
  have HBX2 := Lib.hid (HBX.out.below hb2)
  clear hcq hcr hb2 HBX
  have ha0 := HBX2.out.a0
  have hb0 := HBX2.out.b0
  have hb1 := HBX2.out.b1
  have hql : (limbs (x.natAbs / y.natAbs)).length ≤ 10000000 := Nat.le_trans (limbs_length_mono (Nat.div_le_self _ _)) (by omega)
  have hrl : (limbs (x.natAbs % y.natAbs)).length ≤ 10000000 := Nat.le_trans (limbs_length_mono (Nat.mod_le _ _)) (by omega)
  have hmle : x.natAbs % y.natAbs ≤ y.natAbs := Nat.le_of_lt (Nat.mod_lt _ hym)
  go_upto_region 3 with (fail)
  have HADD := Lib.hid (fun (V : World) (gg : Nat) (hV : Below w2.heap.size w2 V) (hg : Row .u64 V gg 88 [1]) => add_any Aq (some ⟨gg, 0, none⟩) (x.natAbs / y.natAbs) 1 cq 1 V (HVQ.out.below hV) (by rw [limbs_one (by omega) (by omega)]; exact hg.cells) (by omega) (by rw [limbs_one (by omega) (by omega)]; simp))
  rw [show limbs 1 = [1] from limbs_one (by omega) (by omega), show [1].length = 1 from rfl] at HADD
  have HSUB := Lib.hid (fun (V : World) (hV : Below w2.heap.size w2 V) => sub_any A' Ar y.natAbs (x.natAbs % y.natAbs) c' cr V (HC'.out.below (HBX2.out.bel.trans (hV.mono HBX2.out.bel.size))) (HVR.out.below hV) (by omega) hmle)
  have hsl := HBX2.out.size
  go_region_held3 (fun w' => w'.cell? ⟨w.heap.size + 1, 1, none⟩ = some (.slice A' (limbs y.natAbs).length c'))
    (first | exact HBX6.out.b1 | exact HBX5.out.b1 | exact HBXn.out.b1 | go_keep)
    (first | (go_at_call 64; have hbn : Below w2.heap.size w2 (w2.alloc (.cells #[.int .u64 1] 88)).drew := ((Below.refl _ _).alloc (Nat.le_refl _) _).drew; refine (HADD.out _ w2.heap.size (by exact hbn) (by exact Row.new .u64 w2 88 [1])).mono ?_; rintro e w5 ⟨v5, rfl, ⟨A5, c5, rfl, hl5, hc5⟩, hb5⟩; have HBX5 := Lib.hid ((HBX2.out.below hbn).below hb5); have HC5 := Lib.hid hc5; have HB5 := Lib.hid (hbn.trans (hb5.mono hbn.size)); clear hbn hc5 hb5) | (go_at_call 65; refine (HSUB.out _ (by exact HB5.out)).mono ?_; rintro e w6 ⟨v6, rfl, ⟨A6, c6, rfl, hl6, hc6⟩, hb6⟩; have HBX6 := Lib.hid (HBX5.out.below hb6); have HC6 := Lib.hid hc6; have HC56 := Lib.hid (HC5.out.below hb6); clear hc6 hb6))
  have ha0' := HBX6.out.a0
  have hb0' := HBX6.out.b0
  go_wp2_with fail
  refine (number_num _ _ _ w6 (IsNat.mk hl5 HC56.out) (Nat.le_trans (limbs_length_add _ _) (by rw [show limbs 1 = [1] from limbs_one (by omega) (by omega)]; simp; omega))).mono ?_
  intro e w3 hret
  obtain ⟨A3, c3, rfl, hl3, hc3, hb3⟩ := hret.num
  have HC3 := Lib.hid hc3
  have HB3 := Lib.hid hb3
  have HBX3 := Lib.hid (HBX6.out.below hb3)
  clear hret hc3 hb3
  go_wp2_with fail
  refine (number_num false _ _ w3 (IsNat.mk hl6 (HC6.out.below HB3.out)) (Nat.le_trans (limbs_length_mono (Nat.sub_le _ _)) (by omega))).mono ?_
  intro e w4 hret
  obtain ⟨A4, c4, rfl, hl4, hc4, hb4⟩ := hret.num
  have HC4 := Lib.hid hc4
  have HC34 := Lib.hid (HC3.out.below hb4)
  have HBX4 := Lib.hid (HBX3.out.below hb4)
  have hr0 := HBX4.out.r0.r0
  have hr1 := HBX4.out.r0.r1
  have hf0 := HBX4.out.r0.f 0
  have hf1 := HBX4.out.r0.f 1
  have hs0 := HBX4.out.r1.r0
  have hs1 := HBX4.out.r1.r1
  have hg0 := HBX4.out.r1.f 0
  have hg1 := HBX4.out.r1.f 1
  clear hret hc4 hb4
  go_wp2_with fail
  refine bodyPost_ret (v := .tuple #[.agg #[.bool _, .slice A3 _ c3], .agg #[.bool _, .slice A4 _ c4]]) (by simp [results, Tryz.results37, go_sem, hr0, hr1, hs0, hs1]; exact ⟨⟨rfl, rfl⟩, rfl, rfl⟩) rfl ?_
  exact end2 HBX4.out.r0 HBX4.out.r1 (by omega) HBX4.out.bel (by omega) (by omega) HC34.out hl3 HC4.out hl4 (by have := HE.out.1; cases nb <;> exact this) HE.out.2

theorem Div_any (u v : Value) (x y : Int) (w : World) (hx : IsNum w u x) (hy : IsNum w v y) (hlx : (limbs x.natAbs).length ≤ 10000000) (hly : (limbs y.natAbs).length ≤ 10000000) (hy0 : y ≠ 0) :
    Calls Tryz.prog 37 #[u, v] w (RetNum2 w (x / y) (x % y)) := by
  by_cases h : x < 0 ∧ x.natAbs % y.natAbs ≠ 0
  · exact Div_more u v x y w hx hy hlx hly hy0 h.1 h.2
  · exact Div_plain u v x y w hx hy (by omega) (by omega) hy0 h

end Go.Proofs.YtmickdolpgjbhaaGreatDoor
