/-
  Package joinlearnref01: Add and Sub of Bigs.
-/
import Derived.Test.YtmickdolpgjbhaaGreatDoorRefD
namespace Go.Proofs.YtmickdolpgjbhaaGreatDoor
open Go.RowKit

theorem sgnB_add (x y : Int) (h : decide (x < 0) = decide (y < 0)) : sgnB (decide (x < 0)) (x.natAbs + y.natAbs) = x + y := by
  unfold sgnB
  by_cases hx : x < 0
  · have hy : y < 0 := by have := h; simp [hx] at this; exact this
    simp [hx]; omega
  · have hy : ¬ y < 0 := by have := h; simp [hx] at this; omega
    simp [hx]; omega
theorem sgnB_sub (x y : Int) (h : decide (x < 0) ≠ decide (y < 0)) (hle : y.natAbs ≤ x.natAbs) : sgnB (decide (x < 0)) (x.natAbs - y.natAbs) = x + y := by
  unfold sgnB
  by_cases hx : x < 0
  · have hy : ¬ y < 0 := by intro hy; simp [hx, hy] at h
    simp [hx]; omega
  · have hy : y < 0 := by
      apply Decidable.byContradiction
      intro hy
      simp [hx, hy] at h
    simp [hx]; omega
theorem limbsB_add (a b : Nat) : (limbs (a + b)).length ≤ max (limbs a).length (limbs b).length + 1 := by
  apply limbs_length_le
  have h1 := Nat.lt_of_lt_of_le (limbs_lt a) (pow_mono (Nat.le_max_left (limbs a).length (limbs b).length))
  have h2 := Nat.lt_of_lt_of_le (limbs_lt b) (pow_mono (Nat.le_max_right (limbs a).length (limbs b).length))
  rw [Nat.pow_succ]
  generalize 1000000000 ^ max (limbs a).length (limbs b).length = P at *
  omega
theorem limbsB_mul (a b : Nat) : (limbs (a * b)).length ≤ (limbs a).length + (limbs b).length := by
  apply limbs_length_le
  rw [Nat.pow_add]
  exact Nat.mul_lt_mul'' (limbs_lt a) (limbs_lt b)

/-- Two Bigs that came in lie in boxes; a third box is for the result. -/
structure BB (w W : World) (n0 n1 : Bool) (s0 s1 : Value) : Prop where
  k0 : Blk W w.heap.size 51 [.bool n0, s0]
  k1 : Blk W (w.heap.size + 1) 51 [.bool n1, s1]
  k2 : Blk W (w.heap.size + 1 + 1) 51 [.bool false, .slice none 0 0]
  bel : Below w.heap.size w W
section
variable {w W W' : World} {n0 n1 : Bool} {s0 s1 : Value}
theorem BB.new (w : World) (n0 n1 : Bool) (s0 s1 : Value) : BB w (((w.alloc (.cells #[.bool n0, s0] 51)).alloc (.cells #[.bool n1, s1] 51)).alloc (.cells #[.bool false, .slice none 0 0] 51)) n0 n1 s0 s1 := by
  have h1 := (Blk.new (w.alloc (.cells #[.bool n0, s0] 51)) 51 [.bool n1, s1]).alloc (.cells #[.bool false, .slice none 0 0] 51)
  have h2 := Blk.new ((w.alloc (.cells #[.bool n0, s0] 51)).alloc (.cells #[.bool n1, s1] 51)) 51 [.bool false, .slice none 0 0]
  rw [World.size_alloc] at h1
  rw [World.size_alloc, World.size_alloc] at h2
  exact ⟨((Blk.new w 51 [.bool n0, s0]).alloc _).alloc _, h1, h2, (((Below.refl _ _).alloc (Nat.le_refl _) _).alloc (by simp) _).alloc (by simp; omega) _⟩
theorem BB.below (h : BB w W n0 n1 s0 s1) (hb : Below W.heap.size W W') : BB w W' n0 n1 s0 s1 :=
  ⟨h.k0.below hb, h.k1.below hb, h.k2.below hb, h.bel.trans (hb.mono (Nat.le_of_lt h.k0.lt))⟩
theorem BB.drew (h : BB w W n0 n1 s0 s1) : BB w W.drew n0 n1 s0 s1 := ⟨h.k0, h.k1, h.k2, h.bel.drew⟩
/-- The four cells of what came in. -/
abbrev FourB (w W : World) (n0 n1 : Bool) (s0 s1 : Value) : Prop := W.cell? ⟨w.heap.size, 0, none⟩ = some (.bool n0) ∧ W.cell? ⟨w.heap.size, 1, none⟩ = some s0 ∧ W.cell? ⟨w.heap.size + 1, 0, none⟩ = some (.bool n1) ∧ W.cell? ⟨w.heap.size + 1, 1, none⟩ = some s1
theorem BB.four (h : BB w W n0 n1 s0 s1) : FourB w W n0 n1 s0 s1 := ⟨h.k0.at_ rfl, h.k0.at_ rfl, h.k1.at_ rfl, h.k1.at_ rfl⟩
theorem BB.stored (h : BB w W n0 n1 s0 s1) (x y : Value) : FourB w ((W.setCell ⟨w.heap.size + 1 + 1, 0, none⟩ x).setCell ⟨w.heap.size + 1 + 1, 1, none⟩ y) n0 n1 s0 s1 := by
  have k0 := (h.k0.far (p := ⟨w.heap.size + 1 + 1, 0, none⟩) (by show w.heap.size ≠ w.heap.size + 1 + 1; omega) x).far (p := ⟨w.heap.size + 1 + 1, 1, none⟩) (by show w.heap.size ≠ w.heap.size + 1 + 1; omega) y
  have k1 := (h.k1.far (p := ⟨w.heap.size + 1 + 1, 0, none⟩) (by show w.heap.size + 1 ≠ w.heap.size + 1 + 1; omega) x).far (p := ⟨w.heap.size + 1 + 1, 1, none⟩) (by show w.heap.size + 1 ≠ w.heap.size + 1 + 1; omega) y
  exact ⟨k0.at_ rfl, k0.at_ rfl, k1.at_ rfl, k1.at_ rfl⟩
end
/-- Numbers don't lie in a block that holds none. -/
theorem Cells.aside {k : IntKind} {w : World} {A : Option Addr} {xs : List Nat} {g : Nat} {t : TypeId} {cs : List Value} (h : Cells k w A xs) (hg : Blk w g t cs) (hno : ∀ (i : Nat) (n : Int), cs[i]? ≠ some (.int k n)) (i : Nat) (u : Value) :
    Cells k (w.setCell ⟨g, i, none⟩ u) A xs := by
  intro hne
  obtain ⟨b, off, rfl, hb, hc⟩ := h hne
  have hbg : b ≠ g := by
    rintro rfl
    have h0 := hc 0 (by rcases xs with _ | ⟨x, xs⟩; exact absurd rfl hne; simp)
    rw [hg.cell] at h0
    exact hno _ _ h0
  refine ⟨b, off, rfl, by simpa [World.setCell] using hb, fun j hj => ?_⟩
  exact (World.cell?_of_block (w := w) (Below.heap_setCell w ⟨g, i, none⟩ u b hbg)).trans (hc j hj)
theorem noint2 {k : IntKind} {b : Bool} {A : Option Addr} {l c : Nat} : ∀ (i : Nat) (n : Int), ([.bool b, .slice A l c] : List Value)[i]? ≠ some (.int k n) := by
  intro i n
  match i with
  | 0 => simp
  | 1 => simp
  | i + 2 => simp
/-- How a function ends that stores a Big into its result's box. -/
theorem big_end {w W : World} {g : Nat} {A : Option Addr} {c : Nat} {x y : Int} (hk : Blk W g 51 [.bool false, .slice none 0 0]) (hb : Below w.heap.size w W) (hg : w.heap.size ≤ g) (hc : Cells .i64 W A (limbs x.natAbs)) (hl : (limbs x.natAbs).length ≤ c) (e : x = y) :
    RetBigN w y (.returned (.agg #[.bool (decide (x < 0)), .slice A (limbs x.natAbs).length c])) ((W.setCell ⟨g, 0, none⟩ (.bool (decide (x < 0)))).setCell ⟨g, 1, none⟩ (.slice A (limbs x.natAbs).length c)) := by
  subst e
  exact ⟨_, rfl, ⟨A, c, rfl, hl, (hc.aside hk noint2 0 _).aside (hk.set 0 _) noint2 1 _⟩, (hb.setCell (p := ⟨g, 0, none⟩) hg _).setCell (p := ⟨g, 1, none⟩) hg _⟩

set_option maxRecDepth 100000 in
set_option maxHeartbeats 2000000 in
theorem RAdd_same (u v : Value) (x y : Int) (w : World) (hx : IsBig w u x) (hy : IsBig w v y) (hlx : (limbs x.natAbs).length ≤ 100000000) (hly : (limbs y.natAbs).length ≤ 100000000) (hq : decide (x < 0) = decide (y < 0)) :
    Calls Tryz.prog 40 #[u, v] w (RetBigN w (x + y)) := by
  obtain ⟨A, c, rfl, hlc, hc⟩ := hx
  obtain ⟨A', c', rfl, hlc', hc'⟩ := hy
  have HC := Lib.hid hc
  have HC' := Lib.hid hc'
  have HQ := Lib.hid hq
  have hq' : (decide (x < 0) == decide (y < 0)) = true := by rw [hq]; simp
  clear hq
  generalize hna : decide (x < 0) = na at *
  generalize hnb : decide (y < 0) = nb at *
  have HNA := Lib.hid hna
  have HNB := Lib.hid hnb
  clear hc hc' hna hnb
  go_enter Tryz.func40, Tryz.ntmps40
  go_upto_region 1 with (fail)
  have hbx := BB.new w na nb (.slice A (limbs x.natAbs).length c) (.slice A' (limbs y.natAbs).length c')
  generalize ((w.alloc (.cells #[.bool na, .slice A (limbs x.natAbs).length c] 51)).alloc (.cells #[.bool nb, .slice A' (limbs y.natAbs).length c'] 51)).alloc (.cells #[.bool false, .slice none 0 0] 51) = W at *
  have HBX := Lib.hid hbx
  have h4 := hbx.four
  obtain ⟨ha0, ha1, hb0, hb1⟩ := h4
  have HM := Lib.hid (fun (V : World) (hV : Below w.heap.size w V) => rplus_any A A' x.natAbs y.natAbs c c' V (HC.out.below hV) (HC'.out.below hV) hlx hly)
  clear hbx
  go_wp2_with fail
  go_region_held3 (fun w' => w'.cell? ⟨w.heap.size, 0, none⟩ = some (.bool na) ∧ w'.cell? ⟨w.heap.size, 1, none⟩ = some (.slice A (limbs x.natAbs).length c) ∧ w'.cell? ⟨w.heap.size + 1, 0, none⟩ = some (.bool nb) ∧ w'.cell? ⟨w.heap.size + 1, 1, none⟩ = some (.slice A' (limbs y.natAbs).length c'))
    (first | exact HBX3.out.stored _ _ | exact HBX3.out.four | exact HBX2.out.four | go_keep)
    (first | (go_at_call 70; refine (HM.out _ (by exact HBX.out.drew.bel)).mono ?_; rintro e w2 ⟨v2, xs2, rfl, hv2, hlow2, hval2, hlen2, hb2⟩; have HV2 := Lib.hid hv2; obtain ⟨A2, c2, rfl, hl2, hc2⟩ := hv2; have HBX2 := Lib.hid (HBX.out.drew.below hb2); have HL2 := Lib.hid hlow2; have HE2 := Lib.hid hval2; clear hlow2 hval2 hb2 hl2 hc2) | (go_at_call 58; refine (rtrim_num _ _ _ _ _ HV2.out HL2.out HE2.out (by omega)).mono ?_; rintro e w3 ⟨v3, rfl, ⟨A3, c3, rfl, hl3, hs3⟩, hb3⟩; have HBX3 := Lib.hid (HBX2.out.below hb3); have HS3 := Lib.hid hs3; have hr0 : w3.cell? ⟨w.heap.size + 1 + 1, 0, none⟩ = some (.bool false) := HBX3.out.k2.at_ rfl; have hr1 : w3.cell? ⟨w.heap.size + 1 + 1, 1, none⟩ = some (.slice none 0 0) := HBX3.out.k2.at_ rfl; have hf0 := HBX3.out.k2.fr 0; have hf1 := HBX3.out.k2.fr 1; clear hb3 hs3))
  go_wp2_with fail
  refine bodyPost_ret (v := .agg #[.bool (decide (sgnB na (x.natAbs + y.natAbs) < 0)), .slice A3 (limbs (sgnB na (x.natAbs + y.natAbs)).natAbs).length c3]) (by simp [results, Tryz.results40, go_sem, hr0, hr1]) rfl ?_
  exact big_end HBX3.out.k2 HBX3.out.bel (by omega) HS3.out hl3 (by rw [← HNA.out, sgnB_add x y (by rw [HNA.out, HNB.out]; exact HQ.out)])

set_option maxRecDepth 100000 in
set_option maxHeartbeats 2000000 in
theorem RAdd_ge (u v : Value) (x y : Int) (w : World) (hx : IsBig w u x) (hy : IsBig w v y) (hlx : (limbs x.natAbs).length ≤ 100000000) (hly : (limbs y.natAbs).length ≤ 100000000) (hq : decide (x < 0) ≠ decide (y < 0)) (hle : y.natAbs ≤ x.natAbs) (h0 : 0 < x.natAbs) :
    Calls Tryz.prog 40 #[u, v] w (RetBigN w (x + y)) := by
  obtain ⟨A, c, rfl, hlc, hc⟩ := hx
  obtain ⟨A', c', rfl, hlc', hc'⟩ := hy
  have HC := Lib.hid hc
  have HC' := Lib.hid hc'
  have HQ := Lib.hid hq
  have hq' : (decide (x < 0) == decide (y < 0)) = false := by simp only [beq_eq_false_iff_ne]; exact hq
  clear hq
  obtain ⟨cm, hcm, hcm0⟩ : ∃ cm : Int, cm = cmpN x.natAbs y.natAbs ∧ 0 ≤ cm := ⟨_, rfl, by rcases Nat.lt_or_eq_of_le hle with h | h; (rw [cmpN_gt h]; omega); (rw [cmpN_eq h.symm]; omega)⟩
  have HCM := Lib.hid hcm
  clear hcm
  generalize hna : decide (x < 0) = na at *
  generalize hnb : decide (y < 0) = nb at *
  have HNA := Lib.hid hna
  have HNB := Lib.hid hnb
  clear hc hc' hna hnb
  go_enter Tryz.func40, Tryz.ntmps40
  go_upto_region 1 with (fail)
  have hbx := BB.new w na nb (.slice A (limbs x.natAbs).length c) (.slice A' (limbs y.natAbs).length c')
  generalize ((w.alloc (.cells #[.bool na, .slice A (limbs x.natAbs).length c] 51)).alloc (.cells #[.bool nb, .slice A' (limbs y.natAbs).length c'] 51)).alloc (.cells #[.bool false, .slice none 0 0] 51) = W at *
  have HBX := Lib.hid hbx
  have h4 := hbx.four
  obtain ⟨ha0, ha1, hb0, hb1⟩ := h4
  have HM := Lib.hid (fun (V : World) (hV : Below w.heap.size w V) => rminusL_any A A' x.natAbs y.natAbs c c' V (HC.out.below hV) (HC'.out.below hV) hlx hly hle h0)
  clear hbx
  have HCMP := Lib.hid (rsize_any A A' x.natAbs y.natAbs c c' W (HC.out.below HBX.out.bel) (HC'.out.below HBX.out.bel) (by omega) (by omega))
  rw [← HCM.out] at HCMP
  go_wp2_with fail
  refine HCMP.out.mono ?_
  rintro e w' ⟨rfl, hbs⟩
  clear HCMP
  have HBXm := HBX.out.below hbs
  clear HBX hbs ha0 ha1 hb0 hb1
  have HBX := Lib.hid HBXm
  obtain ⟨ha0, ha1, hb0, hb1⟩ := HBXm.four
  clear HBXm
  go_wp2_with fail
  go_region_held3 (fun w' => w'.cell? ⟨w.heap.size, 0, none⟩ = some (.bool na) ∧ w'.cell? ⟨w.heap.size, 1, none⟩ = some (.slice A (limbs x.natAbs).length c) ∧ w'.cell? ⟨w.heap.size + 1, 0, none⟩ = some (.bool nb) ∧ w'.cell? ⟨w.heap.size + 1, 1, none⟩ = some (.slice A' (limbs y.natAbs).length c'))
    (first | exact HBX3.out.stored _ _ | exact HBX3.out.four | exact HBX2.out.four | go_keep)
    (first | (go_at_call 69; refine (HM.out _ (by exact HBX.out.drew.bel)).mono ?_; rintro e w2 ⟨v2, xs2, rfl, hv2, hlow2, hval2, hlen2, hb2⟩; have HV2 := Lib.hid hv2; obtain ⟨A2, c2, rfl, hl2, hc2⟩ := hv2; have HBX2 := Lib.hid (HBX.out.drew.below hb2); have HL2 := Lib.hid hlow2; have HE2 := Lib.hid hval2; clear hlow2 hval2 hb2 hl2 hc2) | (go_at_call 58; refine (rtrim_num _ _ _ _ _ HV2.out HL2.out HE2.out (by omega)).mono ?_; rintro e w3 ⟨v3, rfl, ⟨A3, c3, rfl, hl3, hs3⟩, hb3⟩; have HBX3 := Lib.hid (HBX2.out.below hb3); have HS3 := Lib.hid hs3; have hr0 : w3.cell? ⟨w.heap.size + 1 + 1, 0, none⟩ = some (.bool false) := HBX3.out.k2.at_ rfl; have hr1 : w3.cell? ⟨w.heap.size + 1 + 1, 1, none⟩ = some (.slice none 0 0) := HBX3.out.k2.at_ rfl; have hf0 := HBX3.out.k2.fr 0; have hf1 := HBX3.out.k2.fr 1; clear hb3 hs3))
  go_wp2_with fail
  refine bodyPost_ret (v := .agg #[.bool (decide (sgnB na (x.natAbs - y.natAbs) < 0)), .slice A3 (limbs (sgnB na (x.natAbs - y.natAbs)).natAbs).length c3]) (by simp [results, Tryz.results40, go_sem, hr0, hr1]) rfl ?_
  exact big_end HBX3.out.k2 HBX3.out.bel (by omega) HS3.out hl3 (by rw [← HNA.out, sgnB_sub x y (by rw [HNA.out, HNB.out]; exact HQ.out) hle])

set_option maxRecDepth 100000 in
set_option maxHeartbeats 2000000 in
theorem RAdd_lt (u v : Value) (x y : Int) (w : World) (hx : IsBig w u x) (hy : IsBig w v y) (hlx : (limbs x.natAbs).length ≤ 100000000) (hly : (limbs y.natAbs).length ≤ 100000000) (hq : decide (x < 0) ≠ decide (y < 0)) (hle : x.natAbs < y.natAbs) :
    Calls Tryz.prog 40 #[u, v] w (RetBigN w (x + y)) := by
  obtain ⟨A, c, rfl, hlc, hc⟩ := hx
  obtain ⟨A', c', rfl, hlc', hc'⟩ := hy
  have HC := Lib.hid hc
  have HC' := Lib.hid hc'
  have HQ := Lib.hid hq
  have hq' : (decide (x < 0) == decide (y < 0)) = false := by simp only [beq_eq_false_iff_ne]; exact hq
  clear hq
  obtain ⟨cm, hcm, hcm0⟩ : ∃ cm : Int, cm = cmpN x.natAbs y.natAbs ∧ cm < 0 := ⟨_, rfl, by rw [cmpN_lt hle]; omega⟩
  have HCM := Lib.hid hcm
  clear hcm
  generalize hna : decide (x < 0) = na at *
  generalize hnb : decide (y < 0) = nb at *
  have HNA := Lib.hid hna
  have HNB := Lib.hid hnb
  clear hc hc' hna hnb
  go_enter Tryz.func40, Tryz.ntmps40
  go_upto_region 1 with (fail)
  have hbx := BB.new w na nb (.slice A (limbs x.natAbs).length c) (.slice A' (limbs y.natAbs).length c')
  generalize ((w.alloc (.cells #[.bool na, .slice A (limbs x.natAbs).length c] 51)).alloc (.cells #[.bool nb, .slice A' (limbs y.natAbs).length c'] 51)).alloc (.cells #[.bool false, .slice none 0 0] 51) = W at *
  have HBX := Lib.hid hbx
  have h4 := hbx.four
  obtain ⟨ha0, ha1, hb0, hb1⟩ := h4
  have HM := Lib.hid (fun (V : World) (hV : Below w.heap.size w V) => rminusL_any A' A y.natAbs x.natAbs c' c V (HC'.out.below hV) (HC.out.below hV) hly hlx (Nat.le_of_lt hle) (by omega))
  clear hbx
  have HCMP := Lib.hid (rsize_any A A' x.natAbs y.natAbs c c' W (HC.out.below HBX.out.bel) (HC'.out.below HBX.out.bel) (by omega) (by omega))
  rw [← HCM.out] at HCMP
  go_wp2_with fail
  refine HCMP.out.mono ?_
  rintro e w' ⟨rfl, hbs⟩
  clear HCMP
  have HBXm := HBX.out.below hbs
  clear HBX hbs ha0 ha1 hb0 hb1
  have HBX := Lib.hid HBXm
  obtain ⟨ha0, ha1, hb0, hb1⟩ := HBXm.four
  clear HBXm
  go_wp2_with fail
  go_region_held3 (fun w' => w'.cell? ⟨w.heap.size, 0, none⟩ = some (.bool na) ∧ w'.cell? ⟨w.heap.size, 1, none⟩ = some (.slice A (limbs x.natAbs).length c) ∧ w'.cell? ⟨w.heap.size + 1, 0, none⟩ = some (.bool nb) ∧ w'.cell? ⟨w.heap.size + 1, 1, none⟩ = some (.slice A' (limbs y.natAbs).length c'))
    (first | exact HBX3.out.stored _ _ | exact HBX3.out.four | exact HBX2.out.four | go_keep)
    (first | (go_at_call 69; refine (HM.out _ (by exact HBX.out.drew.bel)).mono ?_; rintro e w2 ⟨v2, xs2, rfl, hv2, hlow2, hval2, hlen2, hb2⟩; have HV2 := Lib.hid hv2; obtain ⟨A2, c2, rfl, hl2, hc2⟩ := hv2; have HBX2 := Lib.hid (HBX.out.drew.below hb2); have HL2 := Lib.hid hlow2; have HE2 := Lib.hid hval2; clear hlow2 hval2 hb2 hl2 hc2) | (go_at_call 58; refine (rtrim_num _ _ _ _ _ HV2.out HL2.out HE2.out (by omega)).mono ?_; rintro e w3 ⟨v3, rfl, ⟨A3, c3, rfl, hl3, hs3⟩, hb3⟩; have HBX3 := Lib.hid (HBX2.out.below hb3); have HS3 := Lib.hid hs3; have hr0 : w3.cell? ⟨w.heap.size + 1 + 1, 0, none⟩ = some (.bool false) := HBX3.out.k2.at_ rfl; have hr1 : w3.cell? ⟨w.heap.size + 1 + 1, 1, none⟩ = some (.slice none 0 0) := HBX3.out.k2.at_ rfl; have hf0 := HBX3.out.k2.fr 0; have hf1 := HBX3.out.k2.fr 1; clear hb3 hs3))
  go_wp2_with fail
  refine bodyPost_ret (v := .agg #[.bool (decide (sgnB nb (y.natAbs - x.natAbs) < 0)), .slice A3 (limbs (sgnB nb (y.natAbs - x.natAbs)).natAbs).length c3]) (by simp [results, Tryz.results40, go_sem, hr0, hr1]) rfl ?_
  exact big_end HBX3.out.k2 HBX3.out.bel (by omega) HS3.out hl3 (by rw [← HNB.out, sgnB_sub y x (by rw [HNA.out, HNB.out]; exact Ne.symm HQ.out) (Nat.le_of_lt hle), Int.add_comm])

theorem RAdd_any (u v : Value) (x y : Int) (w : World) (hx : IsBig w u x) (hy : IsBig w v y) (hlx : (limbs x.natAbs).length ≤ 100000000) (hly : (limbs y.natAbs).length ≤ 100000000) :
    Calls Tryz.prog 40 #[u, v] w (RetBigN w (x + y)) := by
  by_cases hq : decide (x < 0) = decide (y < 0)
  · exact RAdd_same u v x y w hx hy hlx hly hq
  · rcases Nat.lt_or_ge x.natAbs y.natAbs with h | h
    · exact RAdd_lt u v x y w hx hy hlx hly hq h
    · refine RAdd_ge u v x y w hx hy hlx hly hq h ?_
      rcases Nat.eq_zero_or_pos x.natAbs with e | e
      · exfalso
        have hx0 : x = 0 := by omega
        have hy0 : y = 0 := by omega
        rw [hx0, hy0] at hq
        exact hq rfl
      · exact e

set_option maxRecDepth 100000 in
set_option maxHeartbeats 2000000 in
theorem RSub_any (u v : Value) (x y : Int) (w : World) (hx : IsBig w u x) (hy : IsBig w v y) (hlx : (limbs x.natAbs).length ≤ 100000000) (hly : (limbs y.natAbs).length ≤ 100000000) :
    Calls Tryz.prog 42 #[u, v] w (RetBigN w (x - y)) := by
  have HXB := Lib.hid hx
  have HYB := Lib.hid hy
  obtain ⟨A, c, rfl, hlc, hc⟩ := hx
  obtain ⟨A', c', rfl, hlc', hc'⟩ := hy
  clear hc hc'
  generalize decide (x < 0) = na at *
  generalize decide (y < 0) = nb at *
  go_enter Tryz.func42, Tryz.ntmps42
  go_upto_region 1 with (fail)
  have hbx := BB.new w na nb (.slice A (limbs x.natAbs).length c) (.slice A' (limbs y.natAbs).length c')
  generalize ((w.alloc (.cells #[.bool na, .slice A (limbs x.natAbs).length c] 51)).alloc (.cells #[.bool nb, .slice A' (limbs y.natAbs).length c'] 51)).alloc (.cells #[.bool false, .slice none 0 0] 51) = W at *
  have HBX := Lib.hid hbx
  obtain ⟨ha0, ha1, hb0, hb1⟩ := hbx.four
  clear hbx
  have HM := Lib.hid (fun (V : World) (hV : Below w.heap.size w V) => rminus_any _ y V (HYB.out.below hV) (by omega))
  go_region_held3 (fun w' => w'.cell? ⟨w.heap.size, 0, none⟩ = some (.bool na) ∧ w'.cell? ⟨w.heap.size, 1, none⟩ = some (.slice A (limbs x.natAbs).length c) ∧ w'.cell? ⟨w.heap.size + 1, 0, none⟩ = some (.bool nb) ∧ w'.cell? ⟨w.heap.size + 1, 1, none⟩ = some (.slice A' (limbs y.natAbs).length c'))
    (first | exact HBX3.out.stored _ _ | exact HBX3.out.four | exact HBX2.out.four | go_keep)
    (first | (go_at_call 71; refine (HM.out _ (by exact HBX.out.drew.bel)).mono ?_; rintro e w2 ⟨v2, rfl, hv2, hb2⟩; have HV2 := Lib.hid hv2; have HBX2 := Lib.hid (HBX.out.drew.below hb2); clear hv2 hb2) | (go_at_call 40; refine (RAdd_any _ _ x (-y) _ (HXB.out.below HBX2.out.bel) HV2.out hlx (by rw [Int.natAbs_neg]; exact hly)).mono ?_; rintro e w3 ⟨v3, rfl, ⟨A3, c3, rfl, hl3, hs3⟩, hb3⟩; have HBX3 := Lib.hid (HBX2.out.below hb3); have HS3 := Lib.hid hs3; have hr0 : w3.cell? ⟨w.heap.size + 1 + 1, 0, none⟩ = some (.bool false) := HBX3.out.k2.at_ rfl; have hr1 : w3.cell? ⟨w.heap.size + 1 + 1, 1, none⟩ = some (.slice none 0 0) := HBX3.out.k2.at_ rfl; have hf0 := HBX3.out.k2.fr 0; have hf1 := HBX3.out.k2.fr 1; clear hb3 hs3))
  go_wp2_with fail
  refine bodyPost_ret (v := .agg #[.bool (decide (x + -y < 0)), .slice A3 (limbs (x + -y).natAbs).length c3]) (by simp [results, Tryz.results42, go_sem, hr0, hr1]) rfl ?_
  exact big_end HBX3.out.k2 HBX3.out.bel (by omega) HS3.out hl3 (by omega)

end Go.Proofs.YtmickdolpgjbhaaGreatDoor
