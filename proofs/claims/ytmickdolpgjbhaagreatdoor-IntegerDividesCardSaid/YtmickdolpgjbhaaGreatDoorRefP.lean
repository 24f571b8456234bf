/-
  Package joinlearnref01: Compare, both, and the operations over texts.
-/
import Derived.Test.YtmickdolpgjbhaaGreatDoorRefO
namespace Go.Proofs.YtmickdolpgjbhaaGreatDoor
open Go.RowKit

set_option maxRecDepth 100000 in
set_option maxHeartbeats 1000000 in
theorem RCompare_ok (x y : Int) (w : World) (hfx : Fits x) (hfy : Fits y) : Calls Tryz.prog 27 #[.string (str x), .string (str y)] w fun e w' => e = .returned (.int .i64 (sg (x - y))) ∧ Below w.heap.size w w' := by
  have HFX := Lib.hid hfx
  have HFY := Lib.hid hfy
  have hlx := hfx.len
  have hly := hfy.len
  have hdx : (Lib.decDigits x.natAbs).length ≤ 1000000 := by unfold Fits at hfx; omega
  have hdy : (Lib.decDigits y.natAbs).length ≤ 1000000 := by unfold Fits at hfy; omega
  clear hfx hfy
  go_enter Tryz.func27, Tryz.ntmps27
  go_wp2_with fail
  refine (RValid_ok x w HFX.out).mono ?_
  rintro e w1 ⟨rfl, hb1⟩
  have HB1 := Lib.hid hb1
  clear hb1
  go_wp2_with fail
  refine (RValid_ok y w1 HFY.out).mono ?_
  rintro e w2 ⟨rfl, hb2⟩
  have HB2 := Lib.hid (HB1.out.trans (hb2.mono HB1.out.size))
  clear hb2
  go_wp2_with fail
  refine (RRead_any x w2 hdx).mono ?_
  rintro e w3 ⟨v3, rfl, hv3, hb3⟩
  have HV3 := Lib.hid hv3
  have HB3 := Lib.hid (HB2.out.trans (hb3.mono HB2.out.size))
  clear hv3 hb3
  go_wp2_with fail
  refine (RRead_any y w3 hdy).mono ?_
  rintro e w4 ⟨v4, rfl, hv4, hb4⟩
  have HV4 := Lib.hid hv4
  have HV34 := Lib.hid (HV3.out.below hb4)
  have HB4 := Lib.hid (HB3.out.trans (hb4.mono HB3.out.size))
  clear hv4 hb4
  go_wp2_with fail
  refine (RCmp_any v3 v4 x y w4 HV34.out HV4.out (by omega) (by omega)).mono ?_
  rintro e w5 ⟨rfl, hb5⟩
  have HB5 := Lib.hid (HB4.out.trans (hb5.mono HB4.out.size))
  clear hb5
  go_wp2_with fail
  go_ret
  exact ⟨rfl, HB5.out⟩


set_option maxRecDepth 100000 in
set_option maxHeartbeats 1000000 in
theorem RCompare_bad (l m : List UInt8) (w : World) (hl : l.length ≤ 140737488355328) (hm : m.length ≤ 140737488355328) (h : (validB l && validB m) = false) :
    Calls Tryz.prog 27 #[.string ⟨l.toArray⟩, .string ⟨m.toArray⟩] w fun e w' => e = .returned (.int .i64 0) ∧ Below w.heap.size w w' := by
  have HV := Lib.hid (RValid_any l w hl)
  cases h1 : validB l
  · rw [h1] at HV
    clear h1 h
    go_enter Tryz.func27, Tryz.ntmps27
    go_wp2_with fail
    refine HV.out.mono ?_
    rintro e w1 ⟨rfl, hb1⟩
    have HB1 := Lib.hid hb1
    clear hb1
    go_wp2_with fail
    go_ret
    exact ⟨rfl, HB1.out⟩
  · have h2 : validB m = false := by rw [h1] at h; simpa using h
    have HV2 := Lib.hid (fun W => RValid_any m W hm)
    rw [h1] at HV
    rw [h2] at HV2
    clear h1 h2 h
    go_enter Tryz.func27, Tryz.ntmps27
    go_wp2_with fail
    refine HV.out.mono ?_
    rintro e w1 ⟨rfl, hb1⟩
    have HB1 := Lib.hid hb1
    clear hb1
    go_wp2_with fail
    refine (HV2.out w1).mono ?_
    rintro e w2 ⟨rfl, hb2⟩
    have HB2 := Lib.hid (HB1.out.trans (hb2.mono HB1.out.size))
    clear hb2
    go_wp2_with fail
    go_ret
    exact ⟨rfl, HB2.out⟩

/-- The two boxes for the results of a function, after what was done meanwhile. -/
structure R2 (w W : World) : Prop where
  k0 : Blk W w.heap.size 51 [.bool false, .slice none 0 0]
  k1 : Blk W (w.heap.size + 1) 51 [.bool false, .slice none 0 0]
  bel : Below w.heap.size w W
theorem R2.new (w : World) : R2 w ((w.alloc (.cells #[.bool false, .slice none 0 0] 51)).alloc (.cells #[.bool false, .slice none 0 0] 51)) := by
  have h1 := Blk.new (w.alloc (.cells #[.bool false, .slice none 0 0] 51)) 51 [.bool false, .slice none 0 0]
  rw [World.size_alloc] at h1
  exact ⟨(Blk.new w 51 [.bool false, .slice none 0 0]).alloc _, h1, ((Below.refl _ _).alloc (Nat.le_refl _) _).alloc (by simp) _⟩
theorem R2.below {w W W' : World} (h : R2 w W) (hb : Below W.heap.size W W') : R2 w W' := ⟨h.k0.below hb, h.k1.below hb, h.bel.trans (hb.mono (Nat.le_of_lt h.k0.lt))⟩
theorem R2.end_ {w W : World} {A A' : Option Addr} {c c' : Nat} {x y : Int} (h : R2 w W) (hc : Cells .i64 W A (limbs x.natAbs)) (hl : (limbs x.natAbs).length ≤ c) (hc' : Cells .i64 W A' (limbs y.natAbs)) (hl' : (limbs y.natAbs).length ≤ c') :
    IsBig ((((W.setCell ⟨w.heap.size, 0, none⟩ (.bool (decide (x < 0)))).setCell ⟨w.heap.size, 1, none⟩ (.slice A (limbs x.natAbs).length c)).setCell ⟨w.heap.size + 1, 0, none⟩ (.bool (decide (y < 0)))).setCell ⟨w.heap.size + 1, 1, none⟩ (.slice A' (limbs y.natAbs).length c')) (.agg #[.bool (decide (x < 0)), .slice A (limbs x.natAbs).length c]) x ∧
    IsBig ((((W.setCell ⟨w.heap.size, 0, none⟩ (.bool (decide (x < 0)))).setCell ⟨w.heap.size, 1, none⟩ (.slice A (limbs x.natAbs).length c)).setCell ⟨w.heap.size + 1, 0, none⟩ (.bool (decide (y < 0)))).setCell ⟨w.heap.size + 1, 1, none⟩ (.slice A' (limbs y.natAbs).length c')) (.agg #[.bool (decide (y < 0)), .slice A' (limbs y.natAbs).length c']) y ∧
    Below w.heap.size w ((((W.setCell ⟨w.heap.size, 0, none⟩ (.bool (decide (x < 0)))).setCell ⟨w.heap.size, 1, none⟩ (.slice A (limbs x.natAbs).length c)).setCell ⟨w.heap.size + 1, 0, none⟩ (.bool (decide (y < 0)))).setCell ⟨w.heap.size + 1, 1, none⟩ (.slice A' (limbs y.natAbs).length c')) := by
  have k1 := (h.k1.far (p := ⟨w.heap.size, 0, none⟩) (by show w.heap.size + 1 ≠ w.heap.size; omega) (.bool (decide (x < 0)))).far (p := ⟨w.heap.size, 1, none⟩) (by show w.heap.size + 1 ≠ w.heap.size; omega) (.slice A (limbs x.natAbs).length c)
  have go : ∀ (B : Option Addr) (xs : List Nat), Cells .i64 W B xs → Cells .i64 ((((W.setCell ⟨w.heap.size, 0, none⟩ (.bool (decide (x < 0)))).setCell ⟨w.heap.size, 1, none⟩ (.slice A (limbs x.natAbs).length c)).setCell ⟨w.heap.size + 1, 0, none⟩ (.bool (decide (y < 0)))).setCell ⟨w.heap.size + 1, 1, none⟩ (.slice A' (limbs y.natAbs).length c')) B xs :=
    fun B xs hB => (((hB.aside h.k0 noint2 0 _).aside (h.k0.set 0 _) noint2 1 _).aside k1 noint2 0 _).aside (k1.set 0 _) noint2 1 _
  exact ⟨⟨A, c, rfl, hl, go _ _ hc⟩, ⟨A', c', rfl, hl', go _ _ hc'⟩, (((h.bel.setCell (p := ⟨w.heap.size, 0, none⟩) (Nat.le_refl _) _).setCell (p := ⟨w.heap.size, 1, none⟩) (Nat.le_refl _) _).setCell (p := ⟨w.heap.size + 1, 0, none⟩) (Nat.le_succ _) _).setCell (p := ⟨w.heap.size + 1, 1, none⟩) (Nat.le_succ _) _⟩

set_option maxRecDepth 100000 in
set_option maxHeartbeats 2000000 in
theorem both_ok (x y : Int) (w : World) (hfx : Fits x) (hfy : Fits y) : Calls Tryz.prog 31 #[.string (str x), .string (str y)] w fun e w' => ∃ u v, e = .returned (.tuple #[u, v, .bool true]) ∧ IsBig w' u x ∧ IsBig w' v y ∧ Below w.heap.size w w' := by
  have HFX := Lib.hid hfx
  have HFY := Lib.hid hfy
  have hdx : (Lib.decDigits x.natAbs).length ≤ 1000000 := by unfold Fits at hfx; omega
  have hdy : (Lib.decDigits y.natAbs).length ≤ 1000000 := by unfold Fits at hfy; omega
  clear hfx hfy
  go_enter Tryz.func31, Tryz.ntmps31
  go_wp2_with fail
  have hr := R2.new w
  generalize (w.alloc (.cells #[.bool false, .slice none 0 0] 51)).alloc (.cells #[.bool false, .slice none 0 0] 51) = W at *
  have HR0 := Lib.hid hr
  clear hr
  refine (RValid_ok x W HFX.out).mono ?_
  rintro e w1 ⟨rfl, hb1⟩
  have HR1 := Lib.hid (HR0.out.below hb1)
  clear hb1
  go_wp2_with fail
  refine (RValid_ok y w1 HFY.out).mono ?_
  rintro e w2 ⟨rfl, hb2⟩
  have HR2 := Lib.hid (HR1.out.below hb2)
  clear hb2
  go_wp2_with fail
  refine (RRead_any x w2 hdx).mono ?_
  rintro e w3 ⟨v3, rfl, ⟨A3, c3, rfl, hl3, hc3⟩, hb3⟩
  have HC3 := Lib.hid hc3
  have HR3 := Lib.hid (HR2.out.below hb3)
  clear hc3 hb3
  go_wp2_with fail
  refine (RRead_any y w3 hdy).mono ?_
  rintro e w4 ⟨v4, rfl, ⟨A4, c4, rfl, hl4, hc4⟩, hb4⟩
  have HC4 := Lib.hid hc4
  have HC34 := Lib.hid (HC3.out.below hb4)
  have HR4 := Lib.hid (HR3.out.below hb4)
  clear hc4 hb4
  have hr0 : w4.cell? ⟨w.heap.size, 0, none⟩ = some (.bool false) := HR4.out.k0.at_ rfl
  have hr1 : w4.cell? ⟨w.heap.size, 1, none⟩ = some (.slice none 0 0) := HR4.out.k0.at_ rfl
  have hf0 := HR4.out.k0.fr 0
  have hf1 := HR4.out.k0.fr 1
  have hs0 : w4.cell? ⟨w.heap.size + 1, 0, none⟩ = some (.bool false) := HR4.out.k1.at_ rfl
  have hs1 : w4.cell? ⟨w.heap.size + 1, 1, none⟩ = some (.slice none 0 0) := HR4.out.k1.at_ rfl
  have hg0 := HR4.out.k1.fr 0
  have hg1 := HR4.out.k1.fr 1
  go_wp2_with fail
  refine bodyPost_ret (v := .tuple #[.agg #[.bool (decide (x < 0)), .slice A3 (limbs x.natAbs).length c3], .agg #[.bool (decide (y < 0)), .slice A4 (limbs y.natAbs).length c4], .bool true]) (by simp [results, Tryz.results31, go_sem, hr0, hr1, hs0, hs1]) rfl ?_
  have hend := HR4.out.end_ HC34.out hl3 HC4.out hl4
  exact ⟨_, _, rfl, hend⟩

set_option maxRecDepth 100000 in
set_option maxHeartbeats 2000000 in
theorem both_bad (l m : List UInt8) (w : World) (hl : l.length ≤ 140737488355328) (hm : m.length ≤ 140737488355328) (h : (validB l && validB m) = false) :
    Calls Tryz.prog 31 #[.string ⟨l.toArray⟩, .string ⟨m.toArray⟩] w fun e w' => e = .returned (.tuple #[.agg #[.bool false, .slice none 0 0], .agg #[.bool false, .slice none 0 0], .bool false]) ∧ Below w.heap.size w w' := by
  have HV := Lib.hid (fun W => RValid_any l W hl)
  cases h1 : validB l
  · rw [h1] at HV
    clear h1 h
    go_enter Tryz.func31, Tryz.ntmps31
    go_wp2_with fail
    have hr := R2.new w
    generalize (w.alloc (.cells #[.bool false, .slice none 0 0] 51)).alloc (.cells #[.bool false, .slice none 0 0] 51) = W at *
    have HR0 := Lib.hid hr
    clear hr
    refine (HV.out W).mono ?_
    rintro e w4 ⟨rfl, hb1⟩
    have HR4 := Lib.hid (HR0.out.below hb1)
    clear hb1
    have hr0 : w4.cell? ⟨w.heap.size, 0, none⟩ = some (.bool false) := HR4.out.k0.at_ rfl
    have hr1 : w4.cell? ⟨w.heap.size, 1, none⟩ = some (.slice none 0 0) := HR4.out.k0.at_ rfl
    have hf0 := HR4.out.k0.fr 0
    have hf1 := HR4.out.k0.fr 1
    have hs0 : w4.cell? ⟨w.heap.size + 1, 0, none⟩ = some (.bool false) := HR4.out.k1.at_ rfl
    have hs1 : w4.cell? ⟨w.heap.size + 1, 1, none⟩ = some (.slice none 0 0) := HR4.out.k1.at_ rfl
    have hg0 := HR4.out.k1.fr 0
    have hg1 := HR4.out.k1.fr 1
    go_wp2_with fail
    refine bodyPost_ret (v := .tuple #[.agg #[.bool false, .slice none 0 0], .agg #[.bool false, .slice none 0 0], .bool false]) (by simp [results, Tryz.results31, go_sem, hr0, hr1, hs0, hs1]) rfl ?_
    exact ⟨rfl, (((HR4.out.bel.setCell (p := ⟨w.heap.size, 0, none⟩) (Nat.le_refl _) _).setCell (p := ⟨w.heap.size, 1, none⟩) (Nat.le_refl _) _).setCell (p := ⟨w.heap.size + 1, 0, none⟩) (Nat.le_succ _) _).setCell (p := ⟨w.heap.size + 1, 1, none⟩) (Nat.le_succ _) _⟩
  · have h2 : validB m = false := by rw [h1] at h; simpa using h
    have HV2 := Lib.hid (fun W => RValid_any m W hm)
    rw [h1] at HV
    rw [h2] at HV2
    clear h1 h2 h
    go_enter Tryz.func31, Tryz.ntmps31
    go_wp2_with fail
    have hr := R2.new w
    generalize (w.alloc (.cells #[.bool false, .slice none 0 0] 51)).alloc (.cells #[.bool false, .slice none 0 0] 51) = W at *
    have HR0 := Lib.hid hr
    clear hr
    refine (HV.out W).mono ?_
    rintro e w1 ⟨rfl, hb1⟩
    have HR1 := Lib.hid (HR0.out.below hb1)
    clear hb1
    go_wp2_with fail
    refine (HV2.out w1).mono ?_
    rintro e w4 ⟨rfl, hb2⟩
    have HR4 := Lib.hid (HR1.out.below hb2)
    clear hb2
    have hr0 : w4.cell? ⟨w.heap.size, 0, none⟩ = some (.bool false) := HR4.out.k0.at_ rfl
    have hr1 : w4.cell? ⟨w.heap.size, 1, none⟩ = some (.slice none 0 0) := HR4.out.k0.at_ rfl
    have hf0 := HR4.out.k0.fr 0
    have hf1 := HR4.out.k0.fr 1
    have hs0 : w4.cell? ⟨w.heap.size + 1, 0, none⟩ = some (.bool false) := HR4.out.k1.at_ rfl
    have hs1 : w4.cell? ⟨w.heap.size + 1, 1, none⟩ = some (.slice none 0 0) := HR4.out.k1.at_ rfl
    have hg0 := HR4.out.k1.fr 0
    have hg1 := HR4.out.k1.fr 1
    go_wp2_with fail
    refine bodyPost_ret (v := .tuple #[.agg #[.bool false, .slice none 0 0], .agg #[.bool false, .slice none 0 0], .bool false]) (by simp [results, Tryz.results31, go_sem, hr0, hr1, hs0, hs1]) rfl ?_
    exact ⟨rfl, (((HR4.out.bel.setCell (p := ⟨w.heap.size, 0, none⟩) (Nat.le_refl _) _).setCell (p := ⟨w.heap.size, 1, none⟩) (Nat.le_refl _) _).setCell (p := ⟨w.heap.size + 1, 0, none⟩) (Nat.le_succ _) _).setCell (p := ⟨w.heap.size + 1, 1, none⟩) (Nat.le_succ _) _⟩


set_option maxRecDepth 100000 in
set_option maxHeartbeats 1000000 in
theorem RAddT_ok (x y : Int) (w : World) (hfx : Fits x) (hfy : Fits y) : Calls Tryz.prog 13 #[.string (str x), .string (str y)] w fun e w' => e = .returned (.tuple #[.string (outS (x + y)), .int .i64 (outE (x + y))]) ∧ Below w.heap.size w w' := by
  have HBO := Lib.hid (both_ok x y w hfx hfy)
  have hlx := hfx.len
  have hly := hfy.len
  clear hfx hfy
  go_enter Tryz.func13, Tryz.ntmps13
  go_wp2_with fail
  refine HBO.out.mono ?_
  rintro e w1 ⟨u1, v1, rfl, hu1, hv1, hb1⟩
  have HU1 := Lib.hid hu1
  have HV1 := Lib.hid hv1
  have HB1 := Lib.hid hb1
  obtain ⟨A, c, rfl, hlc, hc⟩ := hu1
  obtain ⟨A', c', rfl, hlc', hc'⟩ := hv1
  generalize decide (x < 0) = na at *
  generalize decide (y < 0) = nb at *
  clear hc hc' hb1 HBO
  have HW : Hid (Below w1.heap.size w1 ((w1.alloc (.cells #[.bool na, .slice A (limbs x.natAbs).length c] 51)).alloc (.cells #[.bool nb, .slice A' (limbs y.natAbs).length c'] 51))) := ((Below.refl _ _).alloc (Nat.le_refl _) _).alloc (by simp) _
  go_wp2_with fail
  generalize (w1.alloc (.cells #[.bool na, .slice A (limbs x.natAbs).length c] 51)).alloc (.cells #[.bool nb, .slice A' (limbs y.natAbs).length c'] 51) = W at *
  refine (RAdd_any _ _ x y W (HU1.out.below HW.out) (HV1.out.below HW.out) (by omega) (by omega)).mono ?_
  rintro e w2 ⟨v2, rfl, hv2, hb2⟩
  have HB2 := Lib.hid ((HB1.out.trans (HW.out.mono HB1.out.size)).trans (hb2.mono (Nat.le_trans HB1.out.size HW.out.size)))
  have HG := Lib.hid (RGive_any v2 (x + y) w2 hv2 (by have := limbsB_add x.natAbs y.natAbs; have h2 := limbs_length_mono (show (x + y).natAbs ≤ x.natAbs + y.natAbs by omega); omega))
  clear hv2 hb2
  go_wp2_with fail
  refine HG.out.mono ?_
  rintro e w3 ⟨rfl, hb3⟩
  have HB3 := Lib.hid (HB2.out.trans (hb3.mono HB2.out.size))
  clear hb3 HG
  go_wp2_with fail
  go_ret2
  exact ⟨rfl, HB3.out⟩

set_option maxRecDepth 100000 in
set_option maxHeartbeats 1000000 in
theorem RAddT_bad (l m : List UInt8) (w : World) (hl : l.length ≤ 140737488355328) (hm : m.length ≤ 140737488355328) (h : (validB l && validB m) = false) :
    Calls Tryz.prog 13 #[.string ⟨l.toArray⟩, .string ⟨m.toArray⟩] w fun e w' => e = .returned (.tuple #[.string ⟨#[]⟩, .int .i64 1]) ∧ Below w.heap.size w w' := by
  have HBO := Lib.hid (both_bad l m w hl hm h)
  clear h
  go_enter Tryz.func13, Tryz.ntmps13
  go_wp2_with fail
  refine HBO.out.mono ?_
  rintro e w1 ⟨rfl, hb1⟩
  have HB1 := Lib.hid hb1
  clear hb1 HBO
  go_wp2_with fail
  go_ret2
  exact ⟨rfl, (HB1.out.alloc HB1.out.size _).alloc (by have := HB1.out.size; simp; omega) _⟩


set_option maxRecDepth 100000 in
set_option maxHeartbeats 1000000 in
theorem RSubT_ok (x y : Int) (w : World) (hfx : Fits x) (hfy : Fits y) : Calls Tryz.prog 16 #[.string (str x), .string (str y)] w fun e w' => e = .returned (.tuple #[.string (outS (x - y)), .int .i64 (outE (x - y))]) ∧ Below w.heap.size w w' := by
  have HBO := Lib.hid (both_ok x y w hfx hfy)
  have hlx := hfx.len
  have hly := hfy.len
  clear hfx hfy
  go_enter Tryz.func16, Tryz.ntmps16
  go_wp2_with fail
  refine HBO.out.mono ?_
  rintro e w1 ⟨u1, v1, rfl, hu1, hv1, hb1⟩
  have HU1 := Lib.hid hu1
  have HV1 := Lib.hid hv1
  have HB1 := Lib.hid hb1
  obtain ⟨A, c, rfl, hlc, hc⟩ := hu1
  obtain ⟨A', c', rfl, hlc', hc'⟩ := hv1
  generalize decide (x < 0) = na at *
  generalize decide (y < 0) = nb at *
  clear hc hc' hb1 HBO
  have HW : Hid (Below w1.heap.size w1 ((w1.alloc (.cells #[.bool na, .slice A (limbs x.natAbs).length c] 51)).alloc (.cells #[.bool nb, .slice A' (limbs y.natAbs).length c'] 51))) := ((Below.refl _ _).alloc (Nat.le_refl _) _).alloc (by simp) _
  go_wp2_with fail
  generalize (w1.alloc (.cells #[.bool na, .slice A (limbs x.natAbs).length c] 51)).alloc (.cells #[.bool nb, .slice A' (limbs y.natAbs).length c'] 51) = W at *
  refine (RSub_any _ _ x y W (HU1.out.below HW.out) (HV1.out.below HW.out) (by omega) (by omega)).mono ?_
  rintro e w2 ⟨v2, rfl, hv2, hb2⟩
  have HB2 := Lib.hid ((HB1.out.trans (HW.out.mono HB1.out.size)).trans (hb2.mono (Nat.le_trans HB1.out.size HW.out.size)))
  have HG := Lib.hid (RGive_any v2 (x - y) w2 hv2 (by have := limbsB_add x.natAbs y.natAbs; have h2 := limbs_length_mono (show (x - y).natAbs ≤ x.natAbs + y.natAbs by omega); omega))
  clear hv2 hb2
  go_wp2_with fail
  refine HG.out.mono ?_
  rintro e w3 ⟨rfl, hb3⟩
  have HB3 := Lib.hid (HB2.out.trans (hb3.mono HB2.out.size))
  clear hb3 HG
  go_wp2_with fail
  go_ret2
  exact ⟨rfl, HB3.out⟩

set_option maxRecDepth 100000 in
set_option maxHeartbeats 1000000 in
theorem RSubT_bad (l m : List UInt8) (w : World) (hl : l.length ≤ 140737488355328) (hm : m.length ≤ 140737488355328) (h : (validB l && validB m) = false) :
    Calls Tryz.prog 16 #[.string ⟨l.toArray⟩, .string ⟨m.toArray⟩] w fun e w' => e = .returned (.tuple #[.string ⟨#[]⟩, .int .i64 1]) ∧ Below w.heap.size w w' := by
  have HBO := Lib.hid (both_bad l m w hl hm h)
  clear h
  go_enter Tryz.func16, Tryz.ntmps16
  go_wp2_with fail
  refine HBO.out.mono ?_
  rintro e w1 ⟨rfl, hb1⟩
  have HB1 := Lib.hid hb1
  clear hb1 HBO
  go_wp2_with fail
  go_ret2
  exact ⟨rfl, (HB1.out.alloc HB1.out.size _).alloc (by have := HB1.out.size; simp; omega) _⟩


set_option maxRecDepth 100000 in
set_option maxHeartbeats 1000000 in
theorem RMulT_ok (x y : Int) (w : World) (hfx : Fits x) (hfy : Fits y) : Calls Tryz.prog 8 #[.string (str x), .string (str y)] w fun e w' => e = .returned (.tuple #[.string (outS (x * y)), .int .i64 (outE (x * y))]) ∧ Below w.heap.size w w' := by
  have HBO := Lib.hid (both_ok x y w hfx hfy)
  have hlx := hfx.len
  have hly := hfy.len
  clear hfx hfy
  go_enter Tryz.func8, Tryz.ntmps8
  go_wp2_with fail
  refine HBO.out.mono ?_
  rintro e w1 ⟨u1, v1, rfl, hu1, hv1, hb1⟩
  have HU1 := Lib.hid hu1
  have HV1 := Lib.hid hv1
  have HB1 := Lib.hid hb1
  obtain ⟨A, c, rfl, hlc, hc⟩ := hu1
  obtain ⟨A', c', rfl, hlc', hc'⟩ := hv1
  generalize decide (x < 0) = na at *
  generalize decide (y < 0) = nb at *
  clear hc hc' hb1 HBO
  have HW : Hid (Below w1.heap.size w1 ((w1.alloc (.cells #[.bool na, .slice A (limbs x.natAbs).length c] 51)).alloc (.cells #[.bool nb, .slice A' (limbs y.natAbs).length c'] 51))) := ((Below.refl _ _).alloc (Nat.le_refl _) _).alloc (by simp) _
  go_wp2_with fail
  generalize (w1.alloc (.cells #[.bool na, .slice A (limbs x.natAbs).length c] 51)).alloc (.cells #[.bool nb, .slice A' (limbs y.natAbs).length c'] 51) = W at *
  refine (RMul_any _ _ x y W (HU1.out.below HW.out) (HV1.out.below HW.out) (by omega) (by omega)).mono ?_
  rintro e w2 ⟨v2, rfl, hv2, hb2⟩
  have HB2 := Lib.hid ((HB1.out.trans (HW.out.mono HB1.out.size)).trans (hb2.mono (Nat.le_trans HB1.out.size HW.out.size)))
  have HG := Lib.hid (RGive_any v2 (x * y) w2 hv2 (by have := limbsB_mul x.natAbs y.natAbs; rw [Int.natAbs_mul]; omega))
  clear hv2 hb2
  go_wp2_with fail
  refine HG.out.mono ?_
  rintro e w3 ⟨rfl, hb3⟩
  have HB3 := Lib.hid (HB2.out.trans (hb3.mono HB2.out.size))
  clear hb3 HG
  go_wp2_with fail
  go_ret2
  exact ⟨rfl, HB3.out⟩

set_option maxRecDepth 100000 in
set_option maxHeartbeats 1000000 in
theorem RMulT_bad (l m : List UInt8) (w : World) (hl : l.length ≤ 140737488355328) (hm : m.length ≤ 140737488355328) (h : (validB l && validB m) = false) :
    Calls Tryz.prog 8 #[.string ⟨l.toArray⟩, .string ⟨m.toArray⟩] w fun e w' => e = .returned (.tuple #[.string ⟨#[]⟩, .int .i64 1]) ∧ Below w.heap.size w w' := by
  have HBO := Lib.hid (both_bad l m w hl hm h)
  clear h
  go_enter Tryz.func8, Tryz.ntmps8
  go_wp2_with fail
  refine HBO.out.mono ?_
  rintro e w1 ⟨rfl, hb1⟩
  have HB1 := Lib.hid hb1
  clear hb1 HBO
  go_wp2_with fail
  go_ret2
  exact ⟨rfl, (HB1.out.alloc HB1.out.size _).alloc (by have := HB1.out.size; simp; omega) _⟩


set_option maxRecDepth 100000 in
set_option maxHeartbeats 1000000 in
theorem RGcdT_ok (x y : Int) (w : World) (hfx : Fits x) (hfy : Fits y) : Calls Tryz.prog 29 #[.string (str x), .string (str y)] w fun e w' => e = .returned (.tuple #[.string (outS (((Nat.gcd x.natAbs y.natAbs : Nat) : Int))), .int .i64 (outE (((Nat.gcd x.natAbs y.natAbs : Nat) : Int)))]) ∧ Below w.heap.size w w' := by
  have HBO := Lib.hid (both_ok x y w hfx hfy)
  have hlx := hfx.len
  have hly := hfy.len
  clear hfx hfy
  go_enter Tryz.func29, Tryz.ntmps29
  go_wp2_with fail
  refine HBO.out.mono ?_
  rintro e w1 ⟨u1, v1, rfl, hu1, hv1, hb1⟩
  have HU1 := Lib.hid hu1
  have HV1 := Lib.hid hv1
  have HB1 := Lib.hid hb1
  obtain ⟨A, c, rfl, hlc, hc⟩ := hu1
  obtain ⟨A', c', rfl, hlc', hc'⟩ := hv1
  generalize decide (x < 0) = na at *
  generalize decide (y < 0) = nb at *
  clear hc hc' hb1 HBO
  have HW : Hid (Below w1.heap.size w1 ((w1.alloc (.cells #[.bool na, .slice A (limbs x.natAbs).length c] 51)).alloc (.cells #[.bool nb, .slice A' (limbs y.natAbs).length c'] 51))) := ((Below.refl _ _).alloc (Nat.le_refl _) _).alloc (by simp) _
  go_wp2_with fail
  generalize (w1.alloc (.cells #[.bool na, .slice A (limbs x.natAbs).length c] 51)).alloc (.cells #[.bool nb, .slice A' (limbs y.natAbs).length c'] 51) = W at *
  refine (RGcd_any _ _ x y W (HU1.out.below HW.out) (HV1.out.below HW.out) (by omega) (by omega)).mono ?_
  rintro e w2 ⟨v2, rfl, hv2, hb2⟩
  have HB2 := Lib.hid ((HB1.out.trans (HW.out.mono HB1.out.size)).trans (hb2.mono (Nat.le_trans HB1.out.size HW.out.size)))
  have HG := Lib.hid (RGive_any v2 (((Nat.gcd x.natAbs y.natAbs : Nat) : Int)) w2 hv2 (by rw [Int.natAbs_natCast]; rcases Nat.eq_zero_or_pos x.natAbs with e | e; (rw [e, Nat.gcd_zero_left]; omega); (have := limbs_length_mono (Nat.gcd_le_left y.natAbs e); omega)))
  clear hv2 hb2
  go_wp2_with fail
  refine HG.out.mono ?_
  rintro e w3 ⟨rfl, hb3⟩
  have HB3 := Lib.hid (HB2.out.trans (hb3.mono HB2.out.size))
  clear hb3 HG
  go_wp2_with fail
  go_ret2
  exact ⟨rfl, HB3.out⟩

set_option maxRecDepth 100000 in
set_option maxHeartbeats 1000000 in
theorem RGcdT_bad (l m : List UInt8) (w : World) (hl : l.length ≤ 140737488355328) (hm : m.length ≤ 140737488355328) (h : (validB l && validB m) = false) :
    Calls Tryz.prog 29 #[.string ⟨l.toArray⟩, .string ⟨m.toArray⟩] w fun e w' => e = .returned (.tuple #[.string ⟨#[]⟩, .int .i64 1]) ∧ Below w.heap.size w w' := by
  have HBO := Lib.hid (both_bad l m w hl hm h)
  clear h
  go_enter Tryz.func29, Tryz.ntmps29
  go_wp2_with fail
  refine HBO.out.mono ?_
  rintro e w1 ⟨rfl, hb1⟩
  have HB1 := Lib.hid hb1
  clear hb1 HBO
  go_wp2_with fail
  go_ret2
  exact ⟨rfl, (HB1.out.alloc HB1.out.size _).alloc (by have := HB1.out.size; simp; omega) _⟩


end Go.Proofs.YtmickdolpgjbhaaGreatDoor
