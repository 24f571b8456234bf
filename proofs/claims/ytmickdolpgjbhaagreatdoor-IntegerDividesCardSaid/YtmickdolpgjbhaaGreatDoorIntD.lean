/-
  Package integer: Div, Small.
-/
import Derived.Test.YtmickdolpgjbhaaGreatDoorIntC
namespace Go.Proofs.YtmickdolpgjbhaaGreatDoor
open Go.RowKit

theorem nDigits_mono {a b : Nat} (h : a ≤ b) : (Lib.decDigits a).length ≤ (Lib.decDigits b).length := by
  apply decDigits_length_le
  · have := Lib.nDigits_pos b; rw [Lib.decDigits_length]; omega
  · have := Lib.lt_pow_nDigits b; rw [Lib.decDigits_length]; omega
theorem Fits.mono {x y : Int} (h : x.natAbs ≤ y.natAbs) (hy : Fits y) : Fits x := Nat.le_trans (nDigits_mono h) hy
theorem fits_div {x y : Int} (hx : Fits x) (hy0 : y ≠ 0) : Fits (x / y) := by
  refine Fits.mono ?_ hx
  by_cases h : x < 0 ∧ x.natAbs % y.natAbs ≠ 0
  · have := (div_more x y hy0 h.1 h.2).1
    rw [← this, sgn_natAbs]
    have h2 : 2 ≤ y.natAbs := by
      rcases Nat.lt_or_ge y.natAbs 2 with h2 | h2
      · exfalso
        have : y.natAbs = 1 := by omega
        rw [this, Nat.mod_one] at h
        exact h.2 rfl
      · exact h2
    have h3 : x.natAbs / y.natAbs ≤ x.natAbs / 2 := Nat.div_le_div_left h2 (by omega)
    omega
  · have := (div_exact x y hy0 h).1
    rw [← this, sgn_natAbs]
    exact Nat.div_le_self _ _
theorem fits_mod {x y : Int} (hy : Fits y) (hy0 : y ≠ 0) : Fits (x % y) := by
  refine Fits.mono ?_ hy
  have h1 := Int.emod_nonneg x hy0
  have h2 := Int.emod_lt x hy0
  omega
theorem str_ne_zero {y : Int} (h : y ≠ 0) : (str y).toList ≠ [48] := by
  rw [Lib.toList_data]
  show (Lib.itoa y).toArray.toList ≠ [48]
  simp only [List.toList_toArray]
  exact fun e => h (itoa_eq_zero.1 e)

set_option maxRecDepth 100000 in
set_option maxHeartbeats 2000000 in
theorem IDiv_ok (x y : Int) (w : World) (hfx : Fits x) (hfy : Fits y) (hy0 : y ≠ 0) (htab : Tab w) :
    Calls Tryz.prog 10 #[.string (str x), .string (str y)] w fun e w' => e = .returned (.tuple #[.string (str (x / y)), .string (str (x % y)), .int .i64 0]) ∧ Below w.heap.size w w' := by
  have HFX := Lib.hid hfx
  have HFY := Lib.hid hfy
  have HT := Lib.hid htab
  have hlx := hfx.len
  have hly := hfy.len
  have hfq := fits_div hfx hy0
  have hfr := fits_mod (x := x) hfy hy0
  have hlq := hfq.len
  have hlr := hfr.len
  have EQ1 := Lib.hid (outS_fits hfq)
  have EQ2 := Lib.hid (outE_fits hfq)
  have ER1 := Lib.hid (outS_fits hfr)
  have ER2 := Lib.hid (outE_fits hfr)
  have hyz : ((str y).toList == [48]) = false := by simpa using str_ne_zero hy0
  clear hfx hfy htab hfq hfr
  go_enter Tryz.func10, Tryz.ntmps10
  go_wp2_with fail
  refine (Valid_ok x w HFX.out).mono ?_
  rintro e w1 ⟨rfl, hb1⟩
  have HB1 := Lib.hid hb1
  clear hb1
  go_wp2_with fail
  refine (Valid_ok y w1 HFY.out).mono ?_
  rintro e w2 ⟨rfl, hb2⟩
  have HB2 := Lib.hid (HB1.out.trans (hb2.mono HB1.out.size))
  clear hb2
  go_wp2_with fail
  refine (read_any x w2 HFX.out).mono ?_
  rintro e w3 ⟨v3, rfl, hv3, hb3⟩
  have HV3 := Lib.hid hv3
  have HB3 := Lib.hid (HB2.out.trans (hb3.mono HB2.out.size))
  clear hv3 hb3
  go_wp2_with fail
  refine (read_any y w3 HFY.out).mono ?_
  rintro e w4 ⟨v4, rfl, hv4, hb4⟩
  have HV4 := Lib.hid hv4
  have HV34 := Lib.hid (HV3.out.below hb4)
  have HB4 := Lib.hid (HB3.out.trans (hb4.mono HB3.out.size))
  clear hv4 hb4
  go_wp2_with fail
  refine (Div_any v3 v4 x y w4 HV34.out HV4.out (by omega) (by omega) hy0).mono ?_
  rintro e w5 ⟨v5, u5, rfl, hv5, hu5, hb5⟩
  have HV5 := Lib.hid hv5
  have HU5 := Lib.hid hu5
  have HB5 := Lib.hid (HB4.out.trans (hb5.mono HB4.out.size))
  obtain ⟨_, rfl, A, c, rfl, hlc, hc⟩ := hv5
  obtain ⟨_, rfl, A', c', rfl, hlc', hc'⟩ := hu5
  generalize decide (x / y < 0) = na at *
  generalize decide (x % y < 0) = nb at *
  clear hb5 hc hc'
  go_upto_region 6 with (fail)
  have hb6 : Below w5.heap.size w5 ((w5.alloc (.cells #[.bool na, .slice A (limbs (x / y).natAbs).length c] 62)).alloc (.cells #[.bool nb, .slice A' (limbs (x % y).natAbs).length c'] 62)) := ((Below.refl _ _).alloc (Nat.le_refl _) _).alloc (by simp) _
  have hx1 : ((w5.alloc (.cells #[.bool na, .slice A (limbs (x / y).natAbs).length c] 62)).alloc (.cells #[.bool nb, .slice A' (limbs (x % y).natAbs).length c'] 62)).heap[w5.heap.size]? = some (.cells #[.bool na, .slice A (limbs (x / y).natAbs).length c] 62 (0, 0)) := by
    rw [Below.heap_alloc _ _ _ (by simp)]; exact heap_alloc_new w5 _
  have hx2 : ((w5.alloc (.cells #[.bool na, .slice A (limbs (x / y).natAbs).length c] 62)).alloc (.cells #[.bool nb, .slice A' (limbs (x % y).natAbs).length c'] 62)).heap[w5.heap.size + 1]? = some (.cells #[.bool nb, .slice A' (limbs (x % y).natAbs).length c'] 62 (0, 0)) := by
    have := heap_alloc_new (w5.alloc (.cells #[.bool na, .slice A (limbs (x / y).natAbs).length c] 62)) (.cells #[.bool nb, .slice A' (limbs (x % y).natAbs).length c'] 62)
    simpa using this
  have hs6 : ((w5.alloc (.cells #[.bool na, .slice A (limbs (x / y).natAbs).length c] 62)).alloc (.cells #[.bool nb, .slice A' (limbs (x % y).natAbs).length c'] 62)).heap.size = w5.heap.size + 2 := by simp
  generalize (w5.alloc (.cells #[.bool na, .slice A (limbs (x / y).natAbs).length c] 62)).alloc (.cells #[.bool nb, .slice A' (limbs (x % y).natAbs).length c'] 62) = w6 at *
  have hs6' : w5.heap.size + 2 ≤ w6.heap.size := by omega
  have HX2 := Lib.hid hx2
  have h10 := cell_of_row _ _ 0 _ _ _ hx1
  have h11 := cell_of_row _ _ 1 _ _ _ hx1
  simp at h10 h11
  have HQ6 := Lib.hid (HV5.out.below hb6)
  have HR6 := Lib.hid (HU5.out.below hb6)
  have HB6 := Lib.hid (HB5.out.trans (hb6.mono HB5.out.size))
  clear hb6 hx1 hx2 hs6
  have HTX := Lib.hid (text_any _ (x / y) w6 HQ6.out (by omega) (HT.out.below HB6.out))
  rw [EQ1.out, EQ2.out] at HTX
  go_wp2_with fail
  refine HTX.out.mono ?_
  rintro e w7 ⟨rfl, hb7⟩
  have hx7 := (hb7.block _ (by omega)).trans HX2.out
  have h20 := cell_of_row _ _ 0 _ _ _ hx7
  have h21 := cell_of_row _ _ 1 _ _ _ hx7
  simp at h20 h21
  have HR7 := Lib.hid (HR6.out.below hb7)
  have HB7 := Lib.hid (HB6.out.trans (hb7.mono HB6.out.size))
  clear hb7 hx7 HTX h10 h11
  have HTX := Lib.hid (text_any _ (x % y) w7 HR7.out (by omega) (HT.out.below HB7.out))
  rw [ER1.out, ER2.out] at HTX
  go_wp2_with fail
  refine HTX.out.mono ?_
  rintro e w8 ⟨rfl, hb8⟩
  have HB8 := Lib.hid (HB7.out.trans (hb8.mono HB7.out.size))
  clear hb8 HTX h20 h21
  go_wp2_with fail
  go_ret3
  exact ⟨rfl, HB8.out⟩

set_option maxRecDepth 100000 in
set_option maxHeartbeats 1000000 in
theorem IDiv_zero (x : Int) (w : World) (hfx : Fits x) :
    Calls Tryz.prog 10 #[.string (str x), .string (str 0)] w fun e w' => e = .returned (.tuple #[.string ⟨#[]⟩, .string ⟨#[]⟩, .int .i64 4]) ∧ Below w.heap.size w w' := by
  have HFX := Lib.hid hfx
  clear hfx
  have hf0 : Fits 0 := by unfold Fits; rw [show (0 : Int).natAbs = 0 from rfl, Lib.decDigits_one (by decide)]; simp
  have HF0 := Lib.hid hf0
  clear hf0
  have hyz : ((str 0).toList == [48]) = true := by
    rw [Lib.toList_data]
    show ((Lib.itoa 0).toArray.toList == [48]) = true
    rw [itoa_zero]; rfl
  go_enter Tryz.func10, Tryz.ntmps10
  go_wp2_with fail
  refine (Valid_ok x w HFX.out).mono ?_
  rintro e w1 ⟨rfl, hb1⟩
  have HB1 := Lib.hid hb1
  clear hb1
  go_wp2_with fail
  refine (Valid_ok 0 w1 HF0.out).mono ?_
  rintro e w2 ⟨rfl, hb2⟩
  have HB2 := Lib.hid (HB1.out.trans (hb2.mono HB1.out.size))
  clear hb2
  go_wp2_with fail
  go_ret3
  exact ⟨rfl, HB2.out⟩

set_option maxRecDepth 100000 in
set_option maxHeartbeats 1000000 in
theorem IDiv_bad (l m : List UInt8) (w : World) (hl : l.length ≤ 140737488355328) (hm : m.length ≤ 140737488355328) (h : (validB l && validB m) = false) :
    Calls Tryz.prog 10 #[.string ⟨l.toArray⟩, .string ⟨m.toArray⟩] w fun e w' => e = .returned (.tuple #[.string ⟨#[]⟩, .string ⟨#[]⟩, .int .i64 1]) ∧ Below w.heap.size w w' := by
  have HV := Lib.hid (Valid_any l w hl)
  cases h1 : validB l
  · rw [h1] at HV
    clear h1 h
    go_enter Tryz.func10, Tryz.ntmps10
    go_wp2_with fail
    refine HV.out.mono ?_
    rintro e w1 ⟨rfl, hb1⟩
    have HB1 := Lib.hid hb1
    clear hb1
    go_wp2_with fail
    go_ret3
    exact ⟨rfl, HB1.out⟩
  · have h2 : validB m = false := by rw [h1] at h; simpa using h
    have HV2 := Lib.hid (fun W => Valid_any m W hm)
    rw [h1] at HV
    rw [h2] at HV2
    clear h1 h2 h
    go_enter Tryz.func10, Tryz.ntmps10
    go_wp2_with fail
    refine HV.out.mono ?_
    rintro e w1 ⟨rfl, hb1⟩
    have HB1 := Lib.hid hb1
    clear hb1
    go_wp2_with fail
    refine (HV2.out w1).mono ?_
    rintro e w2 ⟨rfl, hb2⟩
    have HB2 := Lib.hid (HB1.out.trans (hb2.mono HB1.out.size))
    clear hb2
    go_wp2_with fail
    go_ret3
    exact ⟨rfl, HB2.out⟩

end Go.Proofs.YtmickdolpgjbhaaGreatDoor
