/-
  Package integer: read, text, Sign, Compare, Make.
-/
import Derived.Test.YtmickdolpgjbhaaGreatDoorIntA
import Derived.Test.YtmickdolpgjbhaaGreatDoorLimN
namespace Go.Proofs.YtmickdolpgjbhaaGreatDoor
open Go.RowKit

/-- The text of an integer. -/
def str (x : Int) : ByteArray := ⟨(Lib.itoa x).toArray⟩
instance (x : Int) : Decidable (Fits x) := inferInstanceAs (Decidable (_ ≤ _))
/-- The text and the error code that an integer gives. -/
def outS (x : Int) : ByteArray := if Fits x then str x else ⟨#[]⟩
def outE (x : Int) : Int := if Fits x then 0 else 3
theorem outS_fits {x : Int} (h : Fits x) : outS x = str x := if_pos h
theorem outE_fits {x : Int} (h : Fits x) : outE x = 0 := if_pos h
theorem Fits.len {x : Int} (h : Fits x) : (limbs x.natAbs).length ≤ 45 := by
  apply limbs_length_le
  apply lt_pow_of_digits
  unfold Fits at h
  omega

set_option maxRecDepth 100000 in
set_option maxHeartbeats 1000000 in
theorem read_any (x : Int) (w : World) (hl : Fits x) : Calls Tryz.prog 36 #[.string (str x)] w (RetNum w x) := by
  have HRD := Lib.hid (fun W => Read_any x W (by unfold Fits at hl; omega))
  unfold str
  go_enter Tryz.func36, Tryz.ntmps36
  go_wp2_with fail
  have hr := Res.new w
  have hb0 : Below w.heap.size w (w.alloc (.cells #[.bool false, .slice none 0 0] 62)) := (Below.refl _ _).alloc (Nat.le_refl _) _
  generalize w.alloc (.cells #[.bool false, .slice none 0 0] 62) = W0 at *
  have HR := Lib.hid hr
  have HB0 := Lib.hid hb0
  clear hr hb0
  refine (HRD.out W0).mono ?_
  intro e w3 hret
  obtain ⟨A3, c3, rfl, hl3, hc3, hb3⟩ := hret.num
  have HR3 := Lib.hid (HR.out.below hb3)
  have HC3 := Lib.hid hc3
  have HB3 := Lib.hid (HB0.out.trans (hb3.mono HB0.out.size))
  have hr0 := HR3.out.r0
  have hr1 := HR3.out.r1
  have hf0 := HR3.out.f 0
  have hf1 := HR3.out.f 1
  clear hret hc3 hb3 HRD
  go_wp2_with fail
  refine bodyPost_ret (v := .agg #[.bool (decide (x < 0)), .slice A3 (limbs x.natAbs).length c3]) (by simp [results, Tryz.results36, go_sem, hr0, hr1]) rfl ?_
  exact HR3.out.end_ HB3.out (Nat.le_refl _) HC3.out hl3 rfl

set_option maxRecDepth 100000 in
set_option maxHeartbeats 1000000 in
theorem text_any (u : Value) (x : Int) (w : World) (hx : IsNum w u x) (hlx : (limbs x.natAbs).length ≤ 10000000) (htab : Tab w) :
    Calls Tryz.prog 38 #[u] w fun e w' => e = .returned (.tuple #[.string (outS x), .int .i64 (outE x)]) ∧ Below w.heap.size w w' := by
  have HX := Lib.hid hx
  obtain ⟨_, rfl, A, c, rfl, hlc, hc⟩ := hx
  have HT := Lib.hid htab
  have hfit : Fits x ↔ Lib.nDigits x.natAbs ≤ 400 := by unfold Fits; rw [Lib.decDigits_length]
  have HFIT := Lib.hid hfit
  generalize decide (x < 0) = na at *
  clear hc htab hfit
  have hbw : Hid (Below w.heap.size w (w.alloc (.cells #[.bool na, .slice A (limbs x.natAbs).length c] 62))) := (Below.refl _ _).alloc (Nat.le_refl _) _
  have HD := Lib.hid (Digits_any _ x _ (HX.out.below hbw.out) hlx (HT.out.below hbw.out))
  have hbox : (w.alloc (.cells #[.bool na, .slice A (limbs x.natAbs).length c] 62)).heap[w.heap.size]? = some (.cells #[.bool na, .slice A (limbs x.natAbs).length c] 62 (0, 0)) := heap_alloc_new w _
  have HBOX := Lib.hid hbox
  clear hbox
  by_cases hf : Fits x
  · have hd := HFIT.out.1 hf
    have E1 := Lib.hid (outS_fits hf)
    have E2 := Lib.hid (outE_fits hf)
    go_enter Tryz.func38, Tryz.ntmps38
    go_wp2_with fail
    generalize w.alloc (.cells #[.bool na, .slice A (limbs x.natAbs).length c] 62) = W at *
    refine HD.out.mono ?_
    rintro e w2 ⟨rfl, hb2⟩
    have HB2 := Lib.hid (hbw.out.trans (hb2.mono hbw.out.size))
    have hgl : w.heap.size < W.heap.size := by
      rcases Nat.lt_or_ge w.heap.size W.heap.size with h | h
      · exact h
      · have := HBOX.out; rw [Array.getElem?_eq_none h] at this; cases this
    have hbx2 : w2.heap[w.heap.size]? = some (.cells #[.bool na, .slice A (limbs x.natAbs).length c] 62 (0, 0)) := (hb2.block _ hgl).trans HBOX.out
    have h0 := cell_of_row _ _ 0 _ _ _ hbx2
    have h1 := cell_of_row _ _ 1 _ _ _ hbx2
    have HS := Lib.hid (String_any _ x w2 (HX.out.below HB2.out) hlx (HT.out.below HB2.out))
    simp at h0 h1
    clear hb2 hbx2 HD
    go_wp2_with fail
    refine HS.out.mono ?_
    rintro e w3 ⟨rfl, hb3⟩
    have HB3 := Lib.hid (HB2.out.trans (hb3.mono HB2.out.size))
    clear hb3
    go_wp2_with fail
    go_ret2
    exact ⟨by rw [E1.out, E2.out]; rfl, HB3.out⟩
  · have hd : ¬ Lib.nDigits x.natAbs ≤ 400 := fun h => hf (HFIT.out.2 h)
    have E1 := Lib.hid (show outS x = ⟨#[]⟩ from if_neg hf)
    have E2 := Lib.hid (show outE x = 3 from if_neg hf)
    go_enter Tryz.func38, Tryz.ntmps38
    go_wp2_with fail
    refine HD.out.mono ?_
    rintro e w2 ⟨rfl, hb2⟩
    have HB2 := Lib.hid (hbw.out.trans (hb2.mono hbw.out.size))
    clear hb2 HD
    go_wp2_with fail
    go_ret2
    exact ⟨by rw [E1.out, E2.out]; rfl, HB2.out⟩

theorem itoa_length (x : Int) : (Lib.itoa x).length ≤ (Lib.decDigits x.natAbs).length + 1 := by
  unfold Lib.itoa
  by_cases h : x < 0
  · rw [if_pos h]; simp
  · rw [if_neg h, show x.toNat = x.natAbs by omega]; omega
theorem Valid_ok (x : Int) (w : World) (hf : Fits x) : Calls Tryz.prog 25 #[.string (str x)] w fun e w' => e = .returned (.bool true) ∧ Below w.heap.size w w' := by
  have := Valid_any (Lib.itoa x) w (by have := itoa_length x; unfold Fits at hf; omega)
  rw [valid_itoa hf] at this
  exact this

set_option maxRecDepth 100000 in
set_option maxHeartbeats 1000000 in
theorem ISign_ok (x : Int) (w : World) (hf : Fits x) : Calls Tryz.prog 17 #[.string (str x)] w fun e w' => e = .returned (.int .i64 (sg x)) ∧ Below w.heap.size w w' := by
  have HF := Lib.hid hf
  have hlen := hf.len
  clear hf
  go_enter Tryz.func17, Tryz.ntmps17
  go_wp2_with fail
  refine (Valid_ok x w HF.out).mono ?_
  rintro e w1 ⟨rfl, hb1⟩
  have HB1 := Lib.hid hb1
  clear hb1
  go_wp2_with fail
  refine (read_any x w1 HF.out).mono ?_
  rintro e w2 ⟨v2, rfl, hv2, hb2⟩
  have HV2 := Lib.hid hv2
  have HB2 := Lib.hid (HB1.out.trans (hb2.mono HB1.out.size))
  clear hv2 hb2
  go_wp2_with fail
  refine (Sign_any v2 x w2 HV2.out (by omega)).mono ?_
  rintro e w3 ⟨rfl, hb3⟩
  have HB3 := Lib.hid (HB2.out.trans (hb3.mono HB2.out.size))
  clear hb3
  go_wp2_with fail
  go_ret
  exact ⟨rfl, HB3.out⟩

set_option maxRecDepth 100000 in
set_option maxHeartbeats 1000000 in
theorem ICompare_ok (x y : Int) (w : World) (hfx : Fits x) (hfy : Fits y) : Calls Tryz.prog 18 #[.string (str x), .string (str y)] w fun e w' => e = .returned (.int .i64 (sg (x - y))) ∧ Below w.heap.size w w' := by
  have HFX := Lib.hid hfx
  have HFY := Lib.hid hfy
  have hlx := hfx.len
  have hly := hfy.len
  clear hfx hfy
  go_enter Tryz.func18, Tryz.ntmps18
  go_wp2_with fail
  refine (Valid_ok x w HFX.out).mono ?_
  rintro e w1 ⟨rfl, hb1⟩
  have HB1 := Lib.hid hb1
  clear hb1
  go_wp2_with fail
  refine (Valid_ok y w1 HFY.out).mono ?_
  rintro e w2 ⟨rfl, hb2⟩
  have HB2 := Lib.hid (HB1.out.trans (hb2.mono HB1.out.size))
  clear hb2
  go_wp2_with fail
  refine (read_any x w2 HFX.out).mono ?_
  rintro e w3 ⟨v3, rfl, hv3, hb3⟩
  have HV3 := Lib.hid hv3
  have HB3 := Lib.hid (HB2.out.trans (hb3.mono HB2.out.size))
  clear hv3 hb3
  go_wp2_with fail
  refine (read_any y w3 HFY.out).mono ?_
  rintro e w4 ⟨v4, rfl, hv4, hb4⟩
  have HV4 := Lib.hid hv4
  have HV34 := Lib.hid (HV3.out.below hb4)
  have HB4 := Lib.hid (HB3.out.trans (hb4.mono HB3.out.size))
  clear hv4 hb4
  go_wp2_with fail
  refine (Compare_any v3 v4 x y w4 HV34.out HV4.out (by omega) (by omega)).mono ?_
  rintro e w5 ⟨rfl, hb5⟩
  have HB5 := Lib.hid (HB4.out.trans (hb5.mono HB4.out.size))
  clear hb5
  go_wp2_with fail
  go_ret
  exact ⟨rfl, HB5.out⟩

set_option maxHeartbeats 1000000 in
theorem IMake_ok (n : Int) (w : World) (h0 : -9223372036854775808 ≤ n) (h1 : n ≤ 9223372036854775807) (htab : Tab w) : Calls Tryz.prog 21 #[.int .i64 n] w fun e w' => e = .returned (.string (str n)) ∧ Below w.heap.size w w' := by
  have HI := Lib.hid (Tryz.strconv_Itoa n h0 h1 w htab)
  clear htab h0 h1
  go_enter Tryz.func21, Tryz.ntmps21
  go_wp2_with fail
  refine HI.out.mono ?_
  rintro e w1 ⟨rfl, k, os, hw⟩
  have hb : Below w.heap.size w w1 := by rw [hw]; exact below_grow w k os
  have HB := Lib.hid hb
  clear hb hw
  go_wp2_with fail
  go_ret
  exact ⟨rfl, HB.out⟩

end Go.Proofs.YtmickdolpgjbhaaGreatDoor
