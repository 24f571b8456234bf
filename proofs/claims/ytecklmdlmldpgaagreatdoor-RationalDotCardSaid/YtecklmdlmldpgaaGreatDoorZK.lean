/-
  Package joinlearnref01: Div over texts.
-/
import Derived.Test.YtecklmdlmldpgaaGreatDoorZJ
import Derived.Test.YtecklmdlmldpgaaGreatDoorZF
import Derived.Deep.DrawnRows
namespace Go.Proofs.YtecklmdlmldpgaaGreatDoor
open Go.RowKit

theorem IsBig.drew {w : World} {v : Value} {z : Int} (h : IsBig w v z) : IsBig w.drew v z := h
theorem div_unique {x y q r : Int} (hy : y ≠ 0) (h : r + y * q = x) (h0 : 0 ≤ r) (h1 : r < y.natAbs) : x / y = q ∧ x % y = r := by
  rcases Int.lt_or_gt_of_ne hy with hn | hp
  · have h2 := (Int.ediv_emod_unique (a := x) (b := -y) (q := -q) (r := r) (by omega)).2 ⟨by rw [Int.neg_mul_neg]; exact h, h0, by omega⟩
    rw [Int.ediv_neg, Int.emod_neg] at h2
    exact ⟨by omega, h2.2⟩
  · exact (Int.ediv_emod_unique (by omega)).2 ⟨h, h0, by omega⟩
theorem quo_pos {x y : Int} (hy : y ≠ 0) (h : 0 ≤ x.tmod y) : x / y = x.tdiv y ∧ x % y = x.tmod y :=
  div_unique hy (Int.tmod_add_mul_tdiv x y) h (by
    have := Int.natAbs_tmod x y
    have h2 := Nat.mod_lt x.natAbs (show 0 < y.natAbs by omega)
    omega)
theorem quo_neg {x y : Int} (hy : y ≠ 0) (h : x.tmod y < 0) : -(y.natAbs : Int) < x.tmod y := by
  have := Int.natAbs_tmod x y
  have h2 := Nat.mod_lt x.natAbs (show 0 < y.natAbs by omega)
  omega
theorem quo_nn {x y : Int} (hy : y < 0) (h : x.tmod y < 0) : x / y = x.tdiv y + 1 ∧ x % y = x.tmod y - y := by
  have h1 := quo_neg (x := x) (y := y) (by omega) h
  refine div_unique (by omega) ?_ (by omega) (by omega)
  have := Int.tmod_add_mul_tdiv x y
  rw [Int.mul_add, Int.mul_one]
  omega
theorem quo_np {x y : Int} (hy : 0 < y) (h : x.tmod y < 0) : x / y = x.tdiv y - 1 ∧ x % y = x.tmod y + y := by
  have h1 := quo_neg (x := x) (y := y) (by omega) h
  refine div_unique (by omega) ?_ (by omega) (by omega)
  have := Int.tmod_add_mul_tdiv x y
  rw [Int.mul_sub, Int.mul_one]
  omega

/-- The boxes of Div: the divisor, the quotient, the rest. -/
structure D3 (w W : World) (g8 g10 : Nat) (b8 b10 b11 : Bool) (s8 s10 s11 : Value) : Prop where
  k8 : Blk W (g8 + 1) 86 [.bool b8, s8]
  k10 : Blk W g10 86 [.bool b10, s10]
  k11 : Blk W (g10 + 1) 86 [.bool b11, s11]
  bel : Below w.heap.size w W
  lo : w.heap.size ≤ g8
  mid : g8 + 1 < g10
section
variable {w W W' : World} {g8 g10 : Nat} {b8 b10 b11 : Bool} {s8 s10 s11 : Value}
theorem D3.below (h : D3 w W g8 g10 b8 b10 b11 s8 s10 s11) (hb : Below W.heap.size W W') : D3 w W' g8 g10 b8 b10 b11 s8 s10 s11 :=
  ⟨h.k8.below hb, h.k10.below hb, h.k11.below hb, h.bel.trans (hb.mono (by have := h.k8.lt; have := h.lo; omega)), h.lo, h.mid⟩
theorem D3.drew (h : D3 w W g8 g10 b8 b10 b11 s8 s10 s11) : D3 w W.drew g8 g10 b8 b10 b11 s8 s10 s11 := ⟨h.k8, h.k10, h.k11, h.bel.drew, h.lo, h.mid⟩
abbrev Six (W : World) (g8 g10 : Nat) (b8 b10 b11 : Bool) (s8 s10 s11 : Value) : Prop :=
  W.cell? ⟨g8 + 1, 0, none⟩ = some (.bool b8) ∧ W.cell? ⟨g8 + 1, 1, none⟩ = some s8 ∧ W.cell? ⟨g10, 0, none⟩ = some (.bool b10) ∧ W.cell? ⟨g10, 1, none⟩ = some s10 ∧ W.cell? ⟨g10 + 1, 0, none⟩ = some (.bool b11) ∧ W.cell? ⟨g10 + 1, 1, none⟩ = some s11
theorem D3.six (h : D3 w W g8 g10 b8 b10 b11 s8 s10 s11) : Six W g8 g10 b8 b10 b11 s8 s10 s11 := ⟨h.k8.at_ rfl, h.k8.at_ rfl, h.k10.at_ rfl, h.k10.at_ rfl, h.k11.at_ rfl, h.k11.at_ rfl⟩
end
/-- What the quotient's and the rest's boxes hold when both are known. -/
def DEnd (w : World) (g : Nat) (Q R : Int) (wc : World) : Prop := ∃ (Aq Ar : Option Addr) (cq cr : Nat), Blk wc g 86 [.bool (decide (Q < 0)), .slice Aq (limbs Q.natAbs).length cq] ∧ Blk wc (g + 1) 86 [.bool (decide (R < 0)), .slice Ar (limbs R.natAbs).length cr] ∧ IsBig wc (.agg #[.bool (decide (Q < 0)), .slice Aq (limbs Q.natAbs).length cq]) Q ∧ IsBig wc (.agg #[.bool (decide (R < 0)), .slice Ar (limbs R.natAbs).length cr]) R ∧ Below w.heap.size w wc
theorem D3.end_ {w W : World} {g8 g10 : Nat} {b8 b10 b11 : Bool} {s8 : Value} {B10 B11 : Option Addr} {l10 m10 l11 m11 : Nat} {Aq Ar : Option Addr} {cq cr : Nat} {Q R : Int} (h : D3 w W g8 g10 b8 b10 b11 s8 (.slice B10 l10 m10) (.slice B11 l11 m11))
    (hq : Cells .i64 W Aq (limbs Q.natAbs)) (hlq : (limbs Q.natAbs).length ≤ cq) (hr : Cells .i64 W Ar (limbs R.natAbs)) (hlr : (limbs R.natAbs).length ≤ cr) {Q' R' : Int} (eQ : Q' = Q) (eR : R' = R) :
    DEnd w g10 Q' R' ((((W.setCell ⟨g10, 0, none⟩ (.bool (decide (Q < 0)))).setCell ⟨g10, 1, none⟩ (.slice Aq (limbs Q.natAbs).length cq)).setCell ⟨g10 + 1, 0, none⟩ (.bool (decide (R < 0)))).setCell ⟨g10 + 1, 1, none⟩ (.slice Ar (limbs R.natAbs).length cr)) := by
  subst eQ eR
  have hlo : w.heap.size ≤ g10 := by have := h.lo; have := h.mid; omega
  have a1 := h.k10.set 0 (.bool (decide (Q' < 0)))
  have a2 := a1.set 1 (.slice Aq (limbs Q'.natAbs).length cq)
  have a3 := (a2.far (p := ⟨g10 + 1, 0, none⟩) (by show g10 ≠ g10 + 1; omega) (.bool (decide (R' < 0)))).far (p := ⟨g10 + 1, 1, none⟩) (by show g10 ≠ g10 + 1; omega) (.slice Ar (limbs R'.natAbs).length cr)
  have b1 := (h.k11.far (p := ⟨g10, 0, none⟩) (by show g10 + 1 ≠ g10; omega) (.bool (decide (Q' < 0)))).far (p := ⟨g10, 1, none⟩) (by show g10 + 1 ≠ g10; omega) (.slice Aq (limbs Q'.natAbs).length cq)
  have b2 := b1.set 0 (.bool (decide (R' < 0)))
  have b3 := b2.set 1 (.slice Ar (limbs R'.natAbs).length cr)
  have go : ∀ (B : Option Addr) (xs : List Nat), Cells .i64 W B xs → Cells .i64 ((((W.setCell ⟨g10, 0, none⟩ (.bool (decide (Q' < 0)))).setCell ⟨g10, 1, none⟩ (.slice Aq (limbs Q'.natAbs).length cq)).setCell ⟨g10 + 1, 0, none⟩ (.bool (decide (R' < 0)))).setCell ⟨g10 + 1, 1, none⟩ (.slice Ar (limbs R'.natAbs).length cr)) B xs :=
    fun B xs hB => (((hB.aside h.k10 noint2 0 _).aside a1 noint2 1 _).aside b1 noint2 0 _).aside b2 noint2 1 _
  exact ⟨Aq, Ar, cq, cr, a3, b3, ⟨_, _, rfl, hlq, go _ _ hq⟩, ⟨_, _, rfl, hlr, go _ _ hr⟩, (((h.bel.setCell (p := ⟨g10, 0, none⟩) hlo _).setCell (p := ⟨g10, 1, none⟩) hlo _).setCell (p := ⟨g10 + 1, 0, none⟩) (by show w.heap.size ≤ g10 + 1; omega) _).setCell (p := ⟨g10 + 1, 1, none⟩) (by show w.heap.size ≤ g10 + 1; omega) _⟩


attribute [local go_sem ↓] Go.wp_at_zero Go.wp_at_succ
set_option maxRecDepth 100000 in
set_option maxHeartbeats 40000000 in
theorem RDiv_ok (x y : Int) (w : World) (hfx : Fits x) (hfy : Fits y) (hy0 : y ≠ 0) :
    Calls Tryz.prog 121 #[.string (str x), .string (str y)] w fun e w' => e = .returned (.tuple #[.string (str (x / y)), .string (str (x % y)), .int .i64 0]) ∧ Below w.heap.size w w' := by
  have HBO := Lib.hid (both_ok x y w hfx hfy)
  have hlx := hfx.len
  have hly := hfy.len
  have hfq := fits_div hfx hy0
  have hfr := fits_mod (x := x) hfy hy0
  have hlq := hfq.len
  have hlr := hfr.len
  have EQ1 := Lib.hid (outS_fits hfq)
  have EQ2 := Lib.hid (outE_fits hfq)
  have ER1 := Lib.hid (outS_fits hfr)
  have ER2 := Lib.hid (outE_fits hfr)
  have HY0 := Lib.hid hy0
  have hlyp : 0 < (limbs y.natAbs).length := limbs_length_pos.2 (by omega)
  have hlyz : (((limbs y.natAbs).length : Int) == 0) = false := beq_eq_false_iff_ne.2 (by omega)
  have hlt1 : (limbs (x.tdiv y).natAbs).length ≤ 45 := Nat.le_trans (limbs_length_mono (by rw [Int.natAbs_tdiv]; exact Nat.div_le_self _ _)) hlx
  have hlt2 : (limbs (x.tmod y).natAbs).length ≤ 45 := Nat.le_trans (limbs_length_mono (by rw [Int.natAbs_tmod]; exact Nat.mod_le _ _)) hlx
  obtain ⟨q, hq⟩ : ∃ q, x.tdiv y = q := ⟨_, rfl⟩
  obtain ⟨r, hr⟩ : ∃ r, x.tmod y = r := ⟨_, rfl⟩
  obtain ⟨Q, hQ⟩ : ∃ Q, x / y = Q := ⟨_, rfl⟩
  obtain ⟨R, hR⟩ : ∃ R, x % y = R := ⟨_, rfl⟩
  rw [hq] at hlt1
  rw [hr] at hlt2
  rw [hQ] at hlq EQ1 EQ2 ⊢
  rw [hR] at hlr ER1 ER2 ⊢
  have HQE := Lib.hid hq
  have HRE := Lib.hid hr
  have HQQ := Lib.hid hQ
  have HRR := Lib.hid hR
  clear hfx hfy hfq hfr hy0 hq hr hQ hR
  go_enter Tryz.func121, Tryz.ntmps121
  go_wp2_with fail
  refine HBO.out.mono ?_
  rintro e w1 ⟨u1, v1, rfl, hu1, hv1, hb1⟩
  have HU1 := Lib.hid hu1
  have HV1 := Lib.hid hv1
  have HB1 := Lib.hid hb1
  obtain ⟨A, c, rfl, hlc, hc⟩ := hu1
  obtain ⟨A', c', rfl, hlc', hc'⟩ := hv1
  generalize hna : decide (x < 0) = na at *
  generalize hnb : decide (y < 0) = nb at *
  have HNB := Lib.hid hnb
  clear hc hc' hb1 HBO hna hnb
  have HW : Hid (Below w1.heap.size w1 ((w1.alloc (.cells #[.bool na, .slice A (limbs x.natAbs).length c] 86)).alloc (.cells #[.bool nb, .slice A' (limbs y.natAbs).length c'] 86))) := ((Below.refl _ _).alloc (Nat.le_refl _) _).alloc (by simp) _
  have HK8 := Lib.hid (Blk.new (w1.alloc (.cells #[.bool na, .slice A (limbs x.natAbs).length c] 86)) 86 [.bool nb, .slice A' (limbs y.natAbs).length c'])
  rw [World.size_alloc] at HK8
  go_wp2_with fail
  generalize (w1.alloc (.cells #[.bool na, .slice A (limbs x.natAbs).length c] 86)).alloc (.cells #[.bool nb, .slice A' (limbs y.natAbs).length c'] 86) = W1 at *
  have hcall := RQuo_any _ _ x y W1 (HU1.out.below HW.out) (HV1.out.below HW.out) (by omega) (by omega) HY0.out
  rw [HQE.out, HRE.out] at hcall
  refine hcall.mono ?_
  clear hcall
  rintro e w2 ⟨u2, v2, rfl, hu2, hv2, hb2⟩
  have HK82 := Lib.hid (HK8.out.below hb2)
  have HY2 := Lib.hid ((HV1.out.below HW.out).below hb2)
  have HB2 := Lib.hid ((HB1.out.trans (HW.out.mono HB1.out.size)).trans (hb2.mono (Nat.le_trans HB1.out.size HW.out.size)))
  have HU2 := Lib.hid hu2
  have HV2 := Lib.hid hv2
  have hws := HB1.out.size
  obtain ⟨A2, c2, rfl, hlc2, hc2⟩ := hu2
  obtain ⟨A3, c3, rfl, hlc3, hc3⟩ := hv2
  generalize hnq : decide (q < 0) = nq at *
  generalize hnr : decide (r < 0) = nr at *
  have HNR := Lib.hid hnr
  have HNQ := Lib.hid hnq
  clear hc2 hc3 hb2 hnq hnr HU1 HV1
  have HW2 : Hid (Below w2.heap.size w2 ((w2.alloc (.cells #[.bool nq, .slice A2 (limbs q.natAbs).length c2] 86)).alloc (.cells #[.bool nr, .slice A3 (limbs r.natAbs).length c3] 86))) := ((Below.refl _ _).alloc (Nat.le_refl _) _).alloc (by simp) _
  have hk11 := Blk.new (w2.alloc (.cells #[.bool nq, .slice A2 (limbs q.natAbs).length c2] 86)) 86 [.bool nr, .slice A3 (limbs r.natAbs).length c3]
  rw [World.size_alloc] at hk11
  have HD : Hid (D3 w ((w2.alloc (.cells #[.bool nq, .slice A2 (limbs q.natAbs).length c2] 86)).alloc (.cells #[.bool nr, .slice A3 (limbs r.natAbs).length c3] 86)) w1.heap.size w2.heap.size nb nq nr (.slice A' (limbs y.natAbs).length c') (.slice A2 (limbs q.natAbs).length c2) (.slice A3 (limbs r.natAbs).length c3)) :=
    ⟨HK82.out.below HW2.out, (Blk.new w2 86 [.bool nq, .slice A2 (limbs q.natAbs).length c2]).alloc _, hk11, HB2.out.trans (HW2.out.mono HB2.out.size), hws, HK82.out.lt⟩
  clear hk11
  go_upto_region 7 with (fail)
  generalize (w2.alloc (.cells #[.bool nq, .slice A2 (limbs q.natAbs).length c2] 86)).alloc (.cells #[.bool nr, .slice A3 (limbs r.natAbs).length c3] 86) = W2 at *
  obtain ⟨h80, h81, hq0, hq1, hr0, hr1⟩ := HD.out.six
  have HYW := Lib.hid (HY2.out.below HW2.out)
  have HQW := Lib.hid (HU2.out.below HW2.out)
  have HRW := Lib.hid (HV2.out.below HW2.out)
  clear HY2 HU2 HV2 HW2 HK82 HB2 HK8 HW
  go_upto_if 36 with (fail)
  generalize (Value.tuple #[.agg #[.bool na, .slice A (limbs x.natAbs).length c], .agg #[.bool nb, .slice A' (limbs y.natAbs).length c'], .bool true]) = t16
  generalize (Value.tuple #[.agg #[.bool nq, .slice A2 (limbs q.natAbs).length c2], .agg #[.bool nr, .slice A3 (limbs r.natAbs).length c3]]) = t29
  generalize (Value.agg #[.bool na, .slice A (limbs x.natAbs).length c]) = t20
  go_cut [] (fun wc => DEnd w w2.heap.size Q R wc)
  case first =>
    by_cases hr : r < 0
    · have e1 : nr = true := by rw [← HNR.out]; exact decide_eq_true hr
      subst e1
      by_cases hyn : y < 0
      · have e2 : nb = true := by rw [← HNB.out]; exact decide_eq_true hyn
        subst e2
        have HM0 := Lib.hid (quo_nn (x := x) hyn (by rw [HRE.out]; exact hr))
        have HMQ : Hid (Q = q + 1) := Lib.hid (by rw [← HQQ.out, HM0.out.1, HQE.out])
        have HMR : Hid (R = r - y) := Lib.hid (by rw [← HRR.out, HM0.out.2, HRE.out])
        go_wp2_with fail
        go_region_with (first | (go_at_call 71; refine (ROf_any 1 _ (by omega) (by omega)).mono ?_; rintro e w5 ⟨v5, rfl, hv5, hb5⟩; have HV5 := Lib.hid hv5; have HD5 := Lib.hid (HD.out.drew.below hb5); have HQ5 := Lib.hid (HQW.out.drew.below hb5); have HR5 := Lib.hid (HRW.out.drew.below hb5); have HY5 := Lib.hid (HYW.out.drew.below hb5); obtain ⟨i80, i81, iq0, iq1, ir0, ir1⟩ := HD5.out.six; clear hv5 hb5) | (go_at_call 109; refine (RAdd_any _ _ q 1 _ HQ5.out HV5.out (by omega) (by rw [show (1 : Int).natAbs = 1 from rfl]; exact Nat.le_trans (limbs_length_le (k := 1) (by omega)) (by omega))).mono ?_; rintro e w6 ⟨_, rfl, ⟨A6, c6, rfl, hl6, hc6⟩, hb6⟩; have HC6 := Lib.hid hc6; have HD6 := Lib.hid (HD5.out.below hb6); have HR6 := Lib.hid (HR5.out.below hb6); have HY6 := Lib.hid (HY5.out.below hb6); obtain ⟨j80, j81, jq0, jq1, jr0, jr1⟩ := HD6.out.six; clear hc6 hb6 i80 i81 iq0 iq1 ir0 ir1) | (go_at_call 173; refine (RSub_any _ _ r y _ HR6.out HY6.out (by omega) (by omega)).mono ?_; rintro e w7 ⟨_, rfl, ⟨A7, c7, rfl, hl7, hc7⟩, hb7⟩; have HC7 := Lib.hid hc7; have HC67 := Lib.hid (HC6.out.below hb7); have HD7 := Lib.hid (HD6.out.below hb7); obtain ⟨k80, k81, kq0, kq1, kr0, kr1⟩ := HD7.out.six; have kf0 := HD7.out.k10.fr 0; have kf1 := HD7.out.k10.fr 1; have kg0 := HD7.out.k11.fr 0; have kg1 := HD7.out.k11.fr 1; clear hc7 hb7 j80 j81 jq0 jq1 jr0 jr1))
        all_goals
          go_wp2_with fail
          go_meet
          exact HD7.out.end_ HC67.out hl6 HC7.out hl7 HMQ.out HMR.out
      · have e2 : nb = false := by rw [← HNB.out]; exact decide_eq_false hyn
        subst e2
        have HM0 := Lib.hid (quo_np (x := x) (y := y) (by have := HY0.out; omega) (by rw [HRE.out]; exact hr))
        have HMQ : Hid (Q = q - 1) := Lib.hid (by rw [← HQQ.out, HM0.out.1, HQE.out])
        have HMR : Hid (R = r + y) := Lib.hid (by rw [← HRR.out, HM0.out.2, HRE.out])
        go_wp2_with fail
        go_region_with (first | (go_at_call 71; refine (ROf_any 1 _ (by omega) (by omega)).mono ?_; rintro e w5 ⟨v5, rfl, hv5, hb5⟩; have HV5 := Lib.hid hv5; have HD5 := Lib.hid (HD.out.drew.below hb5); have HQ5 := Lib.hid (HQW.out.drew.below hb5); have HR5 := Lib.hid (HRW.out.drew.below hb5); have HY5 := Lib.hid (HYW.out.drew.below hb5); obtain ⟨i80, i81, iq0, iq1, ir0, ir1⟩ := HD5.out.six; clear hv5 hb5) | (go_at_call 173; refine (RSub_any _ _ q 1 _ HQ5.out HV5.out (by omega) (by rw [show (1 : Int).natAbs = 1 from rfl]; exact Nat.le_trans (limbs_length_le (k := 1) (by omega)) (by omega))).mono ?_; rintro e w6 ⟨_, rfl, ⟨A6, c6, rfl, hl6, hc6⟩, hb6⟩; have HC6 := Lib.hid hc6; have HD6 := Lib.hid (HD5.out.below hb6); have HR6 := Lib.hid (HR5.out.below hb6); have HY6 := Lib.hid (HY5.out.below hb6); obtain ⟨j80, j81, jq0, jq1, jr0, jr1⟩ := HD6.out.six; clear hc6 hb6 i80 i81 iq0 iq1 ir0 ir1) | (go_at_call 109; refine (RAdd_any _ _ r y _ HR6.out HY6.out (by omega) (by omega)).mono ?_; rintro e w7 ⟨_, rfl, ⟨A7, c7, rfl, hl7, hc7⟩, hb7⟩; have HC7 := Lib.hid hc7; have HC67 := Lib.hid (HC6.out.below hb7); have HD7 := Lib.hid (HD6.out.below hb7); obtain ⟨k80, k81, kq0, kq1, kr0, kr1⟩ := HD7.out.six; have kf0 := HD7.out.k10.fr 0; have kf1 := HD7.out.k10.fr 1; have kg0 := HD7.out.k11.fr 0; have kg1 := HD7.out.k11.fr 1; clear hc7 hb7 j80 j81 jq0 jq1 jr0 jr1))
        all_goals
          go_wp2_with fail
          go_meet
          exact HD7.out.end_ HC67.out hl6 HC7.out hl7 HMQ.out HMR.out
    · have e1 : nr = false := by rw [← HNR.out]; exact decide_eq_false hr
      have HM0 := Lib.hid (quo_pos (x := x) HY0.out (by rw [HRE.out]; omega))
      have HMQ : Hid (q = Q) := Lib.hid (by rw [← HQQ.out, HM0.out.1, HQE.out])
      have HMR : Hid (r = R) := Lib.hid (by rw [← HRR.out, HM0.out.2, HRE.out])
      have HEND : Hid (DEnd w w2.heap.size Q R W2) := by
        have hk10 := HD.out.k10
        have hk11 := HD.out.k11
        have hq := HQW.out
        have hr' := HRW.out
        rw [← HNQ.out] at hk10 hq
        rw [← HNR.out] at hk11 hr'
        rw [← HMQ.out, ← HMR.out]
        exact ⟨A2, A3, c2, c3, hk10, hk11, hq, hr', HD.out.bel⟩
      subst e1
      go_wp2_with fail
      go_meet
      exact HEND.out
  case rest =>
    obtain ⟨Aq, Ar, cq, cr, hkq, hkr, hbq, hbr, hbel⟩ := hcut
    have HKR := Lib.hid hkr
    have HBQ := Lib.hid hbq
    have HBR := Lib.hid hbr
    have HBEL := Lib.hid hbel
    have hq0' : wc.cell? ⟨w2.heap.size, 0, none⟩ = some (.bool (decide (Q < 0))) := hkq.at_ rfl
    have hq1' : wc.cell? ⟨w2.heap.size, 1, none⟩ = some (.slice Aq (limbs Q.natAbs).length cq) := hkq.at_ rfl
    generalize decide (Q < 0) = bq at *
    generalize decide (R < 0) = bR at *
    clear hkq hkr hbq hbr hbel h80 h81 hq0 hq1 hr0 hr1 HD HYW HQW HRW
    have HG1 := Lib.hid (RGive_any _ Q wc HBQ.out (by omega))
    rw [EQ1.out, EQ2.out] at HG1
    go_wp2_with fail
    refine HG1.out.mono ?_
    rintro e w5 ⟨rfl, hb5⟩
    have hk5 := HKR.out.below hb5
    have h50 : w5.cell? ⟨w2.heap.size + 1, 0, none⟩ = some (.bool bR) := hk5.at_ rfl
    have h51 : w5.cell? ⟨w2.heap.size + 1, 1, none⟩ = some (.slice Ar (limbs R.natAbs).length cr) := hk5.at_ rfl
    have HB5 := Lib.hid (HBEL.out.trans (hb5.mono HBEL.out.size))
    have HG2 := Lib.hid (RGive_any _ R w5 (HBR.out.below hb5) (by omega))
    rw [ER1.out, ER2.out] at HG2
    clear hk5 hb5 HG1 hq0' hq1'
    go_wp2_with fail
    refine HG2.out.mono ?_
    rintro e w6 ⟨rfl, hb6⟩
    have HB6 := Lib.hid (HB5.out.trans (hb6.mono HB5.out.size))
    clear hb6 HG2
    go_wp2_with fail
    go_ret3
    exact ⟨rfl, HB6.out⟩

set_option maxRecDepth 100000 in
set_option maxHeartbeats 1000000 in
theorem RDiv_zero (x : Int) (w : World) (hfx : Fits x) :
    Calls Tryz.prog 121 #[.string (str x), .string (str 0)] w fun e w' => e = .returned (.tuple #[.string ⟨#[]⟩, .string ⟨#[]⟩, .int .i64 4]) ∧ Below w.heap.size w w' := by
  have hf0 : Fits 0 := by unfold Fits; rw [show (0 : Int).natAbs = 0 from rfl, Lib.decDigits_one (by decide)]; simp
  have HBO := Lib.hid (both_ok x 0 w hfx hf0)
  have hlx := hfx.len
  have hz : (limbs (0 : Int).natAbs).length = 0 := by rw [show (0 : Int).natAbs = 0 from rfl, limbs_zero]; rfl
  have HZ := Lib.hid hz
  clear hfx hf0 hz
  go_enter Tryz.func121, Tryz.ntmps121
  go_wp2_with fail
  refine HBO.out.mono ?_
  rintro e w1 ⟨u1, v1, rfl, hu1, hv1, hb1⟩
  obtain ⟨A, c, rfl, hlc, hc⟩ := hu1
  obtain ⟨A', c', rfl, hlc', hc'⟩ := hv1
  rw [HZ.out]
  have HB1 := Lib.hid hb1
  generalize decide (x < 0) = na at *
  generalize decide ((0 : Int) < 0) = nb at *
  clear hc hc' hb1 HBO hlc'
  go_wp2_with fail
  go_ret3
  exact ⟨rfl, (HB1.out.alloc HB1.out.size _).alloc (by have := HB1.out.size; simp; omega) _⟩

set_option maxRecDepth 100000 in
set_option maxHeartbeats 1000000 in
theorem RDiv_bad (l m : List UInt8) (w : World) (hl : l.length ≤ 140737488355328) (hm : m.length ≤ 140737488355328) (h : (validB l && validB m) = false) :
    Calls Tryz.prog 121 #[.string ⟨l.toArray⟩, .string ⟨m.toArray⟩] w fun e w' => e = .returned (.tuple #[.string ⟨#[]⟩, .string ⟨#[]⟩, .int .i64 1]) ∧ Below w.heap.size w w' := by
  have HBO := Lib.hid (both_bad l m w hl hm h)
  clear h
  go_enter Tryz.func121, Tryz.ntmps121
  go_wp2_with fail
  refine HBO.out.mono ?_
  rintro e w1 ⟨rfl, hb1⟩
  have HB1 := Lib.hid hb1
  clear hb1 HBO
  go_wp2_with fail
  go_ret3
  exact ⟨rfl, (HB1.out.alloc HB1.out.size _).alloc (by have := HB1.out.size; simp; omega) _⟩

end Go.Proofs.YtecklmdlmldpgaaGreatDoor
