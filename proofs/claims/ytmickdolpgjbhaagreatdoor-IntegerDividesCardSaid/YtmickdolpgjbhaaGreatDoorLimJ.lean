/-
  Package limbs: Neg, Gcd, Sign of numbers with signs.
-/
import Derived.Test.YtmickdolpgjbhaaGreatDoorLimI
namespace Go.Proofs.YtmickdolpgjbhaaGreatDoor
open Go.RowKit

/-- An empty box for a result, whole. -/
structure Res (W : World) (g : Nat) : Prop where
  rb : W.heap[g]? = some (.cells #[.bool false, .slice none 0 0] 62 (0, 0))
theorem Res.r0 {W : World} {g : Nat} (h : Res W g) : W.cell? ⟨g, 0, none⟩ = some (.bool false) := cell_of_row _ _ 0 _ _ (0, 0) h.rb
theorem Res.r1 {W : World} {g : Nat} (h : Res W g) : W.cell? ⟨g, 1, none⟩ = some (.slice none 0 0) := cell_of_row _ _ 1 _ _ (0, 0) h.rb
theorem Res.f (i : Nat) {W : World} {g : Nat} (h : Res W g) : W.frozen? ⟨g, i, none⟩ = false := frozen_of_row _ _ i _ _ h.rb
theorem Res.lt {W : World} {g : Nat} (h : Res W g) : g < W.heap.size := by
  rcases Nat.lt_or_ge g W.heap.size with hlt | hge
  · exact hlt
  · have := h.rb; rw [Array.getElem?_eq_none hge] at this; cases this
theorem Res.below {W W' : World} {g : Nat} (h : Res W g) (hb : Below W.heap.size W W') : Res W' g := ⟨(hb.block g h.lt).trans h.rb⟩
theorem Res.new (W : World) : Res (W.alloc (.cells #[.bool false, .slice none 0 0] 62)) W.heap.size := ⟨heap_alloc_new W _⟩
/-- How a function ends that stores a number into its result's box. -/
theorem Res.end_ {w W : World} {g : Nat} {A : Option Addr} {c : Nat} {x y : Int} (h : Res W g) (hb : Below w.heap.size w W) (hg : w.heap.size ≤ g) (hc : Cells .u64 W A (limbs x.natAbs)) (hl : (limbs x.natAbs).length ≤ c) (e : x = y) :
    RetNum w y (.returned (.agg #[.bool (decide (x < 0)), .slice A (limbs x.natAbs).length c])) ((W.setCell ⟨g, 0, none⟩ (.bool (decide (x < 0)))).setCell ⟨g, 1, none⟩ (.slice A (limbs x.natAbs).length c)) := by
  subst e
  exact ⟨_, rfl, ⟨_, rfl, IsNat.mk hl (hc.store2 h.rb _ _)⟩, (hb.setCell (p := ⟨g, 0, none⟩) hg _).setCell (p := ⟨g, 1, none⟩) hg _⟩
theorem RetNum.num {w w' : World} {z : Int} {e : Ending} (h : RetNum w z e w') : ∃ (A : Option Addr) (c : Nat), e = .returned (.agg #[.bool (decide (z < 0)), .slice A (limbs z.natAbs).length c]) ∧ (limbs z.natAbs).length ≤ c ∧ Cells .u64 w' A (limbs z.natAbs) ∧ Below w.heap.size w w' := by
  obtain ⟨v, rfl, ⟨s, rfl, A, c, rfl, hl, hc⟩, hb⟩ := h
  exact ⟨A, c, rfl, hl, hc, hb⟩

set_option maxRecDepth 100000 in
set_option maxHeartbeats 1000000 in
theorem Neg_any (u : Value) (x : Int) (w : World) (hx : IsNum w u x) (hlx : (limbs x.natAbs).length ≤ 1000000000) :
    Calls Tryz.prog 78 #[u] w (RetNum w (-x)) := by
  obtain ⟨_, rfl, A, c, rfl, hlc, hc⟩ := hx
  have HC := Lib.hid hc
  generalize hna : decide (x < 0) = na at *
  have HNA := Lib.hid hna
  clear hc hna
  go_enter Tryz.func78, Tryz.ntmps78
  go_wp2_with fail
  have hr := Res.new (w.alloc (.cells #[.bool na, .slice A (limbs x.natAbs).length c] 62))
  have hb : Below w.heap.size w ((w.alloc (.cells #[.bool na, .slice A (limbs x.natAbs).length c] 62)).alloc (.cells #[.bool false, .slice none 0 0] 62)) := ((Below.refl _ _).alloc (Nat.le_refl _) _).alloc (by simp) _
  rw [World.size_alloc] at hr
  generalize (w.alloc (.cells #[.bool na, .slice A (limbs x.natAbs).length c] 62)).alloc (.cells #[.bool false, .slice none 0 0] 62) = W at *
  have HR := Lib.hid hr
  have HB := Lib.hid hb
  clear hr hb
  refine (number_num (!na) _ x.natAbs _ (IsNat.mk hlc (HC.out.below HB.out)) hlx).mono ?_
  intro e w2 hret
  obtain ⟨A3, c3, rfl, hl3, hc3, hb3⟩ := hret.num
  have HC3 := Lib.hid hc3
  have HB3 := Lib.hid hb3
  have HR3 := Lib.hid (HR.out.below hb3)
  have hr0 := HR3.out.r0
  have hr1 := HR3.out.r1
  have hf0 := HR3.out.f 0
  have hf1 := HR3.out.f 1
  clear hret hc3 hb3
  go_wp2_with fail
  refine bodyPost_ret (v := .agg #[.bool (decide (sgn (!na) x.natAbs < 0)), .slice A3 (limbs (sgn (!na) x.natAbs).natAbs).length c3]) (by simp [results, Tryz.results78, go_sem, hr0, hr1]) rfl ?_
  refine HR3.out.end_ (HB.out.trans (HB3.out.mono HB.out.size)) (by omega) HC3.out hl3 ?_
  rw [← HNA.out]
  unfold sgn
  by_cases h : x < 0 <;> simp [h] <;> omega

set_option maxRecDepth 100000 in
set_option maxHeartbeats 1000000 in
theorem Gcd_any (u v : Value) (x y : Int) (w : World) (hx : IsNum w u x) (hy : IsNum w v y) (hlx : (limbs x.natAbs).length ≤ 100000000) (hly : (limbs y.natAbs).length ≤ 100000000) :
    Calls Tryz.prog 46 #[u, v] w (RetNum w (Nat.gcd x.natAbs y.natAbs : Nat)) := by
  obtain ⟨_, rfl, A, c, rfl, hlc, hc⟩ := hx
  obtain ⟨_, rfl, A', c', rfl, hlc', hc'⟩ := hy
  have HC := Lib.hid hc
  have HC' := Lib.hid hc'
  generalize decide (x < 0) = na at *
  generalize decide (y < 0) = nb at *
  clear hc hc'
  go_enter Tryz.func46, Tryz.ntmps46
  go_wp2_with fail
  have hbx := boxes w na nb (.slice A (limbs x.natAbs).length c) (.slice A' (limbs y.natAbs).length c')
  generalize ((w.alloc (.cells #[.bool na, .slice A (limbs x.natAbs).length c] 62)).alloc (.cells #[.bool nb, .slice A' (limbs y.natAbs).length c'] 62)).alloc (.cells #[.bool false, .slice none 0 0] 62) = W at *
  have HBX := Lib.hid hbx
  clear hbx
  refine (gcd_any A A' x.natAbs y.natAbs c c' W (HC.out.below HBX.out.bel) (HC'.out.below HBX.out.bel) hlx hly hlc hlc').mono ?_
  rintro e w2 ⟨v2, rfl, hv2, hb2⟩
  have HV2 := Lib.hid hv2
  have HB2 := Lib.hid hb2
  clear hv2 hb2
  go_wp2_with fail
  have hgl : (limbs (Nat.gcd x.natAbs y.natAbs)).length ≤ 100000000 := by
    rcases Nat.eq_zero_or_pos x.natAbs with e | e
    · rw [e, Nat.gcd_zero_left]; exact hly
    · exact Nat.le_trans (limbs_length_mono (Nat.gcd_le_left _ e)) hlx
  refine (number_num false v2 (Nat.gcd x.natAbs y.natAbs) w2 HV2.out (by omega)).mono ?_
  intro e w3 hret
  obtain ⟨A3, c3, rfl, hl3, hc3, hb3⟩ := hret.num
  have HC3 := Lib.hid hc3
  have HBX3 := Lib.hid ((HBX.out.below HB2.out).below hb3)
  have hr0 := HBX3.out.r0
  have hr1 := HBX3.out.r1
  have hf0 := HBX3.out.f0
  have hf1 := HBX3.out.f1
  clear hret hc3 hb3
  go_wp2_with fail
  refine bodyPost_ret (v := .agg #[.bool (decide (sgn false (Nat.gcd x.natAbs y.natAbs) < 0)), .slice A3 (limbs (sgn false (Nat.gcd x.natAbs y.natAbs)).natAbs).length c3]) (by simp [results, Tryz.results46, go_sem, hr0, hr1]) rfl ?_
  exact Res.end_ ⟨HBX3.out.rb⟩ HBX3.out.bel (by omega) HC3.out hl3 rfl

/-- The sign of an integer. -/
def sg (z : Int) : Int := if z < 0 then -1 else if 0 < z then 1 else 0
set_option maxRecDepth 100000 in
set_option maxHeartbeats 1000000 in
theorem Sign_any (u : Value) (x : Int) (w : World) (hx : IsNum w u x) (hlx : (limbs x.natAbs).length ≤ 1000000000) :
    Calls Tryz.prog 44 #[u] w fun e w' => e = .returned (.int .i64 (sg x)) ∧ Below w.heap.size w w' := by
  obtain ⟨_, rfl, A, c, rfl, hlc, hc⟩ := hx
  have hp : 0 < (limbs x.natAbs).length ↔ x.natAbs ≠ 0 := limbs_length_pos
  by_cases h1 : x < 0
  · have E := Lib.hid (show sg x = -1 by simp [sg, h1])
    have hd : decide (x < 0) = true := by simp [h1]
    rw [hd]
    clear hd hp hc
    go_enter Tryz.func44, Tryz.ntmps44
    go_wp2_with fail
    go_ret
    exact ⟨by rw [E.out]; rfl, (Below.refl _ _).alloc (Nat.le_refl _) _⟩
  · have hd : decide (x < 0) = false := by simp [h1]
    rw [hd]
    by_cases h2 : 0 < x
    · have E := Lib.hid (show sg x = 1 by simp [sg, h1, h2])
      have hl : 0 < (limbs x.natAbs).length := hp.2 (by omega)
      clear hd hp hc
      go_enter Tryz.func44, Tryz.ntmps44
      go_wp2_with fail
      go_ret
      exact ⟨by rw [E.out]; rfl, (Below.refl _ _).alloc (Nat.le_refl _) _⟩
    · have E := Lib.hid (show sg x = 0 by simp [sg, h1, h2])
      have hl : ¬ 0 < (limbs x.natAbs).length := fun h => hp.1 h (by omega)
      clear hd hp hc
      go_enter Tryz.func44, Tryz.ntmps44
      go_wp2_with fail
      go_ret
      exact ⟨by rw [E.out]; rfl, (Below.refl _ _).alloc (Nat.le_refl _) _⟩

end Go.Proofs.YtmickdolpgjbhaaGreatDoor
