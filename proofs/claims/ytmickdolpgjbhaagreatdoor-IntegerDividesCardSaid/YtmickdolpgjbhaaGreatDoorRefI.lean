/-
  Package joinlearnref01: Gcd, Of, Digits.
-/
import Derived.Test.YtmickdolpgjbhaaGreatDoorRefH
import Derived.Test.YtmickdolpgjbhaaGreatDoorStr
namespace Go.Proofs.YtmickdolpgjbhaaGreatDoor
open Go.RowKit

theorem sgnB_false (n : Nat) : sgnB false n = (n : Int) := rfl
theorem decide_nat_neg (n : Nat) : decide ((n : Int) < 0) = false := decide_eq_false (by omega)
theorem IsBig.nat {w : World} {A : Option Addr} {n c : Nat} (hl : (limbs n).length ≤ c) (hc : Cells .i64 w A (limbs n)) : IsBig w (.agg #[.bool false, .slice A (limbs n).length c]) (n : Int) :=
  ⟨A, c, by rw [decide_nat_neg]; rfl, hl, hc⟩
theorem IsBig.open_nat {w : World} {v : Value} {n : Nat} (h : IsBig w v (n : Int)) : ∃ A c, v = .agg #[.bool false, .slice A (limbs n).length c] ∧ (limbs n).length ≤ c ∧ Cells .i64 w A (limbs n) := by
  obtain ⟨A, c, e, hl, hc⟩ := h
  rw [decide_nat_neg] at e
  exact ⟨A, c, e, hl, hc⟩
/-- A Big that came in and is kept in a box, with its limbs. -/
def Held (w : World) (g : Nat) (n : Nat) : Prop := ∃ A c, Blk w g 51 [.bool false, .slice A (limbs n).length c] ∧ (limbs n).length ≤ c ∧ Cells .i64 w A (limbs n)

/-- Both boxes of what came in are written anew. -/
theorem BB.swap {w W : World} {n0 n1 m0 m1 : Bool} {A1 A2 B1 B2 : Option Addr} {l1 l2 c1 c2 k1 k2 d1 d2 : Nat} (h : BB w W n0 n1 (.slice A1 l1 c1) (.slice A2 l2 c2)) :
    BB w ((((W.setCell ⟨w.heap.size, 0, none⟩ (.bool m0)).setCell ⟨w.heap.size, 1, none⟩ (.slice B1 k1 d1)).setCell ⟨w.heap.size + 1, 0, none⟩ (.bool m1)).setCell ⟨w.heap.size + 1, 1, none⟩ (.slice B2 k2 d2)).drew m0 m1 (.slice B1 k1 d1) (.slice B2 k2 d2) ∧
    ∀ A xs, Cells .i64 W A xs → Cells .i64 ((((W.setCell ⟨w.heap.size, 0, none⟩ (.bool m0)).setCell ⟨w.heap.size, 1, none⟩ (.slice B1 k1 d1)).setCell ⟨w.heap.size + 1, 0, none⟩ (.bool m1)).setCell ⟨w.heap.size + 1, 1, none⟩ (.slice B2 k2 d2)).drew A xs := by
  have a0 := h.k0.set 0 (.bool m0)
  have a1 := a0.set 1 (.slice B1 k1 d1)
  have a2 := (a1.far (p := ⟨w.heap.size + 1, 0, none⟩) (by show w.heap.size ≠ w.heap.size + 1; omega) (.bool m1)).far (p := ⟨w.heap.size + 1, 1, none⟩) (by show w.heap.size ≠ w.heap.size + 1; omega) (.slice B2 k2 d2)
  have b0 := (h.k1.far (p := ⟨w.heap.size, 0, none⟩) (by show w.heap.size + 1 ≠ w.heap.size; omega) (.bool m0)).far (p := ⟨w.heap.size, 1, none⟩) (by show w.heap.size + 1 ≠ w.heap.size; omega) (.slice B1 k1 d1)
  have b1 := b0.set 0 (.bool m1)
  have b2 := b1.set 1 (.slice B2 k2 d2)
  have r0 := (((h.k2.far (p := ⟨w.heap.size, 0, none⟩) (by show w.heap.size + 1 + 1 ≠ w.heap.size; omega) (.bool m0)).far (p := ⟨w.heap.size, 1, none⟩) (by show w.heap.size + 1 + 1 ≠ w.heap.size; omega) (.slice B1 k1 d1)).far (p := ⟨w.heap.size + 1, 0, none⟩) (by show w.heap.size + 1 + 1 ≠ w.heap.size + 1; omega) (.bool m1)).far (p := ⟨w.heap.size + 1, 1, none⟩) (by show w.heap.size + 1 + 1 ≠ w.heap.size + 1; omega) (.slice B2 k2 d2)
  refine ⟨⟨a2, b2, r0, ((((h.bel.setCell (p := ⟨w.heap.size, 0, none⟩) (Nat.le_refl _) _).setCell (p := ⟨w.heap.size, 1, none⟩) (Nat.le_refl _) _).setCell (p := ⟨w.heap.size + 1, 0, none⟩) (Nat.le_succ _) _).setCell (p := ⟨w.heap.size + 1, 1, none⟩) (Nat.le_succ _) _).drew⟩, fun A xs hc => ?_⟩
  exact ((((hc.aside h.k0 noint2 0 _).aside a0 noint2 1 _).aside b0 noint2 0 _).aside b1 noint2 1 _).drew

set_option maxRecDepth 100000 in
set_option maxHeartbeats 4000000 in
theorem RGcd_raw (A A' : Option Addr) (a b c c' : Nat) (na nb : Bool) (w : World) (hlc : (limbs a).length ≤ c) (hlc' : (limbs b).length ≤ c') (ha : Cells .i64 w A (limbs a)) (hb : Cells .i64 w A' (limbs b)) (hla : (limbs a).length ≤ 10000000) (hlb : (limbs b).length ≤ 10000000) :
    Calls Tryz.prog 56 #[.agg #[.bool na, .slice A (limbs a).length c], .agg #[.bool nb, .slice A' (limbs b).length c']] w (RetBigN w (Nat.gcd a b : Nat)) := by
  have HC := Lib.hid ha
  have HC' := Lib.hid hb
  clear ha hb
  go_enter Tryz.func56, Tryz.ntmps56
  go_wp2_with fail
  have hbx := BB.new w false false (.slice A (limbs a).length c) (.slice A' (limbs b).length c')
  generalize ((w.alloc (.cells #[.bool false, .slice A (limbs a).length c] 51)).alloc (.cells #[.bool false, .slice A' (limbs b).length c'] 51)).alloc (.cells #[.bool false, .slice none 0 0] 51) = W at *
  have HBX := Lib.hid hbx
  clear hbx
  go_loopg [] b (fun k wr => ∃ (n : Nat) (A A' : Option Addr) (c c' : Nat), Nat.gcd n k = Nat.gcd a b ∧ BB w wr false false (.slice A (limbs n).length c) (.slice A' (limbs k).length c') ∧ Cells .i64 wr A (limbs n) ∧ Cells .i64 wr A' (limbs k) ∧ (limbs n).length ≤ c ∧ (limbs k).length ≤ c' ∧ (limbs n).length ≤ 10000000 ∧ (limbs k).length ≤ 10000000)
  case atStart => exact ⟨a, A, A', c, c', rfl, HBX.out, HC.out.below HBX.out.bel, HC'.out.below HBX.out.bel, hlc, hlc', hla, hlb⟩
  case round =>
    obtain ⟨n, A1, A2, c1, c2, hg, hbb, hc1, hc2, hl1, hl2, hn1, hn2⟩ := hrel
    have HG := Lib.hid hg
    have HB := Lib.hid hbb
    have HC1 := Lib.hid hc1
    have HC2 := Lib.hid hc2
    obtain ⟨ha0, ha1, hb0, hb1⟩ := hbb.four
    clear hg hbb hc1 hc2 HBX HC HC'
    rcases Nat.eq_zero_or_pos gk with h0 | h0
    · subst h0
      have hz : ¬ 0 < (limbs 0).length := by rw [limbs_zero]; simp
      have hr0 : wr.cell? ⟨w.heap.size + 1 + 1, 0, none⟩ = some (.bool false) := HB.out.k2.at_ rfl
      have hr1 : wr.cell? ⟨w.heap.size + 1 + 1, 1, none⟩ = some (.slice none 0 0) := HB.out.k2.at_ rfl
      have hf0 := HB.out.k2.fr 0
      have hf1 := HB.out.k2.fr 1
      have E := Lib.hid (show n = Nat.gcd a b by rw [← HG.out, Nat.gcd_zero_right])
      go_wp2_with fail
      refine bodyPost_ret (v := .agg #[.bool false, .slice A1 (limbs n).length c1]) (by simp [results, Tryz.results56, go_sem, hr0, hr1]) rfl ?_
      rw [← E.out]
      have h := big_end (y := (n : Int)) (x := (n : Int)) HB.out.k2 HB.out.bel (by omega) HC1.out hl1 rfl
      rw [decide_nat_neg] at h
      exact h
    · have hz : 0 < (limbs gk).length := limbs_length_pos.2 (by omega)
      go_wp2_with fail
      refine (RQuo_raw A1 A2 n gk c1 c2 false false wr HC1.out HC2.out hn1 hn2 h0).mono ?_
      rintro e w2 ⟨v2, u2, rfl, hq, hr, hb2⟩
      obtain ⟨Aq, cq, rfl, hlq, hcq⟩ := hq
      rw [sgnB_false] at hr
      obtain ⟨Ar, cr, rfl, hlr, hcr⟩ := hr.open_nat
      have HB2 := Lib.hid (HB.out.below hb2)
      have HC2' := Lib.hid (HC2.out.below hb2)
      have HCR := Lib.hid hcr
      generalize decide (sgnB (false != false) (n / gk) < 0) = nq at *
      generalize (limbs (sgnB (false != false) (n / gk)).natAbs).length = lq at *
      clear hcq hr hcr hb2 ha0 ha1 hb0 hb1
      go_upto_region 4 with (fail)
      have k6 := Blk.new (w2.alloc (.cells #[.bool nq, .slice Aq lq cq] 51)) 51 [.bool false, .slice Ar (limbs (n % gk)).length cr]
      rw [World.size_alloc] at k6
      have hb3 : Below w2.heap.size w2 ((w2.alloc (.cells #[.bool nq, .slice Aq lq cq] 51)).alloc (.cells #[.bool false, .slice Ar (limbs (n % gk)).length cr] 51)) := ((Below.refl _ _).alloc (Nat.le_refl _) _).alloc (by simp) _
      generalize (w2.alloc (.cells #[.bool nq, .slice Aq lq cq] 51)).alloc (.cells #[.bool false, .slice Ar (limbs (n % gk)).length cr] 51) = w3 at *
      have HB3 := Lib.hid (HB2.out.below hb3)
      have HC3 := Lib.hid (HC2'.out.below hb3)
      have HR3 := Lib.hid (HCR.out.below hb3)
      have h60 : w3.cell? ⟨w2.heap.size + 1, 0, none⟩ = some (.bool false) := k6.at_ rfl
      have h61 : w3.cell? ⟨w2.heap.size + 1, 1, none⟩ = some (.slice Ar (limbs (n % gk)).length cr) := k6.at_ rfl
      obtain ⟨ha0, ha1, hb0, hb1⟩ := HB3.out.four
      have hsz : w.heap.size + 2 < w2.heap.size := HB2.out.k2.lt
      have hx0 := HB3.out.k0.fr 0
      have hx1 := HB3.out.k0.fr 1
      have hy0 := HB3.out.k1.fr 0
      have hy1 := HB3.out.k1.fr 1
      clear hb3 k6
      go_region
      all_goals
        go_wp2_with fail
        go_roundg (n % gk)
        case measure => exact Nat.mod_lt _ h0
        case rel =>
          obtain ⟨hs, hcs⟩ := HB3.out.swap (m0 := false) (m1 := false) (B1 := A2) (k1 := (limbs gk).length) (d1 := c2) (B2 := Ar) (k2 := (limbs (n % gk)).length) (d2 := cr)
          exact ⟨gk, A2, Ar, c2, cr, by rw [← HG.out, Nat.gcd_comm gk, ← Nat.gcd_rec, Nat.gcd_comm], hs, hcs _ _ HC3.out, hcs _ _ HR3.out, hl2, hlr, hn2, Nat.le_trans (limbs_length_mono (Nat.le_of_lt (Nat.mod_lt _ h0))) hn2⟩

theorem RGcd_any (u v : Value) (x y : Int) (w : World) (hx : IsBig w u x) (hy : IsBig w v y) (hlx : (limbs x.natAbs).length ≤ 10000000) (hly : (limbs y.natAbs).length ≤ 10000000) :
    Calls Tryz.prog 56 #[u, v] w (RetBigN w (Nat.gcd x.natAbs y.natAbs : Nat)) := by
  obtain ⟨A, c, rfl, hlc, hc⟩ := hx
  obtain ⟨A', c', rfl, hlc', hc'⟩ := hy
  exact RGcd_raw A A' x.natAbs y.natAbs c c' (decide (x < 0)) (decide (y < 0)) w hlc hlc' hc hc' hlx hly

end Go.Proofs.YtmickdolpgjbhaaGreatDoor
