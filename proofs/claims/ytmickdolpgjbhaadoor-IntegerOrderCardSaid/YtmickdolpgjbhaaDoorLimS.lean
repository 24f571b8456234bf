/-
  Package limbs: Small of a number; package integer: Small.
-/
import Derived.Test.YtmickdolpgjbhaaDoorIntB
namespace Go.Proofs.YtmickdolpgjbhaaDoor
open Go.RowKit

theorem limbs_three {n : Nat} (h : (limbs n).length ≤ 3) : nth (limbs n) 2 * 1000000000000000000 + (nth (limbs n) 1 * 1000000000 + nth (limbs n) 0) = n := by
  have h3 := val_limbs n
  have e2 : val ((limbs n).drop 2) = nth (limbs n) 2 + 1000000000 * val ((limbs n).drop 3) := val_drop (limbs n) 2
  have e1 : val ((limbs n).drop 1) = nth (limbs n) 1 + 1000000000 * val ((limbs n).drop 2) := val_drop (limbs n) 1
  have e0 : val ((limbs n).drop 0) = nth (limbs n) 0 + 1000000000 * val ((limbs n).drop 1) := val_drop (limbs n) 0
  have e3 : (limbs n).drop 3 = [] := List.drop_eq_nil_of_le h
  rw [e3, val_nil] at e2
  rw [List.drop_zero, h3] at e0
  omega
theorem limbs_four {n : Nat} (h : 3 < (limbs n).length) : 1000000000000000000000000000 ≤ n := by
  rcases Nat.lt_or_ge n 1000000000000000000000000000 with h1 | h1
  · have := limbs_length_le (n := n) (k := 3) (by simpa using h1)
    omega
  · exact h1

set_option maxHeartbeats 1000000 in
theorem small_gen (A : Option Addr) (n c : Nat) (w : World) (hx : Cells .u64 w A (limbs n)) (hl : (limbs n).length ≤ 1000000000) :
    Calls Tryd.prog 44 #[.slice A (limbs n).length c] w fun e w' => e = .returned (.int .u64 ((nth (limbs n) 1 * 1000000000 + nth (limbs n) 0 : Nat) : Int)) ∧ w = w' := by
  have b0 := (Low.limbs n).nth 0
  have b1 := (Low.limbs n).nth 1
  have H0 := Lib.hid (at_any A (limbs n) c 0 w hx (by omega) (by omega))
  have H1 := Lib.hid (at_any A (limbs n) c 1 w hx (by omega) (by omega))
  go_enter Tryd.func44, Tryd.ntmps44
  go_wp2_with fail
  refine H1.out.mono ?_
  rintro e w' ⟨rfl, rfl⟩
  go_wp2_with fail
  refine H0.out.mono ?_
  rintro e w' ⟨rfl, rfl⟩
  go_wp2_with fail
  go_ret
  exact ⟨ret_u64 (by omega), rfl⟩

/-- Whether a number is one that Small hands back. -/
def smallB (x : Int) : Bool := decide (x.natAbs ≤ 4611686018427387904)
def smallV (x : Int) : Int := if x.natAbs ≤ 4611686018427387904 then x else 0
set_option maxRecDepth 100000 in
set_option maxHeartbeats 2000000 in
theorem Small_any (u : Value) (x : Int) (w : World) (hx : IsNum w u x) (hlx : (limbs x.natAbs).length ≤ 1000000000) :
    Calls Tryd.prog 29 #[u] w fun e w' => e = .returned (.tuple #[.int .i64 (smallV x), .bool (smallB x)]) ∧ Below w.heap.size w w' := by
  obtain ⟨_, rfl, A, c, rfl, hlc, hc⟩ := hx
  have HC := Lib.hid hc
  clear hc
  by_cases h3 : 3 < (limbs x.natAbs).length
  · have h4 := limbs_four h3
    have E1 := Lib.hid (show smallV x = 0 by unfold smallV; rw [if_neg (by omega)])
    have E2 := Lib.hid (show smallB x = false by unfold smallB; simp; omega)
    clear h4
    generalize decide (x < 0) = na
    go_enter Tryd.func29, Tryd.ntmps29
    go_wp2_with fail
    go_ret2
    exact ⟨by rw [E1.out, E2.out]; rfl, (Below.refl _ _).alloc (Nat.le_refl _) _⟩
  · obtain ⟨t2, ht2⟩ : ∃ t, nth (limbs x.natAbs) 2 = t := ⟨_, rfl⟩
    obtain ⟨t1, ht1⟩ : ∃ t, nth (limbs x.natAbs) 1 * 1000000000 + nth (limbs x.natAbs) 0 = t := ⟨_, rfl⟩
    have hn := limbs_three (by omega : (limbs x.natAbs).length ≤ 3)
    rw [ht2, ht1] at hn
    have HN := Lib.hid hn
    have b2 : t2 < 1000000000 := ht2 ▸ (Low.limbs x.natAbs).nth 2
    have hs : t1 < 1000000000000000000 := by
      have b0 := (Low.limbs x.natAbs).nth 0
      have b1 := (Low.limbs x.natAbs).nth 1
      omega
    have EA := Lib.hid (fun W (hW : Cells .u64 W A (limbs x.natAbs)) => at_any A (limbs x.natAbs) c 2 W hW (by omega) (by omega))
    rw [ht2] at EA
    have ES := Lib.hid (fun W (hW : Cells .u64 W A (limbs x.natAbs)) => small_gen A x.natAbs c W hW (by omega))
    rw [ht1] at ES
    clear ht1 ht2 hn
    by_cases h4 : 4 < t2
    · have E1 := Lib.hid (show smallV x = 0 by unfold smallV; rw [if_neg (by have := HN.out; omega)])
      have E2 := Lib.hid (show smallB x = false by unfold smallB; simp; have := HN.out; omega)
      generalize decide (x < 0) = na
      go_enter Tryd.func29, Tryd.ntmps29
      go_wp2_with fail
      refine (EA.out _ (HC.out.alloc _)).mono ?_
      rintro e w' ⟨rfl, rfl⟩
      go_wp2_with fail
      go_ret2
      exact ⟨by rw [E1.out, E2.out]; rfl, (Below.refl _ _).alloc (Nat.le_refl _) _⟩
    · have e1 : IntKind.u64.wrap ((t2 : Int) * 1000000000) = (t2 : Int) * 1000000000 := by rw [IntKind.wrap_u64]; omega
      have e2 : IntKind.u64.wrap ((t2 : Int) * 1000000000 * 1000000000) = (t2 : Int) * 1000000000000000000 := by rw [IntKind.wrap_u64]; omega
      have e3 : IntKind.u64.wrap ((t2 : Int) * 1000000000000000000 + (t1 : Int)) = (x.natAbs : Int) := by rw [IntKind.wrap_u64]; have := HN.out; omega
      by_cases h5 : x.natAbs ≤ 4611686018427387904
      · have E1 := Lib.hid (show smallV x = x by unfold smallV; rw [if_pos h5])
        have E2 := Lib.hid (show smallB x = true by unfold smallB; simpa using h5)
        have hd5 : decide (4611686018427387904 < (x.natAbs : Int)) = false := by simp; omega
        by_cases hx : x < 0
        · rw [show decide (x < 0) = true by simpa using hx]
          have e4 : IntKind.i64.wrap (x.natAbs : Int) = (x.natAbs : Int) := IntWalk.i64_in _ (by omega)
          have e5 : IntKind.i64.wrap (-(x.natAbs : Int)) = x := by rw [IntWalk.i64_in _ (by omega)]; omega
          have HX := Lib.hid hx
          clear hx
          go_enter Tryd.func29, Tryd.ntmps29
          go_wp2_with fail
          refine (EA.out _ (HC.out.alloc _)).mono ?_
          rintro e w' ⟨rfl, rfl⟩
          go_wp2_with fail
          go_quiet ((first | (go_at_call 43; exact quiet_left (EA.out _ ((HC.out.alloc _).drewN _))) | (go_at_call 44; exact quiet_left (ES.out _ ((HC.out.alloc _).drewN _)))))
          go_wp2_with fail
          go_ret2
          exact ⟨by rw [E1.out, E2.out]; rfl, below_drewN ((Below.refl _ _).alloc (Nat.le_refl _) _) _⟩
        · rw [show decide (x < 0) = false by simpa using hx]
          have e4 : IntKind.i64.wrap (x.natAbs : Int) = x := by rw [IntWalk.i64_in _ (by omega)]; omega
          have HX := Lib.hid hx
          clear hx
          go_enter Tryd.func29, Tryd.ntmps29
          go_wp2_with fail
          refine (EA.out _ (HC.out.alloc _)).mono ?_
          rintro e w' ⟨rfl, rfl⟩
          go_wp2_with fail
          go_quiet ((first | (go_at_call 43; exact quiet_left (EA.out _ ((HC.out.alloc _).drewN _))) | (go_at_call 44; exact quiet_left (ES.out _ ((HC.out.alloc _).drewN _)))))
          go_wp2_with fail
          go_ret2
          exact ⟨by rw [E1.out, E2.out]; rfl, below_drewN ((Below.refl _ _).alloc (Nat.le_refl _) _) _⟩
      · have E1 := Lib.hid (show smallV x = 0 by unfold smallV; rw [if_neg h5])
        have E2 := Lib.hid (show smallB x = false by unfold smallB; simpa using h5)
        have hd5 : decide (4611686018427387904 < (x.natAbs : Int)) = true := by simp; omega
        generalize decide (x < 0) = na
        go_enter Tryd.func29, Tryd.ntmps29
        go_wp2_with fail
        refine (EA.out _ (HC.out.alloc _)).mono ?_
        rintro e w' ⟨rfl, rfl⟩
        go_wp2_with fail
        go_quiet ((first | (go_at_call 43; exact quiet_left (EA.out _ ((HC.out.alloc _).drewN _))) | (go_at_call 44; exact quiet_left (ES.out _ ((HC.out.alloc _).drewN _)))))
        go_wp2_with fail
        go_ret2
        exact ⟨by rw [E1.out, E2.out]; rfl, below_drewN ((Below.refl _ _).alloc (Nat.le_refl _) _) _⟩

set_option maxRecDepth 100000 in
set_option maxHeartbeats 1000000 in
theorem ISmall_ok (x : Int) (w : World) (hf : Fits x) : Calls Tryd.prog 16 #[.string (str x)] w fun e w' => e = .returned (.tuple #[.int .i64 (smallV x), .bool (smallB x)]) ∧ Below w.heap.size w w' := by
  have HF := Lib.hid hf
  have hlen := hf.len
  clear hf
  go_enter Tryd.func16, Tryd.ntmps16
  go_wp2_with fail
  refine (Valid_ok x w HF.out).mono ?_
  rintro e w1 ⟨rfl, hb1⟩
  have HB1 := Lib.hid hb1
  clear hb1
  go_wp2_with fail
  refine (read_any x w1 HF.out).mono ?_
  rintro e w2 ⟨v2, rfl, hv2, hb2⟩
  have HV2 := Lib.hid hv2
  have HB2 := Lib.hid (HB1.out.trans (hb2.mono HB1.out.size))
  clear hv2 hb2
  go_wp2_with fail
  refine (Small_any v2 x w2 HV2.out (by omega)).mono ?_
  rintro e w3 ⟨rfl, hb3⟩
  have HB3 := Lib.hid (HB2.out.trans (hb3.mono HB2.out.size))
  clear hb3
  go_wp2_with fail
  go_ret2
  exact ⟨rfl, HB3.out⟩

end Go.Proofs.YtmickdolpgjbhaaDoor
