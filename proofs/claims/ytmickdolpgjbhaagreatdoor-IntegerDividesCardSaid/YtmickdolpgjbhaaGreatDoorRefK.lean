/-
  Package joinlearnref01: Of, Digits.
-/
import Derived.Test.YtmickdolpgjbhaaGreatDoorRefJ
namespace Go.Proofs.YtmickdolpgjbhaaGreatDoor
open Go.RowKit

theorem ROf_any (n : Int) (w : World) (h0 : -9223372036854775808 ≤ n) (h1 : n ≤ 9223372036854775807) : Calls Tryz.prog 41 #[.int .i64 n] w (RetBigN w n) := by
  rcases Int.lt_or_le n 0 with h | h
  · obtain ⟨N, rfl⟩ : ∃ N : Nat, n = -(N : Int) := ⟨n.natAbs, by omega⟩
    exact Of_neg N w (by omega) (by omega)
  · obtain ⟨N, rfl⟩ : ∃ N : Nat, n = (N : Int) := ⟨n.toNat, by omega⟩
    exact Of_pos N w (by omega) (by omega)

/-- The digits of a limb, none for 0. -/
def dd (k : Nat) : Nat := if k = 0 then 0 else Lib.nDigits k
theorem dd_zero : dd 0 = 0 := rfl
theorem dd_pos {k : Nat} (h : 0 < k) : dd k = dd (k / 10) + 1 := by
  unfold dd
  rw [if_neg (by omega)]
  by_cases hk : k < 10
  · rw [if_pos (by omega), Lib.nDigits_small hk]
  · rw [if_neg (by omega), Lib.nDigits_big hk]

set_option maxRecDepth 100000 in
set_option maxHeartbeats 1000000 in
theorem RDigits_any (u : Value) (x : Int) (w : World) (hx : IsBig w u x) (hlx : (limbs x.natAbs).length ≤ 10000000) :
    Calls Tryz.prog 59 #[u] w fun e w' => e = .returned (.int .i64 (Lib.nDigits x.natAbs : Nat)) ∧ Below w.heap.size w w' := by
  obtain ⟨A, c, rfl, hlc, hc⟩ := hx
  generalize decide (x < 0) = na at *
  generalize x.natAbs = a at *
  have hbw : Below w.heap.size w (w.alloc (.cells #[.bool na, .slice A (limbs a).length c] 51)) := (Below.refl _ _).alloc (Nat.le_refl _) _
  have HBW := Lib.hid hbw
  have HC := Lib.hid (hc.below hbw)
  clear hbw hc
  rcases Nat.eq_zero_or_pos a with h0 | h0
  · subst h0
    have E := Lib.hid (show Lib.nDigits 0 = 1 from Lib.nDigits_small (by omega))
    have hz : (((limbs 0).length : Int) == 0) = true := by rw [limbs_zero]; rfl
    go_enter Tryz.func59, Tryz.ntmps59
    go_wp2_with fail
    go_ret
    exact ⟨by rw [E.out]; rfl, HBW.out⟩
  · have hlp := limbs_length_pos.2 (show a ≠ 0 by omega)
    obtain ⟨n, hn⟩ : ∃ n, (limbs a).length = n + 1 := ⟨(limbs a).length - 1, by omega⟩
    have htot : Lib.nDigits a = 9 * n + dd (nth (limbs a) n) := by
      have h1 := decDigits_len a 0 hlp
      rw [List.drop_zero, val_limbs, Lib.decDigits_length, Lib.decDigits_length, hn] at h1
      rw [h1]
      unfold dd
      rw [if_neg (by have := nth_last_pos hn; omega)]
      rfl
    obtain ⟨g, off, rfl, hg, hcl⟩ := HC.out (by intro e; rw [e] at hlp; simp at hlp)
    have hcell := hcl n (by omega)
    have HTOT := Lib.hid htot
    have htop := (Low.limbs a).nth n
    have hz : (((n : Int) + 1) == 0) = false := beq_eq_false_iff_ne.2 (by omega)
    rw [hn] at hcell hlx HBW ⊢
    clear hcl hlp hlc HC hn htot h0
    go_enter Tryz.func59, Tryz.ntmps59
    go_wp2_with fail
    go_loop [3, 4] (fun s k => ∃ j m : Nat, s = .int .i64 ((9 * n + j : Nat) : Int) ∧ k = .int .i64 (m : Int) ∧ j + dd m = dd (nth (limbs a) n) ∧ m < 1000000000 ∧ j ≤ 1000) (fun _ k => (intOf k).toNat)
    case atStart => exact ⟨0, nth (limbs a) n, by rfl, rfl, by omega, htop, by omega⟩
    case round =>
      obtain ⟨j, m, rfl, rfl, hs, hm, hj⟩ := hrel
      have HS := Lib.hid hs
      clear hs
      rcases Nat.eq_zero_or_pos m with h0 | h0
      · subst h0
        have E := HS.out
        rw [dd_zero, Nat.add_zero] at E
        have HE := Lib.hid (show Lib.nDigits a = 9 * n + j by rw [HTOT.out, E])
        clear E
        go_wp2_with fail
        go_ret
        exact ⟨by rw [HE.out, Int.natCast_add, Int.natCast_mul]; rfl, HBW.out⟩
      · have hj2 : j ≤ 20 := by
          have h1 := HS.out
          have h2 : dd (nth (limbs a) n) ≤ 20 := by
            unfold dd
            split
            · omega
            · have h3 := decDigits_length_le (r := nth (limbs a) n) (k := 9) (by omega) (by simpa using htop)
              rw [Lib.decDigits_length] at h3
              omega
          omega
        have HN : Hid (j + 1 + dd (m / 10) = dd (nth (limbs a) n)) := by
          have := HS.out
          rw [dd_pos h0] at this
          show _ = _
          omega
        go_wp2_with fail
        go_round
        case rel => exact ⟨j + 1, m / 10, congrArg (Value.int .i64) (by omega), by go_num, HN.out, by omega, by omega⟩
        case measure => simp [intOf]; omega

end Go.Proofs.YtmickdolpgjbhaaGreatDoor
