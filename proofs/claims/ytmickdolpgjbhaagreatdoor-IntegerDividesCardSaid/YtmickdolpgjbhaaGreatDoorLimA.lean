/-
  Package limbs: at, trim, sign, compare.
-/
import Derived.Test.YtmickdolpgjbhaaGreatDoorBase
namespace Go.Proofs.YtmickdolpgjbhaaGreatDoor
open Go.RowKit

set_option maxHeartbeats 400000 in
theorem at_any (A : Option Addr) (xs : List Nat) (c i : Nat) (w : World) (hx : Cells .u64 w A xs) (hl : xs.length ≤ 1000000000) (hi : i ≤ 2000000000) :
    Calls Tryz.prog 75 #[.slice A xs.length c, .int .i64 i] w fun e w' => e = .returned (.int .u64 ((nth xs i : Nat) : Int)) ∧ w = w' := by
  by_cases h : i < xs.length
  · obtain ⟨b, off, rfl, hb, hc⟩ := hx (by intro e; subst e; simp at h)
    have hci := hc i h
    clear hc
    go_enter Tryz.func75, Tryz.ntmps75
    go_wp2
    go_ret
    exact ⟨rfl, rfl⟩
  · have e := nth_ge (Nat.le_of_not_lt h)
    rw [e]
    clear e
    go_enter Tryz.func75, Tryz.ntmps75
    go_wp2
    go_ret
    exact ⟨rfl, rfl⟩

set_option maxHeartbeats 400000 in
theorem trim_any (A : Option Addr) (xs : List Nat) (c : Nat) (w : World) (hx : Cells .u64 w A xs) (hl : xs.length ≤ 1000000000) (hlc : xs.length ≤ c) :
    Calls Tryz.prog 79 #[.slice A xs.length c] w fun e w' => e = .returned (.slice A (trimL xs).length c) ∧ w = w' := by
  go_enter Tryz.func79, Tryz.ntmps79
  go_wp2
  go_loop [3] (fun n => ∃ k : Nat, k ≤ xs.length ∧ n = .int .i64 k ∧ trimL (xs.take k) = trimL xs) (fun n => (intOf n).toNat)
  case atStart => exact ⟨xs.length, Nat.le_refl _, rfl, by rw [List.take_length]⟩
  case round =>
    obtain ⟨k, hk, rfl, ht⟩ := hrel
    have HT := Lib.hid ht
    clear ht
    rcases Nat.eq_zero_or_pos k with h0 | h0
    · subst h0
      have E := Lib.hid (show trimL xs = [] by rw [← HT.out]; rfl)
      clear HT
      go_wp2
      go_ret
      exact ⟨by rw [E.out]; rfl, rfl⟩
    · obtain ⟨b, off, rfl, hb, hc⟩ := hx (by intro e; subst e; simp at hk; omega)
      obtain ⟨j, rfl⟩ : ∃ j, k = j + 1 := ⟨k - 1, by omega⟩
      have hci := hc j (by omega)
      clear hc hx
      by_cases hz : nth xs j = 0
      · have hz' : (((nth xs j : Nat) : Int) == 0) = true := by simp [hz]
        have E := Lib.hid ((trimL_take_zero xs j (by omega) hz).symm.trans HT.out)
        clear hz HT
        go_wp2
        go_round
        case rel => exact ⟨j, by omega, by go_num, E.out⟩
        case measure => simp [intOf]
      · have hz' : (((nth xs j : Nat) : Int) == 0) = false := by simp [hz]
        have E := Lib.hid (HT.out.symm.trans (trimL_take_pos xs j (by omega) hz))
        clear hz HT
        go_wp2
        go_ret
        exact ⟨by rw [E.out, List.length_take, Nat.min_eq_left hk]; rfl, rfl⟩

set_option maxHeartbeats 400000 in
theorem sign_neg (n : Int) (w : World) (h : n < 0) : Calls Tryz.prog 88 #[.int .i64 n] w fun e w' => e = .returned (.int .i64 (-1)) ∧ w = w' := by
  go_enter Tryz.func88, Tryz.ntmps88
  go_wp2
  go_ret
  exact ⟨rfl, rfl⟩
set_option maxHeartbeats 400000 in
theorem sign_pos (n : Int) (w : World) (h : 0 < n) : Calls Tryz.prog 88 #[.int .i64 n] w fun e w' => e = .returned (.int .i64 1) ∧ w = w' := by
  have h' : ¬ n < 0 := by omega
  go_enter Tryz.func88, Tryz.ntmps88
  go_wp2
  go_ret
  exact ⟨rfl, rfl⟩

/-- The result is a number that hangs on nothing but the arguments; the world is as it was but for draws. -/
def RetInt (k : IntKind) (w : World) (n : Int) (e : Ending) (w' : World) : Prop := e = .returned (.int k n) ∧ ∃ m, w' = w.drewN m

set_option maxHeartbeats 1000000 in
theorem compare_any (A A' : Option Addr) (a b c c' : Nat) (w : World) (ha : Cells .u64 w A (limbs a)) (hb : Cells .u64 w A' (limbs b)) (hla : (limbs a).length ≤ 1000000000) (hlb : (limbs b).length ≤ 1000000000) :
    Calls Tryz.prog 72 #[.slice A (limbs a).length c, .slice A' (limbs b).length c'] w (RetInt .i64 w (cmpN a b)) := by
  by_cases hne : (limbs a).length = (limbs b).length
  · have HE := Lib.hid hne
    have hq : (((limbs a).length : Int) != ((limbs b).length : Int)) = false := by simp [hne]
    clear hne
    go_enter Tryz.func72, Tryz.ntmps72
    go_wp2
    go_loopw [5] (fun n wr => ∃ (k : Nat) (m : Nat), k ≤ (limbs a).length ∧ n = .int .i64 ((k : Int) - 1) ∧ wr = w.drewN m ∧ val ((limbs a).drop k) = val ((limbs b).drop k)) (fun n _ => (intOf n + 1).toNat)
    case atStart => exact ⟨(limbs a).length, 0, Nat.le_refl _, rfl, rfl, by rw [List.drop_length, HE.out, List.drop_length]⟩
    case round =>
      obtain ⟨k, m, hk, rfl, rfl, hd⟩ := hrel
      have HD := Lib.hid hd
      clear hd
      rcases Nat.eq_zero_or_pos k with h0 | h0
      · subst h0
        have E := Lib.hid (show cmpN a b = 0 from cmpN_eq (by have := HD.out; simpa [val_limbs] using this))
        clear HD
        go_wp2
        go_ret
        exact ⟨by rw [E.out]; rfl, m, rfl⟩
      · obtain ⟨j, rfl⟩ : ∃ j, k = j + 1 := ⟨k - 1, by omega⟩
        obtain ⟨g, off, rfl, hg, hc⟩ := ha (by intro e; rw [e] at hk; simp at hk)
        have hj : j < (limbs b).length := by have := HE.out; omega
        obtain ⟨g', off', rfl, hg', hc'⟩ := hb (by intro e; rw [e] at hj; simp at hj)
        have hci := hc j (by omega)
        have hci' := hc' j (by omega)
        clear hc hc' ha hb
        have el := val_lt_of (i := j) HE.out (by omega) (Low.limbs a) HD.out
        have eg := val_lt_of (i := j) HE.out.symm (by omega) (Low.limbs b) HD.out.symm
        rw [val_limbs, val_limbs] at el eg
        have HL := Lib.hid el
        have HG := Lib.hid eg
        clear el eg
        by_cases h1 : nth (limbs a) j < nth (limbs b) j
        · have E := Lib.hid (cmpN_lt (HL.out h1))
          go_wp2
          go_quiet (fail)
          go_wp2
          go_ret
          exact ⟨by rw [E.out]; rfl, _, by simp only [World.drewN_drewN]; rfl⟩
        · by_cases h2 : nth (limbs b) j < nth (limbs a) j
          · have E := Lib.hid (cmpN_gt (HG.out h2))
            go_wp2
            go_quiet (fail)
            go_wp2
            go_quiet (fail)
            go_wp2
            go_ret
            exact ⟨by rw [E.out]; rfl, _, by simp only [World.drewN_drewN]; rfl⟩
          · have E := Lib.hid (show val ((limbs a).drop j) = val ((limbs b).drop j) by rw [val_drop, val_drop (limbs b), HD.out]; omega)
            clear HD
            go_wp2
            go_quiet (fail)
            go_wp2
            go_quiet (fail)
            go_wp2
            go_roundw
            case rel => exact ⟨j, _, by omega, by go_num, rfl, E.out⟩
            case measure => simp [intOf]
  · have hq : (((limbs a).length : Int) != ((limbs b).length : Int)) = true := by simp [bne_iff_ne]; omega
    rcases Nat.lt_or_gt_of_ne hne with h | h
    · have E := Lib.hid (cmpN_lt (limbs_length_lt h))
      go_enter Tryz.func72, Tryz.ntmps72
      go_wp2_with (go_at_call 88; refine (sign_neg _ _ (by omega)).mono ?_; rintro e w' ⟨rfl, rfl⟩)
      go_ret
      exact ⟨by rw [E.out]; rfl, 0, rfl⟩
    · have E := Lib.hid (cmpN_gt (limbs_length_lt h))
      go_enter Tryz.func72, Tryz.ntmps72
      go_wp2_with (go_at_call 88; refine (sign_pos _ _ (by omega)).mono ?_; rintro e w' ⟨rfl, rfl⟩)
      go_ret
      exact ⟨by rw [E.out]; rfl, 0, rfl⟩

end Go.Proofs.YtmickdolpgjbhaaGreatDoor
