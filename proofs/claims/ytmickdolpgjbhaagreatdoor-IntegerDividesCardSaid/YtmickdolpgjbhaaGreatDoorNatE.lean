/-
  Plain mathematics: what the reference computes with limbs.
-/
import Derived.Test.YtmickdolpgjbhaaGreatDoorNatD
namespace Go.Proofs.YtmickdolpgjbhaaGreatDoor

theorem times_step (xs os : List Nat) (k n cr : Nat) (hk : os.length = k) (h : val os + cr * 1000000000 ^ k = n * val (xs.take k)) :
    val (os ++ [(cr + nth xs k * n) % 1000000000]) + (cr + nth xs k * n) / 1000000000 * 1000000000 ^ (k + 1) = n * val (xs.take (k + 1)) := by
  rw [val_snoc, hk, val_take_succ, Nat.pow_succ, Nat.mul_add, ← h]
  generalize 1000000000 ^ k = P at *
  generalize nth xs k = x at *
  have e : P * (cr + x * n) = P * ((cr + x * n) % 1000000000) + (cr + x * n) / 1000000000 * (P * 1000000000) := by
    have := Nat.mod_add_div (cr + x * n) 1000000000
    grind
  have e2 : P * (cr + x * n) = cr * P + n * (P * x) := by grind
  omega
theorem limbs_cons {x R : Nat} (hx : x < 1000000000) : trimL (x :: limbs R) = limbs (R * 1000000000 + x) := by
  rw [← limbs_val (Low.cons hx (Low.limbs R)), val_cons, val_limbs]
  congr 1; omega
theorem val_top_two (xs : List Nat) (n : Nat) (h : xs.length ≤ n + 2) : val xs = val (xs.take n) + 1000000000 ^ n * (nth xs n + nth xs (n + 1) * 1000000000) := by
  have h1 := val_take_succ xs n
  have h2 := val_take_succ xs (n + 1)
  rw [List.take_of_length_le (by omega)] at h2
  rw [h2, h1, Nat.pow_succ]
  generalize 1000000000 ^ n = P at *
  grind
theorem val_top_one (xs : List Nat) (n : Nat) (h : xs.length ≤ n + 1) : val xs = val (xs.take n) + 1000000000 ^ n * nth xs n := by
  have h1 := val_take_succ xs n
  rw [List.take_of_length_le (by omega)] at h1
  exact h1
theorem val_take_lt (a n : Nat) : val ((limbs a).take n) < 1000000000 ^ n := by
  have h := val_lt ((Low.limbs a).take n)
  exact Nat.lt_of_lt_of_le h (pow_mono (by rw [List.length_take]; omega))
/-- Between which estimates a limb of the quotient lies. -/
theorem quo_est {R Y n : Nat} (hn : (limbs Y).length = n + 1) (hR2 : R < Y * 1000000000) :
    R / Y ≤ (nth (limbs R) n + nth (limbs R) (n + 1) * 1000000000) / nth (limbs Y) n ∧ (nth (limbs R) n + nth (limbs R) (n + 1) * 1000000000) / (nth (limbs Y) n + 1) ≤ R / Y ∧ R / Y < 1000000000 := by
  have hy0 := nth_last_pos hn
  have hY : 0 < Y := by
    rcases Nat.eq_zero_or_pos Y with h | h
    · rw [h, limbs_zero] at hn; simp at hn
    · exact h
  have hYlt := limbs_lt Y
  rw [hn] at hYlt
  have hRl : (limbs R).length ≤ n + 2 := limbs_length_le (by
    rw [Nat.pow_succ]
    exact Nat.lt_of_lt_of_le hR2 (Nat.mul_le_mul_right _ (Nat.le_of_lt hYlt)))
  have eR := val_top_two (limbs R) n hRl
  have eY := val_top_one (limbs Y) n (by omega)
  rw [val_limbs] at eR eY
  have lR := val_take_lt R n
  have lY := val_take_lt Y n
  generalize nth (limbs R) n + nth (limbs R) (n + 1) * 1000000000 = top at *
  generalize nth (limbs Y) n = y at *
  generalize val ((limbs R).take n) = rl at *
  generalize val ((limbs Y).take n) = yl at *
  generalize 1000000000 ^ n = P at *
  have hd := Nat.div_mul_le_self R Y
  refine ⟨?_, ?_, Nat.div_lt_of_lt_mul hR2⟩
  · rw [Nat.le_div_iff_mul_le hy0]
    generalize R / Y = d at *
    apply Decidable.byContradiction
    intro hk
    have h1 : P * (top + 1) ≤ P * (d * y) := Nat.mul_le_mul_left _ (by omega)
    have h2 : d * Y = d * yl + P * (d * y) := by rw [eY]; grind
    rw [Nat.mul_add, Nat.mul_one] at h1
    omega
  · rw [Nat.le_div_iff_mul_le hY]
    have h1 := Nat.div_mul_le_self top (y + 1)
    generalize top / (y + 1) = q at *
    have h2 : P * (q * (y + 1)) ≤ P * top := Nat.mul_le_mul_left _ h1
    have h3 : q * Y ≤ P * (q * (y + 1)) := by
      have : Y ≤ P * (y + 1) := by rw [Nat.mul_add, Nat.mul_one]; omega
      have := Nat.mul_le_mul_left q this
      grind
    omega
/-- The binary search for a limb: what lies in its range. -/
theorem quo_mid_le {R Y mid : Nat} (hY : 0 < Y) (h : mid * Y ≤ R) : mid ≤ R / Y := (Nat.le_div_iff_mul_le hY).2 h
theorem quo_mid_gt {R Y mid : Nat} (hY : 0 < Y) (h : R < mid * Y) : R / Y < mid := (Nat.div_lt_iff_lt_mul hY).2 h

/-- The difference of a list of limbs under way: what is done, the borrow, what was there. -/
theorem minus_last {a b br : Nat} {os : List Nat} (hab : b ≤ a) (hl : os.length = (limbs a).length) (hlow : Low os) (h : val os + val ((limbs b).take (limbs a).length) = val ((limbs a).take (limbs a).length) + br * 1000000000 ^ (limbs a).length) : br = 0 := by
  rw [List.take_of_length_le (limbs_length_mono hab), List.take_length, val_limbs, val_limbs] at h
  have h1 := val_lt hlow
  rw [hl] at h1
  rcases Nat.eq_zero_or_pos br with h0 | h0
  · exact h0
  · have : 1 * 1000000000 ^ (limbs a).length ≤ br * 1000000000 ^ (limbs a).length := Nat.mul_le_mul_right _ h0
    omega

end Go.Proofs.YtmickdolpgjbhaaGreatDoor
