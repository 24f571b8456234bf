/-
  Plain mathematics: division by a limb.
-/
import Derived.Test.YtmickdolpgjbhaaGreatDoorNat
namespace Go.Proofs.YtmickdolpgjbhaaGreatDoor

theorem nth_zeros (n i : Nat) : nth (zeros n) i = 0 := by
  simp [nth, zeros, List.getD_eq_getElem?_getD, List.getElem?_replicate]
  split <;> rfl
theorem drop_set {xs : List Nat} {k x : Nat} (h : k < xs.length) : (xs.set k x).drop k = x :: xs.drop (k + 1) := by
  rw [List.drop_eq_getElem_cons (by simpa using h)]
  simp [List.drop_set_of_lt]
theorem short_step (r xs : List Nat) (k d rest : Nat) (hk : k < r.length) (hd : 0 < d) (h : d * val (r.drop (k + 1)) + rest = val (xs.drop (k + 1))) :
    d * val ((r.set k ((rest * 1000000000 + nth xs k) / d)).drop k) + (rest * 1000000000 + nth xs k) % d = val (xs.drop k) := by
  rw [drop_set hk, val_cons, val_drop xs k, ← h]
  have := Nat.mod_add_div (rest * 1000000000 + nth xs k) d
  generalize (rest * 1000000000 + nth xs k) % d = m at *
  generalize (rest * 1000000000 + nth xs k) / d = q at *
  generalize val (r.drop (k + 1)) = V at *
  grind
theorem short_limb {rest x d : Nat} (hr : rest < d) (hx : x < 1000000000) : (rest * 1000000000 + x) / d < 1000000000 := by
  apply Nat.div_lt_of_lt_mul
  have : (rest + 1) * 1000000000 ≤ d * 1000000000 := Nat.mul_le_mul_right _ hr
  omega
theorem short_end (a d rest : Nat) (r : List Nat) (hd : rest < d) (hr : Low r) (h : d * val r + rest = a) : trimL r = limbs (a / d) ∧ rest = a % d := by
  have h1 : a / d = val r := by
    rw [← h, Nat.mul_add_div (by omega), Nat.div_eq_of_lt hd, Nat.add_zero]
  exact ⟨by rw [← limbs_val hr, h1], by rw [← h, Nat.mul_add_mod, Nat.mod_eq_of_lt hd]⟩

end Go.Proofs.YtmickdolpgjbhaaGreatDoor
