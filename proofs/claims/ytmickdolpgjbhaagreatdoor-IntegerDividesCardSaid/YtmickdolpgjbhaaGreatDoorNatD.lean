/-
  Plain mathematics: long division.
-/
import Derived.Test.YtmickdolpgjbhaaGreatDoorNatC
namespace Go.Proofs.YtmickdolpgjbhaaGreatDoor

theorem limbs_one {f : Nat} (h0 : 0 < f) (h1 : f < 1000000000) : limbs f = [f] := by
  rw [limbs_pos (by omega), Nat.mod_eq_of_lt h1, Nat.div_eq_of_lt h1, limbs_zero]
theorem nth_last_pos {b n : Nat} (h : (limbs b).length = n + 1) : 0 < nth (limbs b) n := by
  have h1 := val_last' (limbs b) n h
  have hb : b ≠ 0 := by intro e; subst e; rw [limbs_zero] at h; simp at h
  have h2 := limbs_ge hb
  rw [h, Nat.add_sub_cancel] at h2
  rw [val_limbs] at h1
  have h3 := val_lt ((Low.limbs b).take n)
  rw [List.length_take, Nat.min_eq_left (by omega)] at h3
  rcases Nat.eq_zero_or_pos (nth (limbs b) n) with e | e
  · rw [e] at h1; omega
  · exact e
where
  val_last' (us : List Nat) (n : Nat) (h : us.length = n + 1) : val us = val (us.take n) + nth us n * 1000000000 ^ n := by
    have := val_split us n
    rw [h, Nat.min_eq_left (by omega), val_drop us n, List.drop_eq_nil_of_le (by omega), val_nil] at this
    rw [this]; grind
/-- The factor by which both numbers are multiplied. -/
structure Fac (b n f : Nat) : Prop where
  len : (limbs b).length = n + 2
  pos : 0 < f
  low : f < 1000000000
  fit : b * f < 1000000000 ^ (n + 2)
theorem Fac.mk' {b n : Nat} (h : (limbs b).length = n + 2) : Fac b n (1000000000 / (nth (limbs b) (n + 1) + 1)) := by
  have h1 := nth_last_pos (n := n + 1) h
  have h2 := (Low.limbs b).nth (n + 1)
  have hV := val_top2 (limbs b) n h
  rw [val_limbs] at hV
  have hl := val_lt ((Low.limbs b).take n)
  rw [List.length_take, Nat.min_eq_left (by omega)] at hl
  have h3 := (Low.limbs b).nth n
  generalize nth (limbs b) (n + 1) = t at *
  generalize nth (limbs b) n = s at *
  generalize val ((limbs b).take n) = l at *
  refine ⟨h, Nat.div_pos (by omega) (by omega), Nat.div_lt_of_lt_mul (by omega), ?_⟩
  have h4 : b < (t + 1) * 1000000000 * 1000000000 ^ n := by
    have h5 : (t * 1000000000 + s + 1) * 1000000000 ^ n ≤ (t + 1) * 1000000000 * 1000000000 ^ n := Nat.mul_le_mul_right _ (by omega)
    rw [Nat.add_mul _ 1] at h5
    omega
  have h5 : (t + 1) * (1000000000 / (t + 1)) ≤ 1000000000 := Nat.mul_div_le _ _
  have h6 : 0 < 1000000000 / (t + 1) := Nat.div_pos (by omega) (by omega)
  generalize 1000000000 / (t + 1) = f at *
  have h7 : b * f < (t + 1) * 1000000000 * 1000000000 ^ n * f := Nat.mul_lt_mul_of_pos_right h4 h6
  have h8 : (t + 1) * 1000000000 * 1000000000 ^ n * f = ((t + 1) * f) * (1000000000 * 1000000000 ^ n) := by grind
  have h9 : ((t + 1) * f) * (1000000000 * 1000000000 ^ n) ≤ 1000000000 * (1000000000 * 1000000000 ^ n) := Nat.mul_le_mul_right _ h5
  have h10 : 1000000000 ^ (n + 2) = 1000000000 * (1000000000 * 1000000000 ^ n) := by rw [Nat.pow_succ, Nat.pow_succ]; grind
  omega
theorem Fac.len2 {b n f : Nat} (h : Fac b n f) : (limbs (b * f)).length = n + 2 := by
  have h1 := limbs_length_le h.fit
  have h2 : (limbs b).length ≤ (limbs (b * f)).length := limbs_length_mono (Nat.le_mul_of_pos_right _ h.pos)
  have := h.len
  omega
theorem Fac.ne {b n f : Nat} (h : Fac b n f) : 0 < b := by
  have := h.len
  rcases Nat.eq_zero_or_pos b with e | e
  · subst e; rw [limbs_zero] at this; simp at this
  · exact e
theorem Fac.pos2 {b n f : Nat} (h : Fac b n f) : 0 < b * f := Nat.mul_pos h.ne h.pos
/-- What a division has so far: so many limbs of the quotient are still to come. -/
def Div (a b f k : Nat) (us qs : List Nat) : Prop := a * f = val us + (b * f) * (1000000000 ^ k * val (qs.drop k)) ∧ val (us.drop k) < b * f
theorem Div.start {a b n f : Nat} (h : Fac b n f) (us qs : List Nat) (hl : us.length = (limbs a).length + 1) (hv : val us = a * f) (hq : qs.length = (limbs a).length + 1 - (n + 2)) (hba : n + 2 ≤ (limbs a).length) (hu : Low us) :
    Div a b f ((limbs a).length + 1 - (n + 2)) us qs := by
  refine ⟨by rw [List.drop_eq_nil_of_le (by omega), hv]; simp [val], ?_⟩
  generalize hk : (limbs a).length + 1 - (n + 2) = k at *
  have h1 := val_split us k
  rw [Nat.min_eq_left (by omega)] at h1
  have h2 := limbs_lt a
  have h3 : a * f < 1000000000 ^ (limbs a).length * f := Nat.mul_lt_mul_of_pos_right h2 h.pos
  have h4 : 1000000000 ^ (limbs a).length = 1000000000 ^ k * 1000000000 ^ (n + 1) := by rw [← Nat.pow_add]; congr 1; omega
  have h5 : 1000000000 ^ (n + 1) ≤ b := by
    have := limbs_ge (n := b) (by have := h.ne; omega)
    rwa [h.len] at this
  have h6 : 1000000000 ^ k * val (us.drop k) < 1000000000 ^ k * (b * f) := by
    have h7 : 1000000000 ^ k * (1000000000 ^ (n + 1) * f) ≤ 1000000000 ^ k * (b * f) := Nat.mul_le_mul_left _ (Nat.mul_le_mul_right _ h5)
    have h8 : 1000000000 ^ (limbs a).length * f = 1000000000 ^ k * (1000000000 ^ (n + 1) * f) := by rw [h4, Nat.mul_assoc]
    omega
  exact Nat.lt_of_mul_lt_mul_left h6
/-- The part of the number at which a step works. -/
theorem Div.win {a b n f j : Nat} {us qs : List Nat} (h : Div a b f (j + 1) us qs) (hf : Fac b n f) (hu : Low us) (hl : j + (n + 3) ≤ us.length) :
    val ((us.drop j).take (n + 3)) < 1000000000 * (b * f) ∧ val (us.drop (j + (n + 3))) = 0 := by
  have h1 := h.2
  have h2 := val_drop us j
  have h3 := hu.nth j
  have h4 := val_split (us.drop j) (n + 3)
  rw [List.length_drop, Nat.min_eq_left (by omega), List.drop_drop] at h4
  have h5 := hf.fit
  have h6 : val (us.drop j) < 1000000000 * (b * f) := by omega
  refine ⟨by omega, ?_⟩
  rcases Nat.eq_zero_or_pos (val (us.drop (j + (n + 3)))) with e | e
  · exact e
  · exfalso
    have h7 : 1000000000 ^ (n + 3) * 1 ≤ 1000000000 ^ (n + 3) * val (us.drop (j + (n + 3))) := Nat.mul_le_mul_left _ e
    have h8 : 1000000000 ^ (n + 3) = 1000000000 ^ (n + 2) * 1000000000 := Nat.pow_succ ..
    omega
theorem Div.step {a b n f j : Nat} {us qs ws : List Nat} (h : Div a b f (j + 1) us qs) (hf : Fac b n f) (hu : Low us) (hl : j + (n + 3) ≤ us.length) (hq : j < qs.length) (hw : ws.length = n + 3) (hv : val ws = val ((us.drop j).take (n + 3)) % (b * f)) :
    Div a b f j (us.take j ++ (ws ++ us.drop (j + (n + 3)))) (qs.set j (val ((us.drop j).take (n + 3)) / (b * f))) := by
  obtain ⟨hw1, hz⟩ := h.win hf hu hl
  have hV := hf.pos2
  have hm := Nat.mod_lt (val ((us.drop j).take (n + 3))) hV
  have hd := Nat.mod_add_div (val ((us.drop j).take (n + 3))) (b * f)
  have hs := val_split us j
  rw [Nat.min_eq_left (by omega)] at hs
  have hs2 := val_split (us.drop j) (n + 3)
  rw [List.length_drop, Nat.min_eq_left (by omega), List.drop_drop, hz, Nat.mul_zero, Nat.add_zero] at hs2
  have hlt : (us.take j).length = j := by rw [List.length_take]; omega
  refine ⟨?_, ?_⟩
  · rw [h.1, val_append, val_append, hlt, hz, Nat.mul_zero, Nat.add_zero, drop_set hq, val_cons, hs, hs2, hv]
    generalize val ((us.drop j).take (n + 3)) = W at *
    generalize W % (b * f) = M at *
    generalize W / (b * f) = D at *
    generalize val (qs.drop (j + 1)) = Z at *
    generalize b * f = V at *
    rw [Nat.pow_succ]
    generalize 1000000000 ^ j = P at *
    rw [← hd]
    grind
  · rw [List.drop_append_of_le_length (by omega), List.drop_eq_nil_of_le (by omega), List.nil_append, val_append, hz, hv]
    omega
theorem Div.done {a b f : Nat} {us qs : List Nat} (h : Div a b f 0 us qs) (hf : 0 < f) (hb : 0 < b) : val qs = a / b ∧ val us = (a % b) * f := by
  obtain ⟨h1, h2⟩ := h
  rw [List.drop_zero, Nat.pow_zero, Nat.one_mul] at h1
  rw [List.drop_zero] at h2
  have hV : 0 < b * f := Nat.mul_pos hb hf
  have e1 : a * f / (b * f) = a / b := Nat.mul_div_mul_right _ _ hf
  have e2 : a * f % (b * f) = (a % b) * f := Nat.mul_mod_mul_right ..
  rw [← e1, ← e2, h1]
  refine ⟨?_, ?_⟩
  · rw [Nat.add_comm, Nat.mul_add_div hV, Nat.div_eq_of_lt h2, Nat.add_zero]
  · rw [Nat.add_comm, Nat.mul_add_mod, Nat.mod_eq_of_lt h2]

theorem take_all {us : List Nat} {n : Nat} (hl : n ≤ us.length) (hv : val us < 1000000000 ^ n) : val (us.take n) = val us := by
  have h := val_split us n
  rw [Nat.min_eq_left hl] at h
  rcases Nat.eq_zero_or_pos (val (us.drop n)) with e | e
  · rw [e] at h; omega
  · have : 1000000000 ^ n * 1 ≤ 1000000000 ^ n * val (us.drop n) := Nat.mul_le_mul_left _ e
    omega
theorem Div.rest {a b n f : Nat} {us qs : List Nat} (h : Div a b f 0 us qs) (hf : Fac b n f) (hu : Low us) (hl : n + 2 ≤ us.length) : trimL (us.take (n + 2)) = limbs ((a % b) * f) := by
  have h1 := (h.done hf.pos hf.ne).2
  have h2 := h.2
  rw [List.drop_zero] at h2
  have h3 := hf.fit
  rw [← limbs_val (hu.take _), take_all hl (by omega), h1]

end Go.Proofs.YtmickdolpgjbhaaGreatDoor
