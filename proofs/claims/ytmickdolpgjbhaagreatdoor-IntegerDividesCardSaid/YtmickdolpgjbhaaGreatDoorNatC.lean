/-
  Plain mathematics: a step of long division.
-/
import Derived.Test.YtmickdolpgjbhaaGreatDoorNatB
namespace Go.Proofs.YtmickdolpgjbhaaGreatDoor

/-- The two first limbs of a divisor, and the rest. -/
theorem val_top2 (vs : List Nat) (n : Nat) (hn : vs.length = n + 2) : val vs = (nth vs (n + 1) * 1000000000 + nth vs n) * 1000000000 ^ n + val (vs.take n) := by
  have h := val_split vs n
  rw [hn, Nat.min_eq_left (by omega), val_drop vs n, val_drop vs (n + 1), List.drop_eq_nil_of_le (by omega)] at h
  rw [h, val_nil]
  grind
theorem val_top3 (us : List Nat) (n : Nat) (hn : us.length = n + 3) : val us = ((nth us (n + 2) * 1000000000 + nth us (n + 1)) * 1000000000 + nth us n) * 1000000000 ^ n + val (us.take n) := by
  have h := val_split us n
  rw [hn, Nat.min_eq_left (by omega), val_drop us n, val_drop us (n + 1), val_drop us (n + 2), List.drop_eq_nil_of_le (by omega)] at h
  rw [h, val_nil]
  grind

section
variable {U V P v1 v2 vl top u2 ul q r : Nat}
/-- What a divisor and a number look like whose first limbs are known. -/
structure Tops (U V P v1 v2 vl top u2 ul : Nat) : Prop where
  hV : V = (v1 * 1000000000 + v2) * P + vl
  hU : U = (top * 1000000000 + u2) * P + ul
  hvl : vl < P
  hul : ul < P
  hv2 : v2 < 1000000000
  hu2 : u2 < 1000000000
  hv1 : 0 < v1
  hlt : U < 1000000000 * V

theorem Tops.init (h : Tops U V P v1 v2 vl top u2 ul) (hq : top < (q + 1) * v1) : U < (q + 1) * V := by
  have h1 : (top + 1) * (1000000000 * P) ≤ ((q + 1) * v1) * (1000000000 * P) := Nat.mul_le_mul_right _ hq
  have h2 : (q + 1) * ((v1 * 1000000000) * P) ≤ (q + 1) * V := Nat.mul_le_mul_left _ (by
    rw [h.hV, Nat.add_mul]; omega)
  have h3 : U < (top + 1) * (1000000000 * P) := by
    have h4 : (top * 1000000000 + u2 + 1) * P ≤ ((top + 1) * 1000000000) * P := Nat.mul_le_mul_right _ (by have := h.hu2; omega)
    have h5 := h.hU
    have h6 := h.hul
    rw [Nat.add_mul _ 1] at h4
    rw [Nat.mul_assoc] at h4
    omega
  have h4 : (q + 1) * ((v1 * 1000000000) * P) = ((q + 1) * v1) * (1000000000 * P) := by grind
  omega
theorem Tops.dec (h : Tops U V P v1 v2 vl top u2 ul) (hqr : q * v1 + r = top) (hc : r * 1000000000 + u2 < q * v2) : U < q * V := by
  have h1 : (top * 1000000000 + u2 + 1) ≤ q * (v1 * 1000000000 + v2) := by
    rw [← hqr, Nat.mul_add, ← Nat.mul_assoc]; omega
  have h2 := Nat.mul_le_mul_right P h1
  have h3 : q * ((v1 * 1000000000 + v2) * P) ≤ q * V := Nat.mul_le_mul_left _ (Nat.le_trans (Nat.le_add_right _ vl) (Nat.le_of_eq h.hV.symm))
  have h4 := h.hU
  have h5 := h.hul
  rw [Nat.add_mul _ 1, Nat.mul_assoc q] at h2
  omega
theorem Tops.dec_big (h : Tops U V P v1 v2 vl top u2 ul) (hq : 1000000000 ≤ q) : U < q * V := by
  have h1 : 1000000000 * V ≤ q * V := Nat.mul_le_mul_right V hq
  have := h.hlt
  omega
theorem Tops.exit_small (h : Tops U V P v1 v2 vl top u2 ul) (hqr : q * v1 + r = top) (hq : q < 1000000000) (hc : q * v2 ≤ r * 1000000000 + u2) : q * V ≤ U + V := by
  have h1 : q * (v1 * 1000000000 + v2) ≤ top * 1000000000 + u2 := by
    rw [← hqr, Nat.mul_add, ← Nat.mul_assoc]; omega
  have h2 := Nat.mul_le_mul_right P h1
  have h3 : q * vl ≤ 1000000000 * P := Nat.mul_le_mul (by omega) (by have := h.hvl; omega)
  have h4 : 1 * (1000000000 * P) ≤ v1 * (1000000000 * P) := Nat.mul_le_mul_right _ h.hv1
  have h5 := h.hU
  have h6 := h.hV
  have h7 : q * V = q * (v1 * 1000000000 + v2) * P + q * vl := by rw [h.hV]; grind
  have h8 : v1 * (1000000000 * P) = v1 * 1000000000 * P := by grind
  rw [Nat.add_mul] at h6
  omega
theorem Tops.top_lt (h : Tops U V P v1 v2 vl top u2 ul) : top < (v1 + 1) * 1000000000 := by
  apply Decidable.byContradiction
  intro hc
  have h1 : ((v1 + 1) * 1000000000) * (1000000000 * P) ≤ top * (1000000000 * P) := Nat.mul_le_mul_right _ (by omega)
  have h2 : V < (v1 + 1) * 1000000000 * P := by
    have h3 : (v1 * 1000000000 + v2 + 1) * P ≤ ((v1 + 1) * 1000000000) * P := Nat.mul_le_mul_right _ (by have := h.hv2; omega)
    have h4 := h.hV
    have h5 := h.hvl
    rw [Nat.add_mul _ 1] at h3
    omega
  have h3 : 1000000000 * V < ((v1 + 1) * 1000000000) * (1000000000 * P) := by
    have : 1000000000 * V < 1000000000 * ((v1 + 1) * 1000000000 * P) := by omega
    grind
  have h4 : top * (1000000000 * P) ≤ U := by
    rw [h.hU, Nat.add_mul, Nat.mul_assoc]; omega
  have := h.hlt
  omega
theorem Tops.q_lt (h : Tops U V P v1 v2 vl top u2 ul) (hqr : q * v1 + r = top) (hr : 1000000000 ≤ r) : q < 1000000000 := by
  have h1 := h.top_lt
  rw [Nat.add_mul] at h1
  apply Decidable.byContradiction
  intro hc
  have h2 : 1000000000 * v1 ≤ q * v1 := Nat.mul_le_mul_right _ (by omega)
  omega
theorem Tops.exit_big (h : Tops U V P v1 v2 vl top u2 ul) (hqr : q * v1 + r = top) (hr : 1000000000 ≤ r) : q * V ≤ U + V := by
  have h0 := h.q_lt hqr hr
  have h1 : q * V ≤ q * ((v1 + 1) * 1000000000 * P) := Nat.mul_le_mul_left _ (by
    have h3 : (v1 * 1000000000 + v2 + 1) * P ≤ ((v1 + 1) * 1000000000) * P := Nat.mul_le_mul_right _ (by have := h.hv2; omega)
    have h4 := h.hV
    have h5 := h.hvl
    rw [Nat.add_mul _ 1] at h3
    omega)
  have h2 : (q * v1 + q) * (1000000000 * P) ≤ top * (1000000000 * P) := Nat.mul_le_mul_right _ (by omega)
  have h3 : q * ((v1 + 1) * 1000000000 * P) = (q * v1 + q) * (1000000000 * P) := by grind
  have h4 : top * (1000000000 * P) ≤ U := by
    rw [h.hU, Nat.add_mul, Nat.mul_assoc]; omega
  omega
end

/-- One limb of 'take q divisors away'. -/
theorem take_away (os us vs : List Nat) (k q bo x y : Nat) (hk : os.length = k) (hx : nth us k = x) (hy : nth vs k = y) (h : val (us.take k) + bo * 1000000000 ^ k = val os + q * val (vs.take k)) (o bo' : Nat)
    (ho : x + bo' * 1000000000 = o + q * y + bo) : val (us.take (k + 1)) + bo' * 1000000000 ^ (k + 1) = val (os ++ [o]) + q * val (vs.take (k + 1)) := by
  rw [val_snoc, hk, val_take_succ, val_take_succ, hx, hy, Nat.pow_succ]
  generalize 1000000000 ^ k = P at *
  have e : P * (x + bo' * 1000000000) = P * (o + q * y + bo) := by rw [ho]
  grind
/-- The quotient's limb is right where nothing is lacking. -/
theorem step_right {U V q M un bo vo : Nat} (h0 : U < (q + 1) * V) (hU : U = M + un * vo) (os : Nat) (h : M + bo * vo = os + q * V) (hge : bo ≤ un) : q = U / V ∧ os + (un - bo) * vo = U % V := by
  have hV : 0 < V := by rcases Nat.eq_zero_or_pos V with e | e; (subst e; omega); exact e
  obtain ⟨d, rfl⟩ : ∃ d, un = bo + d := ⟨un - bo, by omega⟩
  have h1 : U = q * V + (os + d * vo) := by rw [hU]; grind
  have h2 : os + d * vo < V := by rw [Nat.add_mul] at h0; omega
  have e : bo + d - bo = d := by omega
  rw [e, h1]
  refine ⟨?_, ?_⟩
  · rw [Nat.mul_comm q V, Nat.mul_add_div hV, Nat.div_eq_of_lt h2, Nat.add_zero]
  · rw [Nat.mul_comm q V, Nat.mul_add_mod, Nat.mod_eq_of_lt h2]
/-- One divisor too many. -/
theorem step_back {U V q M un bo vo : Nat} (h0 : q * V ≤ U + V) (hU : U = M + un * vo) (os : Nat) (hos : os < vo) (h : M + bo * vo = os + q * V) (hlt : un < bo) (os2 ca : Nat) (hos2 : os2 < vo) (hVo : V < vo) (hV : 0 < V) (h2 : os2 + ca * vo = os + V) :
    0 < q ∧ q - 1 = U / V ∧ os2 = U % V ∧ un + ca = bo := by
  obtain ⟨d, rfl⟩ : ∃ d, bo = un + (d + 1) := ⟨bo - un - 1, by omega⟩
  have h3 : U + (d + 1) * vo = os + q * V := by rw [hU]; grind
  have h4 : U < q * V := by rw [Nat.add_mul] at h3; omega
  have hq : 0 < q := by rcases Nat.eq_zero_or_pos q with e | e; (subst e; omega); exact e
  obtain ⟨p, rfl⟩ : ∃ p, q = p + 1 := ⟨q - 1, by omega⟩
  have e1 : (p + 1) * V = p * V + V := by grind
  rw [e1] at h0 h3 h4
  have h5 : U - p * V < V := by omega
  have h6 : U + (d + 1) * vo = os2 + ca * vo + p * V := by omega
  have hca : ca = d + 1 := by
    rcases Nat.lt_trichotomy ca (d + 1) with e | e | e
    · have : (ca + 1) * vo ≤ (d + 1) * vo := Nat.mul_le_mul_right _ e
      rw [Nat.add_mul] at this
      omega
    · exact e
    · have : (d + 1 + 1) * vo ≤ ca * vo := Nat.mul_le_mul_right _ e
      rw [Nat.add_mul (d + 1) 1] at this
      omega
  subst hca
  have h7 : U = p * V + os2 := by omega
  refine ⟨by omega, ?_, ?_, rfl⟩
  · rw [Nat.add_sub_cancel, h7, Nat.mul_comm p V, Nat.mul_add_div hV, Nat.div_eq_of_lt (by omega), Nat.add_zero]
  · rw [h7, Nat.mul_comm p V, Nat.mul_add_mod, Nat.mod_eq_of_lt (by omega)]

end Go.Proofs.YtmickdolpgjbhaaGreatDoor
