/-
  Plain mathematics: lists of limbs, base 10^9.
-/
namespace Go.Proofs.YtmickdolpgjbhaaGreatDoor

/-- Element i of a list, 0 beyond its end. -/
def nth (xs : List Nat) (i : Nat) : Nat := xs.getD i 0
theorem nth_lt {xs : List Nat} {i : Nat} (h : i < xs.length) : nth xs i = xs[i] := by simp [nth, h]
theorem nth_ge {xs : List Nat} {i : Nat} (h : xs.length ≤ i) : nth xs i = 0 := by simp [nth, h]
theorem nth_take {xs : List Nat} {i n : Nat} (h : i < n) : nth (xs.take n) i = nth xs i := by simp [nth, h, List.getD_eq_getElem?_getD]
theorem nth_nil (i : Nat) : nth [] i = 0 := by simp [nth]
theorem nth_cons_zero (x : Nat) (xs : List Nat) : nth (x :: xs) 0 = x := by simp [nth]
theorem nth_cons_succ (x : Nat) (xs : List Nat) (i : Nat) : nth (x :: xs) (i + 1) = nth xs i := by simp [nth]

/-- So many zeros. -/
def zeros (n : Nat) : List Nat := List.replicate n 0
theorem zeros_length (n : Nat) : (zeros n).length = n := by simp [zeros]

/-- A list without the zeros at its end. -/
def trimL : List Nat → List Nat
  | [] => []
  | x :: xs => match trimL xs with
    | [] => if x = 0 then [] else [x]
    | y :: ys => x :: y :: ys

theorem trimL_snoc_zero (xs : List Nat) : trimL (xs ++ [0]) = trimL xs := by
  induction xs with
  | nil => rfl
  | cons x xs ih => simp only [List.cons_append, trimL, ih]
theorem trimL_snoc (xs : List Nat) (x : Nat) (h : x ≠ 0) : trimL (xs ++ [x]) = xs ++ [x] := by
  induction xs with
  | nil => simp [trimL, h]
  | cons y ys ih =>
    simp only [List.cons_append, trimL, ih]
    cases hys : ys ++ [x] with
    | nil => simp at hys
    | cons a b => rfl
theorem trimL_take (xs : List Nat) : trimL xs = xs.take (trimL xs).length := by
  induction xs with
  | nil => rfl
  | cons x xs ih =>
    simp only [trimL]
    cases h : trimL xs with
    | nil => by_cases hx : x = 0 <;> simp [hx]
    | cons y ys => rw [h] at ih; simp only [List.length_cons, List.take_succ_cons] at ih ⊢; rw [← ih]
theorem trimL_length_le (xs : List Nat) : (trimL xs).length ≤ xs.length := by
  have := congrArg List.length (trimL_take xs)
  rw [List.length_take] at this; omega
theorem trimL_take_zero (xs : List Nat) (k : Nat) (hk : k < xs.length) (h : nth xs k = 0) : trimL (xs.take (k + 1)) = trimL (xs.take k) := by
  rw [List.take_succ_eq_append_getElem hk, ← nth_lt hk, h, trimL_snoc_zero]
theorem trimL_take_pos (xs : List Nat) (k : Nat) (hk : k < xs.length) (h : nth xs k ≠ 0) : trimL (xs.take (k + 1)) = xs.take (k + 1) := by
  rw [List.take_succ_eq_append_getElem hk]; exact trimL_snoc _ _ (by rw [← nth_lt hk]; exact h)


/-- The number that limbs mean, the least significant one first. -/
def val : List Nat → Nat
  | [] => 0
  | x :: xs => x + 1000000000 * val xs
/-- The limbs of a number, without zeros at the end. -/
def limbs (n : Nat) : List Nat := if h : n = 0 then [] else n % 1000000000 :: limbs (n / 1000000000)
termination_by n
decreasing_by omega
theorem limbs_zero : limbs 0 = [] := by unfold limbs; simp
theorem limbs_pos {n : Nat} (h : n ≠ 0) : limbs n = n % 1000000000 :: limbs (n / 1000000000) := by
  conv => lhs; unfold limbs
  simp [h]
theorem val_nil : val [] = 0 := rfl
theorem val_cons (x : Nat) (xs : List Nat) : val (x :: xs) = x + 1000000000 * val xs := rfl
theorem val_limbs (n : Nat) : val (limbs n) = n := by
  induction n using Nat.strongRecOn with
  | _ n ih =>
    by_cases h : n = 0
    · subst h; rw [limbs_zero]; rfl
    · rw [limbs_pos h, val_cons, ih _ (by omega)]; omega
theorem limbs_inj {a b : Nat} (h : limbs a = limbs b) : a = b := by rw [← val_limbs a, ← val_limbs b, h]
/-- All limbs are below the base. -/
def Low (xs : List Nat) : Prop := ∀ x ∈ xs, x < 1000000000
theorem Low.nil : Low [] := by intro x h; simp at h
theorem Low.cons {x : Nat} {xs : List Nat} (h : x < 1000000000) (hs : Low xs) : Low (x :: xs) := by
  intro y hy
  rcases List.mem_cons.1 hy with rfl | hy
  · exact h
  · exact hs y hy
theorem Low.head {x : Nat} {xs : List Nat} (h : Low (x :: xs)) : x < 1000000000 := h x (by simp)
theorem Low.tail {x : Nat} {xs : List Nat} (h : Low (x :: xs)) : Low xs := fun y hy => h y (by simp [hy])
theorem Low.append {xs ys : List Nat} (h : Low xs) (k : Low ys) : Low (xs ++ ys) := by
  intro x hx
  rcases List.mem_append.1 hx with hx | hx
  · exact h x hx
  · exact k x hx
theorem Low.snoc {xs : List Nat} {x : Nat} (h : Low xs) (k : x < 1000000000) : Low (xs ++ [x]) := h.append (Low.cons k Low.nil)
theorem Low.take {xs : List Nat} (h : Low xs) (k : Nat) : Low (xs.take k) := fun x hx => h x (List.mem_of_mem_take hx)
theorem Low.drop {xs : List Nat} (h : Low xs) (k : Nat) : Low (xs.drop k) := fun x hx => h x (List.mem_of_mem_drop hx)
theorem Low.nth {xs : List Nat} (h : Low xs) (i : Nat) : nth xs i < 1000000000 := by
  by_cases hi : i < xs.length
  · rw [nth_lt hi]; exact h _ (List.getElem_mem hi)
  · rw [nth_ge (by omega)]; omega
theorem Low.limbs (n : Nat) : Low (limbs n) := by
  induction n using Nat.strongRecOn with
  | _ n ih =>
    by_cases h : n = 0
    · subst h; rw [limbs_zero]; exact Low.nil
    · rw [limbs_pos h]; exact Low.cons (by omega) (ih _ (by omega))
theorem low_zeros (n : Nat) : Low (zeros n) := by
  intro x hx; unfold zeros at hx; rw [List.eq_of_mem_replicate hx]; omega
theorem val_append (xs ys : List Nat) : val (xs ++ ys) = val xs + 1000000000 ^ xs.length * val ys := by
  induction xs with
  | nil => simp [val]
  | cons x xs ih =>
    simp only [List.cons_append, val_cons, ih, List.length_cons, Nat.pow_succ]
    rw [Nat.mul_add, Nat.mul_comm (1000000000 ^ xs.length) 1000000000, Nat.mul_assoc, Nat.add_assoc]
theorem val_snoc (xs : List Nat) (x : Nat) : val (xs ++ [x]) = val xs + 1000000000 ^ xs.length * x := by
  rw [val_append]; simp [val]
theorem val_zeros (n : Nat) : val (zeros n) = 0 := by
  unfold zeros
  induction n with
  | zero => rfl
  | succ n ih => rw [List.replicate_succ, val_cons, ih]
theorem val_lt {xs : List Nat} (h : Low xs) : val xs < 1000000000 ^ xs.length := by
  induction xs with
  | nil => simp [val]
  | cons x xs ih =>
    have h1 := h.head
    have h2 := ih h.tail
    rw [val_cons, List.length_cons, Nat.pow_succ]
    generalize 1000000000 ^ xs.length = P at *
    omega
theorem val_take_succ (xs : List Nat) (k : Nat) : val (xs.take (k + 1)) = val (xs.take k) + 1000000000 ^ k * nth xs k := by
  by_cases h : k < xs.length
  · rw [List.take_succ_eq_append_getElem h, val_snoc, List.length_take, Nat.min_eq_left (by omega), nth_lt h]
  · rw [nth_ge (by omega), List.take_of_length_le (by omega), List.take_of_length_le (by omega)]; simp
theorem val_trimL (xs : List Nat) : val (trimL xs) = val xs := by
  induction xs with
  | nil => rfl
  | cons x xs ih =>
    simp only [trimL]
    cases h : trimL xs with
    | nil =>
      rw [h] at ih
      rw [val_cons, ← ih]
      by_cases hx : x = 0 <;> simp [hx, val]
    | cons y ys => rw [val_cons x xs, ← ih, h, ← val_cons]
theorem Low.trimL {xs : List Nat} (h : Low xs) : Low (trimL xs) := by rw [trimL_take]; exact h.take _
theorem limbs_val {xs : List Nat} (h : Low xs) : limbs (val xs) = trimL xs := by
  induction xs with
  | nil => exact limbs_zero
  | cons x xs ih =>
    have h1 := h.head
    have h2 := ih h.tail
    rw [val_cons]
    by_cases h0 : x + 1000000000 * val xs = 0
    · have hx : x = 0 := by omega
      have hv : val xs = 0 := by omega
      rw [h0, limbs_zero]
      rw [hv, limbs_zero] at h2
      simp [trimL, ← h2, hx]
    · rw [limbs_pos h0]
      have e1 : (x + 1000000000 * val xs) % 1000000000 = x := by omega
      have e2 : (x + 1000000000 * val xs) / 1000000000 = val xs := by omega
      rw [e1, e2, h2]
      simp only [trimL]
      cases ht : trimL xs with
      | nil =>
        have : val xs = 0 := by rw [← val_trimL, ht]; rfl
        have hx : x ≠ 0 := by omega
        simp [hx]
      | cons y ys => rfl
theorem trimL_limbs (n : Nat) : trimL (limbs n) = limbs n := by rw [← limbs_val (Low.limbs n), val_limbs]
theorem limbs_lt (n : Nat) : n < 1000000000 ^ (limbs n).length := by
  have := val_lt (Low.limbs n); rwa [val_limbs] at this
theorem limbs_ge {n : Nat} (h : n ≠ 0) : 1000000000 ^ ((limbs n).length - 1) ≤ n := by
  induction n using Nat.strongRecOn with
  | _ n ih =>
    rw [limbs_pos h, List.length_cons, Nat.add_sub_cancel]
    by_cases h0 : n / 1000000000 = 0
    · rw [h0, limbs_zero]; simp; omega
    · have h1 := ih _ (by omega) h0
      have h2 : (limbs (n / 1000000000)).length ≠ 0 := by rw [limbs_pos h0]; simp
      obtain ⟨m, hm⟩ : ∃ m, (limbs (n / 1000000000)).length = m + 1 := ⟨(limbs (n / 1000000000)).length - 1, by omega⟩
      rw [hm] at h1 ⊢
      rw [Nat.add_sub_cancel] at h1
      rw [Nat.pow_succ]
      generalize 1000000000 ^ m = P at *
      omega
theorem pow_mono {a b : Nat} (h : a ≤ b) : 1000000000 ^ a ≤ 1000000000 ^ b := Nat.pow_le_pow_right (by omega) h
theorem pow_pos' (a : Nat) : 0 < 1000000000 ^ a := Nat.pow_pos (by omega)
theorem limbs_length_le {n k : Nat} (h : n < 1000000000 ^ k) : (limbs n).length ≤ k := by
  by_cases h0 : n = 0
  · subst h0; rw [limbs_zero]; simp
  · have h1 := limbs_ge h0
    apply Decidable.byContradiction
    intro hk
    have := pow_mono (a := k) (b := (limbs n).length - 1) (by omega)
    omega
theorem limbs_length_mono {a b : Nat} (h : a ≤ b) : (limbs a).length ≤ (limbs b).length := limbs_length_le (Nat.lt_of_le_of_lt h (limbs_lt b))
theorem limbs_length_lt {a b : Nat} (h : (limbs a).length < (limbs b).length) : a < b := by
  apply Decidable.byContradiction
  intro hk
  have := limbs_length_mono (a := b) (b := a) (by omega)
  omega
theorem limbs_eq_nil {n : Nat} : limbs n = [] ↔ n = 0 := by
  refine ⟨fun h => ?_, fun h => by rw [h, limbs_zero]⟩
  rw [← val_limbs n, h]; rfl
theorem limbs_length_pos {n : Nat} : 0 < (limbs n).length ↔ n ≠ 0 := by
  rw [← List.ne_nil_iff_length_pos]; exact not_congr limbs_eq_nil
theorem val_split (xs : List Nat) (k : Nat) : val xs = val (xs.take k) + 1000000000 ^ (min k xs.length) * val (xs.drop k) := by
  conv => lhs; rw [← List.take_append_drop k xs]
  rw [val_append, List.length_take]
theorem val_drop (xs : List Nat) (k : Nat) : val (xs.drop k) = nth xs k + 1000000000 * val (xs.drop (k + 1)) := by
  by_cases h : k < xs.length
  · rw [List.drop_eq_getElem_cons h, val_cons, nth_lt h]
  · rw [List.drop_eq_nil_of_le (by omega), List.drop_eq_nil_of_le (by omega), nth_ge (by omega)]; rfl

/-- The sign of a comparison. -/
def cmpN (a b : Nat) : Int := if a < b then -1 else if b < a then 1 else 0
theorem cmpN_lt {a b : Nat} (h : a < b) : cmpN a b = -1 := by simp [cmpN, h]
theorem cmpN_gt {a b : Nat} (h : b < a) : cmpN a b = 1 := by
  have : ¬ a < b := by omega
  simp [cmpN, h, this]
theorem cmpN_eq {a b : Nat} (h : a = b) : cmpN a b = 0 := by simp [cmpN, h]
/-- Two lists of one length that agree above a place are told apart there. -/
theorem val_lt_of {xs ys : List Nat} {i : Nat} (hl : xs.length = ys.length) (hi : i < xs.length) (hx : Low xs) (hd : val (xs.drop (i + 1)) = val (ys.drop (i + 1))) (h : nth xs i < nth ys i) : val xs < val ys := by
  rw [val_split xs i, val_split ys i, val_drop xs i, val_drop ys i, hd, ← hl, Nat.min_eq_left (by omega)]
  have h1 := val_lt (hx.take i)
  rw [List.length_take, Nat.min_eq_left (by omega)] at h1
  generalize val (ys.drop (i + 1)) = D at *
  generalize nth xs i = x at *
  generalize nth ys i = y at *
  have h2 : 1000000000 ^ i * (x + 1000000000 * D + 1) ≤ 1000000000 ^ i * (y + 1000000000 * D) := Nat.mul_le_mul_left _ (by omega)
  rw [Nat.mul_add, Nat.mul_one] at h2
  omega


theorem add_step (xs ys os : List Nat) (k cr : Nat) (hk : os.length = k) (h : val os + cr * 1000000000 ^ k = val (xs.take k) + val (ys.take k)) :
    val (os ++ [(nth xs k + nth ys k + cr) % 1000000000]) + (nth xs k + nth ys k + cr) / 1000000000 * 1000000000 ^ (k + 1) = val (xs.take (k + 1)) + val (ys.take (k + 1)) := by
  rw [val_snoc, hk, val_take_succ, val_take_succ, Nat.pow_succ]
  generalize 1000000000 ^ k = P at *
  generalize nth xs k = x at *
  generalize nth ys k = y at *
  have e : P * (x + y + cr) = P * ((x + y + cr) % 1000000000) + (x + y + cr) / 1000000000 * (P * 1000000000) := by
    have := Nat.mod_add_div (x + y + cr) 1000000000
    grind
  rw [Nat.mul_add, Nat.mul_add, Nat.mul_comm P cr] at e
  omega
theorem add_end (a b n cr : Nat) (os : List Nat) (hl : os.length = n + 1) (hlow : Low os) (ha : (limbs a).length ≤ n) (hb : (limbs b).length ≤ n) (h : val os + cr * 1000000000 ^ (n + 1) = val ((limbs a).take (n + 1)) + val ((limbs b).take (n + 1))) :
    trimL os = limbs (a + b) := by
  rw [List.take_of_length_le (by omega), List.take_of_length_le (by omega), val_limbs, val_limbs] at h
  have h1 := Nat.lt_of_lt_of_le (limbs_lt a) (pow_mono ha)
  have h2 := Nat.lt_of_lt_of_le (limbs_lt b) (pow_mono hb)
  have hc : cr = 0 := by
    rcases Nat.eq_zero_or_pos cr with h0 | h0
    · exact h0
    · have : 1 * 1000000000 ^ (n + 1) ≤ cr * 1000000000 ^ (n + 1) := Nat.mul_le_mul_right _ h0
      rw [Nat.pow_succ] at *
      generalize 1000000000 ^ n = P at *
      omega
  subst hc
  rw [Nat.zero_mul, Nat.add_zero] at h
  rw [← limbs_val hlow, h]


theorem sub_step (xs ys os : List Nat) (k br : Nat) (hk : os.length = k) (hx : nth xs k < 1000000000) (hy : nth ys k < 1000000000) (hbr : br ≤ 1) (h : val os + val (ys.take k) = val (xs.take k) + br * 1000000000 ^ k) :
    val (os ++ [(nth xs k + 1000000000 - nth ys k - br) % 1000000000]) + val (ys.take (k + 1)) = val (xs.take (k + 1)) + (1 - (nth xs k + 1000000000 - nth ys k - br) / 1000000000) * 1000000000 ^ (k + 1) := by
  rw [val_snoc, hk, val_take_succ, val_take_succ, Nat.pow_succ]
  generalize 1000000000 ^ k = P at *
  generalize nth xs k = x at *
  generalize nth ys k = y at *
  rcases Nat.lt_or_ge x (y + br) with hlt | hge
  · have e1 : (x + 1000000000 - y - br) % 1000000000 = x + 1000000000 - y - br := Nat.mod_eq_of_lt (by omega)
    have e2 : (x + 1000000000 - y - br) / 1000000000 = 0 := Nat.div_eq_of_lt (by omega)
    rw [e1, e2]
    obtain ⟨z, hz⟩ : ∃ z, x + 1000000000 = y + br + z := ⟨x + 1000000000 - y - br, by omega⟩
    have e3 : x + 1000000000 - y - br = z := by omega
    rw [e3]
    grind
  · obtain ⟨z, hz⟩ : ∃ z, x = y + br + z := ⟨x - y - br, by omega⟩
    have e1 : (x + 1000000000 - y - br) % 1000000000 = z := by omega
    have e2 : (x + 1000000000 - y - br) / 1000000000 = 1 := by omega
    rw [e1, e2]
    grind
theorem sub_end (a b br : Nat) (os : List Nat) (hab : b ≤ a) (hl : os.length = (limbs a).length) (hlow : Low os) (h : val os + val ((limbs b).take (limbs a).length) = val ((limbs a).take (limbs a).length) + br * 1000000000 ^ (limbs a).length) :
    trimL os = limbs (a - b) := by
  rw [List.take_of_length_le (limbs_length_mono hab), List.take_length, val_limbs, val_limbs] at h
  have h1 := val_lt hlow
  rw [hl] at h1
  have hc : br = 0 := by
    rcases Nat.eq_zero_or_pos br with h0 | h0
    · exact h0
    · have : 1 * 1000000000 ^ (limbs a).length ≤ br * 1000000000 ^ (limbs a).length := Nat.mul_le_mul_right _ h0
      omega
  subst hc
  rw [Nat.zero_mul, Nat.add_zero] at h
  rw [← limbs_val hlow]; congr 1; omega


theorem nth_set_eq {xs : List Nat} {i x : Nat} (h : i < xs.length) : nth (xs.set i x) i = x := by simp [nth, h]
theorem nth_set_ne {xs : List Nat} {i j x : Nat} (h : i ≠ j) : nth (xs.set i x) j = nth xs j := by simp [nth, h, List.getD_eq_getElem?_getD]
theorem val_set {xs : List Nat} {i x : Nat} (h : i < xs.length) : val (xs.set i x) + 1000000000 ^ i * nth xs i = val xs + 1000000000 ^ i * x := by
  induction xs generalizing i with
  | nil => simp at h
  | cons y ys ih =>
    cases i with
    | zero => simp [val_cons, nth_cons_zero]; omega
    | succ i =>
      have := ih (i := i) (by simpa using h)
      rw [List.set_cons_succ, val_cons, val_cons, nth_cons_succ, Nat.pow_succ]
      grind
theorem Low.set {xs : List Nat} (h : Low xs) (i : Nat) {x : Nat} (hx : x < 1000000000) : Low (xs.set i x) := by
  intro y hy
  rcases List.mem_or_eq_of_mem_set hy with h1 | h1
  · exact h y h1
  · omega
theorem mul_step (r : List Nat) (i k x y cr V Y : Nat) (hj : i + k < r.length) (h : val r + cr * 1000000000 ^ (i + k) = V + x * 1000000000 ^ i * Y) :
    val (r.set (i + k) ((nth r (i + k) + x * y + cr) % 1000000000)) + (nth r (i + k) + x * y + cr) / 1000000000 * 1000000000 ^ (i + (k + 1)) = V + x * 1000000000 ^ i * (Y + 1000000000 ^ k * y) := by
  have h1 := val_set (x := (nth r (i + k) + x * y + cr) % 1000000000) hj
  have h2 := Nat.mod_add_div (nth r (i + k) + x * y + cr) 1000000000
  have h3 : 1000000000 ^ (i + (k + 1)) = 1000000000 ^ (i + k) * 1000000000 := by rw [← Nat.add_assoc, Nat.pow_succ]
  have h4 : 1000000000 ^ i * 1000000000 ^ k = 1000000000 ^ (i + k) := by rw [Nat.pow_add]
  rw [h3]
  generalize nth r (i + k) = z at *
  generalize (z + x * y + cr) % 1000000000 = m at *
  generalize (z + x * y + cr) / 1000000000 = q at *
  generalize 1000000000 ^ (i + k) = P at *
  generalize 1000000000 ^ i = I at *
  generalize 1000000000 ^ k = K at *
  generalize val (r.set (i + k) m) = vs at *
  generalize val r = v at *
  have e : P * (z + x * y + cr) = P * m + P * (1000000000 * q) := by rw [← h2, Nat.mul_add]
  have e2 : x * I * (Y + K * y) = x * I * Y + P * (x * y) := by rw [← h4]; grind
  rw [e2]
  have e3 : P * (z + x * y + cr) = P * z + P * (x * y) + cr * P := by grind
  have e4 : P * (1000000000 * q) = q * (P * 1000000000) := by grind
  omega
theorem mul_row_end (r : List Nat) (i cr lb V x Y : Nat) (hj : i + lb < r.length) (hz : nth r (i + lb) = 0) (h : val r + cr * 1000000000 ^ (i + lb) = V + x * 1000000000 ^ i * Y) :
    val (r.set (i + lb) (nth r (i + lb) + cr)) = V + x * 1000000000 ^ i * Y := by
  have h1 := val_set (x := nth r (i + lb) + cr) hj
  rw [hz, Nat.zero_add] at h1
  rw [hz, Nat.zero_add, ← h, Nat.mul_comm cr]
  omega

end Go.Proofs.YtmickdolpgjbhaaGreatDoor
