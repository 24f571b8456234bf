/-
  Plain mathematics: decimal texts.
-/
import Derived.Lib.ItoaNum
import Derived.Lib.ParseIntB
import Derived.Test.YtmickdolpgjbhaaGreatDoorNat
namespace Go.Proofs.YtmickdolpgjbhaaGreatDoor
open Go.Lib

/-- The number that digits spell. -/
def decVal (l : List UInt8) : Nat := l.foldl (fun a c => 10 * a + (c.toNat - 48)) 0
/-- A decimal digit. -/
def IsDig (c : UInt8) : Prop := 48 ≤ c.toNat ∧ c.toNat ≤ 57
/-- All are digits. -/
def Digs (l : List UInt8) : Prop := ∀ c ∈ l, IsDig c
theorem foldl_dec (l : List UInt8) (a : Nat) : l.foldl (fun a c => 10 * a + (c.toNat - 48)) a = a * 10 ^ l.length + decVal l := by
  induction l generalizing a with
  | nil => simp [decVal]
  | cons c l ih =>
    unfold decVal
    rw [List.foldl_cons, List.foldl_cons, ih, ih (10 * 0 + (c.toNat - 48)), List.length_cons, Nat.pow_succ]
    grind
theorem decVal_nil : decVal [] = 0 := rfl
theorem decVal_append (l m : List UInt8) : decVal (l ++ m) = decVal l * 10 ^ m.length + decVal m := by
  unfold decVal; rw [List.foldl_append, foldl_dec]; rfl
theorem decVal_snoc (l : List UInt8) (c : UInt8) : decVal (l ++ [c]) = 10 * decVal l + (c.toNat - 48) := by
  rw [decVal_append]; simp [decVal]; omega
theorem decVal_cons (c : UInt8) (l : List UInt8) : decVal (c :: l) = (c.toNat - 48) * 10 ^ l.length + decVal l := by
  rw [← List.singleton_append, decVal_append]; simp [decVal]
theorem Digs.nil : Digs [] := by intro c h; simp at h
theorem Digs.append {l m : List UInt8} (h : Digs l) (k : Digs m) : Digs (l ++ m) := by
  intro c hc
  rcases List.mem_append.1 hc with hc | hc
  · exact h c hc
  · exact k c hc
theorem Digs.left {l m : List UInt8} (h : Digs (l ++ m)) : Digs l := fun c hc => h c (List.mem_append_left _ hc)
theorem Digs.right {l m : List UInt8} (h : Digs (l ++ m)) : Digs m := fun c hc => h c (List.mem_append_right _ hc)
theorem Digs.take {l : List UInt8} (h : Digs l) (n : Nat) : Digs (l.take n) := fun c hc => h c (List.mem_of_mem_take hc)
theorem Digs.drop {l : List UInt8} (h : Digs l) (n : Nat) : Digs (l.drop n) := fun c hc => h c (List.mem_of_mem_drop hc)
theorem Digs.head {c : UInt8} {l : List UInt8} (h : Digs (c :: l)) : IsDig c := h c (by simp)
theorem Digs.tail {c : UInt8} {l : List UInt8} (h : Digs (c :: l)) : Digs l := fun x hx => h x (by simp [hx])
theorem dig_toNat {d : Nat} (h : d < 10) : (UInt8.ofNat (48 + d)).toNat = 48 + d := by
  rw [UInt8.toNat_ofNat']; exact Nat.mod_eq_of_lt (by omega)
theorem dig_is {d : Nat} (h : d < 10) : IsDig (UInt8.ofNat (48 + d)) := by
  unfold IsDig; rw [dig_toNat h]; omega
theorem decVal_lt {l : List UInt8} (h : Digs l) : decVal l < 10 ^ l.length := by
  induction l with
  | nil => simp [decVal]
  | cons c l ih =>
    have h1 := ih h.tail
    have h2 := h.head
    unfold IsDig at h2
    rw [decVal_cons, List.length_cons, Nat.pow_succ]
    have h3 : (c.toNat - 48) * 10 ^ l.length ≤ 9 * 10 ^ l.length := Nat.mul_le_mul_right _ (by omega)
    omega
theorem decDigits_val (n : Nat) : decVal (decDigits n) = n := by
  induction n using Nat.strongRecOn with
  | _ n ih =>
    by_cases h : n < 10
    · rw [decDigits_one h]; simp only [decVal, List.foldl_cons, List.foldl_nil, dig_toNat h]; omega
    · rw [decDigits, dif_neg h, decVal_snoc, ih _ (by omega), dig_toNat (by omega)]; omega
theorem decDigits_digs (n : Nat) : Digs (decDigits n) := by
  induction n using Nat.strongRecOn with
  | _ n ih =>
    by_cases h : n < 10
    · rw [decDigits_one h]; intro c hc; rw [List.mem_singleton] at hc; subst hc; exact dig_is h
    · rw [decDigits, dif_neg h]
      refine (ih _ (by omega)).append ?_
      intro c hc; rw [List.mem_singleton] at hc; subst hc; exact dig_is (by omega)
theorem dig_eq {c : UInt8} (h : IsDig c) : UInt8.ofNat (48 + (c.toNat - 48)) = c := by
  unfold IsDig at h
  apply UInt8.toNat_inj.1
  rw [dig_toNat (by omega)]; omega
/-- Digits whose first is not 0 are the numeral of what they spell. -/
theorem decDigits_of {l : List UInt8} (h : Digs l) (hne : l ≠ []) (h0 : l.head? ≠ some 48) : decDigits (decVal l) = l := by
  generalize hn : l.length = n
  induction n generalizing l with
  | zero => exact absurd (List.eq_nil_of_length_eq_zero hn) hne
  | succ n ih =>
    obtain ⟨m, c, rfl⟩ : ∃ m c, l = m ++ [c] := ⟨l.dropLast, l.getLast hne, (List.dropLast_concat_getLast hne).symm⟩
    have hc : IsDig c := h c (by simp)
    rw [decVal_snoc]
    by_cases hm : m = []
    · subst hm
      unfold IsDig at hc
      simp only [decVal_nil, Nat.mul_zero, Nat.zero_add, List.nil_append]
      rw [decDigits_one (by omega), dig_eq hc]
    · have h1 : decDigits (decVal m) = m := ih h.left hm (by
        intro e; apply h0
        cases m with
        | nil => exact absurd rfl hm
        | cons a m => simpa using e) (by simp at hn; omega)
      have hpos : 0 < decVal m := by
        rcases Nat.eq_zero_or_pos (decVal m) with e | e
        · exfalso
          rw [e, decDigits_one (by omega)] at h1
          apply h0
          rw [← h1]; rfl
        · exact e
      unfold IsDig at hc
      rw [decDigits, dif_neg (by omega), show (10 * decVal m + (c.toNat - 48)) / 10 = decVal m by omega, show (10 * decVal m + (c.toNat - 48)) % 10 = c.toNat - 48 by omega, h1, dig_eq hc]
theorem decDigits_ne_nil (n : Nat) : decDigits n ≠ [] := by
  intro e; have := decDigits_length n; rw [e] at this; have := nDigits_pos n; simp at *; omega
theorem decDigits_head {n : Nat} (h : 0 < n) : (decDigits n).head? ≠ some 48 := by
  induction n using Nat.strongRecOn with
  | _ n ih =>
    by_cases h1 : n < 10
    · rw [decDigits_one h1]
      intro e
      rw [List.head?_cons] at e
      have := congrArg UInt8.toNat (Option.some.inj e)
      rw [dig_toNat h1, show (48 : UInt8).toNat = 48 from rfl] at this
      omega
    · rw [decDigits, dif_neg h1]
      have := ih (n / 10) (by omega) (by omega)
      cases hd : decDigits (n / 10) with
      | nil => exact absurd hd (decDigits_ne_nil _)
      | cons a l => rw [hd] at this; simpa using this
theorem decVal_take {l : List UInt8} (h : Digs l) (e : Nat) (he : e ≤ l.length) : decVal (l.take e) = decVal l / 10 ^ (l.length - e) := by
  have h1 := decVal_append (l.take e) (l.drop e)
  rw [List.take_append_drop, List.length_drop] at h1
  have h2 := decVal_lt (h.drop e)
  rw [List.length_drop] at h2
  rw [h1, Nat.mul_comm, Nat.mul_add_div (Nat.pow_pos (by omega)), Nat.div_eq_of_lt h2, Nat.add_zero]
theorem decVal_drop {l : List UInt8} (h : Digs l) (e : Nat) : decVal (l.drop e) = decVal l % 10 ^ (l.length - e) := by
  have h1 := decVal_append (l.take e) (l.drop e)
  rw [List.take_append_drop, List.length_drop] at h1
  have h2 := decVal_lt (h.drop e)
  rw [List.length_drop] at h2
  rw [h1, Nat.mul_comm, Nat.mul_add_mod, Nat.mod_eq_of_lt h2]
theorem parseUintM_ok (M : Nat) (hM : M ≤ 18446744073709551615) : ∀ (l : List UInt8) (a : Nat), Digs l → a * 10 ^ l.length + decVal l ≤ M → parseUintM M a l = .ok (a * 10 ^ l.length + decVal l)
  | [], a, _, h => by simp [parseUintM, decVal]
  | c :: l, a, hd, h => by
    have hc := hd.head
    unfold IsDig at hc
    rw [decVal_cons, List.length_cons, Nat.pow_succ] at h ⊢
    have hp : 0 < 10 ^ l.length := Nat.pow_pos (by omega)
    have e1 : a * (10 ^ l.length * 10) + ((c.toNat - 48) * 10 ^ l.length + decVal l) = (a * 10 + (c.toNat - 48)) * 10 ^ l.length + decVal l := by grind
    rw [e1] at h ⊢
    have h2 : a * 10 + (c.toNat - 48) ≤ M := by
      have : (a * 10 + (c.toNat - 48)) * 1 ≤ (a * 10 + (c.toNat - 48)) * 10 ^ l.length := Nat.mul_le_mul_left _ hp
      omega
    have ih := parseUintM_ok M hM l (a * 10 + (c.toNat - 48)) hd.tail h
    rw [parseUintM, if_pos hc, if_neg (by omega), if_neg (by omega), ih]
theorem parseUintB_ok {l : List UInt8} (h : Digs l) (hne : l ≠ []) (hl : l.length ≤ 9) : parseUintB 64 l = .ok (decVal l) := by
  have h1 := decVal_lt h
  have h2 : 10 ^ l.length ≤ 10 ^ 9 := Nat.pow_le_pow_right (by omega) hl
  rw [parseUintB, if_neg hne, parseUintM_ok _ (by decide) l 0 h (by rw [Nat.zero_mul, Nat.zero_add]; have : (10 : Nat) ^ 9 ≤ 2 ^ 64 - 1 := by decide
                                                                    omega)]
  rw [Nat.zero_mul, Nat.zero_add]

/-- The limb of a number that a piece of its numeral spells. -/
theorem chunk_val (n k : Nat) (hk : 9 * k < (decDigits n).length) :
    decVal (((decDigits n).take ((decDigits n).length - 9 * k)).drop ((decDigits n).length - 9 * k - 9)) = n / 1000000000 ^ k % 1000000000 := by
  have hd := decDigits_digs n
  have ht := decVal_take hd ((decDigits n).length - 9 * k) (by omega)
  rw [decVal_drop (hd.take _), ht, decDigits_val, List.length_take, Nat.min_eq_left (by omega)]
  rw [show (decDigits n).length - ((decDigits n).length - 9 * k) = 9 * k by omega, Nat.pow_mul, show (10 : Nat) ^ 9 = 1000000000 from rfl]
  by_cases h9 : 9 ≤ (decDigits n).length - 9 * k
  · rw [show (decDigits n).length - 9 * k - ((decDigits n).length - 9 * k - 9) = 9 by omega]
  · rw [show (decDigits n).length - 9 * k - ((decDigits n).length - 9 * k - 9) = (decDigits n).length - 9 * k by omega]
    have h1 := decVal_lt (hd.take ((decDigits n).length - 9 * k))
    rw [ht, decDigits_val, List.length_take, Nat.min_eq_left (by omega), show (decDigits n).length - ((decDigits n).length - 9 * k) = 9 * k by omega, Nat.pow_mul, show (10 : Nat) ^ 9 = 1000000000 from rfl] at h1
    have h2 : 10 ^ ((decDigits n).length - 9 * k) ≤ 10 ^ 9 := Nat.pow_le_pow_right (by omega) (by omega)
    rw [show (10 : Nat) ^ 9 = 1000000000 from rfl] at h2
    rw [Nat.mod_eq_of_lt h1, Nat.mod_eq_of_lt (by omega)]
/-- k limbs of a number, the least significant one first. -/
def limbsTo (n k : Nat) : List Nat := (List.range k).map fun i => n / 1000000000 ^ i % 1000000000
theorem limbsTo_length (n k : Nat) : (limbsTo n k).length = k := by simp [limbsTo]
theorem limbsTo_succ (n k : Nat) : limbsTo n (k + 1) = limbsTo n k ++ [n / 1000000000 ^ k % 1000000000] := by simp [limbsTo, List.range_succ]
theorem limbsTo_low (n k : Nat) : Low (limbsTo n k) := by
  intro x hx
  simp [limbsTo] at hx
  obtain ⟨i, _, rfl⟩ := hx
  exact Nat.mod_lt _ (by omega)
theorem limbsTo_val (n k : Nat) : val (limbsTo n k) = n % 1000000000 ^ k := by
  induction k with
  | zero => simp [limbsTo, val, Nat.mod_one]
  | succ k ih => rw [limbsTo_succ, val_snoc, ih, limbsTo_length, Nat.pow_succ, Nat.mod_mul]
theorem limbsTo_trim {n k : Nat} (h : n < 1000000000 ^ k) : trimL (limbsTo n k) = limbs n := by
  rw [← limbs_val (limbsTo_low n k), limbsTo_val, Nat.mod_eq_of_lt h]
theorem lt_pow_of_digits {n k : Nat} (h : (decDigits n).length ≤ 9 * k) : n < 1000000000 ^ k := by
  have h1 := lt_pow_nDigits n
  rw [← decDigits_length] at h1
  have h2 : 10 ^ (decDigits n).length ≤ 10 ^ (9 * k) := Nat.pow_le_pow_right (by omega) h
  rw [Nat.pow_mul, show (10 : Nat) ^ 9 = 1000000000 from rfl] at h2
  omega

/-- Nine digits, with zeros ahead. -/
def pad9 (r : Nat) : List UInt8 := List.replicate (9 - (decDigits r).length) 48 ++ decDigits r
theorem decVal_zeros (k : Nat) : decVal (List.replicate k 48) = 0 := by
  induction k with
  | zero => rfl
  | succ k ih => rw [List.replicate_succ, decVal_cons, ih]; simp
theorem digs_zeros (k : Nat) : Digs (List.replicate k 48) := by
  intro c hc; rw [List.eq_of_mem_replicate hc]; exact ⟨by decide, by decide⟩
theorem decDigits_length_le {r k : Nat} (hk : 0 < k) (h : r < 10 ^ k) : (decDigits r).length ≤ k := by
  rw [decDigits_length]
  apply Decidable.byContradiction
  intro hc
  have h1 : 10 ^ (nDigits r - 1) ≤ r := by
    by_cases h10 : r < 10
    · exfalso; rw [nDigits_small h10] at hc; omega
    · exact pow_le r h10
  have h2 : 10 ^ k ≤ 10 ^ (nDigits r - 1) := Nat.pow_le_pow_right (by omega) (by omega)
  omega
where
  pow_le (r : Nat) (h : ¬ r < 10) : 10 ^ (nDigits r - 1) ≤ r := by
    induction r using Nat.strongRecOn with
    | _ r ih =>
      rw [nDigits_big h, Nat.add_sub_cancel]
      by_cases h1 : r / 10 < 10
      · rw [nDigits_small h1]; omega
      · have := ih (r / 10) (by omega) h1
        have e : nDigits (r / 10) = nDigits (r / 10) - 1 + 1 := by have := nDigits_pos (r / 10); omega
        rw [e, Nat.pow_succ]
        omega
theorem pad9_length {r : Nat} (h : r < 1000000000) : (pad9 r).length = 9 := by
  have := decDigits_length_le (r := r) (k := 9) (by omega) (by simpa using h)
  simp [pad9]; omega
theorem pad9_val (r : Nat) : decVal (pad9 r) = r := by rw [pad9, decVal_append, decVal_zeros, decDigits_val]; simp
theorem pad9_digs (r : Nat) : Digs (pad9 r) := (digs_zeros _).append (decDigits_digs r)
theorem decDigits_join {q r : Nat} (hq : 0 < q) (hr : r < 1000000000) : decDigits (q * 1000000000 + r) = decDigits q ++ pad9 r := by
  have h1 : decVal (decDigits q ++ pad9 r) = q * 1000000000 + r := by
    rw [decVal_append, decDigits_val, pad9_val, pad9_length hr]
  rw [← h1]
  apply decDigits_of ((decDigits_digs q).append (pad9_digs r))
  · intro e; have := decDigits_ne_nil q; simp at e; exact this e.1
  · have := decDigits_head hq
    cases hd : decDigits q with
    | nil => exact absurd hd (decDigits_ne_nil _)
    | cons a l => rw [hd] at this; simpa using this

end Go.Proofs.YtmickdolpgjbhaaGreatDoor
