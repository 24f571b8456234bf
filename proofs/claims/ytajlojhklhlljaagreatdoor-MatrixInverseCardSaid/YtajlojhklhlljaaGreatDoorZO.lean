import Derived.Test.YtajlojhklhlljaaGreatDoorZC
import Derived.Test.YtajlojhklhlljaaGreatDoorZF
import Derived.Lib.IndexMore
import Derived.Test.YtajlojhklhlljaaGreatDoorZM
set_option maxHeartbeats 16000000
set_option maxRecDepth 100000
namespace Go.Proofs.YtajlojhklhlljaaGreatDoor
theorem rat_mk {n : Int} {d : Nat} (hd : d ≠ 0) : (mkRat n d).num = n / ((n.natAbs.gcd d : Nat) : Int) ∧ (mkRat n d).den = d / n.natAbs.gcd d := by
 rw [Rat.mkRat_def, dif_neg hd, Rat.normalize_eq]
 exact ⟨rfl, rfl⟩
theorem rat_pos {n d : Int} (hd : 0 < d) : (Rat.divInt n d).num = n / ((n.natAbs.gcd d.natAbs : Nat) : Int) ∧ ((Rat.divInt n d).den : Int) = d / ((n.natAbs.gcd d.natAbs : Nat) : Int) := by
 obtain ⟨D, rfl⟩ : ∃ D : Nat, d = (D : Int) := ⟨d.toNat, by omega⟩
 rw [Rat.divInt_ofNat, Int.natAbs_natCast]
 have h := rat_mk (n := n) (d := D) (by omega)
 exact ⟨h.1, by rw [h.2]; exact Int.natCast_ediv _ _⟩
theorem rat_neg (n d : Int) : Rat.divInt (-n) (-d) = Rat.divInt n d := Rat.neg_divInt_neg n d
theorem rat_quo {n d : Int} (hd : d ≠ 0) : (Rat.divInt n d).num = (if d < 0 then -(n.tdiv ((n.natAbs.gcd d.natAbs : Nat) : Int)) else n.tdiv ((n.natAbs.gcd d.natAbs : Nat) : Int)) ∧ ((Rat.divInt n d).den : Int) = (if d < 0 then -(d.tdiv ((n.natAbs.gcd d.natAbs : Nat) : Int)) else d.tdiv ((n.natAbs.gcd d.natAbs : Nat) : Int)) := by
 have h1 : ((n.natAbs.gcd d.natAbs : Nat) : Int) ∣ n := Int.ofNat_dvd_left.2 (Nat.gcd_dvd_left _ _)
 have h2 : ((n.natAbs.gcd d.natAbs : Nat) : Int) ∣ d := Int.ofNat_dvd_left.2 (Nat.gcd_dvd_right _ _)
 rw [Int.tdiv_eq_ediv_of_dvd h1, Int.tdiv_eq_ediv_of_dvd h2]
 by_cases h : d < 0
 ·rw [if_pos h, if_pos h, ← rat_neg]
  have := rat_pos (n := -n) (d := -d) (by omega)
  rw [Int.natAbs_neg, Int.natAbs_neg, Int.neg_ediv_of_dvd h1, Int.neg_ediv_of_dvd h2] at this
  exact this
 ·rw [if_neg h, if_neg h]
  exact rat_pos (by omega)
theorem rat_add (a b : Rat) : Rat.divInt (a.num * b.den + b.num * a.den) ((a.den : Int) * b.den) = a + b := by
 rw [Rat.add_def', ← Rat.divInt_ofNat, Int.natCast_mul]
theorem rat_mul (a b : Rat) : Rat.divInt (a.num * b.num) ((a.den : Int) * b.den) = a * b := by
 rw [Rat.mul_def', ← Rat.divInt_ofNat, Int.natCast_mul]
theorem rat_div (a b : Rat) : Rat.divInt (a.num * b.den) ((a.den : Int) * b.num) = a / b := by
 rw [Rat.div_def, Rat.inv_def, ← Rat.divInt_mul_divInt, Rat.num_divInt_den]
def sgR (q : Rat) : Int := sg q.num
theorem rat_whole {q : Rat} (h : q.den = 1) : q = (q.num : Rat) := Rat.ext (by simp) (by simp [h])
end Go.Proofs.YtajlojhklhlljaaGreatDoor
namespace Go.Proofs.YtajlojhklhlljaaGreatDoor
def cutS : List UInt8 → List UInt8 × List UInt8 × Bool
 | [] => ([], [], false)
 | c :: l => if c = 47 then ([], l, true) else (c :: (cutS l).1, (cutS l).2.1, (cutS l).2.2)
theorem index_slash (l : List UInt8) : (Lib.index l [47] = -1 ∧ cutS l = (l, [], false)) ∨ ∃ i : Nat, Lib.index l [47] = (i : Int) ∧ cutS l = (l.take i, l.drop (i + 1), true) := by
 induction l with
 | nil => exact .inl ⟨rfl, rfl⟩
 | cons c l ih =>
  by_cases hc : c = 47
  ·subst hc
   exact .inr ⟨0, by simp [Lib.index], by simp [cutS]⟩
  ·have h1 : ([47] : List UInt8).isPrefixOf (c :: l) = false := by
    have : (47 == c) = false := by simpa using Ne.symm hc
    simp [List.isPrefixOf, this]
   rcases ih with ⟨h2, h3⟩ | ⟨i, h2, h3⟩
   ·refine .inl ⟨?_, ?_⟩
    ·unfold Lib.index; rw [h1, h2]; rfl
    ·unfold cutS; rw [if_neg hc, h3]
   ·refine .inr ⟨i + 1, ?_, ?_⟩
    ·unfold Lib.index
     rw [h1, h2]
     have : ((i : Int) == -1) = false := by rw [beq_eq_false_iff_ne]; omega
     simp [this]
    ·unfold cutS; rw [if_neg hc, h3]; rfl
theorem cut_slash (l : List UInt8) : Lib.cut l [47] = cutS l := by
 rcases index_slash l with ⟨h1, h2⟩ | ⟨i, h1, h2⟩
 ·unfold Lib.cut; rw [h1, h2]; rfl
 ·unfold Lib.cut
  rw [h1, h2, if_pos (by omega)]
  simp
theorem cutS_none {l : List UInt8} (h : 47 ∉ l) : cutS l = (l, [], false) := by
 induction l with
 | nil => rfl
 | cons c l ih =>
  have h1 : c ≠ 47 := fun e => h (by simp [e])
  have h2 : 47 ∉ l := fun e => h (by simp [e])
  unfold cutS
  rw [if_neg h1, ih h2]
theorem cutS_some {a b : List UInt8} (h : 47 ∉ a) : cutS (a ++ 47 :: b) = (a, b, true) := by
 induction a with
 | nil => simp [cutS]
 | cons c a ih =>
  have h1 : c ≠ 47 := fun e => h (by simp [e])
  have h2 : 47 ∉ a := fun e => h (by simp [e])
  rw [List.cons_append]
  unfold cutS
  rw [if_neg h1, ih h2]
theorem cutS_join (l : List UInt8) : ((cutS l).2.2 = true ∧ l = (cutS l).1 ++ 47 :: (cutS l).2.1) ∨ ((cutS l).2.2 = false ∧ l = (cutS l).1 ∧ (cutS l).2.1 = []) := by
 induction l with
 | nil => exact .inr ⟨rfl, rfl, rfl⟩
 | cons c l ih =>
  by_cases hc : c = 47
  ·subst hc; exact .inl ⟨by simp [cutS], by simp [cutS]⟩
  ·unfold cutS
   rw [if_neg hc]
   rcases ih with ⟨h1, h2⟩ | ⟨h1, h2, h3⟩
   ·refine .inl ⟨h1, ?_⟩
    show c :: l = (c :: (cutS l).1) ++ 47 :: (cutS l).2.1
    rw [List.cons_append, ← h2]
   ·refine .inr ⟨h1, ?_, h3⟩
    show c :: l = c :: (cutS l).1
    rw [← h2]
theorem cutS_len (l : List UInt8) : (cutS l).1.length ≤ l.length ∧ (cutS l).2.1.length ≤ l.length := by
 rcases cutS_join l with ⟨_, h⟩ | ⟨_, h, h2⟩
 ·have := congrArg List.length h
  simp at this
  omega
 ·have := congrArg List.length h
  rw [h2]
  exact ⟨by omega, by simp⟩
theorem slash_digs {l : List UInt8} (h : Digs l) : 47 ∉ l := fun hm => by
 have := h 47 hm
 unfold IsDig at this
 have e : (47 : UInt8).toNat = 47 := rfl
 omega
theorem slash_itoa (x : Int) : 47 ∉ Lib.itoa x := by
 unfold Lib.itoa
 split
 ·intro h
  rcases List.mem_cons.1 h with h | h
  ·cases h
  ·exact slash_digs (decDigits_digs _) h
 ·exact slash_digs (decDigits_digs _)
def rtext (q : Rat) : List UInt8 := if q.den = 1 then Lib.itoa q.num else Lib.itoa q.num ++ 47 :: Lib.itoa (q.den : Int)
def FitsR (q : Rat) : Prop := Fits q.num ∧ Fits (q.den : Int)
theorem rtext_whole {q : Rat} (h : q.den = 1) : rtext q = Lib.itoa q.num := if_pos h
theorem rtext_parts {q : Rat} (h : q.den ≠ 1) : rtext q = Lib.itoa q.num ++ 47 :: Lib.itoa (q.den : Int) := if_neg h
theorem cut_whole {q : Rat} (h : q.den = 1) : cutS (rtext q) = (Lib.itoa q.num, [], false) := by rw [rtext_whole h, cutS_none (slash_itoa _)]
theorem cut_parts {q : Rat} (h : q.den ≠ 1) : cutS (rtext q) = (Lib.itoa q.num, Lib.itoa (q.den : Int), true) := by rw [rtext_parts h, cutS_some (slash_itoa _)]
theorem rat_ext {p q : Rat} (h : p.num = q.num) (k : p.den = q.den) : p = q := Rat.ext h k
theorem rtext_inj {p q : Rat} (h : rtext p = rtext q) : p = q := by
 by_cases hp : p.den = 1
 ·by_cases hq : q.den = 1
  ·rw [rtext_whole hp, rtext_whole hq] at h
   exact rat_ext (itoa_inj h) (by omega)
  ·have h1 := cut_whole hp
   rw [h, cut_parts hq] at h1
   simp at h1
 ·by_cases hq : q.den = 1
  ·have h1 := cut_whole hq
   rw [← h, cut_parts hp] at h1
   simp at h1
  ·have h1 := cut_parts hp
   rw [h, cut_parts hq] at h1
   simp only [Prod.mk.injEq] at h1
   exact rat_ext (itoa_inj h1.1.symm) (by have := itoa_inj h1.2.1; omega)
open Classical in
noncomputable def validR (l : List UInt8) : Bool := decide (∃ q : Rat, l = rtext q ∧ FitsR q)
open Classical in
theorem validR_text {q : Rat} (h : FitsR q) : validR (rtext q) = true := by unfold validR; exact decide_eq_true ⟨q, rfl, h⟩
open Classical in
theorem validR_ex {l : List UInt8} (h : validR l = true) : ∃ q : Rat, l = rtext q ∧ FitsR q := by unfold validR at h; exact of_decide_eq_true h
open Classical in
theorem validR_no {l : List UInt8} (h : ¬ ∃ q : Rat, l = rtext q ∧ FitsR q) : validR l = false := by unfold validR; exact decide_eq_false h
theorem validR_plain {l : List UInt8} (h : (cutS l).2.2 = false) : validR l = validB l := by
 rcases cutS_join l with ⟨h1, _⟩ | ⟨_, h2, _⟩
 ·rw [h] at h1; cases h1
 ·cases hv : validB l
  ·apply validR_no
   rintro ⟨q, rfl, hf⟩
   by_cases hd : q.den = 1
   ·rw [rtext_whole hd, valid_itoa hf.1] at hv; cases hv
   ·rw [cut_parts hd] at h; cases h
  ·obtain ⟨x, hx, hf⟩ := valid_ex hv
   have : l = rtext (x : Rat) := by rw [rtext_whole (Rat.den_intCast x), Rat.num_intCast]; exact hx
   rw [this]
   exact validR_text ⟨by rw [Rat.num_intCast]; exact hf, by rw [Rat.den_intCast]; unfold Fits; rw [show ((1 : Nat) : Int).natAbs = 1 from rfl, Lib.decDigits_one (by decide)]; simp⟩
theorem validR_slash {l : List UInt8} (h : (cutS l).2.2 = true) : validR l = true ↔ ∃ n d : Int, (cutS l).1 = Lib.itoa n ∧ (cutS l).2.1 = Lib.itoa d ∧ Fits n ∧ Fits d ∧ n ≠ 0 ∧ 1 < d ∧ Nat.gcd n.natAbs d.natAbs = 1 := by
 constructor
 ·intro hv
  obtain ⟨q, rfl, hf⟩ := validR_ex hv
  by_cases hd : q.den = 1
  ·rw [cut_whole hd] at h; cases h
  ·rw [cut_parts hd]
   have hp := q.den_pos
   refine ⟨q.num, q.den, rfl, rfl, hf.1, hf.2, ?_, by omega, by rw [Int.natAbs_natCast]; exact q.reduced⟩
   intro h0
   have := q.reduced
   rw [h0] at this
   simp [Nat.Coprime] at this
   exact hd this
 ·rintro ⟨n, d, h1, h2, hf, hg, hn, hd, hc⟩
  obtain ⟨D, rfl⟩ : ∃ D : Nat, d = (D : Int) := ⟨d.toNat, by omega⟩
  rw [Int.natAbs_natCast] at hc
  have hl : l = rtext ⟨n, D, by omega, hc⟩ := by
   rw [rtext_parts (by show D ≠ 1; omega)]
   rcases cutS_join l with ⟨_, h3⟩ | ⟨h3, _⟩
   ·rw [h1, h2] at h3; exact h3
   ·rw [h] at h3; cases h3
  rw [hl]
  exact validR_text ⟨hf, hg⟩
end Go.Proofs.YtajlojhklhlljaaGreatDoor
namespace Go.Proofs.YtajlojhklhlljaaGreatDoor
def DigR (d : Nat) (q : Rat) : Prop := Dig d q.num ∧ Dig d (q.den : Int)
theorem DigR.mono {a b : Nat} {q : Rat} (h : DigR a q) (hab : a ≤ b) : DigR b q := ⟨h.1.mono hab, h.2.mono hab⟩
theorem DigR.fits {d : Nat} {q : Rat} (h : DigR d q) (hd1 : 1 ≤ d) (hd : d ≤ 400) : FitsR q := ⟨h.1.fits hd1 hd, h.2.fits hd1 hd⟩
theorem tdiv_abs_le (n : Int) (g : Nat) : (n.tdiv (g : Int)).natAbs ≤ n.natAbs := by
 rw [Int.natAbs_tdiv]
 exact Nat.div_le_self _ _
theorem divInt_le {n d : Int} (hd : d ≠ 0) : (Rat.divInt n d).num.natAbs ≤ n.natAbs ∧ (Rat.divInt n d).den ≤ d.natAbs := by
 have h := rat_quo (n := n) hd
 have h1 := tdiv_abs_le n (n.natAbs.gcd d.natAbs)
 have h2 := tdiv_abs_le d (n.natAbs.gcd d.natAbs)
 generalize n.tdiv ((n.natAbs.gcd d.natAbs : Nat) : Int) = a at *
 generalize d.tdiv ((n.natAbs.gcd d.natAbs : Nat) : Int) = b at *
 obtain ⟨e1, e2⟩ := h
 by_cases hs : d < 0
 ·rw [if_pos hs] at e1 e2
  rw [e1]
  omega
 ·rw [if_neg hs] at e1 e2
  rw [e1]
  omega
theorem DigR.of_divInt {k : Nat} {n d : Int} (hd : d ≠ 0) (h : Dig k n) (h' : Dig k d) : DigR k (Rat.divInt n d) := by
 have := divInt_le (n := n) hd
 unfold DigR Dig at *
 exact ⟨by omega, by rw [Int.natAbs_natCast]; omega⟩
theorem den_ne (q : Rat) : (q.den : Int) ≠ 0 := by have := q.den_pos; omega
theorem DigR.add {a b c : Nat} {x y z : Rat} (h : DigR a x) (k : DigR b y) (hz : x + y = z) (hc : a + b + 1 = c) : DigR c z := by
 subst hz
 rw [← rat_add]
 refine DigR.of_divInt (Int.mul_ne_zero (den_ne x) (den_ne y)) (Dig.add (a := a + b) (h.1.mul k.2 rfl rfl) (k.1.mul h.2 rfl (Nat.add_comm _ _)) rfl hc) (Dig.mono (a := a + b) (h.2.mul k.2 rfl rfl) (by omega))
theorem DigR.mul {a b c : Nat} {x y z : Rat} (h : DigR a x) (k : DigR b y) (hz : x * y = z) (hc : a + b = c) : DigR c z := by
 subst hz
 rw [← rat_mul]
 exact DigR.of_divInt (Int.mul_ne_zero (den_ne x) (den_ne y)) (h.1.mul k.1 rfl hc) (h.2.mul k.2 rfl hc)
theorem num_ne {q : Rat} (h : q ≠ 0) : q.num ≠ 0 := fun e => h (Rat.num_eq_zero.1 e)
theorem DigR.div {a b c : Nat} {x y z : Rat} (h : DigR a x) (k : DigR b y) (hy : y ≠ 0) (hz : x / y = z) (hc : a + b = c) : DigR c z := by
 subst hz
 rw [← rat_div]
 exact DigR.of_divInt (Int.mul_ne_zero (den_ne x) (num_ne hy)) (h.1.mul k.2 rfl hc) (h.2.mul k.1 rfl hc)
theorem DigR.ofInt {d : Nat} {n : Int} (h : Dig d n) (hd : 1 ≤ d) : DigR d (n : Rat) := by
 refine ⟨by simpa using h, ?_⟩
 show Dig d _
 unfold Dig
 have : (10 : Nat) ^ 1 ≤ 10 ^ d := Nat.pow_le_pow_right (by decide) hd
 simp
 omega
end Go.Proofs.YtajlojhklhlljaaGreatDoor
namespace Go.Proofs.YtajlojhklhlljaaGreatDoor
def Sz (n : Nat) (q : Rat) : Prop := (limbs q.num.natAbs).length ≤ n ∧ (limbs q.den).length ≤ n
theorem Sz.mono {a b : Nat} {q : Rat} (h : Sz a q) (hab : a ≤ b) : Sz b q := ⟨Nat.le_trans h.1 hab, Nat.le_trans h.2 hab⟩
theorem FitsR.sz {q : Rat} (h : FitsR q) : Sz 45 q := ⟨h.1.len, by have := h.2.len; rwa [Int.natAbs_natCast] at this⟩
theorem Sz.divInt {k : Nat} {n d : Int} (hd : d ≠ 0) (h : (limbs n.natAbs).length ≤ k) (h' : (limbs d.natAbs).length ≤ k) : Sz k (Rat.divInt n d) := by
 have := divInt_le (n := n) hd
 exact ⟨Nat.le_trans (limbs_length_mono this.1) h, Nat.le_trans (limbs_length_mono this.2) h'⟩
theorem len_mul {x y : Int} {a b : Nat} (h : (limbs x.natAbs).length ≤ a) (k : (limbs y.natAbs).length ≤ b) : (limbs (x * y).natAbs).length ≤ a + b := by
 rw [Int.natAbs_mul]
 exact Nat.le_trans (limbs_length_mul _ _) (Nat.add_le_add h k)
theorem len_add {x y : Int} {a : Nat} (h : (limbs x.natAbs).length ≤ a) (k : (limbs y.natAbs).length ≤ a) : (limbs (x + y).natAbs).length ≤ a + 1 := by
 have h1 := limbs_length_mono (Int.natAbs_add_le x y)
 have h2 := limbs_length_add x.natAbs y.natAbs
 omega
theorem len_nat {n a : Nat} (h : (limbs n).length ≤ a) : (limbs ((n : Int)).natAbs).length ≤ a := by rwa [Int.natAbs_natCast]
theorem Sz.add {a b : Nat} {x y : Rat} (h : Sz a x) (k : Sz b y) : Sz (a + b + 1) (x + y) := by
 rw [← rat_add]
 refine Sz.divInt (Int.mul_ne_zero (den_ne x) (den_ne y)) (len_add (len_mul h.1 (len_nat k.2)) ?_) (Nat.le_succ_of_le (len_mul (len_nat h.2) (len_nat k.2)))
 rw [Nat.add_comm]
 exact len_mul k.1 (len_nat h.2)
theorem Sz.mul {a b : Nat} {x y : Rat} (h : Sz a x) (k : Sz b y) : Sz (a + b) (x * y) := by
 rw [← rat_mul]
 exact Sz.divInt (Int.mul_ne_zero (den_ne x) (den_ne y)) (len_mul h.1 k.1) (len_mul (len_nat h.2) (len_nat k.2))
theorem limbs_small {n : Nat} (h : n < 1000000000) : (limbs n).length ≤ 1 := limbs_length_le (by simpa using h)
theorem Sz.ofNat {n : Nat} (h : n < 1000000000) : Sz 1 ((n : Int) : Rat) := ⟨by rw [Rat.num_intCast, Int.natAbs_natCast]; exact limbs_small h, by rw [Rat.den_intCast]; exact limbs_small (by decide)⟩
theorem Sz.zero : Sz 1 0 := Sz.ofNat (n := 0) (by decide)
end Go.Proofs.YtajlojhklhlljaaGreatDoor
namespace Go.Proofs.YtajlojhklhlljaaGreatDoor
end Go.Proofs.YtajlojhklhlljaaGreatDoor
