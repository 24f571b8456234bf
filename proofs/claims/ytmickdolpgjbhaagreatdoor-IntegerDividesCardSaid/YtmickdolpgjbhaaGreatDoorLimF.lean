/-
  Package limbs: divide, where the quotient is 0 or the divisor is a limb.
-/
import Derived.Test.YtmickdolpgjbhaaGreatDoorLimE
import Derived.Test.YtmickdolpgjbhaaGreatDoorNatD
namespace Go.Proofs.YtmickdolpgjbhaaGreatDoor
open Go.RowKit

theorem Cells.alloc {k : IntKind} {w : World} {A : Option Addr} {xs : List Nat} (h : Cells k w A xs) (o : Obj) : Cells k (w.alloc o) A xs :=
  h.keep (by simp) fun p hp => World.cell?_alloc_lt w o p hp
theorem IsNat.zero (w : World) : IsNat w (.slice none 0 0) 0 := ⟨none, 0, by rw [limbs_zero]; rfl, by rw [limbs_zero]; simp, by rw [limbs_zero]; exact Cells.nil _ _ _⟩
theorem IsNat.mk {w : World} {A : Option Addr} {n c : Nat} (hl : (limbs n).length ≤ c) (h : Cells .u64 w A (limbs n)) : IsNat w (.slice A (limbs n).length c) n := ⟨A, c, rfl, hl, h⟩
/-- The results mean two numbers; nothing that was there has changed. -/
def RetNat2 (w : World) (q r : Nat) (e : Ending) (w' : World) : Prop := ∃ v u, e = .returned (.tuple #[v, u]) ∧ IsNat w' v q ∧ IsNat w' u r ∧ Below w.heap.size w w'
/-- A new row with one limb. -/
theorem row_one (w : World) (x : Nat) : Row .u64 (w.alloc (.cells #[.int .u64 (x : Int)] 88)) w.heap.size 88 [x] := Row.new .u64 w 88 [x]
/-- The limb r, without it where it is 0. -/
theorem trim_one {w : World} {g r : Nat} (h : Row .u64 w g 88 [r]) (hr : r < 1000000000) :
    Calls Tryz.prog 79 #[.slice (some ⟨g, 0, none⟩) 1 1] w fun e w' => ∃ v, e = .returned v ∧ IsNat w' v r ∧ w = w' := by
  have hlow : Low [r] := Low.cons hr Low.nil
  have hv : val [r] = r := by simp [val]
  have ht : trimL [r] = limbs r := by rw [← limbs_val hlow, hv]
  exact (trim_fill (w := w) (g := g) (n := 1) ⟨rfl, hlow, by simpa [zeros] using h, Below.refl _ _⟩ (by omega) ht).mono fun _ _ ⟨v, h1, h2, h3, _⟩ => ⟨v, h1, h2, h3⟩

set_option maxHeartbeats 1000000 in
theorem divide_lt (A A' : Option Addr) (a b c c' : Nat) (w : World) (ha : Cells .u64 w A (limbs a)) (hb : Cells .u64 w A' (limbs b)) (hla : (limbs a).length ≤ 100000000) (hlb : (limbs b).length ≤ 100000000) (hc : (limbs a).length ≤ c) (hab : a < b) :
    Calls Tryz.prog 63 #[.slice A (limbs a).length c, .slice A' (limbs b).length c'] w (RetNat2 w (a / b) (a % b)) := by
  have HC := Lib.hid (compare_any A A' a b c c' w ha hb (by omega) (by omega))
  rw [cmpN_lt hab] at HC
  go_enter Tryz.func63, Tryz.ntmps63
  go_wp2_with fail
  refine HC.out.mono ?_
  rintro e w' ⟨rfl, m, rfl⟩
  go_wp2_with fail
  go_ret2
  rw [Nat.div_eq_of_lt hab, Nat.mod_eq_of_lt hab]
  exact ⟨_, _, rfl, IsNat.zero _, IsNat.mk hc ha, below_drewN (Below.refl _ _) _⟩

set_option maxHeartbeats 1000000 in
theorem divide_one (A A' : Option Addr) (a b c c' : Nat) (w : World) (ha : Cells .u64 w A (limbs a)) (hb : Cells .u64 w A' (limbs b)) (hla : (limbs a).length ≤ 100000000) (hlb : (limbs b).length = 1) (hab : b ≤ a) :
    Calls Tryz.prog 63 #[.slice A (limbs a).length c, .slice A' (limbs b).length c'] w (RetNat2 w (a / b) (a % b)) := by
  have HC := Lib.hid (compare_any A A' a b c c' w ha hb (by omega) (by omega))
  obtain ⟨x, hx, hx0⟩ : ∃ x : Int, x = cmpN a b ∧ 0 ≤ x := ⟨_, rfl, by rcases Nat.lt_or_eq_of_le hab with h | h; (rw [cmpN_gt h]; omega); (rw [cmpN_eq h.symm]; omega)⟩
  rw [← hx] at HC
  clear hx
  have hbp := nth_last_pos (n := 0) hlb
  have hbl := limbs_lt b
  rw [hlb, Nat.pow_one] at hbl
  have hb1 : limbs b = [b] := limbs_one (by rcases Nat.eq_zero_or_pos b with e | e; (subst e; rw [limbs_zero] at hlb; simp at hlb); exact e) hbl
  have hb0 : 0 < b := by rcases Nat.eq_zero_or_pos b with e | e; (subst e; rw [limbs_zero] at hlb; simp at hlb); exact e
  obtain ⟨g, off, rfl, hg, hcl⟩ := hb (by rw [hb1]; simp)
  have hcell := hcl 0 (by omega)
  rw [hb1, nth_cons_zero, Nat.add_zero] at hcell
  rw [hlb] at HC ⊢
  clear hcl hb
  clear hb1 hbp
  have HL := Lib.hid hlb
  clear hlb
  have HS := Lib.hid (fun W hW => short_any A a b c W hW hla hb0 hbl)
  go_enter Tryz.func63, Tryz.ntmps63
  go_wp2_with fail
  refine HC.out.mono ?_
  rintro e w' ⟨rfl, m, rfl⟩
  go_wp2_with fail
  refine (HS.out _ (ha.drewN m)).mono ?_
  rintro e w1 ⟨v, rfl, hv, hbel⟩
  have hmod := Nat.mod_lt a hb0
  go_wp2_with fail
  refine (trim_one (row_one w1 (a % b)) (by omega)).mono ?_
  rintro e w2 ⟨u, rfl, hu, rfl⟩
  go_wp2_with fail
  go_ret2
  have hbe : Below w1.heap.size w1 (w1.alloc (.cells #[.int .u64 ((a % b : Nat) : Int)] 88)) := (Below.refl _ _).alloc (Nat.le_refl _) _
  have hb2 : Below w.heap.size w (w.drewN m) := below_drewN (Below.refl _ _) _
  exact ⟨v, u, rfl, hv.below hbe, hu, (hb2.trans hbel).trans (hbe.mono hbel.size)⟩

end Go.Proofs.YtmickdolpgjbhaaGreatDoor
