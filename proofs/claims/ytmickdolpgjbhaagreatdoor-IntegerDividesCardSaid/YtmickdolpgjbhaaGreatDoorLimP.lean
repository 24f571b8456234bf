/-
  Package limbs: Digits and String of numbers with signs.
-/
import Derived.Test.YtmickdolpgjbhaaGreatDoorLimJ
import Derived.Test.YtmickdolpgjbhaaGreatDoorBld
namespace Go.Proofs.YtmickdolpgjbhaaGreatDoor
open Go.RowKit

theorem val_drop_pos {n k : Nat} (hk : k < (limbs n).length) : 0 < val ((limbs n).drop k) := by
  obtain ⟨m, hm⟩ : ∃ m, (limbs n).length = m + 1 := ⟨(limbs n).length - 1, by omega⟩
  have h1 := nth_last_pos hm
  have h2 : nth ((limbs n).drop k) (m - k) = nth (limbs n) m := by
    unfold nth
    rw [List.getD_eq_getElem?_getD, List.getD_eq_getElem?_getD, List.getElem?_drop, show k + (m - k) = m by omega]
  have h3 := val_split ((limbs n).drop k) (m - k)
  rw [List.length_drop, Nat.min_eq_left (by omega), val_drop ((limbs n).drop k) (m - k), h2] at h3
  have h4 : 1000000000 ^ (m - k) * 1 ≤ 1000000000 ^ (m - k) * (nth (limbs n) m + 1000000000 * val (((limbs n).drop k).drop (m - k + 1))) := Nat.mul_le_mul_left _ (by omega)
  have h5 := pow_pos' (m - k)
  omega
theorem decDigits_step {n k : Nat} (hk : k + 1 < (limbs n).length) : Lib.decDigits (val ((limbs n).drop k)) = Lib.decDigits (val ((limbs n).drop (k + 1))) ++ pad9 (nth (limbs n) k) := by
  rw [val_drop (limbs n) k, ← decDigits_join (val_drop_pos hk) ((Low.limbs n).nth k)]
  congr 1
  omega
theorem decDigits_len (n k : Nat) (hk : k < (limbs n).length) : (Lib.decDigits (val ((limbs n).drop k))).length = 9 * ((limbs n).length - 1 - k) + (Lib.decDigits (nth (limbs n) ((limbs n).length - 1))).length := by
  generalize hd : (limbs n).length - 1 - k = d
  induction d generalizing k with
  | zero =>
    obtain rfl : k = (limbs n).length - 1 := by omega
    rw [val_drop, List.drop_eq_nil_of_le (by omega), val_nil]
    simp
  | succ d ih =>
    rw [decDigits_step (by omega), List.length_append, ih (k + 1) (by omega) (by omega), pad9_length ((Low.limbs n).nth k)]
    omega

set_option maxRecDepth 100000 in
set_option maxHeartbeats 1000000 in
theorem Digits_any (u : Value) (x : Int) (w : World) (hx : IsNum w u x) (hlx : (limbs x.natAbs).length ≤ 10000000) (htab : Tab w) :
    Calls Tryz.prog 66 #[u] w fun e w' => e = .returned (.int .i64 (Lib.nDigits x.natAbs : Nat)) ∧ Below w.heap.size w w' := by
  obtain ⟨_, rfl, A, c, rfl, hlc, hc⟩ := hx
  generalize decide (x < 0) = na at *
  generalize x.natAbs = n at *
  have HT := Lib.hid htab
  clear htab
  rcases Nat.eq_zero_or_pos n with h0 | h0
  · subst h0
    have E := Lib.hid (show Lib.nDigits 0 = 1 from Lib.nDigits_small (by omega))
    have hz : (limbs 0).length = 0 := by rw [limbs_zero]; rfl
    rw [hz]
    clear hc hz hlc hlx
    go_enter Tryz.func66, Tryz.ntmps66
    go_wp2_with fail
    go_ret
    exact ⟨by rw [E.out]; rfl, (Below.refl _ _).alloc (Nat.le_refl _) _⟩
  · have hp := limbs_length_pos.2 (show n ≠ 0 by omega)
    obtain ⟨m, hm⟩ : ∃ m, (limbs n).length = m + 1 := ⟨(limbs n).length - 1, by omega⟩
    obtain ⟨g, off, rfl, hg, hcl⟩ := hc (by intro e; rw [e] at hp; simp at hp)
    have hcell := hcl m (by omega)
    have hlow := (Low.limbs n).nth m
    have E := Lib.hid (show Lib.nDigits n = 9 * m + (Lib.decDigits (nth (limbs n) m)).length by
      have := decDigits_len n 0 hp
      rw [List.drop_zero, val_limbs, Lib.decDigits_length, hm, Nat.add_sub_cancel, Nat.sub_zero] at this
      exact this)
    have hdl := decDigits_length_le (r := nth (limbs n) m) (k := 9) (by omega) (by simpa using hlow)
    have hcell' : (w.alloc (.cells #[.bool na, .slice (some ⟨g, off, none⟩) (m + 1) c] 62)).cell? ⟨g, off + m, none⟩ = some (.int .u64 ((nth (limbs n) m : Nat) : Int)) := by
      rw [World.cell?_alloc_lt _ _ _ hg]; exact hcell
    rw [hm] at hlx ⊢
    have HB : Hid (Below w.heap.size w (w.alloc (.cells #[.bool na, .slice (some ⟨g, off, none⟩) (m + 1) c] 62))) := (Below.refl _ _).alloc (Nat.le_refl _) _
    have HF := Lib.hid (formatUint_any (nth (limbs n) m) _ hlow (HT.out.below HB.out))
    clear hcl hm hp hcell hlc
    go_enter Tryz.func66, Tryz.ntmps66
    go_wp2_with fail
    refine HF.out.mono ?_
    rintro e w2 ⟨rfl, hb2⟩
    have HB2 := Lib.hid hb2
    clear hb2
    go_wp2_with fail
    go_ret
    refine ⟨?_, HB.out.trans (HB2.out.mono (by simp))⟩
    rw [E.out]
    simp

end Go.Proofs.YtmickdolpgjbhaaGreatDoor
