/-
  Package limbs: short.
-/
import Derived.Test.YtmickdolpgjbhaaGreatDoorLimC
import Derived.Test.YtmickdolpgjbhaaGreatDoorNatB
namespace Go.Proofs.YtmickdolpgjbhaaGreatDoor
open Go.RowKit

theorem Work.drew {w wr : World} {g n : Nat} {r : List Nat} (h : Work w wr g n r) : Work w wr.drew g n r := ⟨h.1, h.2.1, h.2.2.1, h.2.2.2.drew⟩
theorem Work.drewN {w wr : World} {g n : Nat} {r : List Nat} (h : Work w wr g n r) (m : Nat) : Work w (wr.drewN m) g n r := ⟨h.1, h.2.1, h.2.2.1, below_drewN h.2.2.2 m⟩

set_option maxRecDepth 100000 in
set_option maxHeartbeats 2000000 in
theorem short_any (A : Option Addr) (a d c : Nat) (w : World) (ha : Cells .u64 w A (limbs a)) (hla : (limbs a).length ≤ 100000000) (hd0 : 0 < d) (hd1 : d < 1000000000) :
    Calls Tryz.prog 82 #[.slice A (limbs a).length c, .int .u64 d] w fun e w' => ∃ v, e = .returned (.tuple #[v, .int .u64 ((a % d : Nat) : Int)]) ∧ IsNat w' v (a / d) ∧ Below w.heap.size w w' := by
  obtain ⟨i0, hi, hz0, hz1, hz2⟩ := info_parts Tryz.infoU64
  have hmk := fun W => run_make_ints (P := Tryz.prog) 60 88 i0 .u64 8 Tryz.underlying60 hi hz0 hz1 hz2 (limbs a).length (by omega) (by omega) W
  clear hi hz0 hz1 hz2
  have HLA := Lib.hid (show ∀ i, nth (limbs a) i < 1000000000 from (Low.limbs a).nth)
  go_enter Tryz.func82, Tryz.ntmps82
  go_wp2_with fail
  clear hmk
  go_loopw [7, 8] (fun re ix wr => ∃ (k rest : Nat) (r : List Nat), k ≤ (limbs a).length ∧ ix = .int .i64 ((k : Int) - 1) ∧ rest < d ∧ re = .int .u64 (rest : Int) ∧ Work w wr w.heap.size (limbs a).length r ∧ d * val (r.drop k) + rest = val ((limbs a).drop k)) (fun _ i _ => (intOf i + 1).toNat)
  case atStart =>
    refine ⟨(limbs a).length, 0, zeros (limbs a).length, Nat.le_refl _, rfl, hd0, rfl, ⟨zeros_length _, low_zeros _, Row.new _ _ _ _, (Below.refl _ _).alloc (Nat.le_refl _) _⟩, ?_⟩
    rw [List.drop_length, List.drop_eq_nil_of_le (by rw [zeros_length]; omega)]; rfl
  case round =>
    obtain ⟨k, rest, r, hk, rfl, hrd, rfl, hW, hv⟩ := hrel
    have HW := Lib.hid hW
    have HV := Lib.hid hv
    have HX := Lib.hid (ha.below hW.2.2.2)
    have hsz := hW.2.2.2.size
    clear hW hv
    rcases Nat.eq_zero_or_pos k with h0 | h0
    · subst h0
      have h1 := HV.out
      rw [List.drop_zero, List.drop_zero, val_limbs] at h1
      have h2 := short_end a d rest r hrd HW.out.2.1 h1
      have HT := Lib.hid (trim_fill HW.out.fill (by omega) h2.1)
      have HE := Lib.hid h2.2
      clear h1 h2
      go_wp2_with fail
      refine HT.out.mono ?_
      rintro e w' ⟨v, rfl, hv, rfl, -⟩
      go_wp2_with fail
      go_ret2
      exact ⟨v, by rw [← HE.out]; rfl, hv, HW.out.2.2.2⟩
    · obtain ⟨j, rfl⟩ : ∃ j, k = j + 1 := ⟨k - 1, by omega⟩
      obtain ⟨g, off, rfl, hg, hc⟩ := HX.out (by intro e; rw [e] at hk; simp at hk)
      have hca := hc j (by omega)
      have hxk := HLA.out j
      have hrl := HW.out.2.2.1
      have hcell := hrl.cell (i := j) (by rw [HW.out.1]; omega)
      have hfr := hrl.frozen j
      clear hc hrl ha HX
      go_wp2_with fail
      go_region
      go_wp2_with fail
      go_roundw
      case rel =>
        have e1 : ((rest : Int) * 1000000000 + (nth (limbs a) j : Int)) % (d : Int) = (((rest * 1000000000 + nth (limbs a) j) % d : Nat) : Int) := by simp
        have e2 : ((rest : Int) * 1000000000 + (nth (limbs a) j : Int)) / (d : Int) = (((rest * 1000000000 + nth (limbs a) j) / d : Nat) : Int) := by simp
        rw [e1, e2]
        exact ⟨j, _, _, by omega, by go_num, Nat.mod_lt _ hd0, rfl, (HW.out.step (short_limb hrd hxk) (Nat.le_refl _)).drew, short_step _ _ _ _ _ (by rw [HW.out.1]; omega) hd0 HV.out⟩
      case measure => simp [intOf]

end Go.Proofs.YtmickdolpgjbhaaGreatDoor
