/-
  Package limbs: mul.
-/
import Derived.Test.YtmickdolpgjbhaaGreatDoorLimB
namespace Go.Proofs.YtmickdolpgjbhaaGreatDoor
open Go.RowKit

/-- A new row that is worked on: r. -/
def Work (w wr : World) (g n : Nat) (r : List Nat) : Prop := r.length = n ∧ Low r ∧ Row .u64 wr g 88 r ∧ Below w.heap.size w wr
theorem Work.step {w wr : World} {g n i x : Nat} {r : List Nat} (h : Work w wr g n r) (hx : x < 1000000000) (hg : w.heap.size ≤ g) :
    Work w (wr.setCell ⟨g, i, none⟩ (.int .u64 (x : Int))) g n (r.set i x) :=
  ⟨by simp [h.1], h.2.1.set i hx, h.2.2.1.set i x, h.2.2.2.setCell hg _⟩
theorem Work.fill {w wr : World} {g n : Nat} {r : List Nat} (h : Work w wr g n r) : Fill w wr g r n n :=
  ⟨h.1, h.2.1, by rw [Nat.sub_self, show zeros 0 = [] from rfl, List.append_nil]; exact h.2.2.1, h.2.2.2⟩

set_option maxRecDepth 100000 in
set_option maxHeartbeats 2000000 in
theorem mul_new (A A' : Option Addr) (a b c c' : Nat) (w : World) (ha : Cells .u64 w A (limbs a)) (hb : Cells .u64 w A' (limbs b)) (hla : (limbs a).length ≤ 100000000) (hlb : (limbs b).length ≤ 100000000) :
    Calls Tryz.prog 61 #[.slice A (limbs a).length c, .slice A' (limbs b).length c'] w fun e w' => RetNat w (a * b) e w' ∧ e = .returned (.slice (some ⟨w.heap.size, 0, none⟩) (limbs (a * b)).length ((limbs a).length + (limbs b).length)) := by
  obtain ⟨i0, hi, hz0, hz1, hz2⟩ := info_parts Tryz.infoU64
  have hmk := fun W => run_make_ints (P := Tryz.prog) 60 88 i0 .u64 8 Tryz.underlying60 hi hz0 hz1 hz2 ((limbs a).length + (limbs b).length) (by omega) (by omega) W
  rw [Int.natCast_add] at hmk
  clear hi hz0 hz1 hz2
  have HLA := Lib.hid (show ∀ i, nth (limbs a) i < 1000000000 from (Low.limbs a).nth)
  have HLB := Lib.hid (show ∀ i, nth (limbs b) i < 1000000000 from (Low.limbs b).nth)
  go_enter Tryz.func61, Tryz.ntmps61
  go_wp2_with fail
  clear hmk
  go_loopw [20] (fun ix wr => ∃ (i : Nat) (r : List Nat), i ≤ (limbs a).length ∧ ix = .int .i64 (i : Int) ∧ Work w wr w.heap.size ((limbs a).length + (limbs b).length) r ∧ (∀ j, i + (limbs b).length ≤ j → nth r j = 0) ∧ val r = val ((limbs a).take i) * b) (fun i _ => (limbs a).length - (intOf i).toNat)
  case atStart =>
    refine ⟨0, zeros ((limbs a).length + (limbs b).length), Nat.zero_le _, rfl, ⟨zeros_length _, low_zeros _, Row.new _ _ _ _, (Below.refl _ _).alloc (Nat.le_refl _) _⟩, fun j _ => ?_, by rw [val_zeros]; simp [val]⟩
    simp [nth, zeros, List.getD_eq_getElem?_getD, List.getElem?_replicate]
    split <;> rfl
  case round =>
    obtain ⟨i, r, hi, rfl, hW, hz, hv⟩ := hrel
    have HW := Lib.hid hW
    have HZ := Lib.hid hz
    have HV := Lib.hid hv
    have HX := Lib.hid (ha.below hW.2.2.2)
    have HY := Lib.hid (hb.below hW.2.2.2)
    have hsz := hW.2.2.2.size
    have hxk := HLA.out i
    clear hW hz hv
    by_cases hlt : i < (limbs a).length
    · obtain ⟨g, off, rfl, hg, hc⟩ := HX.out (by intro e; rw [e] at hlt; simp at hlt)
      have hca := hc i hlt
      clear hc HX ha
      go_wp2_with fail
      obtain ⟨wo, rfl⟩ : ∃ wo : World, wo = wr := ⟨_, rfl⟩
      go_loopw [8, 27] (fun cy kx wr => ∃ (k cr : Nat) (r : List Nat), k ≤ (limbs b).length ∧ kx = .int .i64 (k : Int) ∧ cr < 1000000000 ∧ cy = .int .u64 (cr : Int) ∧ Work w wr w.heap.size ((limbs a).length + (limbs b).length) r ∧ (∀ j, i + (limbs b).length ≤ j → nth r j = 0) ∧
        val r + cr * 1000000000 ^ (i + k) = val ((limbs a).take i) * b + nth (limbs a) i * 1000000000 ^ i * val ((limbs b).take k)) (fun _ k _ => (limbs b).length - (intOf k).toNat)
      case atStart => exact ⟨0, 0, r, Nat.zero_le _, rfl, by omega, rfl, HW.out, HZ.out, by rw [HV.out]; simp [val]⟩
      case round =>
        obtain ⟨k, cr, r, hk, rfl, hcr, rfl, hW, hz, hv⟩ := hrel
        clear HW HZ HV HY
        have HW := Lib.hid hW
        have HZ := Lib.hid hz
        have HV := Lib.hid hv
        have HY := Lib.hid (hb.below hW.2.2.2)
        have hsz := hW.2.2.2.size
        have hyk := HLB.out k
        clear hW hz hv
        by_cases hlk : k < (limbs b).length
        · obtain ⟨g', off', rfl, hg', hc'⟩ := HY.out (by intro e; rw [e] at hlk; simp at hlk)
          have hcb := hc' k hlk
          clear hc' HY hb
          have hrl := HW.out.2.2.1
          have hcell := hrl.cell (i := i + k) (by rw [HW.out.1]; omega)
          have hfr := hrl.frozen (i + k)
          have hrk := HW.out.2.1.nth (i + k)
          have hm : (nth (limbs a) i : Int) * (nth (limbs b) k : Int) ≤ 999999998000000001 := by
            have h1 : nth (limbs a) i * nth (limbs b) k ≤ 999999999 * 999999999 := Nat.mul_le_mul (by omega) (by omega)
            rw [← Int.natCast_mul]; omega
          have hm0 : 0 ≤ (nth (limbs a) i : Int) * (nth (limbs b) k : Int) := by rw [← Int.natCast_mul]; omega
          clear hrl
          go_wp2_with fail
          go_roundw
          case rel =>
            have e0 : ((nth (limbs a) i : Int)) * (nth (limbs b) k : Int) = ((nth (limbs a) i * nth (limbs b) k : Nat) : Int) := by rw [Int.natCast_mul]
            rw [e0] at hm
            rw [e0]
            have e1 : ((↑(nth r (i + k)) + ((nth (limbs a) i * nth (limbs b) k : Nat) : Int) + ↑cr : Int)) / 1000000000 = (((nth r (i + k) + nth (limbs a) i * nth (limbs b) k + cr) / 1000000000 : Nat) : Int) := by
              generalize nth (limbs a) i * nth (limbs b) k = m; omega
            have e2 : ((↑(nth r (i + k)) + ((nth (limbs a) i * nth (limbs b) k : Nat) : Int) + ↑cr : Int)) % 1000000000 = (((nth r (i + k) + nth (limbs a) i * nth (limbs b) k + cr) % 1000000000 : Nat) : Int) := by
              generalize nth (limbs a) i * nth (limbs b) k = m; omega
            rw [e1, e2]
            refine ⟨k + 1, _, _, by omega, by go_num, ?_, rfl, HW.out.step (Nat.mod_lt _ (by omega)) (Nat.le_refl _), fun j hj => ?_, ?_⟩
            · generalize nth (limbs a) i * nth (limbs b) k = m at *; omega
            · rw [nth_set_ne (by omega)]; exact HZ.out j hj
            · rw [val_take_succ]
              exact mul_step r i k _ _ cr _ _ (by rw [HW.out.1]; omega) HV.out
          case measure => simp [intOf]; omega
        · obtain rfl : k = (limbs b).length := by omega
          have hrl := HW.out.2.2.1
          have hcell := hrl.cell (i := i + (limbs b).length) (by rw [HW.out.1]; omega)
          have hfr := hrl.frozen (i + (limbs b).length)
          have hrz := HZ.out (i + (limbs b).length) (Nat.le_refl _)
          have hrk : nth r (i + (limbs b).length) < 1000000000 := by omega
          have HRZ := Lib.hid hrz
          clear hrl hrz
          go_wp2_with fail
          go_roundw
          case rel =>
            have e0 : (nth r (i + (limbs b).length) : Int) + (cr : Int) = ((nth r (i + (limbs b).length) + cr : Nat) : Int) := by omega
            rw [e0]
            refine ⟨i + 1, _, by omega, by go_num, HW.out.step (by have := HRZ.out; omega) (Nat.le_refl _), fun j hj => ?_, ?_⟩
            · rw [nth_set_ne (by omega)]; exact HZ.out j (by omega)
            · have h1 := HV.out
              rw [List.take_length, val_limbs] at h1
              rw [mul_row_end r i cr _ _ _ _ (by rw [HW.out.1]; omega) HRZ.out h1, val_take_succ]
              grind
          case measure => simp [intOf]; omega
    · obtain rfl : i = (limbs a).length := by omega
      have h1 : val r = a * b := by have := HV.out; rwa [List.take_length, val_limbs] at this
      have HT := Lib.hid (trim_fill HW.out.fill (by omega) (show trimL r = limbs (a * b) by rw [← limbs_val HW.out.2.1, h1]))
      clear h1
      go_wp2_with fail
      refine HT.out.mono ?_
      rintro e w' ⟨v, rfl, hv, rfl, hve⟩
      have HVE := Lib.hid hve
      clear hve
      go_wp2_with fail
      go_ret
      exact ⟨⟨_, rfl, hv, HW.out.2.2.2⟩, by rw [← HVE.out]; rfl⟩

theorem mul_any (A A' : Option Addr) (a b c c' : Nat) (w : World) (ha : Cells .u64 w A (limbs a)) (hb : Cells .u64 w A' (limbs b)) (hla : (limbs a).length ≤ 100000000) (hlb : (limbs b).length ≤ 100000000) :
    Calls Tryz.prog 61 #[.slice A (limbs a).length c, .slice A' (limbs b).length c'] w (RetNat w (a * b)) :=
  (mul_new A A' a b c c' w ha hb hla hlb).mono fun _ _ h => h.1

end Go.Proofs.YtmickdolpgjbhaaGreatDoor
