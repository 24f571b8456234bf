/-
  Package limbs: add, sub.
-/
import Derived.Test.YtmickdolpgjbhaaGreatDoorLimA
namespace Go.Proofs.YtmickdolpgjbhaaGreatDoor
open Go.RowKit

/-- The state of a loop that fills a new row from its beginning: os is done, the rest is 0. -/
def Fill (w wr : World) (g : Nat) (os : List Nat) (n k : Nat) : Prop := os.length = k ∧ Low os ∧ Row .u64 wr g 88 (os ++ zeros (n - k)) ∧ Below w.heap.size w wr
theorem Fill.step {w wr : World} {g n k x : Nat} {os : List Nat} (h : Fill w wr g os n k) (hk : k < n) (hx : x < 1000000000) (hg : w.heap.size ≤ g) :
    Fill w (wr.setCell ⟨g, k, none⟩ (.int .u64 (x : Int))) g (os ++ [x]) n (k + 1) := by
  obtain ⟨hl, hlow, hrow, hb⟩ := h
  refine ⟨by simp [hl], hlow.snoc hx, ?_, hb.setCell hg _⟩
  have h1 := hrow.set k x
  obtain ⟨r, hr⟩ : ∃ r, n - k = r + 1 := ⟨n - k - 1, by omega⟩
  have hr' : n - (k + 1) = r := by omega
  rw [hr] at h1
  rw [hr']
  have h2 := set_zeros os r x
  rw [hl] at h2
  rw [h2] at h1
  exact h1

theorem Fill.drewN {w wr : World} {g n k : Nat} {os : List Nat} (h : Fill w wr g os n k) (m : Nat) : Fill w (wr.drewN m) g os n k := ⟨h.1, h.2.1, h.2.2.1, below_drewN h.2.2.2 m⟩
theorem trim_fill {w wr : World} {g n r : Nat} {os : List Nat} (h : Fill w wr g os n n) (hn : n ≤ 1000000000) (hr : trimL os = limbs r) :
    Calls Tryz.prog 79 #[.slice (some ⟨g, 0, none⟩) n n] wr fun e w' => ∃ v, e = .returned v ∧ IsNat w' v r ∧ wr = w' ∧ v = .slice (some ⟨g, 0, none⟩) (limbs r).length n := by
  obtain ⟨hl, hlow, hrow, hb⟩ := h
  have e0 : os ++ zeros (n - n) = os := by simp [zeros]
  rw [e0] at hrow
  subst hl
  refine (trim_any (some ⟨g, 0, none⟩) os os.length wr hrow.cells hn (Nat.le_refl _)).mono ?_
  rintro e w' ⟨rfl, rfl⟩
  have h2 := (hrow.cells).take (trimL os).length
  rw [← trimL_take] at h2
  have h3 := trimL_length_le os
  rw [hr] at h2 h3
  exact ⟨_, rfl, ⟨_, _, by rw [hr], h3, h2⟩, rfl, by rw [hr]⟩

set_option maxRecDepth 100000 in
set_option maxHeartbeats 1000000 in
theorem add_any (A A' : Option Addr) (a b c c' : Nat) (w : World) (ha : Cells .u64 w A (limbs a)) (hb : Cells .u64 w A' (limbs b)) (hla : (limbs a).length ≤ 100000000) (hlb : (limbs b).length ≤ 100000000) :
    Calls Tryz.prog 64 #[.slice A (limbs a).length c, .slice A' (limbs b).length c'] w (RetNat w (a + b)) := by
  obtain ⟨i0, hi, hz0, hz1, hz2⟩ := info_parts Tryz.infoU64
  obtain ⟨n, hn⟩ : ∃ n, n = max (limbs a).length (limbs b).length := ⟨_, rfl⟩
  have hna : (limbs a).length ≤ n := by omega
  have hnb : (limbs b).length ≤ n := by omega
  have hn1 : n ≤ 100000000 := by omega
  have HM := fun (m : Nat) (hm : m ≤ 100000001) => Lib.hid (fun W => run_make_ints (P := Tryz.prog) 60 88 i0 .u64 8 Tryz.underlying60 hi hz0 hz1 hz2 m (by omega) (by omega) W)
  clear hi hz0 hz1 hz2
  have HA := Low.limbs a
  have HB := Low.limbs b
  have hlA : ∀ i, nth (limbs a) i < 1000000000 := HA.nth
  have hlB : ∀ i, nth (limbs b) i < 1000000000 := HB.nth
  have HLA := Lib.hid hlA
  have HLB := Lib.hid hlB
  clear hlA hlB
  rcases Nat.lt_or_ge (limbs a).length (limbs b).length with hle | hle
  · have hmk := (HM ((limbs b).length + 1) (by omega)).out
    rw [Int.natCast_succ] at hmk
    have hq : n ≤ (limbs b).length := by omega
    clear hn HM
    go_enter Tryz.func64, Tryz.ntmps64
    go_wp2_with fail
    clear hmk
    go_loopw [6, 18] (fun cy i wr => ∃ (k cr : Nat) (os : List Nat), k ≤ n + 1 ∧ i = .int .i64 (k : Int) ∧ cr ≤ 1 ∧ cy = .int .u64 (cr : Int) ∧ Fill w wr w.heap.size os (n + 1) k ∧ val os + cr * 1000000000 ^ k = val ((limbs a).take k) + val ((limbs b).take k)) (fun _ i _ => n + 1 - (intOf i).toNat)
    case atStart => 
      refine ⟨0, 0, [], Nat.zero_le _, rfl, by omega, rfl, ⟨rfl, Low.nil, ?_, (Below.refl _ _).alloc (Nat.le_refl _) _⟩, by simp [val]⟩
      have : n = (limbs b).length := by omega
      subst this
      exact Row.new _ _ _ _
    case round =>
      obtain ⟨k, cr, os, hk, rfl, hcr, rfl, hfill, hv⟩ := hrel
      have HF := Lib.hid hfill
      have HV := Lib.hid hv
      have hax := ha.below hfill.2.2.2
      have hbx := hb.below hfill.2.2.2
      have HX := Lib.hid hax
      have HY := Lib.hid hbx
      have hsz := hfill.2.2.2.size
      have hxk := HLA.out k
      have hyk := HLB.out k
      clear hfill hv hax hbx
      by_cases hlt : k < n + 1
      · have hrl := HF.out.2.2.1
        have hll : k < (os ++ zeros (n + 1 - k)).length := by rw [List.length_append, HF.out.1, zeros_length]; omega
        have hcell := hrl.cell hll
        have hfr := hrl.frozen k
        clear hrl hll
        go_wp2_with fail
        refine (at_any _ _ _ _ _ HX.out (by omega) (by omega)).mono ?_
        rintro e w' ⟨rfl, rfl⟩
        go_wp2_with fail
        refine (at_any _ _ _ _ _ HY.out (by omega) (by omega)).mono ?_
        rintro e w' ⟨rfl, rfl⟩
        go_wp2_with fail
        go_roundw
        case rel =>
          have e1 : ((↑(nth (limbs a) k) + ↑(nth (limbs b) k) + ↑cr : Int)) / 1000000000 = (((nth (limbs a) k + nth (limbs b) k + cr) / 1000000000 : Nat) : Int) := by omega
          have e2 : ((↑(nth (limbs a) k) + ↑(nth (limbs b) k) + ↑cr : Int)) % 1000000000 = (((nth (limbs a) k + nth (limbs b) k + cr) % 1000000000 : Nat) : Int) := by omega
          rw [e1, e2]
          exact ⟨k + 1, _, _, by omega, by go_num, by omega, rfl, HF.out.step hlt (by omega) (Nat.le_refl _), add_step _ _ _ _ _ HF.out.1 HV.out⟩
        case measure => simp [intOf]; omega
      · obtain rfl : k = n + 1 := by omega
        have HT := Lib.hid (trim_fill HF.out (by omega) (add_end a b n cr os HF.out.1 HF.out.2.1 (by omega) (by omega) HV.out))
        rw [show n + 1 = (limbs b).length + 1 by omega] at HT
        go_wp2_with fail
        refine HT.out.mono ?_
        rintro e w' ⟨v, rfl, hv, rfl, -⟩
        go_wp2_with fail
        go_ret
        exact ⟨_, rfl, hv, HF.out.2.2.2⟩
  · have hmk := (HM ((limbs a).length + 1) (by omega)).out
    rw [Int.natCast_succ] at hmk
    have hq : n ≤ (limbs a).length := by omega
    clear hn HM
    go_enter Tryz.func64, Tryz.ntmps64
    go_wp2_with fail
    clear hmk
    go_loopw [6, 18] (fun cy i wr => ∃ (k cr : Nat) (os : List Nat), k ≤ n + 1 ∧ i = .int .i64 (k : Int) ∧ cr ≤ 1 ∧ cy = .int .u64 (cr : Int) ∧ Fill w wr w.heap.size os (n + 1) k ∧ val os + cr * 1000000000 ^ k = val ((limbs a).take k) + val ((limbs b).take k)) (fun _ i _ => n + 1 - (intOf i).toNat)
    case atStart => 
      refine ⟨0, 0, [], Nat.zero_le _, rfl, by omega, rfl, ⟨rfl, Low.nil, ?_, (Below.refl _ _).alloc (Nat.le_refl _) _⟩, by simp [val]⟩
      have : n = (limbs a).length := by omega
      subst this
      exact Row.new _ _ _ _
    case round =>
      obtain ⟨k, cr, os, hk, rfl, hcr, rfl, hfill, hv⟩ := hrel
      have HF := Lib.hid hfill
      have HV := Lib.hid hv
      have hax := ha.below hfill.2.2.2
      have hbx := hb.below hfill.2.2.2
      have HX := Lib.hid hax
      have HY := Lib.hid hbx
      have hsz := hfill.2.2.2.size
      have hxk := HLA.out k
      have hyk := HLB.out k
      clear hfill hv hax hbx
      by_cases hlt : k < n + 1
      · have hrl := HF.out.2.2.1
        have hll : k < (os ++ zeros (n + 1 - k)).length := by rw [List.length_append, HF.out.1, zeros_length]; omega
        have hcell := hrl.cell hll
        have hfr := hrl.frozen k
        clear hrl hll
        go_wp2_with fail
        refine (at_any _ _ _ _ _ HX.out (by omega) (by omega)).mono ?_
        rintro e w' ⟨rfl, rfl⟩
        go_wp2_with fail
        refine (at_any _ _ _ _ _ HY.out (by omega) (by omega)).mono ?_
        rintro e w' ⟨rfl, rfl⟩
        go_wp2_with fail
        go_roundw
        case rel =>
          have e1 : ((↑(nth (limbs a) k) + ↑(nth (limbs b) k) + ↑cr : Int)) / 1000000000 = (((nth (limbs a) k + nth (limbs b) k + cr) / 1000000000 : Nat) : Int) := by omega
          have e2 : ((↑(nth (limbs a) k) + ↑(nth (limbs b) k) + ↑cr : Int)) % 1000000000 = (((nth (limbs a) k + nth (limbs b) k + cr) % 1000000000 : Nat) : Int) := by omega
          rw [e1, e2]
          exact ⟨k + 1, _, _, by omega, by go_num, by omega, rfl, HF.out.step hlt (by omega) (Nat.le_refl _), add_step _ _ _ _ _ HF.out.1 HV.out⟩
        case measure => simp [intOf]; omega
      · obtain rfl : k = n + 1 := by omega
        have HT := Lib.hid (trim_fill HF.out (by omega) (add_end a b n cr os HF.out.1 HF.out.2.1 (by omega) (by omega) HV.out))
        rw [show n + 1 = (limbs a).length + 1 by omega] at HT
        go_wp2_with fail
        refine HT.out.mono ?_
        rintro e w' ⟨v, rfl, hv, rfl, -⟩
        go_wp2_with fail
        go_ret
        exact ⟨_, rfl, hv, HF.out.2.2.2⟩

set_option maxRecDepth 100000 in
set_option maxHeartbeats 1000000 in
theorem sub_any (A A' : Option Addr) (a b c c' : Nat) (w : World) (ha : Cells .u64 w A (limbs a)) (hb : Cells .u64 w A' (limbs b)) (hla : (limbs a).length ≤ 100000000) (hab : b ≤ a) :
    Calls Tryz.prog 65 #[.slice A (limbs a).length c, .slice A' (limbs b).length c'] w (RetNat w (a - b)) := by
  obtain ⟨i0, hi, hz0, hz1, hz2⟩ := info_parts Tryz.infoU64
  have hlb := limbs_length_mono hab
  have hmk := fun W => run_make_ints (P := Tryz.prog) 60 88 i0 .u64 8 Tryz.underlying60 hi hz0 hz1 hz2 (limbs a).length (by omega) (by omega) W
  clear hi hz0 hz1 hz2
  have HLA := Lib.hid (show ∀ i, nth (limbs a) i < 1000000000 from (Low.limbs a).nth)
  have HLB := Lib.hid (show ∀ i, nth (limbs b) i < 1000000000 from (Low.limbs b).nth)
  go_enter Tryz.func65, Tryz.ntmps65
  go_wp2_with fail
  clear hmk
  go_loopw [6, 14] (fun cy i wr => ∃ (k cr : Nat) (os : List Nat), k ≤ (limbs a).length ∧ i = .int .i64 (k : Int) ∧ cr ≤ 1 ∧ cy = .int .u64 (cr : Int) ∧ Fill w wr w.heap.size os (limbs a).length k ∧ val os + val ((limbs b).take k) = val ((limbs a).take k) + cr * 1000000000 ^ k) (fun _ i _ => (limbs a).length - (intOf i).toNat)
  case atStart => exact ⟨0, 0, [], Nat.zero_le _, rfl, by omega, rfl, ⟨rfl, Low.nil, Row.new _ _ _ _, (Below.refl _ _).alloc (Nat.le_refl _) _⟩, by simp [val]⟩
  case round =>
    obtain ⟨k, cr, os, hk, rfl, hcr, rfl, hfill, hv⟩ := hrel
    have HF := Lib.hid hfill
    have HV := Lib.hid hv
    have HX := Lib.hid (ha.below hfill.2.2.2)
    have HY := Lib.hid (hb.below hfill.2.2.2)
    have hsz := hfill.2.2.2.size
    have hxk := HLA.out k
    have hyk := HLB.out k
    clear hfill hv
    by_cases hlt : k < (limbs a).length
    · have hrl := HF.out.2.2.1
      have hll : k < (os ++ zeros ((limbs a).length - k)).length := by rw [List.length_append, HF.out.1, zeros_length]; omega
      have hcell := hrl.cell hll
      have hfr := hrl.frozen k
      obtain ⟨g, off, rfl, hg, hc⟩ := HX.out (by intro e; rw [e] at hlt; simp at hlt)
      have hca := hc k hlt
      clear hrl hll hc HX ha
      go_wp2_with fail
      go_quiet ((go_at_call 75; exact quiet_left (at_any _ _ _ _ _ HY.out (by omega) (by omega))))
      go_wp2_with fail
      go_roundw
      case rel =>
        have e1 : (1 : Int) - (↑(nth (limbs a) k) + 1000000000 - ↑(nth (limbs b) k) - ↑cr) / 1000000000 = ((1 - (nth (limbs a) k + 1000000000 - nth (limbs b) k - cr) / 1000000000 : Nat) : Int) := by omega
        have e2 : ((↑(nth (limbs a) k) + 1000000000 - ↑(nth (limbs b) k) - ↑cr : Int)) % 1000000000 = (((nth (limbs a) k + 1000000000 - nth (limbs b) k - cr) % 1000000000 : Nat) : Int) := by omega
        rw [e1, e2]
        exact ⟨k + 1, _, _, by omega, by go_num, by omega, rfl, (HF.out.drewN _).step hlt (by omega) (Nat.le_refl _), sub_step _ _ _ _ _ HF.out.1 hxk hyk hcr HV.out⟩
      case measure => simp [intOf]; omega
    · obtain rfl : k = (limbs a).length := by omega
      have HT := Lib.hid (trim_fill HF.out (by omega) (sub_end a b cr os hab HF.out.1 HF.out.2.1 HV.out))
      go_wp2_with fail
      refine HT.out.mono ?_
      rintro e w' ⟨v, rfl, hv, rfl, -⟩
      go_wp2_with fail
      go_ret
      exact ⟨_, rfl, hv, HF.out.2.2.2⟩

end Go.Proofs.YtmickdolpgjbhaaGreatDoor
