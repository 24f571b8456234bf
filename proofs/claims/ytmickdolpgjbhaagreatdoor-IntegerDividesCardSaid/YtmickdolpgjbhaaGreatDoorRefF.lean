/-
  Package joinlearnref01: Mul of Bigs.
-/
import Derived.Test.YtmickdolpgjbhaaGreatDoorRefE
namespace Go.Proofs.YtmickdolpgjbhaaGreatDoor
open Go.RowKit

theorem BB.far {w W : World} {n0 n1 : Bool} {s0 s1 : Value} (h : BB w W n0 n1 s0 s1) {p : Addr} (hp : w.heap.size + 2 < p.block) (u : Value) : BB w (W.setCell p u) n0 n1 s0 s1 :=
  ⟨h.k0.far (by omega) u, h.k1.far (by omega) u, h.k2.far (by omega) u, h.bel.setCell (by omega) u⟩
theorem BB.drewN {w W : World} {n0 n1 : Bool} {s0 s1 : Value} (h : BB w W n0 n1 s0 s1) (n : Nat) : BB w (W.drewN n) n0 n1 s0 s1 := ⟨h.k0, h.k1, h.k2, below_drewN h.bel n⟩
theorem BB.alloc {w W : World} {n0 n1 : Bool} {s0 s1 : Value} (h : BB w W n0 n1 s0 s1) (o : Obj) : BB w (W.alloc o) n0 n1 s0 s1 := ⟨h.k0.alloc o, h.k1.alloc o, h.k2.alloc o, h.bel.alloc (Nat.le_of_lt h.k0.lt) o⟩
theorem sgnB_mul (x y : Int) : sgnB (decide (x < 0) != decide (y < 0)) (x.natAbs * y.natAbs) = x * y := by
  have hx := sgnB_self x
  have hy := sgnB_self y
  generalize decide (x < 0) = a at *
  generalize decide (y < 0) = b at *
  rw [← hx, ← hy]
  simp only [sgnB_natAbs]
  cases a <;> cases b <;> simp [sgnB, Int.natCast_mul, Int.neg_mul, Int.mul_neg]
/-- The row of a product under way. -/
def Prod (w wr : World) (na nb : Bool) (s0 s1 : Value) (g n : Nat) (r : List Nat) : Prop := r.length = n ∧ Low r ∧ Row .i64 wr g 3 r ∧ BB w wr na nb s0 s1
theorem Prod.step {w wr : World} {na nb : Bool} {s0 s1 : Value} {g n : Nat} {r : List Nat} (h : Prod w wr na nb s0 s1 g n r) (hg : w.heap.size + 2 < g) (i : Nat) {x : Nat} (hx : x < 1000000000) : Prod w (wr.setCell ⟨g, i, none⟩ (.int .i64 (x : Int))) na nb s0 s1 g n (r.set i x) :=
  ⟨by simp [h.1], h.2.1.set i hx, h.2.2.1.set i x, h.2.2.2.far hg _⟩
theorem Prod.drewN {w wr : World} {na nb : Bool} {s0 s1 : Value} {g n : Nat} {r : List Nat} (h : Prod w wr na nb s0 s1 g n r) (m : Nat) : Prod w (wr.drewN m) na nb s0 s1 g n r := ⟨h.1, h.2.1, h.2.2.1, h.2.2.2.drewN m⟩

set_option maxRecDepth 100000 in
set_option maxHeartbeats 4000000 in
theorem RMul_any (u v : Value) (x y : Int) (w : World) (hx : IsBig w u x) (hy : IsBig w v y) (hlx : (limbs x.natAbs).length ≤ 100000000) (hly : (limbs y.natAbs).length ≤ 100000000) :
    Calls Tryz.prog 32 #[u, v] w (RetBigN w (x * y)) := by
  obtain ⟨A, c, rfl, hlc, hc⟩ := hx
  obtain ⟨A', c', rfl, hlc', hc'⟩ := hy
  have HC := Lib.hid hc
  have HC' := Lib.hid hc'
  have HSG := Lib.hid (sgnB_mul x y)
  generalize hna : decide (x < 0) = na at *
  generalize hnb : decide (y < 0) = nb at *
  generalize hea : x.natAbs = a at *
  generalize heb : y.natAbs = b at *
  obtain ⟨i0, hi, hz0, hz1, hz2⟩ := info_parts Tryz.infoInt
  have hmk := fun W => run_make_ints (P := Tryz.prog) 22 3 i0 .i64 8 Tryz.underlying22 hi hz0 hz1 hz2 ((limbs a).length + (limbs b).length + 1) (by omega) (by omega) W
  rw [Int.natCast_succ, Int.natCast_add] at hmk
  have HLA := Lib.hid (show ∀ i, nth (limbs a) i < 1000000000 from (Low.limbs a).nth)
  have HLB := Lib.hid (show ∀ i, nth (limbs b) i < 1000000000 from (Low.limbs b).nth)
  clear hc hc' hna hnb hea heb hi hz0 hz1 hz2
  go_enter Tryz.func32, Tryz.ntmps32
  go_upto_region 1 with (fail)
  have hbx := BB.new w na nb (.slice A (limbs a).length c) (.slice A' (limbs b).length c')
  generalize ((w.alloc (.cells #[.bool na, .slice A (limbs a).length c] 51)).alloc (.cells #[.bool nb, .slice A' (limbs b).length c'] 51)).alloc (.cells #[.bool false, .slice none 0 0] 51) = W at *
  have hgs : w.heap.size + 2 < W.heap.size := hbx.k2.lt
  have HBX := Lib.hid hbx
  obtain ⟨ha0, ha1, hb0, hb1⟩ := hbx.four
  clear hbx
  go_wp2_with fail
  clear hmk ha0 ha1 hb0 hb1
  generalize hgg : W.heap.size = g at *
  go_loopw [6] (fun ix wr => ∃ (i : Nat) (r : List Nat), i ≤ (limbs a).length ∧ ix = .int .i64 (i : Int) ∧ Prod w wr na nb (.slice A (limbs a).length c) (.slice A' (limbs b).length c') g ((limbs a).length + (limbs b).length + 1) r ∧ (∀ j, i + (limbs b).length ≤ j → nth r j = 0) ∧ val r = val ((limbs a).take i) * b) (fun i _ => (limbs a).length - (intOf i).toNat)
  case atStart =>
    refine ⟨0, zeros ((limbs a).length + (limbs b).length + 1), Nat.zero_le _, rfl, ⟨zeros_length _, low_zeros _, ?_, HBX.out.alloc _⟩, fun j _ => nth_zeros _ _, by rw [val_zeros]; simp [val]⟩
    rw [← hgg]
    exact Row.new _ _ _ _
  case round =>
    obtain ⟨i, r, hi, rfl, hW, hz, hv⟩ := hrel
    have HW := Lib.hid hW
    have HZ := Lib.hid hz
    have HV := Lib.hid hv
    obtain ⟨ha0, ha1, hb0, hb1⟩ := hW.2.2.2.four
    have hxi := HLA.out i
    clear hW hz hv HBX hgg
    by_cases hlt : i < (limbs a).length
    · go_wp2_with fail
      clear ha0 ha1 hb0 hb1
      obtain ⟨wo, rfl⟩ : ∃ wo : World, wo = wr := ⟨_, rfl⟩
      go_loopw [7, 8] (fun cy kx wr => ∃ (k cr : Nat) (r : List Nat), k ≤ (limbs b).length + 1 ∧ kx = .int .i64 (k : Int) ∧ cr < 1000000000 ∧ cy = .int .i64 (cr : Int) ∧ (k = (limbs b).length + 1 → cr = 0) ∧ Prod w wr na nb (.slice A (limbs a).length c) (.slice A' (limbs b).length c') g ((limbs a).length + (limbs b).length + 1) r ∧ (∀ j, i + (limbs b).length + 1 ≤ j → nth r j = 0) ∧ (k ≤ (limbs b).length → nth r (i + (limbs b).length) = 0) ∧
        val r + cr * 1000000000 ^ (i + k) = val ((limbs a).take i) * b + nth (limbs a) i * 1000000000 ^ i * val ((limbs b).take k)) (fun _ k _ => (limbs b).length + 1 - (intOf k).toNat)
      case atStart => exact ⟨0, 0, r, Nat.zero_le _, rfl, by omega, rfl, by omega, HW.out, fun j hj => HZ.out j (by omega), fun _ => HZ.out _ (by omega), by rw [HV.out]; simp [val]⟩
      case round =>
        obtain ⟨k, cr, r, hk, rfl, hcr, rfl, hlast, hW, hz, hz2, hv⟩ := hrel
        clear HW HZ HV
        have HW := Lib.hid hW
        have HZ := Lib.hid hz
        have HZ2 := Lib.hid hz2
        have HV := Lib.hid hv
        have HLAST := Lib.hid hlast
        obtain ⟨ha0, ha1, hb0, hb1⟩ := hW.2.2.2.four
        have hyk := HLB.out k
        clear hW hz hz2 hv hlast
        by_cases hlk : k < (limbs b).length
        · obtain ⟨ga, offa, eA, hga, hca⟩ := HC.out (by intro e; rw [e] at hlt; simp at hlt)
          subst eA
          obtain ⟨gb, offb, eB, hgb, hcb⟩ := HC'.out (by intro e; rw [e] at hlk; simp at hlk)
          subst eB
          have hcai : wr.cell? ⟨ga, offa + i, none⟩ = some (.int .i64 ((nth (limbs a) i : Nat) : Int)) := (HW.out.2.2.2.bel.cell (p := ⟨ga, offa + i, none⟩) hga).trans (hca i hlt)
          have hcbk : wr.cell? ⟨gb, offb + k, none⟩ = some (.int .i64 ((nth (limbs b) k : Nat) : Int)) := (HW.out.2.2.2.bel.cell (p := ⟨gb, offb + k, none⟩) hgb).trans (hcb k hlk)
          clear hca hcb
          have hcell := HW.out.2.2.1.cell (i := i + k) (by rw [HW.out.1]; omega)
          have hfr := HW.out.2.2.1.frozen (i + k)
          have hrk := HW.out.2.1.nth (i + k)
          have hm0 : nth (limbs a) i * nth (limbs b) k ≤ 999999999 * 999999999 := Nat.mul_le_mul (by omega) (by omega)
          have em : (nth (limbs a) i : Int) * (nth (limbs b) k : Int) = ((nth (limbs a) i * nth (limbs b) k : Nat) : Int) := by rw [Int.natCast_mul]
          have hm : (nth (limbs a) i : Int) * (nth (limbs b) k : Int) ≤ 999999998000000001 := by rw [em]; omega
          have hmp : 0 ≤ (nth (limbs a) i : Int) * (nth (limbs b) k : Int) := by rw [em]; omega
          have EM := Lib.hid em
          clear em
          have hb1' : (i : Int) < ((limbs a).length : Int) := by omega
          have hb2' : (k : Int) < ((limbs b).length : Int) := by omega
          have hi0 : (0 : Int) ≤ (i : Int) := by omega
          have hk0 : (0 : Int) ≤ (k : Int) := by omega
          have ew1 : IntKind.i64.wrap ((nth (limbs a) i : Int) * (nth (limbs b) k : Int)) = (nth (limbs a) i : Int) * (nth (limbs b) k : Int) := IntWalk.i64_in _ (by omega)
          have ew2 : IntKind.i64.wrap ((cr : Int) + (nth r (i + k) : Int) + (nth (limbs a) i : Int) * (nth (limbs b) k : Int)) = (cr : Int) + (nth r (i + k) : Int) + (nth (limbs a) i : Int) * (nth (limbs b) k : Int) := IntWalk.i64_in _ (by omega)
          go_wp2_with fail
          go_quiet (fail)
          clear ew1 ew2
          go_wp2_with fail
          go_roundw
          case rel =>
            have eT : (cr : Int) + (nth r (i + k) : Int) + (nth (limbs a) i : Int) * (nth (limbs b) k : Int) = ((nth r (i + k) + nth (limbs a) i * nth (limbs b) k + cr : Nat) : Int) := by rw [EM.out]; omega
            have e1 : ((cr : Int) + (nth r (i + k) : Int) + (nth (limbs a) i : Int) * (nth (limbs b) k : Int)) / 1000000000 = (((nth r (i + k) + nth (limbs a) i * nth (limbs b) k + cr) / 1000000000 : Nat) : Int) := by rw [eT]; rfl
            have e2 : ((cr : Int) + (nth r (i + k) : Int) + (nth (limbs a) i : Int) * (nth (limbs b) k : Int)) % 1000000000 = (((nth r (i + k) + nth (limbs a) i * nth (limbs b) k + cr) % 1000000000 : Nat) : Int) := by rw [eT]; rfl
            rw [e1, e2]
            refine ⟨k + 1, _, _, by omega, by go_num, ?_, rfl, by omega, (HW.out.drewN nq).step hgs _ (Nat.mod_lt _ (by omega)), fun j hj => ?_, fun _ => ?_, ?_⟩
            · generalize nth (limbs a) i * nth (limbs b) k = m at *; omega
            · rw [nth_set_ne (by omega)]; exact HZ.out j hj
            · rw [nth_set_ne (by omega)]; exact HZ2.out (by omega)
            · rw [val_take_succ]
              exact mul_step r i k _ _ cr _ _ (by rw [HW.out.1]; omega) HV.out
          case measure => simp [intOf]; omega
        · by_cases hcp : 0 < cr
          · have hkl : k = (limbs b).length := by have := HLAST.out; omega
            have hz2 := HZ2.out (by omega)
            have hy0 := nth_ge (xs := limbs b) (i := k) (by omega)
            have HKL := Lib.hid hkl
            have hcell := HW.out.2.2.1.cell (i := i + k) (by rw [HW.out.1]; omega)
            have hfr := HW.out.2.2.1.frozen (i + k)
            have hrk := HW.out.2.1.nth (i + k)
            have HY0 := Lib.hid hy0
            have HZ3 : Hid (nth r (i + k) = 0) := by rw [hkl]; exact hz2
            have hcp' : decide (0 < (cr : Int)) = true := decide_eq_true (by omega)
            clear hkl hz2 hy0
            go_wp2_with fail
            go_roundw
            case rel =>
              have eT : (cr : Int) + (nth r (i + k) : Int) = ((nth r (i + k) + nth (limbs a) i * nth (limbs b) k + cr : Nat) : Int) := by rw [HY0.out, Nat.mul_zero]; omega
              have e1 : ((cr : Int) + (nth r (i + k) : Int)) / 1000000000 = (((nth r (i + k) + nth (limbs a) i * nth (limbs b) k + cr) / 1000000000 : Nat) : Int) := by rw [eT]; rfl
              have e2 : ((cr : Int) + (nth r (i + k) : Int)) % 1000000000 = (((nth r (i + k) + nth (limbs a) i * nth (limbs b) k + cr) % 1000000000 : Nat) : Int) := by rw [eT]; rfl
              rw [e1, e2]
              have hkl := HKL.out
              have hd : (nth r (i + k) + nth (limbs a) i * nth (limbs b) k + cr) / 1000000000 = 0 := by
                rw [HZ3.out, HY0.out, Nat.mul_zero]; exact Nat.div_eq_of_lt (by omega)
              refine ⟨k + 1, _, _, by omega, by go_num, by omega, rfl, fun _ => hd, HW.out.step hgs _ (Nat.mod_lt _ (by omega)), fun j hj => ?_, fun h => by omega, ?_⟩
              · rw [nth_set_ne (by omega)]; exact HZ.out j hj
              · rw [val_take_succ]
                exact mul_step r i k _ _ cr _ _ (by rw [HW.out.1]; omega) HV.out
            case measure => have := HKL.out; simp [intOf]; omega
          · have hcp' : decide (0 < (cr : Int)) = false := decide_eq_false (by omega)
            obtain rfl : cr = 0 := by omega
            have hE := HV.out
            rw [List.take_of_length_le (l := limbs b) (by omega), val_limbs, Nat.zero_mul, Nat.add_zero] at hE
            have HE := Lib.hid hE
            clear hE
            go_wp2_with fail
            go_roundw
            case rel =>
              refine ⟨i + 1, r, by omega, by go_num, HW.out, fun j hj => HZ.out j (by omega), ?_⟩
              rw [HE.out, val_take_succ, Nat.add_mul, Nat.mul_comm (1000000000 ^ i)]
            case measure => simp [intOf]; exact Nat.sub_lt_sub_left hlt (Nat.lt_succ_self i)
    · have hE := HV.out
      rw [List.take_of_length_le (l := limbs a) (by omega), val_limbs] at hE
      have hrow : IsRow wr (.slice (some ⟨g, 0, none⟩) ((limbs a).length + (limbs b).length + 1) ((limbs a).length + (limbs b).length + 1)) r := ⟨_, _, by rw [HW.out.1], by rw [HW.out.1]; omega, HW.out.2.2.1.cells⟩
      have HTR := Lib.hid (rtrim_num (na != nb) _ r (a * b) wr hrow HW.out.2.1 hE (by rw [HW.out.1]; omega))
      clear hE hrow
      go_wp2_with fail
      refine HTR.out.mono ?_
      rintro e w3 ⟨v3, rfl, ⟨A3, c3, rfl, hl3, hs3⟩, hb3⟩
      have HBX3 := Lib.hid (HW.out.2.2.2.below hb3)
      have HS3 := Lib.hid hs3
      have hr0 : w3.cell? ⟨w.heap.size + 1 + 1, 0, none⟩ = some (.bool false) := HBX3.out.k2.at_ rfl
      have hr1 : w3.cell? ⟨w.heap.size + 1 + 1, 1, none⟩ = some (.slice none 0 0) := HBX3.out.k2.at_ rfl
      have hf0 := HBX3.out.k2.fr 0
      have hf1 := HBX3.out.k2.fr 1
      clear hb3 hs3 HTR
      go_wp2_with fail
      refine bodyPost_ret (v := .agg #[.bool (decide (sgnB (na != nb) (a * b) < 0)), .slice A3 (limbs (sgnB (na != nb) (a * b)).natAbs).length c3]) (by simp [results, Tryz.results32, go_sem, hr0, hr1]) rfl ?_
      exact big_end HBX3.out.k2 HBX3.out.bel (by omega) HS3.out hl3 HSG.out

end Go.Proofs.YtmickdolpgjbhaaGreatDoor
