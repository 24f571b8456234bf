/-
  The walk of IntegerDivides.
-/
import Derived.Test.YtmickdolpgjbhaaGreatDoorLawA
import Derived.Test.YtmickdolpgjbhaaGreatDoorRefP
namespace Go.Proofs.YtmickdolpgjbhaaGreatDoor
open Go.RowKit

theorem IDiv_fit (x y q r : Int) (w : World) (hq : x / y = q) (hr : x % y = r) (hfx : Fits x) (hfy : Fits y) (hy0 : y ≠ 0) (htab : Tab w) : Calls Tryz.prog 10 #[.string (str x), .string (str y)] w fun e w' => e = .returned (.tuple #[.string (str q), .string (str r), .int .i64 0]) ∧ Below w.heap.size w w' := hq ▸ hr ▸ IDiv_ok x y w hfx hfy hy0 htab
theorem ISignD_fit (x : Int) (s : Int) (w : World) (hs : sg x = s) (hfx : Fits x) : Calls Tryz.prog 17 #[.string (str x)] w fun e w' => e = .returned (.int .i64 s) ∧ Below w.heap.size w w' := hs ▸ ISign_ok x w hfx
theorem ICompareD_fit (x y : Int) (s : Int) (w : World) (hs : sg (x - y) = s) (hfx : Fits x) (hfy : Fits y) : Calls Tryz.prog 18 #[.string (str x), .string (str y)] w fun e w' => e = .returned (.int .i64 s) ∧ Below w.heap.size w w' := hs ▸ ICompare_ok x y w hfx hfy
theorem RSign_fit (x : Int) (s : Int) (w : World) (hs : sg x = s) (hfx : Fits x) : Calls Tryz.prog 15 #[.string (str x)] w fun e w' => e = .returned (.int .i64 s) ∧ Below w.heap.size w w' := hs ▸ RSign_ok x w hfx
theorem RMul_fit (x y z : Int) (w : World) (hz : x * y = z) (hfx : Fits x) (hfy : Fits y) (hfz : Fits z) : Calls Tryz.prog 8 #[.string (str x), .string (str y)] w fun e w' => e = .returned (.tuple #[.string (str z), .int .i64 0]) ∧ Below w.heap.size w w' := by
  have h := RMulT_ok x y w hfx hfy
  rw [hz, outS_fits hfz, outE_fits hfz] at h
  exact h
theorem RNeg_fit (y z : Int) (w : World) (hz : -y = z) (hfy : Fits y) (hfz : Fits z) : Calls Tryz.prog 16 #[.string ⟨#[48]⟩, .string (str y)] w fun e w' => e = .returned (.tuple #[.string (str z), .int .i64 0]) ∧ Below w.heap.size w w' := by
  have h := RSubT_ok 0 y w (fits_small (by decide)) hfy
  rw [show (0 : Int) - y = z by omega, outS_fits hfz, outE_fits hfz, str_zero] at h
  exact h
theorem IGcd_fit (x y z : Int) (w : World) (hz : ((Nat.gcd x.natAbs y.natAbs : Nat) : Int) = z) (hfx : Fits x) (hfy : Fits y) (hfz : Fits z) (htab : Tab w) : Calls Tryz.prog 19 #[.string (str x), .string (str y)] w fun e w' => e = .returned (.tuple #[.string (str z), .int .i64 0]) ∧ Below w.heap.size w w' := by
  have h := IGcd_ok x y w hfx hfy htab
  rw [hz, outS_fits hfz, outE_fits hfz] at h
  exact h
theorem IDivZ_fit (x : Int) (w : World) (hfx : Fits x) : Calls Tryz.prog 10 #[.string (str x), .string ⟨#[48]⟩] w fun e w' => e = .returned (.tuple #[.string ⟨#[]⟩, .string ⟨#[]⟩, .int .i64 4]) ∧ Below w.heap.size w w' := by
  have h := IDiv_zero x w hfx
  rw [str_zero] at h
  exact h
theorem IDivR_fit (x y q : Int) (w : World) (hq : x / y = q) (hr : x % y = 0) (hfx : Fits x) (hfy : Fits y) (hy0 : y ≠ 0) (htab : Tab w) : Calls Tryz.prog 10 #[.string (str x), .string (str y)] w fun e w' => e = .returned (.tuple #[.string (str q), .string ⟨#[48]⟩, .int .i64 0]) ∧ Below w.heap.size w w' := by
  have h := IDiv_fit x y q 0 w hq hr hfx hfy hy0 htab
  rw [str_zero] at h
  exact h
theorem str_is0 {x : Int} (h : x = 0) : ((str x).toList == [48]) = true := by rw [h, str_toList, itoa_zero]; rfl
theorem str_not0 {x : Int} (h : x ≠ 0) : ((str x).toList == [48]) = false := by rw [str_toList, beq_eq_false_iff_ne]; exact fun e => h (itoa_eq_zero.1 e)

theorem div_abs_le (x y : Int) (hy0 : y ≠ 0) : (x / y).natAbs ≤ x.natAbs := by
  by_cases h : x < 0 ∧ x.natAbs % y.natAbs ≠ 0
  · have := (div_more x y hy0 h.1 h.2).1
    rw [← this, sgn_natAbs]
    have h2 : 2 ≤ y.natAbs := by
      rcases Nat.lt_or_ge y.natAbs 2 with h2 | h2
      · exfalso
        have : y.natAbs = 1 := by omega
        rw [this, Nat.mod_one] at h
        exact h.2 rfl
      · exact h2
    have h3 : x.natAbs / y.natAbs ≤ x.natAbs / 2 := Nat.div_le_div_left h2 (by omega)
    omega
  · have := (div_exact x y hy0 h).1
    rw [← this, sgn_natAbs]
    exact Nat.div_le_self _ _

set_option maxRecDepth 100000 in
set_option maxHeartbeats 8000000 in
theorem IntegerDivides_any (A : Option Addr) (l c : Nat) (w : World) (h : Ints w A l) (hlc : l ≤ c) (hl : l ≤ 9223372036854775807) (htab : Tab w) : Calls Tryz.prog 4 #[.slice A l c] w fun e w' => e = .returned (.bool true) ∧ Below w.heap.size w w' := by
  have HT := Lib.hid htab
  have HI := Lib.hid h
  clear htab h
  go_enter Tryz.func4, Tryz.ntmps4
  go_wp2_with fail
  refine (New_any A l c w HI.out hlc hl).mono ?_
  rintro e w0 ⟨rfl, hs, hb⟩
  have HS0 := Lib.hid hs
  have HB0 := Lib.hid hb
  clear hs hb
  go_wp2_with fail
  refine (Big_any w.heap.size 30 w0 HS0.out (by decide) (by decide)).mono ?_
  rintro e w1 ⟨a, rfl, hz, hs, hg⟩
  have HS1 := Lib.hid hs
  have HB1 := Lib.hid (below_grown HB0.out HB0.out.size hg)
  have Da := Lib.hid (show Dig 30 a from Dig.of_len hz)
  clear hz hs hg
  go_wp2_with fail
  refine (Big_any w.heap.size 20 w1 HS1.out (by decide) (by decide)).mono ?_
  rintro e w2 ⟨b, rfl, hz, hs, hg⟩
  have HS2 := Lib.hid hs
  have HB2 := Lib.hid (below_grown HB1.out HB1.out.size hg)
  have Db := Lib.hid (show Dig 20 b from Dig.of_len hz)
  clear hz hs hg
  go_wp2_with fail
  refine (Big_any w.heap.size 10 w2 HS2.out (by decide) (by decide)).mono ?_
  rintro e w3 ⟨c, rfl, hz, hs, hg⟩
  have HS3 := Lib.hid hs
  have HB3 := Lib.hid (below_grown HB2.out HB2.out.size hg)
  have Dc := Lib.hid (show Dig 10 c from Dig.of_len hz)
  clear hz hs hg
  have FA := Lib.hid (Da.out.fits (by decide) (by decide))
  have FB := Lib.hid (Db.out.fits (by decide) (by decide))
  have FC := Lib.hid (Dc.out.fits (by decide) (by decide))
  clear HS0 HS1 HS2 HS3 HB0 HB1 HB2 HI
  by_cases hb0 : b = 0
  · have hqb := str_is0 hb0
    clear hb0
    go_wp2_with fail
    refine (IDivZ_fit a w3 FA.out).mono ?_
    rintro e w4 ⟨rfl, hb⟩
    have HB4 := Lib.hid (HB3.out.trans (hb.mono HB3.out.size))
    clear hb
    go_wp2_with fail
    refine (sane_any w4 (HT.out.below HB4.out)).mono ?_
    rintro e w5 ⟨rfl, hb⟩
    have HB5 := Lib.hid (HB4.out.trans (hb.mono HB4.out.size))
    clear hb
    go_wp2_with fail
    go_ret
    exact ⟨rfl, HB5.out⟩
  · have hqb := str_not0 hb0
    have HB0 := Lib.hid hb0
    clear hb0
    by_cases hc0 : c = 0
    · have hqc := str_is0 hc0
      clear hc0
      go_wp2_with fail
      refine (IDivZ_fit a w3 FA.out).mono ?_
      rintro e w4 ⟨rfl, hb⟩
      have HB4 := Lib.hid (HB3.out.trans (hb.mono HB3.out.size))
      clear hb
      go_wp2_with fail
      refine (sane_any w4 (HT.out.below HB4.out)).mono ?_
      rintro e w5 ⟨rfl, hb⟩
      have HB5 := Lib.hid (HB4.out.trans (hb.mono HB4.out.size))
      clear hb
      go_wp2_with fail
      go_ret
      exact ⟨rfl, HB5.out⟩
    · have hqc := str_not0 hc0
      have HC0 := Lib.hid hc0
      clear hc0
      obtain ⟨q, hq⟩ : ∃ z : Int, a / b = z := ⟨_, rfl⟩
      obtain ⟨r, hr⟩ : ∃ z : Int, a % b = z := ⟨_, rfl⟩
      obtain ⟨m, hm⟩ : ∃ z : Int, q * b = z := ⟨_, rfl⟩
      obtain ⟨sz, hsz⟩ : ∃ z : Int, (b.natAbs : Int) = z := ⟨_, rfl⟩
      obtain ⟨ac, hac⟩ : ∃ z : Int, a * c = z := ⟨_, rfl⟩
      obtain ⟨bc, hbc⟩ : ∃ z : Int, b * c = z := ⟨_, rfl⟩
      obtain ⟨d, hd⟩ : ∃ z : Int, ((Nat.gcd ac.natAbs bc.natAbs : Nat) : Int) = z := ⟨_, rfl⟩
      obtain ⟨s1, hs1⟩ : ∃ z : Int, sg r = z := ⟨_, rfl⟩
      obtain ⟨s2, hs2⟩ : ∃ z : Int, sg (r - sz) = z := ⟨_, rfl⟩
      obtain ⟨s3, hs3⟩ : ∃ z : Int, sg d = z := ⟨_, rfl⟩
      obtain ⟨s4, hs4⟩ : ∃ z : Int, sg b = z := ⟨_, rfl⟩
      obtain ⟨q1, hq1⟩ : ∃ z : Int, ac / d = z := ⟨_, rfl⟩
      obtain ⟨q2, hq2⟩ : ∃ z : Int, bc / d = z := ⟨_, rfl⟩
      obtain ⟨q3, hq3⟩ : ∃ z : Int, d / c = z := ⟨_, rfl⟩
      have hsum : m + r = a := by rw [← hm, ← hq, ← hr, Int.mul_comm]; exact Int.mul_ediv_add_emod a b
      have hr0 : 0 ≤ r := by rw [← hr]; exact Int.emod_nonneg a HB0.out
      have hr1 : r < sz := by rw [← hr, ← hsz]; exact Int.emod_lt a HB0.out
      have hs1' : ¬ s1 < 0 := by rw [← hs1]; unfold sg; split <;> (try split) <;> omega
      have hs2' : ¬ 0 ≤ s2 := by rw [← hs2]; unfold sg; rw [if_pos (by omega)]; omega
      have hbc0 : bc ≠ 0 := by rw [← hbc]; exact Int.mul_ne_zero HB0.out HC0.out
      have hdp : 0 < d := by rw [← hd]; have := Nat.gcd_pos_of_pos_right ac.natAbs (show 0 < bc.natAbs by omega); omega
      have hs3' : 0 < s3 := by rw [← hs3]; unfold sg; rw [if_neg (by omega), if_pos hdp]; omega
      have Eq := Lib.hid hq
      have Er := Lib.hid hr
      have Em := Lib.hid hm
      have Es := Lib.hid hsum
      have Eac := Lib.hid hac
      have Ebc := Lib.hid hbc
      have Ed := Lib.hid hd
      have Es1 := Lib.hid hs1
      have Es2 := Lib.hid hs2
      have Es3 := Lib.hid hs3
      have Es4 := Lib.hid hs4
      have Eq1 := Lib.hid hq1
      have Eq2 := Lib.hid hq2
      have Eq3 := Lib.hid hq3
      have Z1 : Hid (ac % d = 0) := Lib.hid (Int.emod_eq_zero_of_dvd (by rw [← hd]; exact Int.ofNat_dvd_left.2 (Nat.gcd_dvd_left _ _)))
      have Z2 : Hid (bc % d = 0) := Lib.hid (Int.emod_eq_zero_of_dvd (by rw [← hd]; exact Int.ofNat_dvd_left.2 (Nat.gcd_dvd_right _ _)))
      have Z3 : Hid (d % c = 0) := Lib.hid (Int.emod_eq_zero_of_dvd (by
        rw [← hd]
        exact Int.natAbs_dvd.1 (Int.ofNat_dvd.2 (Nat.dvd_gcd (by rw [← hac, Int.natAbs_mul]; exact Nat.dvd_mul_left _ _) (by rw [← hbc, Int.natAbs_mul]; exact Nat.dvd_mul_left _ _)))))
      have HDP := Lib.hid hdp
      have DR := Lib.hid (show Dig 20 sz from by rw [← hsz]; exact Db.out)
      have Dq := Lib.hid (show Dig 30 q from by rw [← hq]; exact Nat.lt_of_le_of_lt (div_abs_le a b HB0.out) Da.out)
      have Dm := Lib.hid (show Dig 50 m from Dq.out.mul Db.out hm rfl)
      have Dac := Lib.hid (show Dig 40 ac from Da.out.mul Dc.out hac rfl)
      have Dbc := Lib.hid (show Dig 30 bc from Db.out.mul Dc.out hbc rfl)
      have Dd := Lib.hid (show Dig 40 d from by
        rw [← hd]
        unfold Dig
        rw [Int.natAbs_natCast]
        exact Nat.lt_of_le_of_lt (Nat.gcd_le_right _ (by omega)) (Dbc.out.mono (b := 40) (by decide)))
      have Fq := Lib.hid (Dq.out.fits (by decide) (by decide))
      have Fr := Lib.hid (show Fits r by rw [← hr]; exact fits_mod FB.out HB0.out)
      have Fm := Lib.hid (Dm.out.fits (by decide) (by decide))
      have Fsz := Lib.hid (DR.out.fits (by decide) (by decide))
      have Fac := Lib.hid (Dac.out.fits (by decide) (by decide))
      have Fbc := Lib.hid (Dbc.out.fits (by decide) (by decide))
      have Fd := Lib.hid (Dd.out.fits (by decide) (by decide))
      have HSZ := Lib.hid hsz
      have hwant : ((str a).toList == (str a).toList) = true := by simp
      clear hq hr hm hsum hsz hac hbc hd hs1 hs2 hs3 hs4 hr0 hr1 hbc0 hdp hq1 hq2 hq3 hwant
      go_wp2_with fail
      refine (IDiv_fit a b q r w3 Eq.out Er.out FA.out FB.out HB0.out (HT.out.below HB3.out)).mono ?_
      rintro e w4 ⟨rfl, hb⟩
      have HB4 := Lib.hid (HB3.out.trans (hb.mono HB3.out.size))
      clear hb
      go_wp2_with fail
      refine (IMul_fit q b m w4 Em.out Fq.out FB.out Fm.out (HT.out.below HB4.out)).mono ?_
      rintro e w5 ⟨rfl, hb⟩
      have HB5 := Lib.hid (HB4.out.trans (hb.mono HB4.out.size))
      clear hb
      go_wp2_with fail
      refine (IAdd_fit m r a w5 Es.out Fm.out Fr.out FA.out (HT.out.below HB5.out)).mono ?_
      rintro e w6 ⟨rfl, hb⟩
      have HB6 := Lib.hid (HB5.out.trans (hb.mono HB5.out.size))
      clear hb
      go_wp2_with fail
      refine (RSign_fit b s4 w6 Es4.out FB.out).mono ?_
      rintro e w7 ⟨rfl, hb⟩
      have HB7 := Lib.hid (HB6.out.trans (hb.mono HB6.out.size))
      clear hb
      go_upto_if 76 with (fail)
      go_cut [17] (fun v wc => v = .string (str sz) ∧ Below w.heap.size w wc)
      case first =>
        by_cases hbn : b < 0
        · have hs4' : s4 < 0 := by rw [← Es4.out]; unfold sg; rw [if_pos hbn]; omega
          go_wp2_with fail
          refine (RNeg_fit b sz w7 (by rw [← HSZ.out]; omega) FB.out Fsz.out).mono ?_
          rintro e w8 ⟨rfl, hb⟩
          have HB8 := Lib.hid (HB7.out.trans (hb.mono HB7.out.size))
          clear hb
          go_wp2_with fail
          go_meet
          exact ⟨rfl, HB8.out⟩
        · have hs4' : ¬ s4 < 0 := by rw [← Es4.out]; unfold sg; rw [if_neg hbn]; split <;> omega
          have E := Lib.hid (show b = sz by rw [← HSZ.out]; omega)
          go_wp2_with fail
          go_meet
          exact ⟨by rw [E.out], HB7.out⟩
      case rest =>
        obtain ⟨rfl, hbc⟩ := hcut
        have HBC := Lib.hid hbc
        clear hbc
        obtain ⟨w20, rfl⟩ : ∃ w20 : World, w20 = wc := ⟨_, rfl⟩
        have HB20 := Lib.hid HBC.out
        clear HBC
        go_wp2_with fail
        refine (ISignD_fit r s1 w20 Es1.out Fr.out).mono ?_
        rintro e w21 ⟨rfl, hb⟩
        have HB21 := Lib.hid (HB20.out.trans (hb.mono HB20.out.size))
        clear hb
        go_wp2_with fail
        refine (ICompareD_fit r sz s2 w21 Es2.out Fr.out Fsz.out).mono ?_
        rintro e w22 ⟨rfl, hb⟩
        have HB22 := Lib.hid (HB21.out.trans (hb.mono HB21.out.size))
        clear hb
        go_wp2_with fail
        refine (RMul_fit a c ac w22 Eac.out FA.out FC.out Fac.out).mono ?_
        rintro e w23 ⟨rfl, hb⟩
        have HB23 := Lib.hid (HB22.out.trans (hb.mono HB22.out.size))
        clear hb
        go_wp2_with fail
        refine (RMul_fit b c bc w23 Ebc.out FB.out FC.out Fbc.out).mono ?_
        rintro e w24 ⟨rfl, hb⟩
        have HB24 := Lib.hid (HB23.out.trans (hb.mono HB23.out.size))
        clear hb
        go_wp2_with fail
        refine (IGcd_fit ac bc d w24 Ed.out Fac.out Fbc.out Fd.out (HT.out.below HB24.out)).mono ?_
        rintro e w25 ⟨rfl, hb⟩
        have HB25 := Lib.hid (HB24.out.trans (hb.mono HB24.out.size))
        clear hb
        have ix0 : ∀ W : World, (Instr.index 38 (.agg #[.string (str ac), .string (str d), .string (str bc), .string (str d), .string (str d), .string (str c)]) (.int .i64 0)).run Tryz.prog W = .ok (.agg #[.string (str ac), .string (str d)]) W := fun _ => by kernel_rfl
        have ix1 : ∀ W : World, (Instr.index 38 (.agg #[.string (str ac), .string (str d), .string (str bc), .string (str d), .string (str d), .string (str c)]) (.int .i64 1)).run Tryz.prog W = .ok (.agg #[.string (str bc), .string (str d)]) W := fun _ => by kernel_rfl
        have ix2 : ∀ W : World, (Instr.index 38 (.agg #[.string (str ac), .string (str d), .string (str bc), .string (str d), .string (str d), .string (str c)]) (.int .i64 2)).run Tryz.prog W = .ok (.agg #[.string (str d), .string (str c)]) W := fun _ => by kernel_rfl
        go_wp2_with fail
        go_loopw [138] (fun kv wr => ∃ k : Nat, k ≤ 3 ∧ kv = .int .i64 (k : Int) ∧ Below w.heap.size w wr) (fun kv _ => 3 - (intOf kv).toNat)
        case atStart => exact ⟨0, by omega, rfl, HB25.out⟩
        case round =>
          obtain ⟨k, hk, rfl, hbw⟩ := hrel
          have HBW := Lib.hid hbw
          clear hbw
          match k, hk with
          | 0, _ =>
            have HBA := Lib.hid (HBW.out.alloc HBW.out.size (.cells #[.string (str ac), .string (str d)] 30))
            go_wp2_with fail
            refine (IDivR_fit ac d q1 _ Eq1.out Z1.out Fac.out Fd.out (by have := HDP.out; omega) (HT.out.below HBA.out)).mono ?_
            rintro e w30 ⟨rfl, hb⟩
            have HB30 := Lib.hid (HBA.out.trans (hb.mono HBA.out.size))
            clear hb HBA
            go_wp2_with fail
            go_roundw
            case rel => exact ⟨1, by omega, rfl, HB30.out⟩
            case measure => simp [intOf]
          | 1, _ =>
            have HBA := Lib.hid (HBW.out.alloc HBW.out.size (.cells #[.string (str bc), .string (str d)] 30))
            go_wp2_with fail
            refine (IDivR_fit bc d q2 _ Eq2.out Z2.out Fbc.out Fd.out (by have := HDP.out; omega) (HT.out.below HBA.out)).mono ?_
            rintro e w30 ⟨rfl, hb⟩
            have HB30 := Lib.hid (HBA.out.trans (hb.mono HBA.out.size))
            clear hb HBA
            go_wp2_with fail
            go_roundw
            case rel => exact ⟨2, by omega, rfl, HB30.out⟩
            case measure => simp [intOf]
          | 2, _ =>
            have HBA := Lib.hid (HBW.out.alloc HBW.out.size (.cells #[.string (str d), .string (str c)] 30))
            go_wp2_with fail
            refine (IDivR_fit d c q3 _ Eq3.out Z3.out Fd.out FC.out HC0.out (HT.out.below HBA.out)).mono ?_
            rintro e w30 ⟨rfl, hb⟩
            have HB30 := Lib.hid (HBA.out.trans (hb.mono HBA.out.size))
            clear hb HBA
            go_wp2_with fail
            go_roundw
            case rel => exact ⟨3, by omega, rfl, HB30.out⟩
            case measure => simp [intOf]
          | 3, _ =>
            go_wp2_with fail
            refine (ISignD_fit d s3 wr Es3.out Fd.out).mono ?_
            rintro e w30 ⟨rfl, hb⟩
            have HB30 := Lib.hid (HBW.out.trans (hb.mono HBW.out.size))
            clear hb
            go_wp2_with fail
            refine (sane_any w30 (HT.out.below HB30.out)).mono ?_
            rintro e w31 ⟨rfl, hb⟩
            have HB31 := Lib.hid (HB30.out.trans (hb.mono HB30.out.size))
            clear hb
            go_wp2_with fail
            go_ret
            exact ⟨rfl, HB31.out⟩

end Go.Proofs.YtmickdolpgjbhaaGreatDoor
