/-
  Package rational: valid, apply, Add, Sub, Mul, Div, Compare.
-/
import Derived.Test.YtecklmdlmldpgaaGreatDoorZR
import Derived.Test.YtecklmdlmldpgaaGreatDoorZF
namespace Go.Proofs.YtecklmdlmldpgaaGreatDoor
open Go.RowKit

theorem validR_badnum {l : List UInt8} (h : validB (cutS l).1 = false) : validR l = false := by
  cases hk : (cutS l).2.2
  · rw [validR_plain hk]
    rcases cutS_join l with ⟨h1, _⟩ | ⟨_, h2, _⟩
    · rw [hk] at h1; cases h1
    · rw [h2]; exact h
  · cases hv : validR l
    · rfl
    · obtain ⟨n, d, h1, _, hf, _⟩ := (validR_slash hk).1 hv
      rw [h1, valid_itoa hf] at h; cases h
theorem validR_goodplain {l : List UInt8} (h : validB (cutS l).1 = true) (hk : (cutS l).2.2 = false) : validR l = true := by
  rw [validR_plain hk]
  rcases cutS_join l with ⟨h1, _⟩ | ⟨_, h2, _⟩
  · rw [hk] at h1; cases h1
  · rw [h2]; exact h
theorem validR_zero {l : List UInt8} (hk : (cutS l).2.2 = true) (h : (cutS l).1 = Lib.itoa 0) : validR l = false := by
  cases hv : validR l
  · rfl
  · obtain ⟨n, d, h1, _, _, _, hn, _⟩ := (validR_slash hk).1 hv
    rw [h1] at h
    exact absurd (itoa_inj h) hn
theorem validR_badden {l : List UInt8} (hk : (cutS l).2.2 = true) (h : validB (cutS l).2.1 = false) : validR l = false := by
  cases hv : validR l
  · rfl
  · obtain ⟨n, d, _, h2, _, hg, _⟩ := (validR_slash hk).1 hv
    rw [h2, valid_itoa hg] at h; cases h
theorem validR_small {l : List UInt8} {m : Int} (hk : (cutS l).2.2 = true) (h : (cutS l).2.1 = Lib.itoa m) (hm : m ≤ 1) : validR l = false := by
  cases hv : validR l
  · rfl
  · obtain ⟨n, d, _, h2, _, _, _, hd, _⟩ := (validR_slash hk).1 hv
    rw [h2] at h
    have := itoa_inj h
    omega
theorem validR_gcd {l : List UInt8} {n m : Int} (hk : (cutS l).2.2 = true) (h1 : (cutS l).1 = Lib.itoa n) (h2 : (cutS l).2.1 = Lib.itoa m) (fn : Fits n) (fm : Fits m) (hn : n ≠ 0) (hm : 1 < m) : validR l = decide (n.natAbs.gcd m.natAbs = 1) := by
  by_cases hg : n.natAbs.gcd m.natAbs = 1
  · rw [decide_eq_true hg]
    exact (validR_slash hk).2 ⟨n, m, h1, h2, fn, fm, hn, hm, hg⟩
  · rw [decide_eq_false hg]
    cases hv : validR l
    · rfl
    · obtain ⟨n', d', k1, k2, _, _, _, _, hc⟩ := (validR_slash hk).1 hv
      rw [k1] at h1; rw [k2] at h2
      rw [itoa_inj h1, itoa_inj h2] at hc
      exact absurd hc hg
theorem gcd_sg (a b : Nat) (hb : 0 < b) : (sg (((a.gcd b : Nat) : Int) - 1) == 0) = decide (a.gcd b = 1) := by
  have := Nat.gcd_pos_of_pos_right a hb
  unfold sg
  by_cases h : a.gcd b = 1
  · simp [h]
  · rw [if_neg (by omega), if_pos (by omega)]
    simp [h]

set_option maxRecDepth 100000 in
set_option maxHeartbeats 2000000 in
theorem RatValid (l : List UInt8) (w : World) (hl : l.length ≤ 4000000000) (henv : Env w) :
    Calls Tryz.prog 46 #[.string ⟨l.toArray⟩] w fun e w' => e = .returned (.bool (validR l)) ∧ Below w.heap.size w w' := by
  have HC := Lib.hid (Cut_any l w (by omega) henv)
  have HV1 := Lib.hid (fun W => Valid_any (cutS l).1 W (by have := (cutS_len l).1; omega))
  have HV2 := Lib.hid (fun W => Valid_any (cutS l).2.1 W (by have := (cutS_len l).2; omega))
  clear henv
  cases hv1 : validB (cutS l).1
  · have E := Lib.hid (validR_badnum hv1)
    rw [hv1] at HV1
    clear hv1 HV2
    generalize (cutS l).1 = p at *
    generalize (cutS l).2.1 = q at *
    generalize (cutS l).2.2 = k at *
    cases k
    · have tok : True := trivial
      go_enter Tryz.func46, Tryz.ntmps46
      go_wp2_with fail
      refine (HC.out).mono ?_
      rintro e w1 ⟨rfl, hb⟩
      have HB := Lib.hid hb
      clear hb
      go_wp2_with fail
      refine (HV1.out w1).mono ?_
      rintro e w2 ⟨rfl, hb⟩
      replace HB := Lib.hid (HB.out.trans (hb.mono HB.out.size))
      clear hb
      go_wp2_with fail
      refine (HV1.out w2).mono ?_
      rintro e w3 ⟨rfl, hb⟩
      replace HB := Lib.hid (HB.out.trans (hb.mono HB.out.size))
      clear hb
      go_wp2_with fail
      go_ret
      exact ⟨by rw [E.out]; rfl, HB.out⟩
    · have tok : True := trivial
      go_enter Tryz.func46, Tryz.ntmps46
      go_wp2_with fail
      refine (HC.out).mono ?_
      rintro e w1 ⟨rfl, hb⟩
      have HB := Lib.hid hb
      clear hb
      go_wp2_with fail
      refine (HV1.out w1).mono ?_
      rintro e w2 ⟨rfl, hb⟩
      replace HB := Lib.hid (HB.out.trans (hb.mono HB.out.size))
      clear hb
      go_wp2_with fail
      go_ret
      exact ⟨by rw [E.out]; rfl, HB.out⟩
  · cases hk : (cutS l).2.2
    · have E := Lib.hid (validR_goodplain hv1 hk)
      rw [hk] at HC
      rw [hv1] at HV1
      clear hv1 hk HV2
      generalize (cutS l).1 = p at *
      generalize (cutS l).2.1 = q at *
      go_enter Tryz.func46, Tryz.ntmps46
      go_wp2_with fail
      refine (HC.out).mono ?_
      rintro e w1 ⟨rfl, hb⟩
      have HB := Lib.hid hb
      clear hb
      go_wp2_with fail
      refine (HV1.out w1).mono ?_
      rintro e w2 ⟨rfl, hb⟩
      replace HB := Lib.hid (HB.out.trans (hb.mono HB.out.size))
      clear hb
      go_wp2_with fail
      refine (HV1.out w2).mono ?_
      rintro e w3 ⟨rfl, hb⟩
      replace HB := Lib.hid (HB.out.trans (hb.mono HB.out.size))
      clear hb
      go_wp2_with fail
      go_ret
      exact ⟨by rw [E.out]; rfl, HB.out⟩
    · obtain ⟨n, hn, fn⟩ := valid_ex hv1
      by_cases hn0 : n = 0
      · subst hn0
        have E := Lib.hid (validR_zero hk hn)
        rw [hk] at HC
        rw [hv1] at HV1
        rw [hn, itoa_zero] at HC HV1
        clear hv1 hk hn HV2
        generalize (cutS l).2.1 = q at *
        go_enter Tryz.func46, Tryz.ntmps46
        go_wp2_with fail
        refine (HC.out).mono ?_
        rintro e w1 ⟨rfl, hb⟩
        have HB := Lib.hid hb
        clear hb
        go_wp2_with fail
        refine (HV1.out w1).mono ?_
        rintro e w2 ⟨rfl, hb⟩
        replace HB := Lib.hid (HB.out.trans (hb.mono HB.out.size))
        clear hb
        go_wp2_with fail
        go_ret
        exact ⟨by rw [E.out]; rfl, HB.out⟩
      · have hq0 : ((⟨(Lib.itoa n).toArray⟩ : ByteArray).toList == [48]) = false := by rw [Lib.toList_data, beq_eq_false_iff_ne]; exact fun e => hn0 (itoa_eq_zero.1 e)
        have hq0' : (Lib.itoa n == [48]) = false := by rw [beq_eq_false_iff_ne]; exact fun e => hn0 (itoa_eq_zero.1 e)
        have HRN := Lib.hid (fun W => LRead_fits n W fn)
        have lnn := fn.len
        cases hv2 : validB (cutS l).2.1
        · have E := Lib.hid (validR_badden hk hv2)
          rw [hk] at HC
          rw [hv1] at HV1
          rw [hv2] at HV2
          rw [hn] at HC HV1
          clear hv1 hv2 hk hn
          generalize (cutS l).2.1 = q at *
          generalize Lib.itoa n = p at *
          go_enter Tryz.func46, Tryz.ntmps46
          go_wp2_with fail
          refine (HC.out).mono ?_
          rintro e w1 ⟨rfl, hb⟩
          have HB := Lib.hid hb
          clear hb
          go_wp2_with fail
          refine (HV1.out w1).mono ?_
          rintro e w2 ⟨rfl, hb⟩
          replace HB := Lib.hid (HB.out.trans (hb.mono HB.out.size))
          clear hb
          go_wp2_with fail
          refine (HV2.out w2).mono ?_
          rintro e w3 ⟨rfl, hb⟩
          replace HB := Lib.hid (HB.out.trans (hb.mono HB.out.size))
          clear hb
          go_wp2_with fail
          go_ret
          exact ⟨by rw [E.out]; rfl, HB.out⟩
        · obtain ⟨m, hm, fm⟩ := valid_ex hv2
          have HCM := Lib.hid (fun W => ICompare_ok m 1 W fm one_fits)
          rw [str_1] at HCM
          have HRM := Lib.hid (fun W => LRead_fits m W fm)
          have lmm := fm.len
          unfold str at HCM HRN HRM
          by_cases hm1 : m ≤ 1
          · have E := Lib.hid (validR_small hk hm hm1)
            have hs : sg (m - 1) ≤ 0 := by unfold sg; split <;> (try split) <;> omega
            rw [hk] at HC
            rw [hv1] at HV1
            rw [hv2] at HV2
            rw [hn, hm] at HC
            rw [hn] at HV1
            rw [hm] at HV2
            clear hv1 hv2 hk hn hm HRN HRM
            generalize Lib.itoa n = p at *
            generalize Lib.itoa m = q at *
            go_enter Tryz.func46, Tryz.ntmps46
            go_wp2_with fail
            refine (HC.out).mono ?_
            rintro e w1 ⟨rfl, hb⟩
            have HB := Lib.hid hb
            clear hb
            go_wp2_with fail
            refine (HV1.out w1).mono ?_
            rintro e w2 ⟨rfl, hb⟩
            replace HB := Lib.hid (HB.out.trans (hb.mono HB.out.size))
            clear hb
            go_wp2_with fail
            refine (HV2.out w2).mono ?_
            rintro e w3 ⟨rfl, hb⟩
            replace HB := Lib.hid (HB.out.trans (hb.mono HB.out.size))
            clear hb
            go_wp2_with fail
            refine (HCM.out w3).mono ?_
            rintro e w4 ⟨rfl, hb⟩
            replace HB := Lib.hid (HB.out.trans (hb.mono HB.out.size))
            clear hb
            go_wp2_with fail
            go_ret
            exact ⟨by rw [E.out]; rfl, HB.out⟩
          · have hmp : 0 < m.natAbs := by omega
            have E := Lib.hid ((validR_gcd hk hn hm fn fm hn0 (by omega)).trans (gcd_sg n.natAbs m.natAbs hmp).symm)
            have hs : ¬ sg (m - 1) ≤ 0 := by unfold sg; rw [if_neg (by omega), if_pos (by omega)]; omega
            have lg : (limbs (((n.natAbs.gcd m.natAbs : Nat) : Int)).natAbs).length ≤ 45 := by rw [Int.natAbs_natCast]; exact Nat.le_trans (limbs_length_mono (Nat.gcd_le_right _ hmp)) lmm
            rw [hk] at HC
            rw [hv1] at HV1
            rw [hv2] at HV2
            rw [hn, hm] at HC
            rw [hn] at HV1
            rw [hm] at HV2
            have HGC := Lib.hid (fun U V W (hU : IsNum W U n) (hV : IsNum W V m) => Gcd_any U V n m W hU hV (by omega) (by omega))
            clear hv1 hv2 hk hn hm
            generalize Lib.itoa n = p at *
            generalize Lib.itoa m = q at *
            generalize ((n.natAbs.gcd m.natAbs : Nat) : Int) = G at *
            go_enter Tryz.func46, Tryz.ntmps46
            go_wp2_with fail
            refine (HC.out).mono ?_
            rintro e w1 ⟨rfl, hb⟩
            have HB := Lib.hid hb
            clear hb
            go_wp2_with fail
            refine (HV1.out w1).mono ?_
            rintro e w2 ⟨rfl, hb⟩
            replace HB := Lib.hid (HB.out.trans (hb.mono HB.out.size))
            clear hb
            go_wp2_with fail
            refine (HV2.out w2).mono ?_
            rintro e w3 ⟨rfl, hb⟩
            replace HB := Lib.hid (HB.out.trans (hb.mono HB.out.size))
            clear hb
            go_wp2_with fail
            refine (HCM.out w3).mono ?_
            rintro e w4 ⟨rfl, hb⟩
            replace HB := Lib.hid (HB.out.trans (hb.mono HB.out.size))
            clear hb
            go_wp2_with fail
            refine (HRN.out w4).mono ?_
            rintro e w5 ⟨v5, rfl, hv, hb⟩
            have HN := Lib.hid hv
            obtain ⟨x5, X5, y5, z5, rfl⟩ := hv.slice
            replace HB := Lib.hid (HB.out.trans (hb.mono HB.out.size))
            clear hb hv
            go_wp2_with fail
            refine (HRM.out w5).mono ?_
            rintro e w6 ⟨v6, rfl, hv, hb⟩
            replace HN := Lib.hid (HN.out.below hb)
            have HM := Lib.hid hv
            obtain ⟨x6, X6, y6, z6, rfl⟩ := hv.slice
            replace HB := Lib.hid (HB.out.trans (hb.mono HB.out.size))
            clear hb hv
            go_wp2_with fail
            refine (HGC.out _ _ w6 HN.out HM.out).mono ?_
            rintro e w7 ⟨v7, rfl, hv, hb⟩
            clear HN HM
            have HG := Lib.hid hv
            obtain ⟨x7, X7, y7, z7, rfl⟩ := hv.slice
            replace HB := Lib.hid (HB.out.trans (hb.mono HB.out.size))
            clear hb hv
            go_wp2_with fail
            refine (LOf_one w7).mono ?_
            rintro e w8 ⟨v8, rfl, hv, hb⟩
            replace HG := Lib.hid (HG.out.below hb)
            have HO := Lib.hid hv
            obtain ⟨x8, X8, y8, z8, rfl⟩ := hv.slice
            replace HB := Lib.hid (HB.out.trans (hb.mono HB.out.size))
            clear hb hv
            go_wp2_with fail
            refine (Compare_any _ _ G 1 w8 HG.out HO.out (by omega) (Nat.le_trans len_one (by decide))).mono ?_
            rintro e w9 ⟨rfl, hb⟩
            clear HG HO
            replace HB := Lib.hid (HB.out.trans (hb.mono HB.out.size))
            clear hb
            go_wp2_with fail
            go_ret
            exact ⟨by rw [E.out]; rfl, HB.out⟩

theorem RatValid_ok (q : Rat) (w : World) (hf : FitsR q) (henv : Env w) : Calls Tryz.prog 46 #[.string (rstr q)] w fun e w' => e = .returned (.bool true) ∧ Below w.heap.size w w' := by
  have := RatValid (rtext q) w (by have := rtext_len hf; omega) henv
  rw [validR_text hf] at this
  exact this

set_option maxRecDepth 100000 in
set_option maxHeartbeats 2000000 in
theorem RatParts_whole (q : Rat) (w : World) (h : q.den = 1) (hf : FitsR q) (henv : Env w) : Calls Tryz.prog 34 #[.string (rstr q)] w fun e w' => e = .returned (.tuple #[.string (str q.num), .string ⟨#[49]⟩, .bool true]) ∧ Below w.heap.size w w' := by
  have HV := Lib.hid (RatValid_ok q w hf henv)
  have HC := Lib.hid (fun W hE => Cut_whole h hf W hE)
  have HE := Lib.hid henv
  clear henv hf h
  go_enter Tryz.func34, Tryz.ntmps34
  go_wp2_with fail
  refine (HV.out).mono ?_
  rintro e w1 ⟨rfl, hb⟩
  replace HE := Lib.hid (HE.out.below hb)
  have HB := Lib.hid hb
  clear hb
  go_wp2_with fail
  refine (HC.out w1 HE.out).mono ?_
  rintro e w2 ⟨rfl, hb⟩
  replace HE := Lib.hid (HE.out.below hb)
  replace HB := Lib.hid (HB.out.trans (hb.mono HB.out.size))
  clear hb
  go_wp2_with fail
  go_ret3
  exact ⟨rfl, HB.out⟩

set_option maxRecDepth 100000 in
set_option maxHeartbeats 2000000 in
theorem RatParts_parts (q : Rat) (w : World) (h : q.den ≠ 1) (hf : FitsR q) (henv : Env w) : Calls Tryz.prog 34 #[.string (rstr q)] w fun e w' => e = .returned (.tuple #[.string (str q.num), .string (str (q.den : Int)), .bool true]) ∧ Below w.heap.size w w' := by
  have HV := Lib.hid (RatValid_ok q w hf henv)
  have HC := Lib.hid (fun W hE => Cut_parts h hf W hE)
  have HE := Lib.hid henv
  clear henv hf h
  go_enter Tryz.func34, Tryz.ntmps34
  go_wp2_with fail
  refine (HV.out).mono ?_
  rintro e w1 ⟨rfl, hb⟩
  replace HE := Lib.hid (HE.out.below hb)
  have HB := Lib.hid hb
  clear hb
  go_wp2_with fail
  refine (HC.out w1 HE.out).mono ?_
  rintro e w2 ⟨rfl, hb⟩
  replace HE := Lib.hid (HE.out.below hb)
  replace HB := Lib.hid (HB.out.trans (hb.mono HB.out.size))
  clear hb
  go_wp2_with fail
  go_ret3
  exact ⟨rfl, HB.out⟩

theorem RatParts_ok (q : Rat) (w : World) (hf : FitsR q) (henv : Env w) : Calls Tryz.prog 34 #[.string (rstr q)] w fun e w' => e = .returned (.tuple #[.string (str q.num), .string (str (q.den : Int)), .bool true]) ∧ Below w.heap.size w w' := by
  by_cases h : q.den = 1
  · have := RatParts_whole q w h hf henv
    rw [← str_1] at this
    rw [h]
    exact this
  · exact RatParts_parts q w h hf henv

set_option maxHeartbeats 1000000 in
theorem RatParts_bad (l : List UInt8) (w : World) (hl : l.length ≤ 4000000000) (henv : Env w) (h : validR l = false) : Calls Tryz.prog 34 #[.string ⟨l.toArray⟩] w fun e w' => e = .returned (.tuple #[.string ⟨#[]⟩, .string ⟨#[]⟩, .bool false]) ∧ Below w.heap.size w w' := by
  have HV := Lib.hid (RatValid l w hl henv)
  rw [h] at HV
  clear h henv
  go_enter Tryz.func34, Tryz.ntmps34
  go_wp2_with fail
  refine (HV.out).mono ?_
  rintro e w1 ⟨rfl, hb⟩
  have HB := Lib.hid hb
  clear hb
  go_wp2_with fail
  go_ret3
  exact ⟨rfl, HB.out⟩

set_option maxHeartbeats 1000000 in
theorem RatSign_bad (l : List UInt8) (w : World) (hl : l.length ≤ 4000000000) (henv : Env w) (h : validR l = false) : Calls Tryz.prog 49 #[.string ⟨l.toArray⟩] w fun e w' => e = .returned (.int .i64 0) ∧ Below w.heap.size w w' := by
  have HV := Lib.hid (RatValid l w hl henv)
  rw [h] at HV
  clear h henv
  go_enter Tryz.func49, Tryz.ntmps49
  go_wp2_with fail
  refine (HV.out).mono ?_
  rintro e w1 ⟨rfl, hb⟩
  have HB := Lib.hid hb
  clear hb
  go_wp2_with fail
  go_ret
  exact ⟨rfl, HB.out⟩

set_option maxHeartbeats 1000000 in
theorem RatFloor_bad (l : List UInt8) (w : World) (hl : l.length ≤ 4000000000) (henv : Env w) (h : validR l = false) : Calls Tryz.prog 40 #[.string ⟨l.toArray⟩] w fun e w' => e = .returned (.tuple #[.string ⟨#[]⟩, .int .i64 1]) ∧ Below w.heap.size w w' := by
  have HV := Lib.hid (RatValid l w hl henv)
  rw [h] at HV
  clear h henv
  go_enter Tryz.func40, Tryz.ntmps40
  go_wp2_with fail
  refine (HV.out).mono ?_
  rintro e w1 ⟨rfl, hb⟩
  have HB := Lib.hid hb
  clear hb
  go_wp2_with fail
  go_ret2
  exact ⟨rfl, HB.out⟩

set_option maxRecDepth 100000 in
set_option maxHeartbeats 2000000 in
theorem RatSign_ok (q : Rat) (w : World) (hf : FitsR q) (henv : Env w) : Calls Tryz.prog 49 #[.string (rstr q)] w fun e w' => e = .returned (.int .i64 (sgR q)) ∧ Below w.heap.size w w' := by
  have HV := Lib.hid (RatValid_ok q w hf henv)
  have HR := Lib.hid (fun W hE => FRead_ok q W hf hE)
  have HE := Lib.hid henv
  have sz := hf.sz
  clear henv hf
  go_enter Tryz.func49, Tryz.ntmps49
  go_wp2_with fail
  refine (HV.out).mono ?_
  rintro e w1 ⟨rfl, hb⟩
  replace HE := Lib.hid (HE.out.below hb)
  have HB := Lib.hid hb
  clear hb
  go_wp2_with fail
  refine (HR.out w1 HE.out).mono ?_
  rintro e w2 ⟨v2, rfl, hv, hb⟩
  replace HE := Lib.hid (HE.out.below hb)
  have HF := Lib.hid hv
  obtain ⟨x2, x2', X2, X2', y2, z2, y2', z2', rfl⟩ := hv.slice
  replace HB := Lib.hid (HB.out.trans (hb.mono HB.out.size))
  clear hb hv
  go_wp2_with fail
  refine (FSign_any _ q w2 HF.out (sz.mono (by omega))).mono ?_
  rintro e w3 ⟨rfl, hb⟩
  replace HE := Lib.hid (HE.out.below hb)
  replace HF := Lib.hid (HF.out.below hb)
  replace HB := Lib.hid (HB.out.trans (hb.mono HB.out.size))
  clear hb
  go_wp2_with fail
  go_ret
  exact ⟨rfl, HB.out⟩

theorem floor_le_num (q : Rat) : q.floor.natAbs ≤ q.num.natAbs := by
  rw [← rat_floor]
  have hd := q.den_pos
  have h1 := Int.mul_ediv_add_emod q.num (q.den : Int)
  have h2 := Int.emod_nonneg q.num (show (q.den : Int) ≠ 0 by omega)
  have h3 := Int.emod_lt_of_pos q.num (show 0 < (q.den : Int) by omega)
  obtain ⟨D, hD⟩ : ∃ D : Int, (q.den : Int) = D := ⟨_, rfl⟩
  rw [hD] at h1 h2 h3 ⊢
  have hDp : 0 < D := by omega
  generalize q.num = n at *
  obtain ⟨k, hk⟩ : ∃ k, n / D = k := ⟨_, rfl⟩
  rw [hk] at h1 ⊢
  by_cases hn : 0 ≤ n
  · have hk0 : 0 ≤ k := by rw [← hk]; exact Int.ediv_nonneg hn (by omega)
    have : k ≤ D * k := by
      have := Int.mul_le_mul_of_nonneg_right (show (1 : Int) ≤ D by omega) hk0
      omega
    omega
  · have hk0 : k ≤ -1 := by
      rcases Int.lt_or_le k 0 with h | h
      · omega
      · exfalso
        have : 0 ≤ D * k := Int.mul_nonneg (by omega) h
        omega
    have hx : n ≤ k := by
      have hm := Int.mul_le_mul_of_nonneg_left (show 0 ≤ -1 - k by omega) (show 0 ≤ D - 1 by omega)
      have e : (D - 1) * (-1 - k) = -D - D * k + 1 + k := by
        rw [Int.mul_sub, Int.sub_mul, Int.sub_mul]; omega
      rw [e] at hm
      omega
    omega
theorem floor_len {k : Nat} {q : Rat} (h : Sz k q) : (limbs q.floor.natAbs).length ≤ k := Nat.le_trans (limbs_length_mono (floor_le_num q)) h.1

set_option maxRecDepth 100000 in
set_option maxHeartbeats 2000000 in
theorem RatFloor_ok (q : Rat) (w : World) (hf : FitsR q) (henv : Env w) : Calls Tryz.prog 40 #[.string (rstr q)] w fun e w' => e = .returned (.tuple #[.string (str q.floor), .int .i64 0]) ∧ Below w.heap.size w w' := by
  have HV := Lib.hid (RatValid_ok q w hf henv)
  have HR := Lib.hid (fun W hE => FRead_ok q W hf hE)
  have HE := Lib.hid henv
  have sz := hf.sz
  have lf : (limbs q.floor.natAbs).length ≤ 45 := floor_len sz
  clear henv hf
  go_enter Tryz.func40, Tryz.ntmps40
  go_wp2_with fail
  refine (HV.out).mono ?_
  rintro e w1 ⟨rfl, hb⟩
  replace HE := Lib.hid (HE.out.below hb)
  have HB := Lib.hid hb
  clear hb
  go_wp2_with fail
  refine (HR.out w1 HE.out).mono ?_
  rintro e w2 ⟨v2, rfl, hv, hb⟩
  replace HE := Lib.hid (HE.out.below hb)
  have HF := Lib.hid hv
  obtain ⟨x2, x2', X2, X2', y2, z2, y2', z2', rfl⟩ := hv.slice
  replace HB := Lib.hid (HB.out.trans (hb.mono HB.out.size))
  clear hb hv
  go_wp2_with fail
  refine (FFloor_any _ q w2 HF.out (sz.mono (by omega))).mono ?_
  rintro e w3 ⟨v3, rfl, hv, hb⟩
  clear HF
  replace HE := Lib.hid (HE.out.below hb)
  have HN := Lib.hid hv
  obtain ⟨x3, X3, y3, z3, rfl⟩ := hv.slice
  replace HB := Lib.hid (HB.out.trans (hb.mono HB.out.size))
  clear hb hv
  go_wp2_with fail
  refine (LString _ q.floor w3 HN.out (by omega) HE.out.tab).mono ?_
  rintro e w4 ⟨rfl, hb⟩
  replace HE := Lib.hid (HE.out.below hb)
  replace HN := Lib.hid (HN.out.below hb)
  replace HB := Lib.hid (HB.out.trans (hb.mono HB.out.size))
  clear hb
  go_wp2_with fail
  go_ret2
  exact ⟨rfl, HB.out⟩

set_option maxRecDepth 100000 in
set_option maxHeartbeats 2000000 in
theorem RatMake_ok (n m : Int) (w : World) (fn : Fits n) (fm : Fits m) (hm : m ≠ 0) (henv : Env w) : Calls Tryz.prog 36 #[.string (str n), .string (str m)] w fun e w' => e = .returned (.tuple #[.string (outR (Rat.divInt n m)), .int .i64 (outRE (Rat.divInt n m))]) ∧ Below w.heap.size w w' := by
  have HE := Lib.hid henv
  have hz : ((str m).toList == [48]) = false := by simpa using str_ne_zero hm
  have H1 := Lib.hid (fun W => Valid_ok n W fn)
  have H2 := Lib.hid (fun W => Valid_ok m W fm)
  have H3 := Lib.hid (fun W => LRead_fits n W fn)
  have H4 := Lib.hid (fun W => LRead_fits m W fm)
  have l1 := fn.len
  have l2 := fm.len
  have sz : Sz 45 (Rat.divInt n m) := Sz.divInt hm l1 l2
  generalize str n = s1 at *
  generalize str m = s2 at *
  clear henv fn fm
  go_enter Tryz.func36, Tryz.ntmps36
  go_wp2_with fail
  refine (H1.out w).mono ?_
  rintro e w1 ⟨rfl, hb⟩
  replace HE := Lib.hid (HE.out.below hb)
  have HB := Lib.hid hb
  clear hb
  go_wp2_with fail
  refine (H2.out w1).mono ?_
  rintro e w2 ⟨rfl, hb⟩
  replace HE := Lib.hid (HE.out.below hb)
  replace HB := Lib.hid (HB.out.trans (hb.mono HB.out.size))
  clear hb
  go_wp2_with fail
  refine (H3.out w2).mono ?_
  rintro e w3 ⟨v3, rfl, hv, hb⟩
  replace HE := Lib.hid (HE.out.below hb)
  have HN := Lib.hid hv
  obtain ⟨x3, X3, y3, z3, rfl⟩ := hv.slice
  replace HB := Lib.hid (HB.out.trans (hb.mono HB.out.size))
  clear hb hv
  go_wp2_with fail
  refine (H4.out w3).mono ?_
  rintro e w4 ⟨v4, rfl, hv, hb⟩
  replace HE := Lib.hid (HE.out.below hb)
  replace HN := Lib.hid (HN.out.below hb)
  have HM := Lib.hid hv
  obtain ⟨x4, X4, y4, z4, rfl⟩ := hv.slice
  replace HB := Lib.hid (HB.out.trans (hb.mono HB.out.size))
  clear hb hv
  go_wp2_with fail
  refine (New_num _ _ n m w4 HN.out HM.out (by omega) (by omega) hm).mono ?_
  rintro e w5 ⟨v5, rfl, hv, hb⟩
  clear HN HM
  replace HE := Lib.hid (HE.out.below hb)
  have HF := Lib.hid hv
  obtain ⟨x5, x5', X5, X5', y5, z5, y5', z5', rfl⟩ := hv.slice
  replace HB := Lib.hid (HB.out.trans (hb.mono HB.out.size))
  clear hb hv
  go_wp2_with fail
  refine (FFits_any _ _ w5 HF.out (sz.mono (by omega)) HE.out).mono ?_
  rintro e w6 ⟨rfl, hb⟩
  replace HE := Lib.hid (HE.out.below hb)
  replace HF := Lib.hid (HF.out.below hb)
  replace HB := Lib.hid (HB.out.trans (hb.mono HB.out.size))
  clear hb
  go_wp2_with fail
  go_ret2
  exact ⟨rfl, HB.out⟩

set_option maxRecDepth 100000 in
set_option maxHeartbeats 2000000 in
theorem RatMake_zero (n : Int) (w : World) (fn : Fits n) : Calls Tryz.prog 36 #[.string (str n), .string (str 0)] w fun e w' => e = .returned (.tuple #[.string ⟨#[]⟩, .int .i64 4]) ∧ Below w.heap.size w w' := by
  have H1 := Lib.hid (fun W => Valid_ok n W fn)
  have H2 := Lib.hid (fun W => Valid_ok 0 W (fits_small (by decide)))
  rw [str_zero] at *
  clear fn
  go_enter Tryz.func36, Tryz.ntmps36
  go_wp2_with fail
  refine (H1.out w).mono ?_
  rintro e w1 ⟨rfl, hb⟩
  have HB := Lib.hid hb
  clear hb
  go_wp2_with fail
  refine (H2.out w1).mono ?_
  rintro e w2 ⟨rfl, hb⟩
  replace HB := Lib.hid (HB.out.trans (hb.mono HB.out.size))
  clear hb
  go_wp2_with fail
  go_ret2
  exact ⟨rfl, HB.out⟩

set_option maxRecDepth 100000 in
set_option maxHeartbeats 2000000 in
theorem RatMake_bad (l m : List UInt8) (w : World) (hl : l.length ≤ 140737488355328) (hm : m.length ≤ 140737488355328) (h : (validB l && validB m) = false) : Calls Tryz.prog 36 #[.string ⟨l.toArray⟩, .string ⟨m.toArray⟩] w fun e w' => e = .returned (.tuple #[.string ⟨#[]⟩, .int .i64 1]) ∧ Below w.heap.size w w' := by
  have HV := Lib.hid (Valid_any l w hl)
  cases h1 : validB l
  · rw [h1] at HV
    clear h1 h
    go_enter Tryz.func36, Tryz.ntmps36
    go_wp2_with fail
    refine (HV.out).mono ?_
    rintro e w1 ⟨rfl, hb⟩
    have HB := Lib.hid hb
    clear hb
    go_wp2_with fail
    go_ret2
    exact ⟨rfl, HB.out⟩
  · have h2 : validB m = false := by rw [h1] at h; simpa using h
    have HV2 := Lib.hid (fun W => Valid_any m W hm)
    rw [h1] at HV
    rw [h2] at HV2
    clear h1 h2 h
    go_enter Tryz.func36, Tryz.ntmps36
    go_wp2_with fail
    refine (HV.out).mono ?_
    rintro e w1 ⟨rfl, hb⟩
    have HB := Lib.hid hb
    clear hb
    go_wp2_with fail
    refine (HV2.out w1).mono ?_
    rintro e w2 ⟨rfl, hb⟩
    replace HB := Lib.hid (HB.out.trans (hb.mono HB.out.size))
    clear hb
    go_wp2_with fail
    go_ret2
    exact ⟨rfl, HB.out⟩

theorem rstr_int (n : Int) : rstr (n : Rat) = str n := by rw [rstr_whole (Rat.den_intCast n), Rat.num_intCast]
set_option maxRecDepth 100000 in
set_option maxHeartbeats 2000000 in
theorem RatWhole_ok (n : Int) (w : World) (h0 : -9223372036854775808 ≤ n) (h1 : n ≤ 9223372036854775807) (henv : Env w) : Calls Tryz.prog 42 #[.int .i64 n] w fun e w' => e = .returned (.string (str n)) ∧ Below w.heap.size w w' := by
  have H := Lib.hid (IMake_ok n w h0 h1 henv.tab)
  clear henv
  go_enter Tryz.func42, Tryz.ntmps42
  go_wp2_with fail
  refine (H.out).mono ?_
  rintro e w1 ⟨rfl, hb⟩
  have HB := Lib.hid hb
  clear hb
  go_wp2_with fail
  go_ret
  exact ⟨rfl, HB.out⟩

/-- The greater number of digits. -/
def digR (q : Rat) : Nat := max (Lib.nDigits q.num.natAbs) (Lib.nDigits q.den)
theorem digR_max (q : Rat) : max (((Lib.decDigits q.num.natAbs).length : Int)) ((Lib.itoa (q.den : Int)).length : Int) = (digR q : Int) := by
  unfold digR
  rw [itoa_pos, Lib.decDigits_length, Lib.decDigits_length]
  omega
set_option maxRecDepth 100000 in
set_option maxHeartbeats 2000000 in
theorem RatDigits_ok (q : Rat) (w : World) (hf : FitsR q) (henv : Env w) : Calls Tryz.prog 56 #[.string (rstr q)] w fun e w' => e = .returned (.int .i64 (digR q : Int)) ∧ Below w.heap.size w w' := by
  have HP := Lib.hid (RatParts_ok q w hf henv)
  have HTP := Lib.hid (fun W => Tryz.strings_TrimPrefix (str q.num) ⟨#[45]⟩ W)
  have E := Lib.hid (digR_max q)
  rw [show (str q.num).data.toList = Lib.itoa q.num by unfold str; simp, show (⟨#[45]⟩ : ByteArray).data.toList = [45] from rfl, (itoa_prefix q.num).2] at HTP
  have z1 : (Lib.decDigits q.num.natAbs).length ≤ 400 := hf.1
  have z2 : (Lib.itoa (q.den : Int)).length ≤ 401 := itoa_len hf.2
  unfold str at HP HTP
  generalize Lib.itoa q.num = s1 at *
  generalize Lib.itoa (q.den : Int) = s2 at *
  generalize Lib.decDigits q.num.natAbs = s3 at *
  clear henv hf
  go_enter Tryz.func56, Tryz.ntmps56
  go_wp2_with fail
  refine (HP.out).mono ?_
  rintro e w1 ⟨rfl, hb⟩
  have HB := Lib.hid hb
  clear hb
  go_wp2_with fail
  refine (HTP.out w1).mono ?_
  rintro e w' ⟨rfl, rfl⟩
  go_wp2_with fail
  go_ret
  exact ⟨by rw [← E.out]; rfl, HB.out⟩

set_option maxRecDepth 100000 in
set_option maxHeartbeats 2000000 in
theorem RatDigits_bad (l : List UInt8) (w : World) (hl : l.length ≤ 4000000000) (henv : Env w) (h : validR l = false) : Calls Tryz.prog 56 #[.string ⟨l.toArray⟩] w fun e w' => e = .returned (.int .i64 0) ∧ Below w.heap.size w w' := by
  have HP := Lib.hid (RatParts_bad l w hl henv h)
  clear henv h
  go_enter Tryz.func56, Tryz.ntmps56
  go_wp2_with fail
  refine (HP.out).mono ?_
  rintro e w1 ⟨rfl, hb⟩
  have HB := Lib.hid hb
  clear hb
  go_wp2_with fail
  go_ret
  exact ⟨rfl, HB.out⟩

end Go.Proofs.YtecklmdlmldpgaaGreatDoor

namespace Go.Proofs.YtecklmdlmldpgaaGreatDoor
open Go.RowKit

/-- A slice of texts reads as the list ss. -/
def Strs (w : World) (A : Option Addr) (ss : List ByteArray) : Prop := ss ≠ [] → ∃ b off, A = some ⟨b, off, none⟩ ∧ b < w.heap.size ∧ ∀ i, (h : i < ss.length) → w.cell? ⟨b, off + i, none⟩ = some (.string ss[i])
theorem Strs.below {w w' : World} {A : Option Addr} {ss : List ByteArray} (h : Strs w A ss) (hb : Below w.heap.size w w') : Strs w' A ss := fun hn => by
  obtain ⟨b, off, e, hlt, hc⟩ := h hn
  have := hb.size
  exact ⟨b, off, e, by omega, fun i hi => (hb.cell (p := ⟨b, off + i, none⟩) hlt).trans (hc i hi)⟩
theorem Strs.two {w : World} {g : Nat} {t : TypeId} {a b : ByteArray} (h : Blk w g t [.string a, .string b]) : Strs w (some ⟨g, 0, none⟩) [a, b] := fun _ => ⟨g, 0, rfl, h.lt, fun i hi => by
  rw [Nat.zero_add, h.cell]
  match i, hi with
  | 0, _ => rfl
  | 1, _ => rfl⟩
theorem ba_list (s : ByteArray) : (⟨s.data.toList.toArray⟩ : ByteArray) = s := by cases s; simp
theorem ba_size (s : ByteArray) : s.data.toList.length = s.size := Array.length_toList
/-- Whether a text is a fraction. -/
noncomputable def vR (s : ByteArray) : Bool := validR s.data.toList
theorem vR_rstr {q : Rat} (h : FitsR q) : vR (rstr q) = true := by unfold vR; rw [rstr_list]; exact validR_text h
theorem vR_ex {s : ByteArray} (h : vR s = true) : ∃ q, s = rstr q ∧ FitsR q := by
  obtain ⟨q, hq, hf⟩ := validR_ex h
  exact ⟨q, by rw [← ba_list s, hq]; rfl, hf⟩
theorem RatValidS (s : ByteArray) (w : World) (hl : s.size ≤ 4000000000) (henv : Env w) :
    Calls Tryz.prog 46 #[.string s] w fun e w' => e = .returned (.bool (vR s)) ∧ Below w.heap.size w w' := by
  have := RatValid s.data.toList w (by rw [ba_size]; exact hl) henv
  rw [ba_list] at this
  exact this
set_option maxHeartbeats 1000000 in
theorem RatValidF (s : ByteArray) (w : World) (hl : s.size ≤ 4000000000) (henv : Env w) :
    Calls Tryz.prog 172 #[.string s] w fun e w' => e = .returned (.bool (!vR s)) ∧ Below w.heap.size w w' := by
  have H := Lib.hid (RatValidS s w hl henv)
  clear henv
  go_enter Tryz.func172, Tryz.ntmps172
  go_wp2_with fail
  refine H.out.mono ?_
  rintro e w1 ⟨rfl, hb⟩
  have HB := Lib.hid hb
  clear hb
  go_wp2_with fail
  go_ret
  exact ⟨rfl, HB.out⟩

/-- The result is at least 0 just where some text is no fraction. -/
def RetIdx (w : World) (ss : List ByteArray) (e : Ending) (w' : World) : Prop := ∃ r : Int, e = .returned (.int .i64 r) ∧ decide (0 ≤ r) = !ss.all vR ∧ Below w.heap.size w w'
theorem all_take {ss : List ByteArray} {k : Nat} (hk : k < ss.length) (h : (ss.take k).all vR = true) (hv : vR ss[k] = true) : (ss.take (k + 1)).all vR = true := by
  rw [List.take_succ_eq_append_getElem hk, List.all_append, h]; simp [hv]
theorem all_not {ss : List ByteArray} {k : Nat} (hk : k < ss.length) (hv : vR ss[k] = false) : ss.all vR = false := by
  rw [← Bool.not_eq_true, List.all_eq_true]
  intro h
  rw [h _ (List.getElem_mem hk)] at hv
  cases hv
set_option maxRecDepth 100000 in
set_option maxHeartbeats 2000000 in
theorem RatIndexF (A : Option Addr) (ss : List ByteArray) (c : Nat) (w : World) (hs : Strs w A ss) (hl : ss.length ≤ 1000000) (hz : ∀ s ∈ ss, s.size ≤ 4000000000) (henv : Env w) :
    Calls Tryz.prog 199 #[.slice A ss.length c, .func (.func 172) #[] #[]] w (RetIdx w ss) := by
  have HE := Lib.hid henv
  have HS := Lib.hid hs
  have HZ := Lib.hid hz
  clear henv hs hz
  go_enter Tryz.func199, Tryz.ntmps199
  go_wp2_with fail
  go_loopw [8] (fun iv wr => ∃ k : Nat, iv = .int .i64 (k : Int) ∧ k ≤ ss.length ∧ (ss.take k).all vR = true ∧ Below w.heap.size w wr) (fun iv _ => ss.length - (intOf iv).toNat)
  case atStart => exact ⟨0, rfl, Nat.zero_le _, rfl, Below.refl _ _⟩
  case round =>
    obtain ⟨k, rfl, hk, hall, hb⟩ := hrel
    have HALL := Lib.hid hall
    have HB := Lib.hid hb
    clear hall hb
    by_cases hlt : k < ss.length
    · obtain ⟨b, off, rfl, hbb, hc⟩ := HS.out (by intro e; subst e; simp at hlt)
      have hci := (HB.out.cell (p := ⟨b, off + k, none⟩) hbb).trans (hc k hlt)
      have hzi := HZ.out ss[k] (List.getElem_mem hlt)
      have HNX := Lib.hid (fun h => all_take hlt HALL.out h)
      have HNO := Lib.hid (fun h => all_not (ss := ss) hlt h)
      obtain ⟨s, hse⟩ : ∃ s, ss[k] = s := ⟨_, rfl⟩
      rw [hse] at hci hzi HNX HNO
      clear hc hse
      have HV := Lib.hid (RatValidF s wr hzi (HE.out.below HB.out))
      cases hv : vR s
      · rw [hv] at HV
        have E := Lib.hid (HNO.out hv)
        clear hv HNX HNO
        go_wp2_with fail
        refine HV.out.mono ?_
        rintro e w1 ⟨rfl, hb⟩
        replace HB := Lib.hid (HB.out.trans (hb.mono HB.out.size))
        clear hb
        go_wp2_with fail
        go_ret
        exact ⟨(k : Int), rfl, by rw [E.out]; simp, HB.out⟩
      · rw [hv] at HV
        have E := Lib.hid (HNX.out hv)
        clear hv HNX HNO
        go_wp2_with fail
        refine HV.out.mono ?_
        rintro e w1 ⟨rfl, hb⟩
        replace HB := Lib.hid (HB.out.trans (hb.mono HB.out.size))
        clear hb
        go_wp2_with fail
        go_roundw
        case rel => exact ⟨k + 1, by go_num, by omega, E.out, HB.out⟩
        case measure => simp [intOf]; omega
    · have E : Hid (ss.all vR = true) := by have := HALL.out; rwa [List.take_of_length_le (by omega)] at this
      go_wp2_with fail
      go_ret
      exact ⟨-1, rfl, by rw [E.out]; rfl, HB.out⟩

set_option maxHeartbeats 1000000 in
theorem RatContainsF (A : Option Addr) (ss : List ByteArray) (c : Nat) (w : World) (hs : Strs w A ss) (hl : ss.length ≤ 1000000) (hz : ∀ s ∈ ss, s.size ≤ 4000000000) (henv : Env w) :
    Calls Tryz.prog 171 #[.slice A ss.length c, .func (.func 172) #[] #[]] w fun e w' => e = .returned (.bool (!ss.all vR)) ∧ Below w.heap.size w w' := by
  have H := Lib.hid (RatIndexF A ss c w hs hl hz henv)
  clear hs hz henv
  go_enter Tryz.func171, Tryz.ntmps171
  go_wp2_with fail
  refine H.out.mono ?_
  rintro e w1 ⟨r, rfl, hr, hb⟩
  have HB := Lib.hid hb
  have HR := Lib.hid hr
  clear hb hr
  go_wp2_with fail
  go_ret
  exact ⟨by rw [← HR.out]; rfl, HB.out⟩

set_option maxHeartbeats 1000000 in
theorem Ratvalid (A : Option Addr) (ss : List ByteArray) (c : Nat) (w : World) (hs : Strs w A ss) (hl : ss.length ≤ 1000000) (hz : ∀ s ∈ ss, s.size ≤ 4000000000) (henv : Env w) :
    Calls Tryz.prog 116 #[.slice A ss.length c] w fun e w' => e = .returned (.bool (ss.all vR)) ∧ Below w.heap.size w w' := by
  have H := Lib.hid (RatContainsF A ss c w hs hl hz henv)
  clear hs hz henv
  go_enter Tryz.func116, Tryz.ntmps116
  go_wp2_with fail
  refine H.out.mono ?_
  rintro e w1 ⟨rfl, hb⟩
  have HB := Lib.hid hb
  clear hb
  go_wp2_with fail
  go_ret
  exact ⟨by simp, HB.out⟩
theorem Ratvalid2 (a b : ByteArray) (g : Nat) (w : World) (hk : Blk w g 26 [.string a, .string b]) (ha : a.size ≤ 4000000000) (hb : b.size ≤ 4000000000) (henv : Env w) :
    Calls Tryz.prog 116 #[.slice (some ⟨g, 0, none⟩) 2 2] w fun e w' => e = .returned (.bool (vR a && vR b)) ∧ Below w.heap.size w w' := by
  have := Ratvalid (some ⟨g, 0, none⟩) [a, b] 2 w (Strs.two hk) (by simp) (by intro s hs; simp at hs; rcases hs with rfl | rfl <;> assumption) henv
  simpa using this

set_option maxRecDepth 100000 in
set_option maxHeartbeats 2000000 in
theorem RatApply_ok (f : Nat) (a b q : Rat) (w : World) (fa : FitsR a) (fb : FitsR b) (henv : Env w) (eg : ∀ args W, (callFunc f args).run Tryz.prog W = .ok (.enter f args) W) (hop : ∀ u v W, IsFrac W u a → IsFrac W v b → Calls Tryz.prog f #[u, v] W (RetFrac W q)) (sz : Sz 5000000 q) :
    Calls Tryz.prog 106 #[.string (rstr a), .string (rstr b), .func (.func f) #[] #[]] w fun e w' => e = .returned (.tuple #[.string (outR q), .int .i64 (outRE q)]) ∧ Below w.heap.size w w' := by
  have HE := Lib.hid henv
  have HV2 := Lib.hid (fun g W (hk : Blk W g 26 [.string (rstr a), .string (rstr b)]) (hE : Env W) => Ratvalid2 (rstr a) (rstr b) g W hk (by rw [rstr_size]; have := rtext_len fa; omega) (by rw [rstr_size]; have := rtext_len fb; omega) hE)
  rw [vR_rstr fa, vR_rstr fb] at HV2
  have HRA := Lib.hid (fun W hE => FRead_ok a W fa hE)
  have HRB := Lib.hid (fun W hE => FRead_ok b W fb hE)
  have HOP := Lib.hid hop
  generalize rstr a = s1 at *
  generalize rstr b = s2 at *
  clear henv hop
  go_enter Tryz.func106, Tryz.ntmps106
  go_wp2_with fail
  have hHK := (Blk.new w 26 [.string s1, .string s2])
  have hB0 : Below w.heap.size w (w.alloc (.cells #[.string s1, .string s2] 26)) := (Below.refl _ _).alloc (Nat.le_refl _) _
  generalize w.alloc (.cells #[.string s1, .string s2] 26) = W at *
  have HK := Lib.hid hHK
  have HB := Lib.hid hB0
  clear hB0 hHK
  replace HE := Lib.hid (HE.out.below HB.out)
  refine (HV2.out _ W HK.out HE.out).mono ?_
  rintro e w1 ⟨rfl, hb⟩
  replace HE := Lib.hid (HE.out.below hb)
  replace HB := Lib.hid (HB.out.trans (hb.mono HB.out.size))
  clear hb
  go_wp2_with fail
  refine (HRA.out w1 HE.out).mono ?_
  rintro e w2 ⟨v2, rfl, hv, hb⟩
  replace HE := Lib.hid (HE.out.below hb)
  have HFA := Lib.hid hv
  obtain ⟨x2, x2', X2, X2', y2, z2, y2', z2', rfl⟩ := hv.slice
  replace HB := Lib.hid (HB.out.trans (hb.mono HB.out.size))
  clear hb hv
  go_wp2_with fail
  refine (HRB.out w2 HE.out).mono ?_
  rintro e w3 ⟨v3, rfl, hv, hb⟩
  replace HE := Lib.hid (HE.out.below hb)
  replace HFA := Lib.hid (HFA.out.below hb)
  have HFB := Lib.hid hv
  obtain ⟨x3, x3', X3, X3', y3, z3, y3', z3', rfl⟩ := hv.slice
  replace HB := Lib.hid (HB.out.trans (hb.mono HB.out.size))
  clear hb hv
  go_wp2_with fail
  refine (HOP.out _ _ w3 HFA.out HFB.out).mono ?_
  rintro e w4 ⟨v4, rfl, hv, hb⟩
  clear HFA HFB
  replace HE := Lib.hid (HE.out.below hb)
  have HQ := Lib.hid hv
  obtain ⟨x4, x4', X4, X4', y4, z4, y4', z4', rfl⟩ := hv.slice
  replace HB := Lib.hid (HB.out.trans (hb.mono HB.out.size))
  clear hb hv
  go_wp2_with fail
  refine (FFits_any _ q w4 HQ.out sz HE.out).mono ?_
  rintro e w5 ⟨rfl, hb⟩
  replace HE := Lib.hid (HE.out.below hb)
  replace HQ := Lib.hid (HQ.out.below hb)
  replace HB := Lib.hid (HB.out.trans (hb.mono HB.out.size))
  clear hb
  go_wp2_with fail
  go_ret2
  exact ⟨rfl, HB.out⟩

set_option maxRecDepth 100000 in
set_option maxHeartbeats 2000000 in
theorem RatApply_bad (f : Nat) (s1 s2 : ByteArray) (w : World) (h1 : s1.size ≤ 4000000000) (h2 : s2.size ≤ 4000000000) (henv : Env w) (h : (vR s1 && vR s2) = false) :
    Calls Tryz.prog 106 #[.string s1, .string s2, .func (.func f) #[] #[]] w fun e w' => e = .returned (.tuple #[.string ⟨#[]⟩, .int .i64 1]) ∧ Below w.heap.size w w' := by
  have HE := Lib.hid henv
  have HV2 := Lib.hid (fun g W (hk : Blk W g 26 [.string s1, .string s2]) (hE : Env W) => Ratvalid2 s1 s2 g W hk h1 h2 hE)
  rw [h] at HV2
  clear h henv
  go_enter Tryz.func106, Tryz.ntmps106
  go_wp2_with fail
  have hHK := (Blk.new w 26 [.string s1, .string s2])
  have hB0 : Below w.heap.size w (w.alloc (.cells #[.string s1, .string s2] 26)) := (Below.refl _ _).alloc (Nat.le_refl _) _
  generalize w.alloc (.cells #[.string s1, .string s2] 26) = W at *
  have HK := Lib.hid hHK
  have HB := Lib.hid hB0
  clear hB0 hHK
  replace HE := Lib.hid (HE.out.below HB.out)
  refine (HV2.out _ W HK.out HE.out).mono ?_
  rintro e w1 ⟨rfl, hb⟩
  replace HE := Lib.hid (HE.out.below hb)
  replace HB := Lib.hid (HB.out.trans (hb.mono HB.out.size))
  clear hb
  go_wp2_with fail
  go_ret2
  exact ⟨rfl, HB.out⟩

set_option maxRecDepth 100000 in
set_option maxHeartbeats 2000000 in
theorem RatAdd_ok (a b : Rat) (w : World) (fa : FitsR a) (fb : FitsR b) (henv : Env w) : Calls Tryz.prog 41 #[.string (rstr a), .string (rstr b)] w fun e w' => e = .returned (.tuple #[.string (outR (a + b)), .int .i64 (outRE (a + b))]) ∧ Below w.heap.size w w' := by
  have H := Lib.hid (RatApply_ok 107 a b (a + b) w fa fb henv (enters_of Tryz.func107 (by kernel_rfl) rfl) (fun u v W hu hv => FAdd_any u v a b W hu hv (fa.sz.mono (by omega)) (fb.sz.mono (by omega))) ((fa.sz.add fb.sz).mono (by omega)))
  clear fa fb henv
  go_enter Tryz.func41, Tryz.ntmps41
  go_wp2_with fail
  refine (H.out).mono ?_
  rintro e w1 ⟨rfl, hb⟩
  have HB := Lib.hid hb
  clear hb
  go_wp2_with fail
  go_ret2
  exact ⟨rfl, HB.out⟩

set_option maxRecDepth 100000 in
set_option maxHeartbeats 2000000 in
theorem RatAdd_bad (s1 s2 : ByteArray) (w : World) (h1 : s1.size ≤ 4000000000) (h2 : s2.size ≤ 4000000000) (henv : Env w) (h : (vR s1 && vR s2) = false) : Calls Tryz.prog 41 #[.string s1, .string s2] w fun e w' => e = .returned (.tuple #[.string ⟨#[]⟩, .int .i64 1]) ∧ Below w.heap.size w w' := by
  have H := Lib.hid (RatApply_bad 107 s1 s2 w h1 h2 henv h)
  clear henv h
  go_enter Tryz.func41, Tryz.ntmps41
  go_wp2_with fail
  refine (H.out).mono ?_
  rintro e w1 ⟨rfl, hb⟩
  have HB := Lib.hid hb
  clear hb
  go_wp2_with fail
  go_ret2
  exact ⟨rfl, HB.out⟩

set_option maxRecDepth 100000 in
set_option maxHeartbeats 2000000 in
theorem RatSub_ok (a b : Rat) (w : World) (fa : FitsR a) (fb : FitsR b) (henv : Env w) : Calls Tryz.prog 44 #[.string (rstr a), .string (rstr b)] w fun e w' => e = .returned (.tuple #[.string (outR (a - b)), .int .i64 (outRE (a - b))]) ∧ Below w.heap.size w w' := by
  have H := Lib.hid (RatApply_ok 110 a b (a - b) w fa fb henv (enters_of Tryz.func110 (by kernel_rfl) rfl) (fun u v W hu hv => FSub_any u v a b W hu hv (fa.sz.mono (by omega)) (fb.sz.mono (by omega))) ((fa.sz.sub fb.sz).mono (by omega)))
  clear fa fb henv
  go_enter Tryz.func44, Tryz.ntmps44
  go_wp2_with fail
  refine (H.out).mono ?_
  rintro e w1 ⟨rfl, hb⟩
  have HB := Lib.hid hb
  clear hb
  go_wp2_with fail
  go_ret2
  exact ⟨rfl, HB.out⟩

set_option maxRecDepth 100000 in
set_option maxHeartbeats 2000000 in
theorem RatSub_bad (s1 s2 : ByteArray) (w : World) (h1 : s1.size ≤ 4000000000) (h2 : s2.size ≤ 4000000000) (henv : Env w) (h : (vR s1 && vR s2) = false) : Calls Tryz.prog 44 #[.string s1, .string s2] w fun e w' => e = .returned (.tuple #[.string ⟨#[]⟩, .int .i64 1]) ∧ Below w.heap.size w w' := by
  have H := Lib.hid (RatApply_bad 110 s1 s2 w h1 h2 henv h)
  clear henv h
  go_enter Tryz.func44, Tryz.ntmps44
  go_wp2_with fail
  refine (H.out).mono ?_
  rintro e w1 ⟨rfl, hb⟩
  have HB := Lib.hid hb
  clear hb
  go_wp2_with fail
  go_ret2
  exact ⟨rfl, HB.out⟩

set_option maxRecDepth 100000 in
set_option maxHeartbeats 2000000 in
theorem RatMul_ok (a b : Rat) (w : World) (fa : FitsR a) (fb : FitsR b) (henv : Env w) : Calls Tryz.prog 45 #[.string (rstr a), .string (rstr b)] w fun e w' => e = .returned (.tuple #[.string (outR (a * b)), .int .i64 (outRE (a * b))]) ∧ Below w.heap.size w w' := by
  have H := Lib.hid (RatApply_ok 111 a b (a * b) w fa fb henv (enters_of Tryz.func111 (by kernel_rfl) rfl) (fun u v W hu hv => FMul_any u v a b W hu hv (fa.sz.mono (by omega)) (fb.sz.mono (by omega))) ((fa.sz.mul fb.sz).mono (by omega)))
  clear fa fb henv
  go_enter Tryz.func45, Tryz.ntmps45
  go_wp2_with fail
  refine (H.out).mono ?_
  rintro e w1 ⟨rfl, hb⟩
  have HB := Lib.hid hb
  clear hb
  go_wp2_with fail
  go_ret2
  exact ⟨rfl, HB.out⟩

set_option maxRecDepth 100000 in
set_option maxHeartbeats 2000000 in
theorem RatMul_bad (s1 s2 : ByteArray) (w : World) (h1 : s1.size ≤ 4000000000) (h2 : s2.size ≤ 4000000000) (henv : Env w) (h : (vR s1 && vR s2) = false) : Calls Tryz.prog 45 #[.string s1, .string s2] w fun e w' => e = .returned (.tuple #[.string ⟨#[]⟩, .int .i64 1]) ∧ Below w.heap.size w w' := by
  have H := Lib.hid (RatApply_bad 111 s1 s2 w h1 h2 henv h)
  clear henv h
  go_enter Tryz.func45, Tryz.ntmps45
  go_wp2_with fail
  refine (H.out).mono ?_
  rintro e w1 ⟨rfl, hb⟩
  have HB := Lib.hid hb
  clear hb
  go_wp2_with fail
  go_ret2
  exact ⟨rfl, HB.out⟩

theorem rstr_ne_zero {q : Rat} (h : q ≠ 0) : rtext q ≠ [48] := fun e => by
  apply h
  apply rtext_inj
  rw [e, rtext_whole (show (0 : Rat).den = 1 from rfl)]
  exact itoa_zero.symm
theorem rstr_zero : rstr 0 = ⟨#[48]⟩ := by rw [rstr_whole (show (0 : Rat).den = 1 from rfl)]; exact str_zero
theorem zero_fits : FitsR 0 := ⟨fits_small (by decide), fits_small (by decide)⟩
set_option maxRecDepth 100000 in
set_option maxHeartbeats 2000000 in
theorem RatDiv_ok (a b : Rat) (w : World) (fa : FitsR a) (fb : FitsR b) (hb0 : b ≠ 0) (henv : Env w) : Calls Tryz.prog 47 #[.string (rstr a), .string (rstr b)] w fun e w' => e = .returned (.tuple #[.string (outR (a / b)), .int .i64 (outRE (a / b))]) ∧ Below w.heap.size w w' := by
  have HE := Lib.hid henv
  have HV2 := Lib.hid (fun g W (hk : Blk W g 26 [.string (rstr a), .string (rstr b)]) (hE : Env W) => Ratvalid2 (rstr a) (rstr b) g W hk (by rw [rstr_size]; have := rtext_len fa; omega) (by rw [rstr_size]; have := rtext_len fb; omega) hE)
  rw [vR_rstr fa, vR_rstr fb] at HV2
  have HRA := Lib.hid (fun W hE => FRead_ok a W fa hE)
  have HRB := Lib.hid (fun W hE => FRead_ok b W fb hE)
  have HA := Lib.hid (fun W hE => RatApply_ok 117 a b (a / b) W fa fb hE (enters_of Tryz.func117 (by kernel_rfl) rfl) (fun u v W hu hv => FDiv_any u v a b W hu hv (fa.sz.mono (by omega)) (fb.sz.mono (by omega)) hb0) ((fa.sz.div fb.sz hb0).mono (by omega)))
  have hq : ((rstr b).toList == [48]) = false := by rw [Lib.toList_data, rstr_list, beq_eq_false_iff_ne]; exact rstr_ne_zero hb0
  generalize rstr a = s1 at *
  generalize rstr b = s2 at *
  clear henv HRA HRB fa fb
  go_enter Tryz.func47, Tryz.ntmps47
  go_wp2_with fail
  have hHK := (Blk.new w 26 [.string s1, .string s2])
  have hB0 : Below w.heap.size w (w.alloc (.cells #[.string s1, .string s2] 26)) := (Below.refl _ _).alloc (Nat.le_refl _) _
  generalize w.alloc (.cells #[.string s1, .string s2] 26) = W at *
  have HK := Lib.hid hHK
  have HB := Lib.hid hB0
  clear hB0 hHK
  replace HE := Lib.hid (HE.out.below HB.out)
  refine (HV2.out _ W HK.out HE.out).mono ?_
  rintro e w1 ⟨rfl, hb⟩
  replace HE := Lib.hid (HE.out.below hb)
  replace HB := Lib.hid (HB.out.trans (hb.mono HB.out.size))
  clear hb
  go_wp2_with fail
  refine (HA.out w1 HE.out).mono ?_
  rintro e w2 ⟨rfl, hb⟩
  replace HE := Lib.hid (HE.out.below hb)
  replace HB := Lib.hid (HB.out.trans (hb.mono HB.out.size))
  clear hb
  go_wp2_with fail
  go_ret2
  exact ⟨rfl, HB.out⟩

set_option maxRecDepth 100000 in
set_option maxHeartbeats 2000000 in
theorem RatDiv_zero (a : Rat) (w : World) (fa : FitsR a) (henv : Env w) : Calls Tryz.prog 47 #[.string (rstr a), .string (rstr 0)] w fun e w' => e = .returned (.tuple #[.string ⟨#[]⟩, .int .i64 4]) ∧ Below w.heap.size w w' := by
  obtain ⟨b, hb⟩ : ∃ b : Rat, b = 0 := ⟨_, rfl⟩
  have fb : FitsR b := by rw [hb]; exact zero_fits
  rw [← hb]
  have HE := Lib.hid henv
  have HV2 := Lib.hid (fun g W (hk : Blk W g 26 [.string (rstr a), .string (rstr b)]) (hE : Env W) => Ratvalid2 (rstr a) (rstr b) g W hk (by rw [rstr_size]; have := rtext_len fa; omega) (by rw [rstr_size]; have := rtext_len fb; omega) hE)
  rw [vR_rstr fa, vR_rstr fb] at HV2
  have HRA := Lib.hid (fun W hE => FRead_ok a W fa hE)
  have HRB := Lib.hid (fun W hE => FRead_ok b W fb hE)
  have hq : ((rstr b).toList == [48]) = true := by rw [hb, rstr_zero, Lib.toList_data]; rfl
  generalize rstr a = s1 at *
  generalize rstr b = s2 at *
  clear henv HRA HRB fa fb hb
  go_enter Tryz.func47, Tryz.ntmps47
  go_wp2_with fail
  have hHK := (Blk.new w 26 [.string s1, .string s2])
  have hB0 : Below w.heap.size w (w.alloc (.cells #[.string s1, .string s2] 26)) := (Below.refl _ _).alloc (Nat.le_refl _) _
  generalize w.alloc (.cells #[.string s1, .string s2] 26) = W at *
  have HK := Lib.hid hHK
  have HB := Lib.hid hB0
  clear hB0 hHK
  replace HE := Lib.hid (HE.out.below HB.out)
  refine (HV2.out _ W HK.out HE.out).mono ?_
  rintro e w1 ⟨rfl, hb⟩
  replace HE := Lib.hid (HE.out.below hb)
  replace HB := Lib.hid (HB.out.trans (hb.mono HB.out.size))
  clear hb
  go_wp2_with fail
  go_ret2
  exact ⟨rfl, HB.out⟩

set_option maxRecDepth 100000 in
set_option maxHeartbeats 2000000 in
theorem RatDiv_bad (s1 s2 : ByteArray) (w : World) (h1 : s1.size ≤ 4000000000) (h2 : s2.size ≤ 4000000000) (henv : Env w) (h : (vR s1 && vR s2) = false) : Calls Tryz.prog 47 #[.string s1, .string s2] w fun e w' => e = .returned (.tuple #[.string ⟨#[]⟩, .int .i64 1]) ∧ Below w.heap.size w w' := by
  have HA := Lib.hid (fun W hE => RatApply_bad 117 s1 s2 W h1 h2 hE h)
  have HE := Lib.hid henv
  have HV2 := Lib.hid (fun g W (hk : Blk W g 26 [.string s1, .string s2]) (hE : Env W) => Ratvalid2 s1 s2 g W hk h1 h2 hE)
  rw [h] at HV2
  clear h henv
  go_enter Tryz.func47, Tryz.ntmps47
  go_wp2_with fail
  have hHK := (Blk.new w 26 [.string s1, .string s2])
  have hB0 : Below w.heap.size w (w.alloc (.cells #[.string s1, .string s2] 26)) := (Below.refl _ _).alloc (Nat.le_refl _) _
  generalize w.alloc (.cells #[.string s1, .string s2] 26) = W at *
  have HK := Lib.hid hHK
  have HB := Lib.hid hB0
  clear hB0 hHK
  replace HE := Lib.hid (HE.out.below HB.out)
  refine (HV2.out _ W HK.out HE.out).mono ?_
  rintro e w1 ⟨rfl, hb⟩
  replace HE := Lib.hid (HE.out.below hb)
  replace HB := Lib.hid (HB.out.trans (hb.mono HB.out.size))
  clear hb
  go_wp2_with fail
  refine (HA.out w1 HE.out).mono ?_
  rintro e w2 ⟨rfl, hb⟩
  replace HE := Lib.hid (HE.out.below hb)
  replace HB := Lib.hid (HB.out.trans (hb.mono HB.out.size))
  clear hb
  go_wp2_with fail
  go_ret2
  exact ⟨rfl, HB.out⟩

set_option maxRecDepth 100000 in
set_option maxHeartbeats 2000000 in
theorem RatCompare_ok (a b : Rat) (w : World) (fa : FitsR a) (fb : FitsR b) (henv : Env w) : Calls Tryz.prog 48 #[.string (rstr a), .string (rstr b)] w fun e w' => e = .returned (.int .i64 (sgR (a - b))) ∧ Below w.heap.size w w' := by
  have HE := Lib.hid henv
  have HV2 := Lib.hid (fun g W (hk : Blk W g 26 [.string (rstr a), .string (rstr b)]) (hE : Env W) => Ratvalid2 (rstr a) (rstr b) g W hk (by rw [rstr_size]; have := rtext_len fa; omega) (by rw [rstr_size]; have := rtext_len fb; omega) hE)
  rw [vR_rstr fa, vR_rstr fb] at HV2
  have HRA := Lib.hid (fun W hE => FRead_ok a W fa hE)
  have HRB := Lib.hid (fun W hE => FRead_ok b W fb hE)
  have sa := fa.sz
  have sb := fb.sz
  generalize rstr a = s1 at *
  generalize rstr b = s2 at *
  clear henv fa fb
  go_enter Tryz.func48, Tryz.ntmps48
  go_wp2_with fail
  have hHK := (Blk.new w 26 [.string s1, .string s2])
  have hB0 : Below w.heap.size w (w.alloc (.cells #[.string s1, .string s2] 26)) := (Below.refl _ _).alloc (Nat.le_refl _) _
  generalize w.alloc (.cells #[.string s1, .string s2] 26) = W at *
  have HK := Lib.hid hHK
  have HB := Lib.hid hB0
  clear hB0 hHK
  replace HE := Lib.hid (HE.out.below HB.out)
  refine (HV2.out _ W HK.out HE.out).mono ?_
  rintro e w1 ⟨rfl, hb⟩
  replace HE := Lib.hid (HE.out.below hb)
  replace HB := Lib.hid (HB.out.trans (hb.mono HB.out.size))
  clear hb
  go_wp2_with fail
  refine (HRA.out w1 HE.out).mono ?_
  rintro e w2 ⟨v2, rfl, hv, hb⟩
  replace HE := Lib.hid (HE.out.below hb)
  have HFA := Lib.hid hv
  obtain ⟨x2, x2', X2, X2', y2, z2, y2', z2', rfl⟩ := hv.slice
  replace HB := Lib.hid (HB.out.trans (hb.mono HB.out.size))
  clear hb hv
  go_wp2_with fail
  refine (HRB.out w2 HE.out).mono ?_
  rintro e w3 ⟨v3, rfl, hv, hb⟩
  replace HE := Lib.hid (HE.out.below hb)
  replace HFA := Lib.hid (HFA.out.below hb)
  have HFB := Lib.hid hv
  obtain ⟨x3, x3', X3, X3', y3, z3, y3', z3', rfl⟩ := hv.slice
  replace HB := Lib.hid (HB.out.trans (hb.mono HB.out.size))
  clear hb hv
  go_wp2_with fail
  refine (FCompare_any _ _ a b w3 HFA.out HFB.out (sa.mono (by omega)) (sb.mono (by omega))).mono ?_
  rintro e w4 ⟨rfl, hb⟩
  replace HE := Lib.hid (HE.out.below hb)
  replace HFA := Lib.hid (HFA.out.below hb)
  replace HFB := Lib.hid (HFB.out.below hb)
  replace HB := Lib.hid (HB.out.trans (hb.mono HB.out.size))
  clear hb
  go_wp2_with fail
  go_ret
  exact ⟨rfl, HB.out⟩

set_option maxRecDepth 100000 in
set_option maxHeartbeats 2000000 in
theorem RatCompare_bad (s1 s2 : ByteArray) (w : World) (h1 : s1.size ≤ 4000000000) (h2 : s2.size ≤ 4000000000) (henv : Env w) (h : (vR s1 && vR s2) = false) :
    Calls Tryz.prog 48 #[.string s1, .string s2] w fun e w' => e = .returned (.int .i64 0) ∧ Below w.heap.size w w' := by
  have HE := Lib.hid henv
  have HV2 := Lib.hid (fun g W (hk : Blk W g 26 [.string s1, .string s2]) (hE : Env W) => Ratvalid2 s1 s2 g W hk h1 h2 hE)
  rw [h] at HV2
  clear h henv
  go_enter Tryz.func48, Tryz.ntmps48
  go_wp2_with fail
  have hHK := (Blk.new w 26 [.string s1, .string s2])
  have hB0 : Below w.heap.size w (w.alloc (.cells #[.string s1, .string s2] 26)) := (Below.refl _ _).alloc (Nat.le_refl _) _
  generalize w.alloc (.cells #[.string s1, .string s2] 26) = W at *
  have HK := Lib.hid hHK
  have HB := Lib.hid hB0
  clear hB0 hHK
  replace HE := Lib.hid (HE.out.below HB.out)
  refine (HV2.out _ W HK.out HE.out).mono ?_
  rintro e w1 ⟨rfl, hb⟩
  replace HE := Lib.hid (HE.out.below hb)
  replace HB := Lib.hid (HB.out.trans (hb.mono HB.out.size))
  clear hb
  go_wp2_with fail
  go_ret
  exact ⟨rfl, HB.out⟩

end Go.Proofs.YtecklmdlmldpgaaGreatDoor
