import Derived.Test.YtajlojhklhlljaaGreatDoorZR
import Derived.Test.YtajlojhklhlljaaGreatDoorZF
set_option maxHeartbeats 16000000
set_option maxRecDepth 100000
namespace Go.Proofs.YtajlojhklhlljaaGreatDoor
open Go.RowKit
theorem validR_badnum {l : List UInt8} (h : validB (cutS l).1 = false) : validR l = false := by
 cases hk : (cutS l).2.2
 ·rw [validR_plain hk]
  rcases cutS_join l with ⟨h1, _⟩ | ⟨_, h2, _⟩
  ·rw [hk] at h1; cases h1
  ·rw [h2]; exact h
 ·cases hv : validR l
  ·rfl
  ·obtain ⟨n, d, h1, _, hf, _⟩ := (validR_slash hk).1 hv
   rw [h1, valid_itoa hf] at h; cases h
theorem validR_goodplain {l : List UInt8} (h : validB (cutS l).1 = true) (hk : (cutS l).2.2 = false) : validR l = true := by
 rw [validR_plain hk]
 rcases cutS_join l with ⟨h1, _⟩ | ⟨_, h2, _⟩
 ·rw [hk] at h1; cases h1
 ·rw [h2]; exact h
theorem validR_zero {l : List UInt8} (hk : (cutS l).2.2 = true) (h : (cutS l).1 = Lib.itoa 0) : validR l = false := by
 cases hv : validR l
 ·rfl
 ·obtain ⟨n, d, h1, _, _, _, hn, _⟩ := (validR_slash hk).1 hv
  rw [h1] at h
  exact absurd (itoa_inj h) hn
theorem validR_badden {l : List UInt8} (hk : (cutS l).2.2 = true) (h : validB (cutS l).2.1 = false) : validR l = false := by
 cases hv : validR l
 ·rfl
 ·obtain ⟨n, d, _, h2, _, hg, _⟩ := (validR_slash hk).1 hv
  rw [h2, valid_itoa hg] at h; cases h
theorem validR_small {l : List UInt8} {m : Int} (hk : (cutS l).2.2 = true) (h : (cutS l).2.1 = Lib.itoa m) (hm : m ≤ 1) : validR l = false := by
 cases hv : validR l
 ·rfl
 ·obtain ⟨n, d, _, h2, _, _, _, hd, _⟩ := (validR_slash hk).1 hv
  rw [h2] at h
  have := itoa_inj h
  omega
theorem validR_gcd {l : List UInt8} {n m : Int} (hk : (cutS l).2.2 = true) (h1 : (cutS l).1 = Lib.itoa n) (h2 : (cutS l).2.1 = Lib.itoa m) (fn : Fits n) (fm : Fits m) (hn : n ≠ 0) (hm : 1 < m) : validR l = decide (n.natAbs.gcd m.natAbs = 1) := by
 by_cases hg : n.natAbs.gcd m.natAbs = 1
 ·rw [decide_eq_true hg]
  exact (validR_slash hk).2 ⟨n, m, h1, h2, fn, fm, hn, hm, hg⟩
 ·rw [decide_eq_false hg]
  cases hv : validR l
  ·rfl
  ·obtain ⟨n', d', k1, k2, _, _, _, _, hc⟩ := (validR_slash hk).1 hv
   rw [k1] at h1; rw [k2] at h2
   rw [itoa_inj h1, itoa_inj h2] at hc
   exact absurd hc hg
theorem gcd_sg (a b : Nat) (hb : 0 < b) : (sg (((a.gcd b : Nat) : Int) - 1) == 0) = decide (a.gcd b = 1) := by
 have := Nat.gcd_pos_of_pos_right a hb
 unfold sg
 by_cases h : a.gcd b = 1
 ·simp [h]
 ·rw [if_neg (by omega), if_pos (by omega)]
  simp [h]
theorem RatValid (l : List UInt8) (w : World) (hl : l.length ≤ 4000000000) (henv : Env w) :
  Calls Tryz.prog 115 #[.string ⟨l.toArray⟩] w fun e w' => e = .returned (.bool (validR l)) ∧ Below w.heap.size w w' := by
 have HC := Lib.hid (Cut_any l w (by omega) henv)
 have HV1 := Lib.hid (fun W => Valid_any (cutS l).1 W (by have := (cutS_len l).1; omega))
 have HV2 := Lib.hid (fun W => Valid_any (cutS l).2.1 W (by have := (cutS_len l).2; omega))
 clear henv
 cases hv1 : validB (cutS l).1
 ·have E := Lib.hid (validR_badnum hv1)
  rw [hv1] at HV1
  clear hv1 HV2
  generalize (cutS l).1 = p at *
  generalize (cutS l).2.1 = q at *
  generalize (cutS l).2.2 = k at *
  cases k
  ·have tok : True := trivial
   go_enter Tryz.func115, Tryz.ntmps115
   go_wp2_with fail
   refine (HC.out).mono ?_
   rintro e w1 ⟨rfl, hb⟩
   have HB := Lib.hid hb
   clear hb
   go_wp2_with fail
   refine (HV1.out w1).mono ?_
   rintro e w2 ⟨rfl, hb⟩
   replace HB := Lib.hid (HB.out.trans (hb.mono HB.out.size))
   clear hb
   go_wp2_with fail
   refine (HV1.out w2).mono ?_
   rintro e w3 ⟨rfl, hb⟩
   replace HB := Lib.hid (HB.out.trans (hb.mono HB.out.size))
   clear hb
   go_wp2_with fail
   go_ret
   exact ⟨by rw [E.out]; rfl, HB.out⟩
  ·have tok : True := trivial
   go_enter Tryz.func115, Tryz.ntmps115
   go_wp2_with fail
   refine (HC.out).mono ?_
   rintro e w1 ⟨rfl, hb⟩
   have HB := Lib.hid hb
   clear hb
   go_wp2_with fail
   refine (HV1.out w1).mono ?_
   rintro e w2 ⟨rfl, hb⟩
   replace HB := Lib.hid (HB.out.trans (hb.mono HB.out.size))
   clear hb
   go_wp2_with fail
   go_ret
   exact ⟨by rw [E.out]; rfl, HB.out⟩
 ·cases hk : (cutS l).2.2
  ·have E := Lib.hid (validR_goodplain hv1 hk)
   rw [hk] at HC
   rw [hv1] at HV1
   clear hv1 hk HV2
   generalize (cutS l).1 = p at *
   generalize (cutS l).2.1 = q at *
   go_enter Tryz.func115, Tryz.ntmps115
   go_wp2_with fail
   refine (HC.out).mono ?_
   rintro e w1 ⟨rfl, hb⟩
   have HB := Lib.hid hb
   clear hb
   go_wp2_with fail
   refine (HV1.out w1).mono ?_
   rintro e w2 ⟨rfl, hb⟩
   replace HB := Lib.hid (HB.out.trans (hb.mono HB.out.size))
   clear hb
   go_wp2_with fail
   refine (HV1.out w2).mono ?_
   rintro e w3 ⟨rfl, hb⟩
   replace HB := Lib.hid (HB.out.trans (hb.mono HB.out.size))
   clear hb
   go_wp2_with fail
   go_ret
   exact ⟨by rw [E.out]; rfl, HB.out⟩
  ·obtain ⟨n, hn, fn⟩ := valid_ex hv1
   by_cases hn0 : n = 0
   ·subst hn0
    have E := Lib.hid (validR_zero hk hn)
    rw [hk] at HC
    rw [hv1] at HV1
    rw [hn, itoa_zero] at HC HV1
    clear hv1 hk hn HV2
    generalize (cutS l).2.1 = q at *
    go_enter Tryz.func115, Tryz.ntmps115
    go_wp2_with fail
    refine (HC.out).mono ?_
    rintro e w1 ⟨rfl, hb⟩
    have HB := Lib.hid hb
    clear hb
    go_wp2_with fail
    refine (HV1.out w1).mono ?_
    rintro e w2 ⟨rfl, hb⟩
    replace HB := Lib.hid (HB.out.trans (hb.mono HB.out.size))
    clear hb
    go_wp2_with fail
    go_ret
    exact ⟨by rw [E.out]; rfl, HB.out⟩
   ·have hq0 : ((⟨(Lib.itoa n).toArray⟩ : ByteArray).toList == [48]) = false := by rw [Lib.toList_data, beq_eq_false_iff_ne]; exact fun e => hn0 (itoa_eq_zero.1 e)
    have hq0' : (Lib.itoa n == [48]) = false := by rw [beq_eq_false_iff_ne]; exact fun e => hn0 (itoa_eq_zero.1 e)
    have HRN := Lib.hid (fun W => LRead_fits n W fn)
    have lnn := fn.len
    cases hv2 : validB (cutS l).2.1
    ·have E := Lib.hid (validR_badden hk hv2)
     rw [hk] at HC
     rw [hv1] at HV1
     rw [hv2] at HV2
     rw [hn] at HC HV1
     clear hv1 hv2 hk hn
     generalize (cutS l).2.1 = q at *
     generalize Lib.itoa n = p at *
     go_enter Tryz.func115, Tryz.ntmps115
     go_wp2_with fail
     refine (HC.out).mono ?_
     rintro e w1 ⟨rfl, hb⟩
     have HB := Lib.hid hb
     clear hb
     go_wp2_with fail
     refine (HV1.out w1).mono ?_
     rintro e w2 ⟨rfl, hb⟩
     replace HB := Lib.hid (HB.out.trans (hb.mono HB.out.size))
     clear hb
     go_wp2_with fail
     refine (HV2.out w2).mono ?_
     rintro e w3 ⟨rfl, hb⟩
     replace HB := Lib.hid (HB.out.trans (hb.mono HB.out.size))
     clear hb
     go_wp2_with fail
     go_ret
     exact ⟨by rw [E.out]; rfl, HB.out⟩
    ·obtain ⟨m, hm, fm⟩ := valid_ex hv2
     have HCM := Lib.hid (fun W => ICompare_ok m 1 W fm one_fits)
     rw [str_1] at HCM
     have HRM := Lib.hid (fun W => LRead_fits m W fm)
     have lmm := fm.len
     unfold str at HCM HRN HRM
     by_cases hm1 : m ≤ 1
     ·have E := Lib.hid (validR_small hk hm hm1)
      have hs : sg (m - 1) ≤ 0 := by unfold sg; split <;> (try split) <;> omega
      rw [hk] at HC
      rw [hv1] at HV1
      rw [hv2] at HV2
      rw [hn, hm] at HC
      rw [hn] at HV1
      rw [hm] at HV2
      clear hv1 hv2 hk hn hm HRN HRM
      generalize Lib.itoa n = p at *
      generalize Lib.itoa m = q at *
      go_enter Tryz.func115, Tryz.ntmps115
      go_wp2_with fail
      refine (HC.out).mono ?_
      rintro e w1 ⟨rfl, hb⟩
      have HB := Lib.hid hb
      clear hb
      go_wp2_with fail
      refine (HV1.out w1).mono ?_
      rintro e w2 ⟨rfl, hb⟩
      replace HB := Lib.hid (HB.out.trans (hb.mono HB.out.size))
      clear hb
      go_wp2_with fail
      refine (HV2.out w2).mono ?_
      rintro e w3 ⟨rfl, hb⟩
      replace HB := Lib.hid (HB.out.trans (hb.mono HB.out.size))
      clear hb
      go_wp2_with fail
      refine (HCM.out w3).mono ?_
      rintro e w4 ⟨rfl, hb⟩
      replace HB := Lib.hid (HB.out.trans (hb.mono HB.out.size))
      clear hb
      go_wp2_with fail
      go_ret
      exact ⟨by rw [E.out]; rfl, HB.out⟩
     ·have hmp : 0 < m.natAbs := by omega
      have E := Lib.hid ((validR_gcd hk hn hm fn fm hn0 (by omega)).trans (gcd_sg n.natAbs m.natAbs hmp).symm)
      have hs : ¬ sg (m - 1) ≤ 0 := by unfold sg; rw [if_neg (by omega), if_pos (by omega)]; omega
      have lg : (limbs (((n.natAbs.gcd m.natAbs : Nat) : Int)).natAbs).length ≤ 45 := by rw [Int.natAbs_natCast]; exact Nat.le_trans (limbs_length_mono (Nat.gcd_le_right _ hmp)) lmm
      rw [hk] at HC
      rw [hv1] at HV1
      rw [hv2] at HV2
      rw [hn, hm] at HC
      rw [hn] at HV1
      rw [hm] at HV2
      have HGC := Lib.hid (fun U V W (hU : IsNum W U n) (hV : IsNum W V m) => Gcd_any U V n m W hU hV (by omega) (by omega))
      clear hv1 hv2 hk hn hm
      generalize Lib.itoa n = p at *
      generalize Lib.itoa m = q at *
      generalize ((n.natAbs.gcd m.natAbs : Nat) : Int) = G at *
      go_enter Tryz.func115, Tryz.ntmps115
      go_wp2_with fail
      refine (HC.out).mono ?_
      rintro e w1 ⟨rfl, hb⟩
      have HB := Lib.hid hb
      clear hb
      go_wp2_with fail
      refine (HV1.out w1).mono ?_
      rintro e w2 ⟨rfl, hb⟩
      replace HB := Lib.hid (HB.out.trans (hb.mono HB.out.size))
      clear hb
      go_wp2_with fail
      refine (HV2.out w2).mono ?_
      rintro e w3 ⟨rfl, hb⟩
      replace HB := Lib.hid (HB.out.trans (hb.mono HB.out.size))
      clear hb
      go_wp2_with fail
      refine (HCM.out w3).mono ?_
      rintro e w4 ⟨rfl, hb⟩
      replace HB := Lib.hid (HB.out.trans (hb.mono HB.out.size))
      clear hb
      go_wp2_with fail
      refine (HRN.out w4).mono ?_
      rintro e w5 ⟨v5, rfl, hv, hb⟩
      have HN := Lib.hid hv
      obtain ⟨x5, X5, y5, z5, rfl⟩ := hv.slice
      replace HB := Lib.hid (HB.out.trans (hb.mono HB.out.size))
      clear hb hv
      go_wp2_with fail
      refine (HRM.out w5).mono ?_
      rintro e w6 ⟨v6, rfl, hv, hb⟩
      replace HN := Lib.hid (HN.out.below hb)
      have HM := Lib.hid hv
      obtain ⟨x6, X6, y6, z6, rfl⟩ := hv.slice
      replace HB := Lib.hid (HB.out.trans (hb.mono HB.out.size))
      clear hb hv
      go_wp2_with fail
      refine (HGC.out _ _ w6 HN.out HM.out).mono ?_
      rintro e w7 ⟨v7, rfl, hv, hb⟩
      clear HN HM
      have HG := Lib.hid hv
      obtain ⟨x7, X7, y7, z7, rfl⟩ := hv.slice
      replace HB := Lib.hid (HB.out.trans (hb.mono HB.out.size))
      clear hb hv
      go_wp2_with fail
      refine (LOf_one w7).mono ?_
      rintro e w8 ⟨v8, rfl, hv, hb⟩
      replace HG := Lib.hid (HG.out.below hb)
      have HO := Lib.hid hv
      obtain ⟨x8, X8, y8, z8, rfl⟩ := hv.slice
      replace HB := Lib.hid (HB.out.trans (hb.mono HB.out.size))
      clear hb hv
      go_wp2_with fail
      refine (Compare_any _ _ G 1 w8 HG.out HO.out (by omega) (Nat.le_trans len_one (by decide))).mono ?_
      rintro e w9 ⟨rfl, hb⟩
      clear HG HO
      replace HB := Lib.hid (HB.out.trans (hb.mono HB.out.size))
      clear hb
      go_wp2_with fail
      go_ret
      exact ⟨by rw [E.out]; rfl, HB.out⟩
theorem rstr_int (n : Int) : rstr (n : Rat) = str n := by rw [rstr_whole (Rat.den_intCast n), Rat.num_intCast]
def digR (q : Rat) : Nat := max (Lib.nDigits q.num.natAbs) (Lib.nDigits q.den)
end Go.Proofs.YtajlojhklhlljaaGreatDoor
namespace Go.Proofs.YtajlojhklhlljaaGreatDoor
open Go.RowKit
def Strs (w : World) (A : Option Addr) (ss : List ByteArray) : Prop := ss ≠ [] → ∃ b off, A = some ⟨b, off, none⟩ ∧ b < w.heap.size ∧ ∀ i, (h : i < ss.length) → w.cell? ⟨b, off + i, none⟩ = some (.string ss[i])
theorem Strs.below {w w' : World} {A : Option Addr} {ss : List ByteArray} (h : Strs w A ss) (hb : Below w.heap.size w w') : Strs w' A ss := fun hn => by
 obtain ⟨b, off, e, hlt, hc⟩ := h hn
 have := hb.size
 exact ⟨b, off, e, by omega, fun i hi => (hb.cell (p := ⟨b, off + i, none⟩) hlt).trans (hc i hi)⟩
theorem Strs.two {w : World} {g : Nat} {t : TypeId} {a b : ByteArray} (h : Blk w g t [.string a, .string b]) : Strs w (some ⟨g, 0, none⟩) [a, b] := fun _ => ⟨g, 0, rfl, h.lt, fun i hi => by
 rw [Nat.zero_add, h.cell]
 match i, hi with
 | 0, _ => rfl
 | 1, _ => rfl⟩
theorem ba_list (s : ByteArray) : (⟨s.data.toList.toArray⟩ : ByteArray) = s := by cases s; simp
theorem ba_size (s : ByteArray) : s.data.toList.length = s.size := Array.length_toList
noncomputable def vR (s : ByteArray) : Bool := validR s.data.toList
theorem vR_rstr {q : Rat} (h : FitsR q) : vR (rstr q) = true := by unfold vR; rw [rstr_list]; exact validR_text h
theorem vR_ex {s : ByteArray} (h : vR s = true) : ∃ q, s = rstr q ∧ FitsR q := by
 obtain ⟨q, hq, hf⟩ := validR_ex h
 exact ⟨q, by rw [← ba_list s, hq]; rfl, hf⟩
theorem RatValidS (s : ByteArray) (w : World) (hl : s.size ≤ 4000000000) (henv : Env w) :
  Calls Tryz.prog 115 #[.string s] w fun e w' => e = .returned (.bool (vR s)) ∧ Below w.heap.size w w' := by
 have := RatValid s.data.toList w (by rw [ba_size]; exact hl) henv
 rw [ba_list] at this
 exact this
def RetIdx (w : World) (ss : List ByteArray) (e : Ending) (w' : World) : Prop := ∃ r : Int, e = .returned (.int .i64 r) ∧ decide (0 ≤ r) = !ss.all vR ∧ Below w.heap.size w w'
theorem rstr_ne_zero {q : Rat} (h : q ≠ 0) : rtext q ≠ [48] := fun e => by
 apply h
 apply rtext_inj
 rw [e, rtext_whole (show (0 : Rat).den = 1 from rfl)]
 exact itoa_zero.symm
theorem rstr_zero : rstr 0 = ⟨#[48]⟩ := by rw [rstr_whole (show (0 : Rat).den = 1 from rfl)]; exact str_zero
end Go.Proofs.YtajlojhklhlljaaGreatDoor
