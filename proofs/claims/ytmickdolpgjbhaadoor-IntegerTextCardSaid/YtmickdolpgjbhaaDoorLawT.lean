/-
  The walk of IntegerText.
-/
import Derived.Test.YtmickdolpgjbhaaDoorLawA
namespace Go.Proofs.YtmickdolpgjbhaaDoor
open Go.RowKit

theorem decDigits_ten {n : Nat} (h : 0 < n) : Lib.decDigits (n * 10) = Lib.decDigits n ++ [48] := by
  have hd := decDigits_digs n
  have hv : decVal (Lib.decDigits n ++ [48]) = n * 10 := by
    rw [decVal_append, decDigits_val]; rfl
  rw [← hv]
  apply decDigits_of
  · exact hd.append (by intro x hx; rw [List.mem_singleton] at hx; subst hx; exact ⟨by decide, by decide⟩)
  · simp
  · have h1 := decDigits_head h
    have h2 := decDigits_ne_nil n
    cases hc : Lib.decDigits n with
    | nil => exact absurd hc h2
    | cons a l => rw [hc] at h1; simpa using h1
theorem str_of_pos {z : Int} (h : 0 < z) : str z = ⟨(Lib.decDigits z.natAbs).toArray⟩ := by
  obtain ⟨n, rfl⟩ : ∃ n : Nat, z = (n : Int) := ⟨z.toNat, by omega⟩
  unfold str; rw [itoa_pos, Int.natAbs_natCast]
theorem str_of_neg {z : Int} (h : z < 0) : str z = ⟨(45 :: Lib.decDigits z.natAbs).toArray⟩ := by
  obtain ⟨n, rfl⟩ : ∃ n : Nat, z = -(n : Int) := ⟨z.natAbs, by omega⟩
  unfold str; rw [itoa_negNat _ (by omega), Int.natAbs_neg, Int.natAbs_natCast]
theorem str_ten {z : Int} (h : z ≠ 0) : str z ++ ⟨#[48]⟩ = str (z * 10) := by
  have hn : (z * 10).natAbs = z.natAbs * 10 := by rw [Int.natAbs_mul]; rfl
  rcases Int.lt_or_lt_of_ne h with hz | hz
  · rw [str_of_neg hz, str_of_neg (by omega), hn, decDigits_ten (by omega)]
    exact ba_append (45 :: Lib.decDigits z.natAbs) [48]
  · rw [str_of_pos hz, str_of_pos (by omega), hn, decDigits_ten (by omega)]
    exact ba_append (Lib.decDigits z.natAbs) [48]
theorem str_minus {z : Int} (h : 0 < z) : (⟨#[45]⟩ : ByteArray) ++ str z = str (-z) := by
  rw [str_of_pos h, str_of_neg (by omega), Int.natAbs_neg]
  exact ba_append [45] _
theorem str_tail {z : Int} (h : z < 0) : (str z).extract 1 (str z).size = str (-z) := by
  rw [str_of_neg h, str_of_pos (by omega), Int.natAbs_neg]
  apply ByteArray.ext
  apply Array.ext'
  rw [Lib.extract_data]
  simp [ByteArray.size]
theorem str_pos {z : Int} : 0 < (str z).size := by
  rcases Int.lt_trichotomy z 0 with h | h | h
  · rw [str_of_neg h]; simp [ByteArray.size]
  · rw [h, str_zero]; decide
  · rw [str_of_pos h]
    have := decDigits_ne_nil z.natAbs
    simp [ByteArray.size]
    cases hc : Lib.decDigits z.natAbs with
    | nil => exact absurd hc this
    | cons a l => simp
theorem str_size {z : Int} (h : Fits z) : (str z).size ≤ 401 := by
  have h1 := itoa_length z
  have h2 : (str z).size = (Lib.itoa z).length := by unfold str; simp [ByteArray.size]
  unfold Fits at h
  omega
theorem str_head_neg {z : Int} (h : z < 0) (hp : 0 < (str z).size) : (str z)[0] = 45 := by
  have : (str z).data.toList[0]? = some 45 := by rw [str_of_neg h]; rfl
  have h2 : (str z).data[0]? = some 45 := by simpa using this
  rw [Array.getElem?_eq_getElem (xs := (str z).data) hp] at h2
  exact Option.some.inj h2
theorem str_head_pos {z : Int} (h : 0 < z) (hp : 0 < (str z).size) : (str z)[0] ≠ 45 := by
  intro e
  have h2 : (str z).data[0]? = some 45 := by rw [Array.getElem?_eq_getElem (xs := (str z).data) hp]; exact congrArg some e
  have h3 : (str z).data.toList[0]? = some 45 := by simpa using h2
  rw [str_of_pos h] at h3
  have h4 : (45 : UInt8) ∈ Lib.decDigits z.natAbs := List.mem_of_getElem? h3
  have h5 := decDigits_digs z.natAbs 45 h4
  have h6 : 48 ≤ (45 : UInt8).toNat := h5.1
  exact absurd h6 (by decide)

set_option maxRecDepth 100000 in
set_option maxHeartbeats 4000000 in
theorem IntegerText_any (A : Option Addr) (l c : Nat) (w : World) (h : Ints w A l) (hlc : l ≤ c) (hl : l ≤ 9223372036854775807) (htab : Tab w) : Calls Tryd.prog 3 #[.slice A l c] w fun e w' => e = .returned (.bool true) ∧ Below w.heap.size w w' := by
  have HT := Lib.hid htab
  have HI := Lib.hid h
  clear htab h
  go_enter Tryd.func3, Tryd.ntmps3
  go_wp2_with fail
  refine (New_any A l c w HI.out hlc hl).mono ?_
  rintro e w0 ⟨rfl, hs, hb⟩
  have HS0 := Lib.hid hs
  have HB0 := Lib.hid hb
  clear hs hb
  go_wp2_with fail
  refine (Big_any w.heap.size 30 w0 HS0.out (by decide) (by decide)).mono ?_
  rintro e w1 ⟨a, rfl, hz, hs, hg⟩
  have HB1 := Lib.hid (below_grown HB0.out HB0.out.size hg)
  have Da := Lib.hid (show Dig 30 a from Dig.of_len hz)
  clear hz hs hg
  have HV := Lib.hid (fun l (hl : l.length ≤ 100) W => Valid_any l W (by omega))
  by_cases h0 : a = 0
  · subst h0
    rw [str_zero]
    have hA : (⟨#[45]⟩ : ByteArray) ++ ⟨#[48]⟩ = ⟨#[45, 48]⟩ := ba_append [45] [48]
    have hB : (⟨#[48]⟩ : ByteArray) ++ ⟨#[48]⟩ = ⟨#[48, 48]⟩ := ba_append [48] [48]
    have H1 := Lib.hid (HV.out [48] (by decide))
    rw [show validB [48] = true by decide] at H1
    have H2 := Lib.hid (HV.out [45, 48] (by decide))
    rw [show validB [45, 48] = false by decide] at H2
    have H3 := Lib.hid (HV.out [48, 48] (by decide))
    rw [show validB [48, 48] = false by decide] at H3
    clear HV
    go_wp2_with fail
    refine (H1.out w1).mono ?_
    rintro e w2 ⟨rfl, hb2⟩
    have HB2 := Lib.hid (HB1.out.trans (hb2.mono HB1.out.size))
    clear hb2
    go_wp2_with fail
    refine (H2.out w2).mono ?_
    rintro e w3 ⟨rfl, hb3⟩
    have HB3 := Lib.hid (HB2.out.trans (hb3.mono HB2.out.size))
    clear hb3
    go_wp2_with fail
    refine (H3.out w3).mono ?_
    rintro e w4 ⟨rfl, hb4⟩
    have HB4 := Lib.hid (HB3.out.trans (hb4.mono HB3.out.size))
    clear hb4
    go_wp2_with fail
    refine (sane_any w4 (HT.out.below HB4.out)).mono ?_
    rintro e wz ⟨rfl, hb⟩
    have HZ := Lib.hid (HB4.out.trans (hb.mono HB4.out.size))
    clear hb
    go_wp2_with fail
    go_ret
    exact ⟨rfl, HZ.out⟩
  · have hne : ((str a).toList == [48]) = false := by simpa using str_ne_zero h0
    have hten := str_ten h0
    have hp := str_pos (z := a)
    have hsz := str_size (Da.out.fits (by decide) (by decide))
    obtain ⟨x, hx⟩ : ∃ x : Int, a * 10 = x := ⟨_, rfl⟩
    obtain ⟨m, hm⟩ : ∃ m : Int, 0 - a = m := ⟨_, rfl⟩
    have hD10 : Dig 2 10 := show (10 : Int).natAbs < 10 ^ 2 by decide
    have HFA := Lib.hid (Da.out.fits (by decide) (by decide))
    have HFX := Lib.hid ((Da.out.mul hD10 hx rfl).fits (by decide) (by decide))
    have HFM := Lib.hid (((show Dig 30 0 from show (0 : Int).natAbs < 10 ^ 30 by decide).sub Da.out hm rfl).fits (by decide) (by decide))
    have M1 := Lib.hid (fun W hW => IMul_fit a 10 x W hx HFA.out (fits_small (by decide)) HFX.out hW)
    rw [str_10] at M1
    have M2 := Lib.hid (fun W hW => ISub_fit 0 a m W hm (fits_small (by decide)) HFA.out HFM.out hW)
    rw [str_zero] at M2
    have hma : m = -a := by omega
    rw [hx] at hten
    have EM := Lib.hid hma
    have H0 := Lib.hid h0
    clear hx hm hD10 HV hma h0
    rcases Int.lt_or_lt_of_ne H0.out with hz | hz
    · have hhd : (((str a)[0].toNat : Int) == 45) = true := by rw [str_head_neg hz hp]; rfl
      have htl := str_tail hz
      rw [← EM.out] at htl
      have hs1 : (1 : Int) ≤ ((str a).size : Int) := by omega
      have HZ := Lib.hid hz
      clear hz
      go_wp2_with fail
      refine (M1.out w1 (HT.out.below HB1.out)).mono ?_
      rintro e w2 ⟨rfl, hb2⟩
      have HB2 := Lib.hid (HB1.out.trans (hb2.mono HB1.out.size))
      clear hb2
      go_wp2_with fail
      refine (M2.out w2 (HT.out.below HB2.out)).mono ?_
      rintro e w3 ⟨rfl, hb3⟩
      have HB3 := Lib.hid (HB2.out.trans (hb3.mono HB2.out.size))
      clear hb3
      go_wp2_with fail
      refine (Valid_ok m w3 HFM.out).mono ?_
      rintro e w4 ⟨rfl, hb4⟩
      have HB4 := Lib.hid (HB3.out.trans (hb4.mono HB3.out.size))
      clear hb4
      go_wp2_with fail
      refine (sane_any w4 (HT.out.below HB4.out)).mono ?_
      rintro e wz ⟨rfl, hb⟩
      have HE := Lib.hid (HB4.out.trans (hb.mono HB4.out.size))
      clear hb
      go_wp2_with fail
      go_ret
      exact ⟨rfl, HE.out⟩
    · have hhd : (((str a)[0].toNat : Int) == 45) = false := by
        rw [beq_eq_false_iff_ne]
        intro e
        exact str_head_pos hz hp (UInt8.toNat_inj.1 (by have : (45 : UInt8).toNat = 45 := rfl; omega))
      have htl := str_minus hz
      rw [← EM.out] at htl
      have HZ := Lib.hid hz
      clear hz
      go_wp2_with fail
      refine (M1.out w1 (HT.out.below HB1.out)).mono ?_
      rintro e w2 ⟨rfl, hb2⟩
      have HB2 := Lib.hid (HB1.out.trans (hb2.mono HB1.out.size))
      clear hb2
      go_wp2_with fail
      refine (M2.out w2 (HT.out.below HB2.out)).mono ?_
      rintro e w3 ⟨rfl, hb3⟩
      have HB3 := Lib.hid (HB2.out.trans (hb3.mono HB2.out.size))
      clear hb3
      go_wp2_with fail
      refine (Valid_ok m w3 HFM.out).mono ?_
      rintro e w4 ⟨rfl, hb4⟩
      have HB4 := Lib.hid (HB3.out.trans (hb4.mono HB3.out.size))
      clear hb4
      go_wp2_with fail
      refine (sane_any w4 (HT.out.below HB4.out)).mono ?_
      rintro e wz ⟨rfl, hb⟩
      have HE := Lib.hid (HB4.out.trans (hb.mono HB4.out.size))
      clear hb
      go_wp2_with fail
      go_ret
      exact ⟨rfl, HE.out⟩

end Go.Proofs.YtmickdolpgjbhaaDoor
