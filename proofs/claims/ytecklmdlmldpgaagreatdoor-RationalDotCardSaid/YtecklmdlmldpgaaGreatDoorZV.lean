/-
  What the rows of the laws on fractions share: the library's variables, as the world's shape and the row lay them.
-/
import Derived.Test.YtecklmdlmldpgaaGreatDoorZU
import Derived.Test.YtecklmdlmldpgaaGreatDoorZL
import Derived.Test.YtecklmdlmldpgaaGreatDoorZO
import Derived.Test.YtecklmdlmldpgaaGreatDoorZM
import Derived.Test.YtecklmdlmldpgaaGreatDoorZR
import Derived.Shelf.Vars
namespace Go.Proofs.YtecklmdlmldpgaaGreatDoor
open Go.RowKit

/-- The number's row does not lie in block b. -/
def Apart (b : Nat) (v : Value) : Prop := ∃ nb A l c, v = .agg #[.bool nb, .slice A l c] ∧ ∀ bb off, A = some ⟨bb, off, none⟩ → bb ≠ b
theorem FreshV.apart {w : World} {v : Value} {b : Nat} (h : FreshV w v) (hb : b < w.heap.size) : Apart b v := by
  obtain ⟨nb, A, l, c, e, hA⟩ := h
  exact ⟨nb, A, l, c, e, fun bb off e2 => by have := hA bb off e2; omega⟩
theorem IsBig.grown {w w' : World} {v : Value} {z : Int} {b : Nat} (h : IsBig w v z) (ha : Apart b v) (hg : w.grownBy w' (some b)) : IsBig w' v z := by
  obtain ⟨A, c, rfl, hl, hc⟩ := h
  obtain ⟨nb, A2, l2, c2, e, hA⟩ := ha
  injection e with e
  have e1 := congrArg (fun a => a[1]?) e
  simp at e1
  obtain ⟨rfl, _, _⟩ := e1
  exact ⟨A, c, rfl, hl, hc.only hg hA⟩
theorem grown_bel {a w w' : World} {g : Option Nat} (h : a.grownBy w g) (hb : Below w.heap.size w w') : a.grownBy w' g :=
  ⟨hb.os.trans h.os, hb.tape.trans h.tape, hb.output.trans h.output, Nat.le_trans h.size hb.size, fun i hi hne => (hb.block i (Nat.lt_of_lt_of_le hi h.size)).trans (h.block i hi hne)⟩
theorem grown_drew {a w : World} {g : Option Nat} (h : a.grownBy w g) : a.grownBy w.drew g := ⟨h.os, h.tape, h.output, h.size, h.block⟩
/-- The result is the text of some fraction whose parts have at most d digits; the source goes on. -/
def RetLong (w : World) (b d : Nat) (e : Ending) (w' : World) : Prop := ∃ q : Rat, e = .returned (.string (rstr q)) ∧ DigR d q ∧ Src w' b ∧ w.grownBy w' (some b)
/-- A denominator that is not 0, in its box. -/
def LongS (w : World) (b d g : Nat) (W : World) : Prop := ∃ (z : Int) (nb : Bool) (A : Option Addr) (l c : Nat), z ≠ 0 ∧ Dig d z ∧ Blk W g 86 [.bool nb, .slice A l c] ∧ IsBig W (.agg #[.bool nb, .slice A l c]) z ∧ Apart b (.agg #[.bool nb, .slice A l c]) ∧ Src W b ∧ w.grownBy W (some b) ∧ b < g

set_option maxRecDepth 100000 in
set_option maxHeartbeats 2000000 in
theorem Long_any (b d : Nat) (w : World) (hs : Src w b) (hd1 : 1 ≤ d) (hd2 : d ≤ 400) : Calls Tryz.prog 32 #[.pointer (some ⟨b, 0, none⟩), .int .i64 (d : Int)] w (RetLong w b d) := by
  have hbw := hs.lt
  have HBG := Lib.hid (fun W (hS : Src W b) => Big_any b d W hS hd1 (by omega))
  have HS := Lib.hid hs
  clear hs
  go_enter Tryz.func32, Tryz.ntmps32
  go_wp2_with fail
  refine (HBG.out w HS.out).mono ?_
  rintro e w1 ⟨z1, rfl, hz, hs1, hg1⟩
  have HZ := Lib.hid (show Dig d z1 from Dig.of_len hz)
  have hf : (Lib.decDigits z1.natAbs).length ≤ 1000000 := by omega
  have HG1 := Lib.hid hg1
  have HS1 := Lib.hid hs1
  have hb1 : b < w1.heap.size := hs1.lt
  clear hz hs1 hg1
  go_wp2_with fail
  refine (RRead_f z1 w1 hf).mono ?_
  rintro e w2 ⟨v2, rfl, hv2, hb2, hfr⟩
  have hap := hfr.apart hb1
  obtain ⟨x2, X2, y2, z2, rfl⟩ := hv2.slice
  have HY := Lib.hid hv2.parts.2
  have hb2' : b < w2.heap.size := Nat.lt_of_lt_of_le hb1 hb2.size
  have hk := Blk.new w2 86 [.bool x2, .slice X2 y2 z2]
  have hB0 : Below w2.heap.size w2 (w2.alloc (.cells #[.bool x2, .slice X2 y2 z2] 86)) := (Below.refl _ _).alloc (Nat.le_refl _) _
  have HV := Lib.hid (hv2.below hB0)
  have HS2 := Lib.hid (HS1.out.below hb2)
  have HG2 := Lib.hid (grown_bel HG1.out hb2)
  have HAP := Lib.hid hap
  clear hv2 hfr hb2 hap hf
  go_upto_region 2 with (fail)
  generalize w2.alloc (.cells #[.bool x2, .slice X2 y2 z2] 86) = W2 at *
  have HK := Lib.hid hk
  have HB := Lib.hid hB0
  have k0 := HK.out.at_ (i := 0) rfl
  have k1 := HK.out.at_ (i := 1) rfl
  have f0 := HK.out.fr 0
  have f1 := HK.out.fr 1
  obtain ⟨gd, hgd⟩ : ∃ gd, w2.heap.size = gd := ⟨_, rfl⟩
  have HGD := Lib.hid hgd
  rw [hgd] at hb2' HK k0 k1 f0 f1 ⊢
  clear hk hB0 hgd
  go_upto_if 15 with (fail)
  go_cut [] (fun wc => LongS w b d gd wc)
  case first =>
    by_cases h0 : z1 = 0
    · have hq : ((y2 : Int) == 0) = true := by rw [HY.out, h0]; show ((((limbs (0 : Int).natAbs).length : Nat) : Int) == 0) = true; rw [show (0 : Int).natAbs = 0 from rfl, limbs_zero]; rfl
      clear h0
      go_wp2_with fail
      refine (ROf_f 1 W2 (by decide) (by decide)).mono ?_
      rintro e w3 ⟨v3, rfl, hv3, hb3, hfr⟩
      have hap := hfr.apart (Nat.lt_of_lt_of_le (by rw [HGD.out]; exact hb2') HB.out.size)
      obtain ⟨x3, X3, y3, z3, rfl⟩ := hv3.slice
      have HK3 := Lib.hid (HK.out.below hb3)
      have HV3 := Lib.hid hv3
      have HB3 := Lib.hid (HB.out.trans (hb3.mono HB.out.size))
      have HA3 := Lib.hid hap
      clear hv3 hb3 hfr hap k0 k1 f0 f1
      have k0 := HK3.out.at_ (i := 0) rfl
      have k1 := HK3.out.at_ (i := 1) rfl
      have f0 := HK3.out.fr 0
      have f1 := HK3.out.fr 1
      go_wp2_with fail
      go_meet
      have hB4 := bel_set2 HB3.out (g := gd) (by rw [HGD.out]; exact Nat.le_refl _) (.bool x3) (.slice X3 y3 z3)
      refine ⟨1, x3, X3, y3, z3, by decide, ?_, HK3.out.set2 _ _, HV3.out.set2 HK3.out _ _, HA3.out, HS2.out.below hB4, grown_bel HG2.out hB4, hb2'⟩
      have : (10 : Nat) ^ 1 ≤ 10 ^ d := Nat.pow_le_pow_right (by decide) hd1
      show Dig d 1
      unfold Dig
      rw [show (1 : Int).natAbs = 1 from rfl]
      omega
    · have hq : ((y2 : Int) == 0) = false := by rw [HY.out, beq_eq_false_iff_ne]; have := limbs_length_pos.2 (show z1.natAbs ≠ 0 by omega); omega
      go_wp2_with fail
      go_meet
      exact ⟨z1, x2, X2, y2, z2, h0, HZ.out, HK.out, HV.out, HAP.out, HS2.out.below HB.out, grown_bel HG2.out HB.out, hb2'⟩
  case rest =>
    generalize Value.agg #[.bool x2, .slice X2 y2 z2] = t11
    clear HV HS2 HG2 HAP HK HB k0 k1 f0 f1 HY HZ HGD HS1 HG1
    obtain ⟨z, nb, A, l, c, hz0, hdz, hk, hv, hap, hsc, hgc, hbg⟩ := hcut
    have HDZ := Lib.hid hdz
    have HK := Lib.hid hk
    have HV := Lib.hid hv
    have HAP := Lib.hid hap
    have HSC := Lib.hid hsc
    have HGC := Lib.hid hgc
    have k0 := HK.out.at_ (i := 0) rfl
    have k1 := HK.out.at_ (i := 1) rfl
    have P0 := Lib.hid HK.out.drew.c2
    have HNE : Hid (some gd ≠ some b) := Lib.hid (fun e => by injection e with e; omega)
    have lz : (limbs z.natAbs).length ≤ 400 := Nat.le_trans (hdz.fits hd1 hd2).len (by decide)
    clear hdz hk hv hap hsc hgc
    have HSD : Hid (Src wc.drew b) := HSC.out
    go_wp2_with fail
    go_region_held3 (fun w' => C2 w' gd (.bool nb) (.slice A l c)) (first | with_reducible exact P0.out | with_reducible exact P3.out | with_reducible exact P4.out | with_reducible exact P5.out | with_reducible exact P6.out | go_keep) (first | (go_at_call 76; (with_reducible refine (RFGive_any _ _ _ HF5.out (sz.mono (by omega))).mono ?_); rintro e w6 ⟨rfl, hb⟩; have HK6 := Lib.hid (HK5.out.below hb); have P6 := Lib.hid HK6.out.c2; have HS6 := Lib.hid (HS5.out.below hb); have HG6 := Lib.hid (grown_bel HG5.out hb); clear hb) | (go_at_call 74; (with_reducible refine (RNew_num _ _ n z _ HN4.out HV4.out (by omega) (by omega) hz0).mono ?_); rintro e w5 ⟨v5, rfl, hv, hb⟩; have HF5 := Lib.hid hv; have HK5 := Lib.hid (HK4.out.below hb); have P5 := Lib.hid HK5.out.c2; have HS5 := Lib.hid (HS4.out.below hb); have HG5 := Lib.hid (grown_bel HG4.out hb); obtain ⟨x5, x5', X5, X5', y5, z5, y5', z5', rfl⟩ := hv.slice; clear hb hv) | (go_at_call 75; (with_reducible refine (RRead_fits n _ fn).mono ?_); rintro e w4 ⟨v4, rfl, hv, hb⟩; have HN4 := Lib.hid hv; have HK4 := Lib.hid (HK3.out.below hb); have P4 := Lib.hid HK4.out.c2; have HV4 := Lib.hid (HV3.out.below hb); have HS4 := Lib.hid (HS3.out.below hb); have HG4 := Lib.hid (grown_bel HG3.out hb); obtain ⟨x4, X4, y4, z4, rfl⟩ := hv.slice; clear hb hv) | (go_at_call 33; (with_reducible refine (HBG.out _ HSD.out).mono ?_); rintro e w3 ⟨n, rfl, hn, hs, hg⟩; have HDN := Lib.hid (show Dig d n from Dig.of_len hn); have HK3 := Lib.hid (HK.out.drew.grown hg HNE.out); have P3 := Lib.hid HK3.out.c2; have HV3 := Lib.hid (HV.out.drew.grown HAP.out hg); have HS3 := Lib.hid hs; have HG3 := Lib.hid (grown_trans (grown_drew HGC.out) hg); have fn : Fits n := HDN.out.fits hd1 hd2; have ln := fn.len; have sz : Sz 400 (Rat.divInt n z) := Sz.divInt hz0 (by omega) lz; clear hn hs hg))
    have hdr : DigR d (Rat.divInt n z) := DigR.of_divInt hz0 HDN.out HDZ.out
    have E1 := Lib.hid (outR_fits (hdr.fits hd1 hd2))
    have HDR := Lib.hid hdr
    clear hdr
    go_wp2_with fail
    go_ret
    exact ⟨_, by rw [E1.out]; rfl, HDR.out, HS6.out, HG6.out⟩

end Go.Proofs.YtecklmdlmldpgaaGreatDoor

namespace Go.Proofs.YtecklmdlmldpgaaGreatDoor
open Go.RowKit

theorem RatAdd_fit (x y z : Rat) (w : World) (hz : x + y = z) (fx : FitsR x) (fy : FitsR y) (fz : FitsR z) (henv : Env w) : Calls Tryz.prog 41 #[.string (rstr x), .string (rstr y)] w fun e w' => e = .returned (.tuple #[.string (rstr z), .int .i64 0]) ∧ Below w.heap.size w w' := by
  have h := RatAdd_ok x y w fx fy henv
  rw [hz, outR_fits fz, outRE_fits fz] at h
  exact h
theorem RatSub_fit (x y z : Rat) (w : World) (hz : x - y = z) (fx : FitsR x) (fy : FitsR y) (fz : FitsR z) (henv : Env w) : Calls Tryz.prog 44 #[.string (rstr x), .string (rstr y)] w fun e w' => e = .returned (.tuple #[.string (rstr z), .int .i64 0]) ∧ Below w.heap.size w w' := by
  have h := RatSub_ok x y w fx fy henv
  rw [hz, outR_fits fz, outRE_fits fz] at h
  exact h
theorem RatMul_fit (x y z : Rat) (w : World) (hz : x * y = z) (fx : FitsR x) (fy : FitsR y) (fz : FitsR z) (henv : Env w) : Calls Tryz.prog 45 #[.string (rstr x), .string (rstr y)] w fun e w' => e = .returned (.tuple #[.string (rstr z), .int .i64 0]) ∧ Below w.heap.size w w' := by
  have h := RatMul_ok x y w fx fy henv
  rw [hz, outR_fits fz, outRE_fits fz] at h
  exact h
theorem RatDiv_fit (x y z : Rat) (w : World) (hz : x / y = z) (fx : FitsR x) (fy : FitsR y) (fz : FitsR z) (hy : y ≠ 0) (henv : Env w) : Calls Tryz.prog 47 #[.string (rstr x), .string (rstr y)] w fun e w' => e = .returned (.tuple #[.string (rstr z), .int .i64 0]) ∧ Below w.heap.size w w' := by
  have h := RatDiv_ok x y w fx fy hy henv
  rw [hz, outR_fits fz, outRE_fits fz] at h
  exact h
theorem RatMake_fit (n m : Int) (z : Rat) (w : World) (hz : Rat.divInt n m = z) (fn : Fits n) (fm : Fits m) (fz : FitsR z) (hm : m ≠ 0) (henv : Env w) : Calls Tryz.prog 36 #[.string (str n), .string (str m)] w fun e w' => e = .returned (.tuple #[.string (rstr z), .int .i64 0]) ∧ Below w.heap.size w w' := by
  have h := RatMake_ok n m w fn fm hm henv
  rw [hz, outR_fits fz, outRE_fits fz] at h
  exact h
theorem rstr_is0 (q : Rat) : ((rstr q).toList == [48]) = decide (q = 0) := by
  rw [Lib.toList_data, rstr_list]
  by_cases h : q = 0
  · subst h
    rw [rtext_whole (show (0 : Rat).den = 1 from rfl), decide_eq_true rfl]
    show (Lib.itoa 0 == [48]) = true
    rw [itoa_zero]; rfl
  · rw [decide_eq_false h, beq_eq_false_iff_ne]
    exact rstr_ne_zero h
theorem rstr_lit {q : Rat} {n : Int} {d : Nat} {a b : List UInt8} (h1 : q.num = n) (h2 : q.den = d) (hd : d ≠ 1) (ha : Lib.itoa n = a) (hb : Lib.itoa (d : Int) = b) : rstr q = ⟨(a ++ 47 :: b).toArray⟩ := by
  unfold rstr
  rw [rtext_parts (by rw [h2]; exact hd), h1, h2, ha, hb]
theorem itoa_d {n : Nat} (h : n < 10) : Lib.itoa (n : Int) = [UInt8.ofNat (48 + n)] := by rw [itoa_pos, Lib.decDigits_one h]
theorem itoa_nd {n : Nat} (h : n < 10) (h0 : 0 < n) : Lib.itoa (-(n : Int)) = [45, UInt8.ofNat (48 + n)] := by rw [itoa_negNat _ h0, Lib.decDigits_one h]
theorem q_m32 : Rat.divInt 6 (-4) = Rat.divInt (-3) 2 := by decide +kernel
theorem q_56 : Rat.divInt 1 2 + Rat.divInt 1 3 = Rat.divInt 5 6 := by decide +kernel
theorem t_m32 : rstr (Rat.divInt (-3) 2) = ⟨#[45, 51, 47, 50]⟩ := rstr_lit (n := -3) (d := 2) (by decide +kernel) (by decide +kernel) (by decide) (itoa_nd (n := 3) (by decide) (by decide)) (itoa_d (n := 2) (by decide))
theorem t_12 : rstr (Rat.divInt 1 2) = ⟨#[49, 47, 50]⟩ := rstr_lit (n := 1) (d := 2) (by decide +kernel) (by decide +kernel) (by decide) (itoa_d (n := 1) (by decide)) (itoa_d (n := 2) (by decide))
theorem t_13 : rstr (Rat.divInt 1 3) = ⟨#[49, 47, 51]⟩ := rstr_lit (n := 1) (d := 3) (by decide +kernel) (by decide +kernel) (by decide) (itoa_d (n := 1) (by decide)) (itoa_d (n := 3) (by decide))
theorem t_56 : rstr (Rat.divInt 5 6) = ⟨#[53, 47, 54]⟩ := rstr_lit (n := 5) (d := 6) (by decide +kernel) (by decide +kernel) (by decide) (itoa_d (n := 5) (by decide)) (itoa_d (n := 6) (by decide))
theorem fitsR_small {q : Rat} (h1 : q.num.natAbs < 1000000000) (h2 : q.den < 1000000000) : FitsR q := ⟨fits_small h1, fits_small (by rw [Int.natAbs_natCast]; exact h2)⟩
theorem v_24 : validR [50, 47, 52] = false := by
  have hc : cutS [50, 47, 52] = ([50], [52], true) := rfl
  rw [validR_gcd (n := 2) (m := 4) (by rw [hc]) (by rw [hc]; exact (itoa_d (n := 2) (by decide)).symm) (by rw [hc]; exact (itoa_d (n := 4) (by decide)).symm) (fits_small (by decide)) (fits_small (by decide)) (by decide) (by decide)]
  decide
theorem str_m3 : str (-3) = ⟨#[45, 51]⟩ := str_neg1 (n := 3) (by decide) (by decide)

set_option maxRecDepth 100000 in
set_option maxHeartbeats 4000000 in
theorem RSane (w : World) (henv : Env w) : Calls Tryz.prog 37 #[] w fun e w' => e = .returned (.bool true) ∧ Below w.heap.size w w' := by
  have HE := Lib.hid henv
  clear henv
  have H1 := Lib.hid (fun W hW => RatMake_fit 6 (-4) _ W q_m32 (fits_small (by decide)) (fits_small (by decide)) (fitsR_small (by decide +kernel) (by decide +kernel)) (by decide) hW)
  rw [str_6, str_m4, t_m32] at H1
  have H2 := Lib.hid (fun W hW => RatAdd_fit _ _ _ W q_56 (fitsR_small (by decide +kernel) (by decide +kernel)) (fitsR_small (by decide +kernel) (by decide +kernel)) (fitsR_small (by decide +kernel) (by decide +kernel)) hW)
  rw [t_12, t_13, t_56] at H2
  have H3 := Lib.hid (fun W hW => RatFloor_ok (Rat.divInt (-3) 2) W (fitsR_small (by decide +kernel) (by decide +kernel)) hW)
  rw [show (Rat.divInt (-3) 2).floor = -2 by decide +kernel, t_m32, str_m2] at H3
  have H4 := Lib.hid (fun W hW => RatValid [50, 47, 52] W (by decide) hW)
  rw [v_24] at H4
  have H5 := Lib.hid (fun W hW => RatWhole_ok (-3) W (by decide) (by decide) hW)
  rw [str_m3] at H5
  go_enter Tryz.func37, Tryz.ntmps37
  go_wp2_with fail
  refine (H1.out w HE.out).mono ?_
  rintro e w1 ⟨rfl, hb⟩
  replace HE := Lib.hid (HE.out.below hb)
  have HB := Lib.hid hb
  clear hb
  go_wp2_with fail
  refine (H2.out w1 HE.out).mono ?_
  rintro e w2 ⟨rfl, hb⟩
  replace HE := Lib.hid (HE.out.below hb)
  replace HB := Lib.hid (HB.out.trans (hb.mono HB.out.size))
  clear hb
  go_wp2_with fail
  refine (H3.out w2 HE.out).mono ?_
  rintro e w3 ⟨rfl, hb⟩
  replace HE := Lib.hid (HE.out.below hb)
  replace HB := Lib.hid (HB.out.trans (hb.mono HB.out.size))
  clear hb
  go_wp2_with fail
  refine (H4.out w3 HE.out).mono ?_
  rintro e w4 ⟨rfl, hb⟩
  replace HE := Lib.hid (HE.out.below hb)
  replace HB := Lib.hid (HB.out.trans (hb.mono HB.out.size))
  clear hb
  go_wp2_with fail
  refine (H5.out w4 HE.out).mono ?_
  rintro e w5 ⟨rfl, hb⟩
  replace HE := Lib.hid (HE.out.below hb)
  replace HB := Lib.hid (HB.out.trans (hb.mono HB.out.size))
  clear hb
  go_wp2_with fail
  go_ret
  exact ⟨rfl, HB.out⟩

end Go.Proofs.YtecklmdlmldpgaaGreatDoor

namespace Go.Proofs.YtecklmdlmldpgaaGreatDoor
open Go.ChangeShapes Go.WideShapes Go.ChangeAt Go.RowKit

theorem env_of {W : World} (h : laidMetH Tryz.prog laidList W) (hs : W.ShapedOpen Tryz.prog) : Env W :=
  ⟨tab_of h, cell_of_shapedOpen_int (zero := #[.int .i64 0]) (t := 3) hs (of_decide_eq_true (by kernel_rfl)) (by kernel_rfl) rfl (by kernel_rfl) (by kernel_rfl) Tryz.underlying3⟩
theorem i16_wf {n : Int} (h : (Lit.int .i16 n).wf = true) : -32768 ≤ n ∧ n ≤ 32767 := by
  rw [Lit.wf, show IntKind.i16.min = -32768 by decide, show IntKind.i16.max = 32767 by decide] at h
  simpa using h
theorem u8_wfB {n : Int} (h : (Lit.int .u8 n).wf = true) : 0 ≤ n ∧ n ≤ 255 := by
  rw [Lit.wf, show IntKind.u8.min = 0 by decide, show IntKind.u8.max = 255 by decide] at h
  simpa using h
end Go.Proofs.YtecklmdlmldpgaaGreatDoor
