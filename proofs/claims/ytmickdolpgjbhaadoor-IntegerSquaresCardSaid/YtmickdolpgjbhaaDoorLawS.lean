/-
  The walk of IntegerSquares.
-/
import Derived.Test.YtmickdolpgjbhaaDoorLawA
namespace Go.Proofs.YtmickdolpgjbhaaDoor
open Go.RowKit

set_option maxRecDepth 100000 in
set_option maxHeartbeats 4000000 in
theorem IntegerSquares_any (A : Option Addr) (l c : Nat) (w : World) (h : Ints w A l) (hlc : l ≤ c) (hl : l ≤ 9223372036854775807) (htab : Tab w) : Calls Tryd.prog 4 #[.slice A l c] w fun e w' => e = .returned (.bool true) ∧ Below w.heap.size w w' := by
  have HT := Lib.hid htab
  have HI := Lib.hid h
  clear htab h
  go_enter Tryd.func4, Tryd.ntmps4
  go_wp2_with fail
  refine (New_any A l c w HI.out hlc hl).mono ?_
  rintro e w0 ⟨rfl, hs, hb⟩
  have HS0 := Lib.hid hs
  have HB0 := Lib.hid hb
  clear hs hb
  go_wp2_with fail
  refine (Big_any w.heap.size 30 w0 HS0.out (by decide) (by decide)).mono ?_
  rintro e w1 ⟨a, rfl, hz, hs, hg⟩
  have HS1 := Lib.hid hs
  have HB1 := Lib.hid (below_grown HB0.out HB0.out.size hg)
  have Da := Lib.hid (show Dig 30 a from Dig.of_len hz)
  clear hz hs hg
  go_wp2_with fail
  refine (Big_any w.heap.size 30 w1 HS1.out (by decide) (by decide)).mono ?_
  rintro e w2 ⟨b, rfl, hz, hs, hg⟩
  have HS2 := Lib.hid hs
  have HB2 := Lib.hid (below_grown HB1.out HB1.out.size hg)
  have Db := Lib.hid (show Dig 30 b from Dig.of_len hz)
  clear hz hs hg
  obtain ⟨sm, hz⟩ : ∃ z : Int, a + b = z := ⟨_, rfl⟩
  have Esm := Lib.hid hz
  clear hz
  have Dsm := Lib.hid (show Dig 31 sm from ((Da.out.mono (b := 30) (by decide)).add (Db.out.mono (b := 30) (by decide)) Esm.out rfl))
  go_wp2_with fail
  refine (IAdd_fit a b sm w2 Esm.out (Da.out.fits (by decide) (by decide)) (Db.out.fits (by decide) (by decide)) (Dsm.out.fits (by decide) (by decide)) (HT.out.below HB2.out)).mono ?_
  rintro e w3 ⟨rfl, hb⟩
  have HB3 := Lib.hid (HB2.out.trans (hb.mono HB2.out.size))
  clear hb
  obtain ⟨df, hz⟩ : ∃ z : Int, a - b = z := ⟨_, rfl⟩
  have Edf := Lib.hid hz
  clear hz
  have Ddf := Lib.hid (show Dig 31 df from ((Da.out.mono (b := 30) (by decide)).sub (Db.out.mono (b := 30) (by decide)) Edf.out rfl))
  go_wp2_with fail
  refine (ISub_fit a b df w3 Edf.out (Da.out.fits (by decide) (by decide)) (Db.out.fits (by decide) (by decide)) (Ddf.out.fits (by decide) (by decide)) (HT.out.below HB3.out)).mono ?_
  rintro e w4 ⟨rfl, hb⟩
  have HB4 := Lib.hid (HB3.out.trans (hb.mono HB3.out.size))
  clear hb
  obtain ⟨sq, hz⟩ : ∃ z : Int, sm * sm = z := ⟨_, rfl⟩
  have Esq := Lib.hid hz
  clear hz
  have Dsq := Lib.hid (show Dig 62 sq from (Dsm.out.mul Dsm.out Esq.out rfl))
  go_wp2_with fail
  refine (IMul_fit sm sm sq w4 Esq.out (Dsm.out.fits (by decide) (by decide)) (Dsm.out.fits (by decide) (by decide)) (Dsq.out.fits (by decide) (by decide)) (HT.out.below HB4.out)).mono ?_
  rintro e w5 ⟨rfl, hb⟩
  have HB5 := Lib.hid (HB4.out.trans (hb.mono HB4.out.size))
  clear hb
  obtain ⟨aa, hz⟩ : ∃ z : Int, a * a = z := ⟨_, rfl⟩
  have Eaa := Lib.hid hz
  clear hz
  have Daa := Lib.hid (show Dig 60 aa from (Da.out.mul Da.out Eaa.out rfl))
  go_wp2_with fail
  refine (IMul_fit a a aa w5 Eaa.out (Da.out.fits (by decide) (by decide)) (Da.out.fits (by decide) (by decide)) (Daa.out.fits (by decide) (by decide)) (HT.out.below HB5.out)).mono ?_
  rintro e w6 ⟨rfl, hb⟩
  have HB6 := Lib.hid (HB5.out.trans (hb.mono HB5.out.size))
  clear hb
  obtain ⟨bb, hz⟩ : ∃ z : Int, b * b = z := ⟨_, rfl⟩
  have Ebb := Lib.hid hz
  clear hz
  have Dbb := Lib.hid (show Dig 60 bb from (Db.out.mul Db.out Ebb.out rfl))
  go_wp2_with fail
  refine (IMul_fit b b bb w6 Ebb.out (Db.out.fits (by decide) (by decide)) (Db.out.fits (by decide) (by decide)) (Dbb.out.fits (by decide) (by decide)) (HT.out.below HB6.out)).mono ?_
  rintro e w7 ⟨rfl, hb⟩
  have HB7 := Lib.hid (HB6.out.trans (hb.mono HB6.out.size))
  clear hb
  obtain ⟨ab, hz⟩ : ∃ z : Int, a * b = z := ⟨_, rfl⟩
  have Eab := Lib.hid hz
  clear hz
  have Dab := Lib.hid (show Dig 60 ab from (Da.out.mul Db.out Eab.out rfl))
  go_wp2_with fail
  refine (IMul_fit a b ab w7 Eab.out (Da.out.fits (by decide) (by decide)) (Db.out.fits (by decide) (by decide)) (Dab.out.fits (by decide) (by decide)) (HT.out.below HB7.out)).mono ?_
  rintro e w8 ⟨rfl, hb⟩
  have HB8 := Lib.hid (HB7.out.trans (hb.mono HB7.out.size))
  clear hb
  obtain ⟨x, hz⟩ : ∃ z : Int, aa + bb = z := ⟨_, rfl⟩
  have Ex := Lib.hid hz
  clear hz
  have Dx := Lib.hid (show Dig 61 x from ((Daa.out.mono (b := 60) (by decide)).add (Dbb.out.mono (b := 60) (by decide)) Ex.out rfl))
  go_wp2_with fail
  refine (IAdd_fit aa bb x w8 Ex.out (Daa.out.fits (by decide) (by decide)) (Dbb.out.fits (by decide) (by decide)) (Dx.out.fits (by decide) (by decide)) (HT.out.below HB8.out)).mono ?_
  rintro e w9 ⟨rfl, hb⟩
  have HB9 := Lib.hid (HB8.out.trans (hb.mono HB8.out.size))
  clear hb
  obtain ⟨two, hz⟩ : ∃ z : Int, ab + ab = z := ⟨_, rfl⟩
  have Etwo := Lib.hid hz
  clear hz
  have Dtwo := Lib.hid (show Dig 61 two from ((Dab.out.mono (b := 60) (by decide)).add (Dab.out.mono (b := 60) (by decide)) Etwo.out rfl))
  go_wp2_with fail
  refine (IAdd_fit ab ab two w9 Etwo.out (Dab.out.fits (by decide) (by decide)) (Dab.out.fits (by decide) (by decide)) (Dtwo.out.fits (by decide) (by decide)) (HT.out.below HB9.out)).mono ?_
  rintro e w10 ⟨rfl, hb⟩
  have HB10 := Lib.hid (HB9.out.trans (hb.mono HB9.out.size))
  clear hb
  go_wp2_with fail
  refine (IAdd_fit x two sq w10 (by rw [← Ex.out, ← Etwo.out, ← Eaa.out, ← Ebb.out, ← Eab.out, ← Esq.out, ← Esm.out, Int.add_mul, Int.mul_add, Int.mul_add, Int.mul_comm b a]; omega) (Dx.out.fits (by decide) (by decide)) (Dtwo.out.fits (by decide) (by decide)) (Dsq.out.fits (by decide) (by decide)) (HT.out.below HB10.out)).mono ?_
  rintro e w11 ⟨rfl, hb⟩
  have HB11 := Lib.hid (HB10.out.trans (hb.mono HB10.out.size))
  clear hb
  obtain ⟨p, hz⟩ : ∃ z : Int, sm * df = z := ⟨_, rfl⟩
  have Ep := Lib.hid hz
  clear hz
  have Dp := Lib.hid (show Dig 62 p from (Dsm.out.mul Ddf.out Ep.out rfl))
  go_wp2_with fail
  refine (IMul_fit sm df p w11 Ep.out (Dsm.out.fits (by decide) (by decide)) (Ddf.out.fits (by decide) (by decide)) (Dp.out.fits (by decide) (by decide)) (HT.out.below HB11.out)).mono ?_
  rintro e w12 ⟨rfl, hb⟩
  have HB12 := Lib.hid (HB11.out.trans (hb.mono HB11.out.size))
  clear hb
  go_wp2_with fail
  refine (ISub_fit aa bb p w12 (by rw [← Eaa.out, ← Ebb.out, ← Ep.out, ← Esm.out, ← Edf.out, Int.add_mul, Int.mul_sub, Int.mul_sub, Int.mul_comm b a]; omega) (Daa.out.fits (by decide) (by decide)) (Dbb.out.fits (by decide) (by decide)) (Dp.out.fits (by decide) (by decide)) (HT.out.below HB12.out)).mono ?_
  rintro e w13 ⟨rfl, hb⟩
  have HB13 := Lib.hid (HB12.out.trans (hb.mono HB12.out.size))
  clear hb
  have hcl : ∀ k : Nat, k < 11 → (w13.alloc (.cells #[.int .i64 0, .int .i64 0, .int .i64 0, .int .i64 0, .int .i64 0, .int .i64 0, .int .i64 0, .int .i64 0, .int .i64 0, .int .i64 0, .int .i64 0] 29)).cell? ⟨w13.heap.size, k, none⟩ = some (.int .i64 0) := by
    intro k hk
    rw [World.cell?_alloc_new]
    match k, hk with
    | 0, _ => rfl
    | 1, _ => rfl
    | 2, _ => rfl
    | 3, _ => rfl
    | 4, _ => rfl
    | 5, _ => rfl
    | 6, _ => rfl
    | 7, _ => rfl
    | 8, _ => rfl
    | 9, _ => rfl
    | 10, _ => rfl
  have HBW := Lib.hid (HB13.out.alloc HB13.out.size (.cells #[.int .i64 0, .int .i64 0, .int .i64 0, .int .i64 0, .int .i64 0, .int .i64 0, .int .i64 0, .int .i64 0, .int .i64 0, .int .i64 0, .int .i64 0] 29))
  go_wp2_with fail
  generalize w13.alloc (.cells #[.int .i64 0, .int .i64 0, .int .i64 0, .int .i64 0, .int .i64 0, .int .i64 0, .int .i64 0, .int .i64 0, .int .i64 0, .int .i64 0, .int .i64 0] 29) = W at *
  have HCL := Lib.hid hcl
  clear hcl
  go_loopw [115] (fun ix wr => ∃ k : Nat, ix = .int .i64 (k : Int) ∧ k ≤ 11 ∧ wr = W) (fun ix _ => 11 - (intOf ix).toNat)
  case atStart => exact ⟨0, rfl, by omega, rfl⟩
  case round =>
    obtain ⟨k, rfl, hk, rfl⟩ := hrel
    by_cases hlt : k < 11
    · have hck := HCL.out k hlt
      go_wp2_with fail
      go_roundw
      case rel => exact ⟨k + 1, by simp, by omega, by first | rfl | trivial⟩
      case measure => simp [intOf]; omega
    · go_wp2_with fail
      refine (sane_any wr (HT.out.below HBW.out)).mono ?_
      rintro e wz ⟨rfl, hb⟩
      have HZ := Lib.hid (HBW.out.trans (hb.mono HBW.out.size))
      clear hb
      go_wp2_with fail
      go_ret
      exact ⟨rfl, HZ.out⟩

end Go.Proofs.YtmickdolpgjbhaaDoor
