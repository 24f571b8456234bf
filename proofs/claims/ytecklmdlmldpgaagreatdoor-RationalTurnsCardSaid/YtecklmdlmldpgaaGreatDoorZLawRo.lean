/-
  The walk of RationalOrder.
-/
import Derived.Test.YtecklmdlmldpgaaGreatDoorZV
namespace Go.Proofs.YtecklmdlmldpgaaGreatDoor
open Go.RowKit

theorem one_fitsR : FitsR 1 := fitsR_small (by decide +kernel) (by decide +kernel)
theorem rstr_1 : rstr 1 = ⟨#[49]⟩ := by rw [rstr_whole (show (1 : Rat).den = 1 from rfl)]; exact str_1
theorem DigR.one : DigR 1 1 := ⟨by unfold Dig; decide, by unfold Dig; decide⟩
theorem floor_dig {d : Nat} {q : Rat} (h : DigR d q) (hd : 1 ≤ d) : DigR d ((q.floor : Int) : Rat) := by
  refine DigR.ofInt ?_ hd
  have := floor_le_num q
  have h1 := h.1
  unfold Dig at *
  omega
set_option maxRecDepth 100000 in
set_option maxHeartbeats 4000000 in
theorem RationalOrder_any (A : Option Addr) (l cp : Nat) (w : World) (h : Ints w A l) (hlc : l ≤ cp) (hl : l ≤ 9223372036854775807) (henv : Env w) : Calls Tryz.prog 10 #[.slice A l cp] w fun e w' => e = .returned (.bool true) ∧ Below w.heap.size w w' := by
  have HE := Lib.hid henv
  have HI := Lib.hid h
  clear henv h
  go_enter Tryz.func10, Tryz.ntmps10
  go_wp2_with fail
  refine (New_any A l cp w HI.out hlc hl).mono ?_
  rintro e w0 ⟨rfl, hs, hb⟩
  have HS := Lib.hid hs
  have HB := Lib.hid hb
  clear hs hb HI
  go_wp2_with fail
  refine (Long_any w.heap.size 9 w0 HS.out (by decide) (by decide)).mono ?_
  rintro e w1 ⟨a, rfl, hq, hs, hg⟩
  replace HS := Lib.hid hs
  replace HB := Lib.hid (below_grown HB.out HB.out.size hg)
  clear hs hg
  have Da := Lib.hid hq
  have Fa := Lib.hid (hq.fits (by decide) (by decide))
  clear hq
  go_wp2_with fail
  refine (Long_any w.heap.size 9 w1 HS.out (by decide) (by decide)).mono ?_
  rintro e w2 ⟨b, rfl, hq, hs, hg⟩
  replace HS := Lib.hid hs
  replace HB := Lib.hid (below_grown HB.out HB.out.size hg)
  clear hs hg
  have Db := Lib.hid hq
  have Fb := Lib.hid (hq.fits (by decide) (by decide))
  clear hq
  clear HS
  obtain ⟨s, hz⟩ : ∃ z : Rat, a - b = z := ⟨_, rfl⟩
  have Es := Lib.hid hz
  have Ds := Lib.hid (show DigR 19 s from Da.out.sub Db.out Es.out rfl)
  have Fs := Lib.hid (Ds.out.fits (by decide) (by decide))
  clear hz
  go_wp2_with fail
  refine (RatSub_fit a b s w2 Es.out Fa.out Fb.out Fs.out (HE.out.below HB.out)).mono ?_
  rintro e w3 ⟨rfl, hb⟩
  replace HB := Lib.hid (HB.out.trans (hb.mono HB.out.size))
  clear hb
  go_wp2_with fail
  refine (RatFloor_ok a w3 Fa.out (HE.out.below HB.out)).mono ?_
  rintro e w4 ⟨rfl, hb⟩
  replace HB := Lib.hid (HB.out.trans (hb.mono HB.out.size))
  clear hb
  obtain ⟨f, hz⟩ : ∃ z : Rat, ((a.floor : Int) : Rat) = z := ⟨_, rfl⟩
  have Ef := Lib.hid hz
  have Df := Lib.hid (show DigR 9 f by rw [← hz]; exact floor_dig Da.out (by decide))
  have Ff := Lib.hid (Df.out.fits (by decide) (by decide))
  rw [← rstr_int, hz]
  clear hz
  obtain ⟨g, hz⟩ : ∃ z : Rat, f + 1 = z := ⟨_, rfl⟩
  have Eg := Lib.hid hz
  have Dg := Lib.hid (show DigR 11 g from Df.out.add DigR.one Eg.out rfl)
  have Fg := Lib.hid (Dg.out.fits (by decide) (by decide))
  clear hz
  have HA := Lib.hid (fun W hE => RatAdd_fit f 1 g W Eg.out Ff.out one_fitsR Fg.out hE)
  rw [rstr_1] at HA
  go_wp2_with fail
  refine (HA.out w4 (HE.out.below HB.out)).mono ?_
  rintro e w5 ⟨rfl, hb⟩
  replace HB := Lib.hid (HB.out.trans (hb.mono HB.out.size))
  clear hb
  have c1 : sgR (f - a) ≤ 0 := by rw [← Ef.out]; exact floor_lo a
  have c2 : sgR (a - g) < 0 := by rw [← Eg.out, ← Ef.out]; exact floor_hi a
  have HC := Lib.hid (fun W hE => RatCompare_ok a b W Fa.out Fb.out hE)
  rw [Es.out] at HC
  go_wp2_with fail
  refine (HC.out w5 (HE.out.below HB.out)).mono ?_
  rintro e w6 ⟨rfl, hb⟩
  replace HB := Lib.hid (HB.out.trans (hb.mono HB.out.size))
  clear hb
  go_wp2_with fail
  refine (RatSign_ok s w6 Fs.out (HE.out.below HB.out)).mono ?_
  rintro e w7 ⟨rfl, hb⟩
  replace HB := Lib.hid (HB.out.trans (hb.mono HB.out.size))
  clear hb
  go_wp2_with fail
  refine (RatCompare_ok f a w7 Ff.out Fa.out (HE.out.below HB.out)).mono ?_
  rintro e w8 ⟨rfl, hb⟩
  replace HB := Lib.hid (HB.out.trans (hb.mono HB.out.size))
  clear hb
  go_wp2_with fail
  refine (RatCompare_ok a g w8 Fa.out Fg.out (HE.out.below HB.out)).mono ?_
  rintro e w9 ⟨rfl, hb⟩
  replace HB := Lib.hid (HB.out.trans (hb.mono HB.out.size))
  clear hb
  go_wp2_with fail
  refine (RSane w9 (HE.out.below HB.out)).mono ?_
  rintro e w10 ⟨rfl, hb⟩
  replace HB := Lib.hid (HB.out.trans (hb.mono HB.out.size))
  clear hb
  go_wp2_with fail
  go_ret
  exact ⟨rfl, HB.out⟩

end Go.Proofs.YtecklmdlmldpgaaGreatDoor
