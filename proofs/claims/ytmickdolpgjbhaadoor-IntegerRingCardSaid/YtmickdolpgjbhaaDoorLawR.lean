/-
  The walk of IntegerRing.
-/
import Derived.Test.YtmickdolpgjbhaaDoorLawA
namespace Go.Proofs.YtmickdolpgjbhaaDoor
open Go.RowKit

set_option maxRecDepth 100000 in
set_option maxHeartbeats 4000000 in
theorem IntegerRing_any (A : Option Addr) (l c : Nat) (w : World) (h : Ints w A l) (hlc : l ≤ c) (hl : l ≤ 9223372036854775807) (htab : Tab w) : Calls Tryd.prog 5 #[.slice A l c] w fun e w' => e = .returned (.bool true) ∧ Below w.heap.size w w' := by
  have HT := Lib.hid htab
  have HI := Lib.hid h
  clear htab h
  go_enter Tryd.func5, Tryd.ntmps5
  go_wp2_with fail
  refine (New_any A l c w HI.out hlc hl).mono ?_
  rintro e w0 ⟨rfl, hs, hb⟩
  have HS0 := Lib.hid hs
  have HB0 := Lib.hid hb
  clear hs hb
  go_wp2_with fail
  refine (Big_any w.heap.size 40 w0 HS0.out (by decide) (by decide)).mono ?_
  rintro e w1 ⟨a, rfl, hz, hs, hg⟩
  have HS1 := Lib.hid hs
  have HB1 := Lib.hid (below_grown HB0.out HB0.out.size hg)
  have Da := Lib.hid (show Dig 40 a from Dig.of_len hz)
  clear hz hs hg
  go_wp2_with fail
  refine (Big_any w.heap.size 40 w1 HS1.out (by decide) (by decide)).mono ?_
  rintro e w2 ⟨b, rfl, hz, hs, hg⟩
  have HS2 := Lib.hid hs
  have HB2 := Lib.hid (below_grown HB1.out HB1.out.size hg)
  have Db := Lib.hid (show Dig 40 b from Dig.of_len hz)
  clear hz hs hg
  go_wp2_with fail
  refine (Big_any w.heap.size 40 w2 HS2.out (by decide) (by decide)).mono ?_
  rintro e w3 ⟨c, rfl, hz, hs, hg⟩
  have HS3 := Lib.hid hs
  have HB3 := Lib.hid (below_grown HB2.out HB2.out.size hg)
  have Dc := Lib.hid (show Dig 40 c from Dig.of_len hz)
  clear hz hs hg
  obtain ⟨ab, hz⟩ : ∃ z : Int, a + b = z := ⟨_, rfl⟩
  have Eab := Lib.hid hz
  clear hz
  have Dab := Lib.hid (show Dig 41 ab from ((Da.out.mono (b := 40) (by decide)).add (Db.out.mono (b := 40) (by decide)) Eab.out rfl))
  go_wp2_with fail
  refine (IAdd_fit a b ab w3 Eab.out (Da.out.fits (by decide) (by decide)) (Db.out.fits (by decide) (by decide)) (Dab.out.fits (by decide) (by decide)) (HT.out.below HB3.out)).mono ?_
  rintro e w4 ⟨rfl, hb⟩
  have HB4 := Lib.hid (HB3.out.trans (hb.mono HB3.out.size))
  clear hb
  go_wp2_with fail
  refine (IAdd_fit b a ab w4 (by rw [Int.add_comm]; exact Eab.out) (Db.out.fits (by decide) (by decide)) (Da.out.fits (by decide) (by decide)) (Dab.out.fits (by decide) (by decide)) (HT.out.below HB4.out)).mono ?_
  rintro e w5 ⟨rfl, hb⟩
  have HB5 := Lib.hid (HB4.out.trans (hb.mono HB4.out.size))
  clear hb
  obtain ⟨p, hz⟩ : ∃ z : Int, ab * c = z := ⟨_, rfl⟩
  have Ep := Lib.hid hz
  clear hz
  have Dp := Lib.hid (show Dig 81 p from (Dab.out.mul Dc.out Ep.out rfl))
  go_wp2_with fail
  refine (IMul_fit ab c p w5 Ep.out (Dab.out.fits (by decide) (by decide)) (Dc.out.fits (by decide) (by decide)) (Dp.out.fits (by decide) (by decide)) (HT.out.below HB5.out)).mono ?_
  rintro e w6 ⟨rfl, hb⟩
  have HB6 := Lib.hid (HB5.out.trans (hb.mono HB5.out.size))
  clear hb
  obtain ⟨q, hz⟩ : ∃ z : Int, a * c = z := ⟨_, rfl⟩
  have Eq := Lib.hid hz
  clear hz
  have Dq := Lib.hid (show Dig 80 q from (Da.out.mul Dc.out Eq.out rfl))
  go_wp2_with fail
  refine (IMul_fit a c q w6 Eq.out (Da.out.fits (by decide) (by decide)) (Dc.out.fits (by decide) (by decide)) (Dq.out.fits (by decide) (by decide)) (HT.out.below HB6.out)).mono ?_
  rintro e w7 ⟨rfl, hb⟩
  have HB7 := Lib.hid (HB6.out.trans (hb.mono HB6.out.size))
  clear hb
  obtain ⟨r, hz⟩ : ∃ z : Int, b * c = z := ⟨_, rfl⟩
  have Er := Lib.hid hz
  clear hz
  have Dr := Lib.hid (show Dig 80 r from (Db.out.mul Dc.out Er.out rfl))
  go_wp2_with fail
  refine (IMul_fit b c r w7 Er.out (Db.out.fits (by decide) (by decide)) (Dc.out.fits (by decide) (by decide)) (Dr.out.fits (by decide) (by decide)) (HT.out.below HB7.out)).mono ?_
  rintro e w8 ⟨rfl, hb⟩
  have HB8 := Lib.hid (HB7.out.trans (hb.mono HB7.out.size))
  clear hb
  go_wp2_with fail
  refine (IAdd_fit q r p w8 (by rw [← Eq.out, ← Er.out, ← Ep.out, ← Eab.out, Int.add_mul]) (Dq.out.fits (by decide) (by decide)) (Dr.out.fits (by decide) (by decide)) (Dp.out.fits (by decide) (by decide)) (HT.out.below HB8.out)).mono ?_
  rintro e w9 ⟨rfl, hb⟩
  have HB9 := Lib.hid (HB8.out.trans (hb.mono HB8.out.size))
  clear hb
  go_wp2_with fail
  refine (ISub_fit ab b a w9 (by rw [← Eab.out]; omega) (Dab.out.fits (by decide) (by decide)) (Db.out.fits (by decide) (by decide)) (Da.out.fits (by decide) (by decide)) (HT.out.below HB9.out)).mono ?_
  rintro e w10 ⟨rfl, hb⟩
  have HB10 := Lib.hid (HB9.out.trans (hb.mono HB9.out.size))
  clear hb
  go_wp2_with fail
  refine (sane_any w10 (HT.out.below HB10.out)).mono ?_
  rintro e wz ⟨rfl, hb⟩
  have HZ := Lib.hid (HB10.out.trans (hb.mono HB10.out.size))
  clear hb
  go_wp2_with fail
  go_ret
  exact ⟨rfl, HZ.out⟩

end Go.Proofs.YtmickdolpgjbhaaDoor
