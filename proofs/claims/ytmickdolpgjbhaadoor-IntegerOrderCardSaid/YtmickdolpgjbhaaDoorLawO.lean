/-
  The walk of IntegerOrder.
-/
import Derived.Test.YtmickdolpgjbhaaDoorLawA
import Derived.Test.YtmickdolpgjbhaaDoorLimS
namespace Go.Proofs.YtmickdolpgjbhaaDoor
open Go.RowKit

theorem ICompare_fit (x y : Int) (s : Int) (w : World) (hs : sg (x - y) = s) (hfx : Fits x) (hfy : Fits y) : Calls Tryd.prog 14 #[.string (str x), .string (str y)] w fun e w' => e = .returned (.int .i64 s) ∧ Below w.heap.size w w' := hs ▸ ICompare_ok x y w hfx hfy
theorem ISign_fit (x : Int) (s : Int) (w : World) (hs : sg x = s) (hfx : Fits x) : Calls Tryd.prog 15 #[.string (str x)] w fun e w' => e = .returned (.int .i64 s) ∧ Below w.heap.size w w' := hs ▸ ISign_ok x w hfx
theorem ISmall_fit (x : Int) (v : Int) (b : Bool) (w : World) (hv : smallV x = v) (hb : smallB x = b) (hfx : Fits x) : Calls Tryd.prog 16 #[.string (str x)] w fun e w' => e = .returned (.tuple #[.int .i64 v, .bool b]) ∧ Below w.heap.size w w' := hv ▸ hb ▸ ISmall_ok x w hfx
theorem sg_bounds (z : Int) : -1 ≤ sg z ∧ sg z ≤ 1 := by unfold sg; split <;> (try split) <;> omega
theorem sg_neg (z : Int) : sg (-z) = -sg z := by unfold sg; split <;> (try split) <;> (try split) <;> (try split) <;> omega
theorem sg_le {z : Int} : sg z ≤ 0 ↔ z ≤ 0 := by unfold sg; split <;> (try split) <;> omega
theorem int_fits {n : Int} (h0 : -9223372036854775808 ≤ n) (h1 : n ≤ 9223372036854775807) : Fits n := Dig.fits (d := 19) (show n.natAbs < 10 ^ 19 by omega) (by decide) (by decide)

set_option maxRecDepth 100000 in
set_option maxHeartbeats 4000000 in
theorem IntegerOrder_any (A : Option Addr) (l c : Nat) (w : World) (h : Ints w A l) (hlc : l ≤ c) (hl : l ≤ 9223372036854775807) (htab : Tab w) (n : Int) (hn0 : -9223372036854775808 ≤ n) (hn1 : n ≤ 9223372036854775807) : Calls Tryd.prog 6 #[.slice A l c, .int .i64 n] w fun e w' => e = .returned (.bool true) ∧ Below w.heap.size w w' := by
  have HT := Lib.hid htab
  have HFN := Lib.hid (int_fits hn0 hn1)
  have HI := Lib.hid h
  clear htab h
  go_enter Tryd.func6, Tryd.ntmps6
  go_wp2_with fail
  refine (New_any A l c w HI.out hlc hl).mono ?_
  rintro e w0 ⟨rfl, hs, hb⟩
  have HS0 := Lib.hid hs
  have HB0 := Lib.hid hb
  clear hs hb
  go_wp2_with fail
  refine (Big_any w.heap.size 25 w0 HS0.out (by decide) (by decide)).mono ?_
  rintro e w1 ⟨a, rfl, hz, hs, hg⟩
  have HS1 := Lib.hid hs
  have HB1 := Lib.hid (below_grown HB0.out HB0.out.size hg)
  have Da := Lib.hid (show Dig 25 a from Dig.of_len hz)
  clear hz hs hg
  go_wp2_with fail
  refine (Big_any w.heap.size 25 w1 HS1.out (by decide) (by decide)).mono ?_
  rintro e w2 ⟨b, rfl, hz, hs, hg⟩
  have HS2 := Lib.hid hs
  have HB2 := Lib.hid (below_grown HB1.out HB1.out.size hg)
  have Db := Lib.hid (show Dig 25 b from Dig.of_len hz)
  clear hz hs hg
  go_wp2_with fail
  refine (Big_any w.heap.size 25 w2 HS2.out (by decide) (by decide)).mono ?_
  rintro e w3 ⟨c, rfl, hz, hs, hg⟩
  have HS3 := Lib.hid hs
  have HB3 := Lib.hid (below_grown HB2.out HB2.out.size hg)
  have Dc := Lib.hid (show Dig 25 c from Dig.of_len hz)
  clear hz hs hg
  obtain ⟨d, hz⟩ : ∃ z : Int, a - b = z := ⟨_, rfl⟩
  have Ed := Lib.hid hz
  clear hz
  have Dd := Lib.hid (show Dig 26 d from ((Da.out.mono (b := 25) (by decide)).sub (Db.out.mono (b := 25) (by decide)) Ed.out rfl))
  go_wp2_with fail
  refine (ISub_fit a b d w3 Ed.out (Da.out.fits (by decide) (by decide)) (Db.out.fits (by decide) (by decide)) (Dd.out.fits (by decide) (by decide)) (HT.out.below HB3.out)).mono ?_
  rintro e w4 ⟨rfl, hb⟩
  have HB4 := Lib.hid (HB3.out.trans (hb.mono HB3.out.size))
  clear hb
  obtain ⟨s, hs⟩ : ∃ s : Int, sg d = s := ⟨_, rfl⟩
  obtain ⟨s2, hs2⟩ : ∃ s2 : Int, sg (b - c) = s2 := ⟨_, rfl⟩
  obtain ⟨s3, hs3⟩ : ∃ s3 : Int, sg (a - c) = s3 := ⟨_, rfl⟩
  have hsb := sg_bounds d
  rw [hs] at hsb
  have FA := Lib.hid (Da.out.fits (by decide) (by decide))
  have FB := Lib.hid (Db.out.fits (by decide) (by decide))
  have FC := Lib.hid (Dc.out.fits (by decide) (by decide))
  have FD := Lib.hid (Dd.out.fits (by decide) (by decide))
  have CAB := Lib.hid (fun W => ICompare_fit a b s W (by rw [Ed.out]; exact hs) FA.out FB.out)
  have CBA := Lib.hid (fun W => ICompare_fit b a (-s) W (by rw [← hs, ← sg_neg, ← Ed.out, Int.neg_sub]) FB.out FA.out)
  have SD := Lib.hid (fun W => ISign_fit d s W hs FD.out)
  have CBC := Lib.hid (fun W => ICompare_fit b c s2 W hs2 FB.out FC.out)
  have CAC := Lib.hid (fun W => ICompare_fit a c s3 W hs3 FA.out FC.out)
  have TR := Lib.hid (show s ≤ 0 → s2 ≤ 0 → s3 ≤ 0 from fun e1 e2 => by
    rw [← hs] at e1; rw [← hs2] at e2; rw [← hs3]
    have f1 := sg_le.1 e1
    have f2 := sg_le.1 e2
    exact sg_le.2 (by have := Ed.out; omega))
  clear hs hs2 hs3
  have ews : IntKind.i64.wrap (-s) = -s := IntWalk.i64_in _ (by omega)
  go_wp2_with fail
  refine (CAB.out w4).mono ?_
  rintro e w5 ⟨rfl, hb⟩
  have HB5 := Lib.hid (HB4.out.trans (hb.mono HB4.out.size))
  clear hb
  go_wp2_with fail
  refine (SD.out w5).mono ?_
  rintro e w6 ⟨rfl, hb⟩
  have HB6 := Lib.hid (HB5.out.trans (hb.mono HB5.out.size))
  clear hb
  go_wp2_with fail
  refine (CBA.out w6).mono ?_
  rintro e w7 ⟨rfl, hb⟩
  have HB7 := Lib.hid (HB6.out.trans (hb.mono HB6.out.size))
  clear hb
  go_wp2_with fail
  refine (SD.out w7).mono ?_
  rintro e w8 ⟨rfl, hb⟩
  have HB8 := Lib.hid (HB7.out.trans (hb.mono HB7.out.size))
  clear hb
  go_wp2_with fail
  refine (CAB.out w8).mono ?_
  rintro e w9 ⟨rfl, hb⟩
  have HB9 := Lib.hid (HB8.out.trans (hb.mono HB8.out.size))
  clear hb
  by_cases h1 : s ≤ 0
  · skip
    go_wp2_with fail
    refine (CBC.out w9).mono ?_
    rintro e w10 ⟨rfl, hb⟩
    have HB10 := Lib.hid (HB9.out.trans (hb.mono HB9.out.size))
    clear hb
    by_cases h2 : s2 ≤ 0
    · have h3 := TR.out h1 h2
      have h3' : ¬ 0 < s3 := by omega
      go_wp2_with fail
      refine (CAC.out w10).mono ?_
      rintro e w11 ⟨rfl, hb⟩
      have HB11 := Lib.hid (HB10.out.trans (hb.mono HB10.out.size))
      clear hb
      go_wp2_with fail
      refine (IMake_ok n w11 hn0 hn1 (HT.out.below HB11.out)).mono ?_
      rintro e w12 ⟨rfl, hb⟩
      have HB12 := Lib.hid (HB11.out.trans (hb.mono HB11.out.size))
      clear hb
      by_cases hsm : n.natAbs ≤ 4611686018427387904
      · have hlo : -4611686018427387904 ≤ n := by omega
        have hhi : n ≤ 4611686018427387904 := by omega
        have SM := Lib.hid (fun W => ISmall_fit n n true W (by unfold smallV; rw [if_pos hsm]) (by unfold smallB; simpa using hsm) HFN.out)
        clear hsm
        go_wp2_with fail
        refine (SM.out w12).mono ?_
        rintro e w13 ⟨rfl, hb⟩
        have HB13 := Lib.hid (HB12.out.trans (hb.mono HB12.out.size))
        clear hb
        go_wp2_with fail
        refine (sane_any w13 (HT.out.below HB13.out)).mono ?_
        rintro e w14 ⟨rfl, hb⟩
        have HB14 := Lib.hid (HB13.out.trans (hb.mono HB13.out.size))
        clear hb
        go_wp2_with fail
        go_ret
        exact ⟨rfl, HB14.out⟩
      · have SM := Lib.hid (fun W => ISmall_fit n 0 false W (by unfold smallV; rw [if_neg hsm]) (by unfold smallB; simpa using hsm) HFN.out)
        by_cases hlo : -4611686018427387904 ≤ n
        · have hhi : ¬ n ≤ 4611686018427387904 := by omega
          clear hsm
          go_wp2_with fail
          refine (SM.out w12).mono ?_
          rintro e w13 ⟨rfl, hb⟩
          have HB13 := Lib.hid (HB12.out.trans (hb.mono HB12.out.size))
          clear hb
          go_wp2_with fail
          refine (sane_any w13 (HT.out.below HB13.out)).mono ?_
          rintro e w14 ⟨rfl, hb⟩
          have HB14 := Lib.hid (HB13.out.trans (hb.mono HB13.out.size))
          clear hb
          go_wp2_with fail
          go_ret
          exact ⟨by show Ending.returned (Value.bool (!decide (n ≤ 4611686018427387904))) = _; rw [decide_eq_false (by omega)]; rfl, HB14.out⟩
        · clear hn1
          clear hsm
          go_wp2_with fail
          refine (SM.out w12).mono ?_
          rintro e w13 ⟨rfl, hb⟩
          have HB13 := Lib.hid (HB12.out.trans (hb.mono HB12.out.size))
          clear hb
          go_wp2_with fail
          refine (sane_any w13 (HT.out.below HB13.out)).mono ?_
          rintro e w14 ⟨rfl, hb⟩
          have HB14 := Lib.hid (HB13.out.trans (hb.mono HB13.out.size))
          clear hb
          go_wp2_with fail
          go_ret
          exact ⟨rfl, HB14.out⟩
    · skip
      go_wp2_with fail
      refine (IMake_ok n w10 hn0 hn1 (HT.out.below HB10.out)).mono ?_
      rintro e w11 ⟨rfl, hb⟩
      have HB11 := Lib.hid (HB10.out.trans (hb.mono HB10.out.size))
      clear hb
      by_cases hsm : n.natAbs ≤ 4611686018427387904
      · have hlo : -4611686018427387904 ≤ n := by omega
        have hhi : n ≤ 4611686018427387904 := by omega
        have SM := Lib.hid (fun W => ISmall_fit n n true W (by unfold smallV; rw [if_pos hsm]) (by unfold smallB; simpa using hsm) HFN.out)
        clear hsm
        go_wp2_with fail
        refine (SM.out w11).mono ?_
        rintro e w12 ⟨rfl, hb⟩
        have HB12 := Lib.hid (HB11.out.trans (hb.mono HB11.out.size))
        clear hb
        go_wp2_with fail
        refine (sane_any w12 (HT.out.below HB12.out)).mono ?_
        rintro e w13 ⟨rfl, hb⟩
        have HB13 := Lib.hid (HB12.out.trans (hb.mono HB12.out.size))
        clear hb
        go_wp2_with fail
        go_ret
        exact ⟨rfl, HB13.out⟩
      · have SM := Lib.hid (fun W => ISmall_fit n 0 false W (by unfold smallV; rw [if_neg hsm]) (by unfold smallB; simpa using hsm) HFN.out)
        by_cases hlo : -4611686018427387904 ≤ n
        · have hhi : ¬ n ≤ 4611686018427387904 := by omega
          clear hsm
          go_wp2_with fail
          refine (SM.out w11).mono ?_
          rintro e w12 ⟨rfl, hb⟩
          have HB12 := Lib.hid (HB11.out.trans (hb.mono HB11.out.size))
          clear hb
          go_wp2_with fail
          refine (sane_any w12 (HT.out.below HB12.out)).mono ?_
          rintro e w13 ⟨rfl, hb⟩
          have HB13 := Lib.hid (HB12.out.trans (hb.mono HB12.out.size))
          clear hb
          go_wp2_with fail
          go_ret
          exact ⟨by show Ending.returned (Value.bool (!decide (n ≤ 4611686018427387904))) = _; rw [decide_eq_false (by omega)]; rfl, HB13.out⟩
        · clear hn1
          clear hsm
          go_wp2_with fail
          refine (SM.out w11).mono ?_
          rintro e w12 ⟨rfl, hb⟩
          have HB12 := Lib.hid (HB11.out.trans (hb.mono HB11.out.size))
          clear hb
          go_wp2_with fail
          refine (sane_any w12 (HT.out.below HB12.out)).mono ?_
          rintro e w13 ⟨rfl, hb⟩
          have HB13 := Lib.hid (HB12.out.trans (hb.mono HB12.out.size))
          clear hb
          go_wp2_with fail
          go_ret
          exact ⟨rfl, HB13.out⟩
  · skip
    go_wp2_with fail
    refine (IMake_ok n w9 hn0 hn1 (HT.out.below HB9.out)).mono ?_
    rintro e w10 ⟨rfl, hb⟩
    have HB10 := Lib.hid (HB9.out.trans (hb.mono HB9.out.size))
    clear hb
    by_cases hsm : n.natAbs ≤ 4611686018427387904
    · have hlo : -4611686018427387904 ≤ n := by omega
      have hhi : n ≤ 4611686018427387904 := by omega
      have SM := Lib.hid (fun W => ISmall_fit n n true W (by unfold smallV; rw [if_pos hsm]) (by unfold smallB; simpa using hsm) HFN.out)
      clear hsm
      go_wp2_with fail
      refine (SM.out w10).mono ?_
      rintro e w11 ⟨rfl, hb⟩
      have HB11 := Lib.hid (HB10.out.trans (hb.mono HB10.out.size))
      clear hb
      go_wp2_with fail
      refine (sane_any w11 (HT.out.below HB11.out)).mono ?_
      rintro e w12 ⟨rfl, hb⟩
      have HB12 := Lib.hid (HB11.out.trans (hb.mono HB11.out.size))
      clear hb
      go_wp2_with fail
      go_ret
      exact ⟨rfl, HB12.out⟩
    · have SM := Lib.hid (fun W => ISmall_fit n 0 false W (by unfold smallV; rw [if_neg hsm]) (by unfold smallB; simpa using hsm) HFN.out)
      by_cases hlo : -4611686018427387904 ≤ n
      · have hhi : ¬ n ≤ 4611686018427387904 := by omega
        clear hsm
        go_wp2_with fail
        refine (SM.out w10).mono ?_
        rintro e w11 ⟨rfl, hb⟩
        have HB11 := Lib.hid (HB10.out.trans (hb.mono HB10.out.size))
        clear hb
        go_wp2_with fail
        refine (sane_any w11 (HT.out.below HB11.out)).mono ?_
        rintro e w12 ⟨rfl, hb⟩
        have HB12 := Lib.hid (HB11.out.trans (hb.mono HB11.out.size))
        clear hb
        go_wp2_with fail
        go_ret
        exact ⟨by show Ending.returned (Value.bool (!decide (n ≤ 4611686018427387904))) = _; rw [decide_eq_false (by omega)]; rfl, HB12.out⟩
      · clear hn1
        clear hsm
        go_wp2_with fail
        refine (SM.out w10).mono ?_
        rintro e w11 ⟨rfl, hb⟩
        have HB11 := Lib.hid (HB10.out.trans (hb.mono HB10.out.size))
        clear hb
        go_wp2_with fail
        refine (sane_any w11 (HT.out.below HB11.out)).mono ?_
        rintro e w12 ⟨rfl, hb⟩
        have HB12 := Lib.hid (HB11.out.trans (hb.mono HB11.out.size))
        clear hb
        go_wp2_with fail
        go_ret
        exact ⟨rfl, HB12.out⟩

end Go.Proofs.YtmickdolpgjbhaaDoor
