/-
  Package integer: Add, Sub, Mul, Gcd.
-/
import Derived.Test.YtmickdolpgjbhaaGreatDoorIntB
namespace Go.Proofs.YtmickdolpgjbhaaGreatDoor
open Go.RowKit

set_option maxRecDepth 100000 in
set_option maxHeartbeats 1000000 in
theorem apply_bad (f : Nat) (l m : List UInt8) (w : World) (hl : l.length ≤ 140737488355328) (hm : m.length ≤ 140737488355328) (h : (validB l && validB m) = false) : Calls Tryz.prog 34 #[.string ⟨l.toArray⟩, .string ⟨m.toArray⟩, .func (.func f) #[] #[]] w fun e w' => e = .returned (.tuple #[.string ⟨#[]⟩, .int .i64 1]) ∧ Below w.heap.size w w' := by
  have HV := Lib.hid (Valid_any l w hl)
  cases h1 : validB l
  · rw [h1] at HV
    clear h1 h
    go_enter Tryz.func34, Tryz.ntmps34
    go_wp2_with fail
    refine HV.out.mono ?_
    rintro e w1 ⟨rfl, hb1⟩
    have HB1 := Lib.hid hb1
    clear hb1
    go_wp2_with fail
    go_ret2
    exact ⟨rfl, HB1.out⟩
  · have h2 : validB m = false := by rw [h1] at h; simpa using h
    have HV2 := Lib.hid (fun W => Valid_any m W hm)
    rw [h1] at HV
    rw [h2] at HV2
    clear h1 h2 h
    go_enter Tryz.func34, Tryz.ntmps34
    go_wp2_with fail
    refine HV.out.mono ?_
    rintro e w1 ⟨rfl, hb1⟩
    have HB1 := Lib.hid hb1
    clear hb1
    go_wp2_with fail
    refine (HV2.out w1).mono ?_
    rintro e w2 ⟨rfl, hb2⟩
    have HB2 := Lib.hid (HB1.out.trans (hb2.mono HB1.out.size))
    clear hb2
    go_wp2_with fail
    go_ret2
    exact ⟨rfl, HB2.out⟩

set_option maxRecDepth 100000 in
set_option maxHeartbeats 1000000 in
theorem applyAdd_ok (x y : Int) (w : World) (hfx : Fits x) (hfy : Fits y) (htab : Tab w) : Calls Tryz.prog 34 #[.string (str x), .string (str y), .func (.func 43) #[] #[]] w fun e w' => e = .returned (.tuple #[.string (outS (x + y)), .int .i64 (outE (x + y))]) ∧ Below w.heap.size w w' := by
  have HFX := Lib.hid hfx
  have HFY := Lib.hid hfy
  have HT := Lib.hid htab
  have hlx := hfx.len
  have hly := hfy.len
  clear hfx hfy htab
  go_enter Tryz.func34, Tryz.ntmps34
  go_wp2_with fail
  refine (Valid_ok x w HFX.out).mono ?_
  rintro e w1 ⟨rfl, hb1⟩
  have HB1 := Lib.hid hb1
  clear hb1
  go_wp2_with fail
  refine (Valid_ok y w1 HFY.out).mono ?_
  rintro e w2 ⟨rfl, hb2⟩
  have HB2 := Lib.hid (HB1.out.trans (hb2.mono HB1.out.size))
  clear hb2
  go_wp2_with fail
  refine (read_any x w2 HFX.out).mono ?_
  rintro e w3 ⟨v3, rfl, hv3, hb3⟩
  have HV3 := Lib.hid hv3
  have HB3 := Lib.hid (HB2.out.trans (hb3.mono HB2.out.size))
  clear hv3 hb3
  go_wp2_with fail
  refine (read_any y w3 HFY.out).mono ?_
  rintro e w4 ⟨v4, rfl, hv4, hb4⟩
  have HV4 := Lib.hid hv4
  have HV34 := Lib.hid (HV3.out.below hb4)
  have HB4 := Lib.hid (HB3.out.trans (hb4.mono HB3.out.size))
  clear hv4 hb4
  go_wp2_with fail
  refine (Add_any v3 v4 x y w4 HV34.out HV4.out (by omega) (by omega)).mono ?_
  rintro e w5 ⟨v5, rfl, hv5, hb5⟩
  have HV5 := Lib.hid hv5
  have HB5 := Lib.hid (HB4.out.trans (hb5.mono HB4.out.size))
  clear hv5 hb5
  have hl5 : (limbs (x + y).natAbs).length ≤ 10000000 := by
    have := limbs_length_natAbs_add (k := 45) hlx hly; omega
  go_wp2_with fail
  refine (text_any v5 (x + y) w5 HV5.out hl5 (HT.out.below HB5.out)).mono ?_
  rintro e w6 ⟨rfl, hb6⟩
  have HB6 := Lib.hid (HB5.out.trans (hb6.mono HB5.out.size))
  clear hb6
  go_wp2_with fail
  go_ret2
  exact ⟨rfl, HB6.out⟩
set_option maxRecDepth 100000 in
set_option maxHeartbeats 1000000 in
theorem IAdd_ok (x y : Int) (w : World) (hfx : Fits x) (hfy : Fits y) (htab : Tab w) : Calls Tryz.prog 12 #[.string (str x), .string (str y)] w fun e w' => e = .returned (.tuple #[.string (outS (x + y)), .int .i64 (outE (x + y))]) ∧ Below w.heap.size w w' := by
  have HA := Lib.hid (applyAdd_ok x y w hfx hfy htab)
  clear hfx hfy htab
  go_enter Tryz.func12, Tryz.ntmps12
  go_wp2_with fail
  refine HA.out.mono ?_
  rintro e w1 ⟨rfl, hb1⟩
  have HB1 := Lib.hid hb1
  clear hb1
  go_wp2_with fail
  go_ret2
  exact ⟨rfl, HB1.out⟩
theorem IAdd_bad (l m : List UInt8) (w : World) (hl : l.length ≤ 140737488355328) (hm : m.length ≤ 140737488355328) (h : (validB l && validB m) = false) : Calls Tryz.prog 12 #[.string ⟨l.toArray⟩, .string ⟨m.toArray⟩] w fun e w' => e = .returned (.tuple #[.string ⟨#[]⟩, .int .i64 1]) ∧ Below w.heap.size w w' := by
  have HA := Lib.hid (apply_bad 43 l m w hl hm h)
  clear hl hm h
  go_enter Tryz.func12, Tryz.ntmps12
  go_wp2_with fail
  refine HA.out.mono ?_
  rintro e w1 ⟨rfl, hb1⟩
  have HB1 := Lib.hid hb1
  clear hb1
  go_wp2_with fail
  go_ret2
  exact ⟨rfl, HB1.out⟩

set_option maxRecDepth 100000 in
set_option maxHeartbeats 1000000 in
theorem applySub_ok (x y : Int) (w : World) (hfx : Fits x) (hfy : Fits y) (htab : Tab w) : Calls Tryz.prog 34 #[.string (str x), .string (str y), .func (.func 55) #[] #[]] w fun e w' => e = .returned (.tuple #[.string (outS (x - y)), .int .i64 (outE (x - y))]) ∧ Below w.heap.size w w' := by
  have HFX := Lib.hid hfx
  have HFY := Lib.hid hfy
  have HT := Lib.hid htab
  have hlx := hfx.len
  have hly := hfy.len
  clear hfx hfy htab
  go_enter Tryz.func34, Tryz.ntmps34
  go_wp2_with fail
  refine (Valid_ok x w HFX.out).mono ?_
  rintro e w1 ⟨rfl, hb1⟩
  have HB1 := Lib.hid hb1
  clear hb1
  go_wp2_with fail
  refine (Valid_ok y w1 HFY.out).mono ?_
  rintro e w2 ⟨rfl, hb2⟩
  have HB2 := Lib.hid (HB1.out.trans (hb2.mono HB1.out.size))
  clear hb2
  go_wp2_with fail
  refine (read_any x w2 HFX.out).mono ?_
  rintro e w3 ⟨v3, rfl, hv3, hb3⟩
  have HV3 := Lib.hid hv3
  have HB3 := Lib.hid (HB2.out.trans (hb3.mono HB2.out.size))
  clear hv3 hb3
  go_wp2_with fail
  refine (read_any y w3 HFY.out).mono ?_
  rintro e w4 ⟨v4, rfl, hv4, hb4⟩
  have HV4 := Lib.hid hv4
  have HV34 := Lib.hid (HV3.out.below hb4)
  have HB4 := Lib.hid (HB3.out.trans (hb4.mono HB3.out.size))
  clear hv4 hb4
  go_wp2_with fail
  refine (Sub_any v3 v4 x y w4 HV34.out HV4.out (by omega) (by omega)).mono ?_
  rintro e w5 ⟨v5, rfl, hv5, hb5⟩
  have HV5 := Lib.hid hv5
  have HB5 := Lib.hid (HB4.out.trans (hb5.mono HB4.out.size))
  clear hv5 hb5
  have hl5 : (limbs (x - y).natAbs).length ≤ 10000000 := by
    have := limbs_length_natAbs_sub (k := 45) hlx hly; omega
  go_wp2_with fail
  refine (text_any v5 (x - y) w5 HV5.out hl5 (HT.out.below HB5.out)).mono ?_
  rintro e w6 ⟨rfl, hb6⟩
  have HB6 := Lib.hid (HB5.out.trans (hb6.mono HB5.out.size))
  clear hb6
  go_wp2_with fail
  go_ret2
  exact ⟨rfl, HB6.out⟩
set_option maxRecDepth 100000 in
set_option maxHeartbeats 1000000 in
theorem ISub_ok (x y : Int) (w : World) (hfx : Fits x) (hfy : Fits y) (htab : Tab w) : Calls Tryz.prog 28 #[.string (str x), .string (str y)] w fun e w' => e = .returned (.tuple #[.string (outS (x - y)), .int .i64 (outE (x - y))]) ∧ Below w.heap.size w w' := by
  have HA := Lib.hid (applySub_ok x y w hfx hfy htab)
  clear hfx hfy htab
  go_enter Tryz.func28, Tryz.ntmps28
  go_wp2_with fail
  refine HA.out.mono ?_
  rintro e w1 ⟨rfl, hb1⟩
  have HB1 := Lib.hid hb1
  clear hb1
  go_wp2_with fail
  go_ret2
  exact ⟨rfl, HB1.out⟩
theorem ISub_bad (l m : List UInt8) (w : World) (hl : l.length ≤ 140737488355328) (hm : m.length ≤ 140737488355328) (h : (validB l && validB m) = false) : Calls Tryz.prog 28 #[.string ⟨l.toArray⟩, .string ⟨m.toArray⟩] w fun e w' => e = .returned (.tuple #[.string ⟨#[]⟩, .int .i64 1]) ∧ Below w.heap.size w w' := by
  have HA := Lib.hid (apply_bad 55 l m w hl hm h)
  clear hl hm h
  go_enter Tryz.func28, Tryz.ntmps28
  go_wp2_with fail
  refine HA.out.mono ?_
  rintro e w1 ⟨rfl, hb1⟩
  have HB1 := Lib.hid hb1
  clear hb1
  go_wp2_with fail
  go_ret2
  exact ⟨rfl, HB1.out⟩

set_option maxRecDepth 100000 in
set_option maxHeartbeats 1000000 in
theorem applyMul_ok (x y : Int) (w : World) (hfx : Fits x) (hfy : Fits y) (htab : Tab w) : Calls Tryz.prog 34 #[.string (str x), .string (str y), .func (.func 35) #[] #[]] w fun e w' => e = .returned (.tuple #[.string (outS (x * y)), .int .i64 (outE (x * y))]) ∧ Below w.heap.size w w' := by
  have HFX := Lib.hid hfx
  have HFY := Lib.hid hfy
  have HT := Lib.hid htab
  have hlx := hfx.len
  have hly := hfy.len
  clear hfx hfy htab
  go_enter Tryz.func34, Tryz.ntmps34
  go_wp2_with fail
  refine (Valid_ok x w HFX.out).mono ?_
  rintro e w1 ⟨rfl, hb1⟩
  have HB1 := Lib.hid hb1
  clear hb1
  go_wp2_with fail
  refine (Valid_ok y w1 HFY.out).mono ?_
  rintro e w2 ⟨rfl, hb2⟩
  have HB2 := Lib.hid (HB1.out.trans (hb2.mono HB1.out.size))
  clear hb2
  go_wp2_with fail
  refine (read_any x w2 HFX.out).mono ?_
  rintro e w3 ⟨v3, rfl, hv3, hb3⟩
  have HV3 := Lib.hid hv3
  have HB3 := Lib.hid (HB2.out.trans (hb3.mono HB2.out.size))
  clear hv3 hb3
  go_wp2_with fail
  refine (read_any y w3 HFY.out).mono ?_
  rintro e w4 ⟨v4, rfl, hv4, hb4⟩
  have HV4 := Lib.hid hv4
  have HV34 := Lib.hid (HV3.out.below hb4)
  have HB4 := Lib.hid (HB3.out.trans (hb4.mono HB3.out.size))
  clear hv4 hb4
  go_wp2_with fail
  refine (Mul_any v3 v4 x y w4 HV34.out HV4.out (by omega) (by omega)).mono ?_
  rintro e w5 ⟨v5, rfl, hv5, hb5⟩
  have HV5 := Lib.hid hv5
  have HB5 := Lib.hid (HB4.out.trans (hb5.mono HB4.out.size))
  clear hv5 hb5
  have hl5 : (limbs (x * y).natAbs).length ≤ 10000000 := by
    have := limbs_length_natAbs_mul x y; omega
  go_wp2_with fail
  refine (text_any v5 (x * y) w5 HV5.out hl5 (HT.out.below HB5.out)).mono ?_
  rintro e w6 ⟨rfl, hb6⟩
  have HB6 := Lib.hid (HB5.out.trans (hb6.mono HB5.out.size))
  clear hb6
  go_wp2_with fail
  go_ret2
  exact ⟨rfl, HB6.out⟩
set_option maxRecDepth 100000 in
set_option maxHeartbeats 1000000 in
theorem IMul_ok (x y : Int) (w : World) (hfx : Fits x) (hfy : Fits y) (htab : Tab w) : Calls Tryz.prog 9 #[.string (str x), .string (str y)] w fun e w' => e = .returned (.tuple #[.string (outS (x * y)), .int .i64 (outE (x * y))]) ∧ Below w.heap.size w w' := by
  have HA := Lib.hid (applyMul_ok x y w hfx hfy htab)
  clear hfx hfy htab
  go_enter Tryz.func9, Tryz.ntmps9
  go_wp2_with fail
  refine HA.out.mono ?_
  rintro e w1 ⟨rfl, hb1⟩
  have HB1 := Lib.hid hb1
  clear hb1
  go_wp2_with fail
  go_ret2
  exact ⟨rfl, HB1.out⟩
theorem IMul_bad (l m : List UInt8) (w : World) (hl : l.length ≤ 140737488355328) (hm : m.length ≤ 140737488355328) (h : (validB l && validB m) = false) : Calls Tryz.prog 9 #[.string ⟨l.toArray⟩, .string ⟨m.toArray⟩] w fun e w' => e = .returned (.tuple #[.string ⟨#[]⟩, .int .i64 1]) ∧ Below w.heap.size w w' := by
  have HA := Lib.hid (apply_bad 35 l m w hl hm h)
  clear hl hm h
  go_enter Tryz.func9, Tryz.ntmps9
  go_wp2_with fail
  refine HA.out.mono ?_
  rintro e w1 ⟨rfl, hb1⟩
  have HB1 := Lib.hid hb1
  clear hb1
  go_wp2_with fail
  go_ret2
  exact ⟨rfl, HB1.out⟩

set_option maxRecDepth 100000 in
set_option maxHeartbeats 1000000 in
theorem applyGcd_ok (x y : Int) (w : World) (hfx : Fits x) (hfy : Fits y) (htab : Tab w) : Calls Tryz.prog 34 #[.string (str x), .string (str y), .func (.func 46) #[] #[]] w fun e w' => e = .returned (.tuple #[.string (outS (((Nat.gcd x.natAbs y.natAbs : Nat) : Int))), .int .i64 (outE (((Nat.gcd x.natAbs y.natAbs : Nat) : Int)))]) ∧ Below w.heap.size w w' := by
  have HFX := Lib.hid hfx
  have HFY := Lib.hid hfy
  have HT := Lib.hid htab
  have hlx := hfx.len
  have hly := hfy.len
  clear hfx hfy htab
  go_enter Tryz.func34, Tryz.ntmps34
  go_wp2_with fail
  refine (Valid_ok x w HFX.out).mono ?_
  rintro e w1 ⟨rfl, hb1⟩
  have HB1 := Lib.hid hb1
  clear hb1
  go_wp2_with fail
  refine (Valid_ok y w1 HFY.out).mono ?_
  rintro e w2 ⟨rfl, hb2⟩
  have HB2 := Lib.hid (HB1.out.trans (hb2.mono HB1.out.size))
  clear hb2
  go_wp2_with fail
  refine (read_any x w2 HFX.out).mono ?_
  rintro e w3 ⟨v3, rfl, hv3, hb3⟩
  have HV3 := Lib.hid hv3
  have HB3 := Lib.hid (HB2.out.trans (hb3.mono HB2.out.size))
  clear hv3 hb3
  go_wp2_with fail
  refine (read_any y w3 HFY.out).mono ?_
  rintro e w4 ⟨v4, rfl, hv4, hb4⟩
  have HV4 := Lib.hid hv4
  have HV34 := Lib.hid (HV3.out.below hb4)
  have HB4 := Lib.hid (HB3.out.trans (hb4.mono HB3.out.size))
  clear hv4 hb4
  go_wp2_with fail
  refine (Gcd_any v3 v4 x y w4 HV34.out HV4.out (by omega) (by omega)).mono ?_
  rintro e w5 ⟨v5, rfl, hv5, hb5⟩
  have HV5 := Lib.hid hv5
  have HB5 := Lib.hid (HB4.out.trans (hb5.mono HB4.out.size))
  clear hv5 hb5
  have hl5 : (limbs (((Nat.gcd x.natAbs y.natAbs : Nat) : Int)).natAbs).length ≤ 10000000 := by
    rw [Int.natAbs_natCast]
    rcases Nat.eq_zero_or_pos x.natAbs with e | e
    · rw [e, Nat.gcd_zero_left]; omega
    · exact Nat.le_trans (limbs_length_mono (Nat.gcd_le_left _ e)) (by omega)
  go_wp2_with fail
  refine (text_any v5 (((Nat.gcd x.natAbs y.natAbs : Nat) : Int)) w5 HV5.out hl5 (HT.out.below HB5.out)).mono ?_
  rintro e w6 ⟨rfl, hb6⟩
  have HB6 := Lib.hid (HB5.out.trans (hb6.mono HB5.out.size))
  clear hb6
  go_wp2_with fail
  go_ret2
  exact ⟨rfl, HB6.out⟩
set_option maxRecDepth 100000 in
set_option maxHeartbeats 1000000 in
theorem IGcd_ok (x y : Int) (w : World) (hfx : Fits x) (hfy : Fits y) (htab : Tab w) : Calls Tryz.prog 19 #[.string (str x), .string (str y)] w fun e w' => e = .returned (.tuple #[.string (outS (((Nat.gcd x.natAbs y.natAbs : Nat) : Int))), .int .i64 (outE (((Nat.gcd x.natAbs y.natAbs : Nat) : Int)))]) ∧ Below w.heap.size w w' := by
  have HA := Lib.hid (applyGcd_ok x y w hfx hfy htab)
  clear hfx hfy htab
  go_enter Tryz.func19, Tryz.ntmps19
  go_wp2_with fail
  refine HA.out.mono ?_
  rintro e w1 ⟨rfl, hb1⟩
  have HB1 := Lib.hid hb1
  clear hb1
  go_wp2_with fail
  go_ret2
  exact ⟨rfl, HB1.out⟩
theorem IGcd_bad (l m : List UInt8) (w : World) (hl : l.length ≤ 140737488355328) (hm : m.length ≤ 140737488355328) (h : (validB l && validB m) = false) : Calls Tryz.prog 19 #[.string ⟨l.toArray⟩, .string ⟨m.toArray⟩] w fun e w' => e = .returned (.tuple #[.string ⟨#[]⟩, .int .i64 1]) ∧ Below w.heap.size w w' := by
  have HA := Lib.hid (apply_bad 46 l m w hl hm h)
  clear hl hm h
  go_enter Tryz.func19, Tryz.ntmps19
  go_wp2_with fail
  refine HA.out.mono ?_
  rintro e w1 ⟨rfl, hb1⟩
  have HB1 := Lib.hid hb1
  clear hb1
  go_wp2_with fail
  go_ret2
  exact ⟨rfl, HB1.out⟩

end Go.Proofs.YtmickdolpgjbhaaGreatDoor
