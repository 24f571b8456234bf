import Derived.Test.YtajlojhklhlljaaGreatDoorZMH
import Derived.Test.YtajlojhklhlljaaGreatDoorZMD
set_option maxHeartbeats 16000000
set_option maxRecDepth 100000
set_option linter.unusedVariables false
set_option linter.unusedSimpArgs false
set_option linter.unusedSectionVars false
namespace Go.Proofs.YtajlojhklhlljaaGreatDoor
open Go.RowKit
theorem field_T2 (w : World) (v0 : Bool) (A B : Option Addr) (l c m d : Nat) : (Instr.field 84 (.agg #[.bool v0, .slice A l c, .slice B m d]) 1).run Tryz.prog w = .ok (.slice B m d) w := by kernel_rfl
theorem field_R1 (w : World) (A B C : Option Addr) (l c m d n f : Nat) (x y : Bool) : (Instr.field 87 (.agg #[.slice A l c, .slice B m d, .bool x, .slice C n f, .bool y]) 1).run Tryz.prog w = .ok (.slice B m d) w := by kernel_rfl
attribute [local go_sem] field_T2 field_R1
def RankPost (heavy : Bool) (s : EliS) (w : World) (e : Ending) (w' : World) : Prop :=
 match heavy with
 | true => e = .returned (.tuple #[.int .i64 0, .int .i64 3]) ∧ Below w.heap.size w w'
 | false => e = .returned (.tuple #[.int .i64 (s.ps.length : Int), .int .i64 0]) ∧ Below w.heap.size w w'
theorem Rank_any (A : Option Addr) (c n : Nat) (rs : List RowT) (w : World) (h : MatIn w A rs) (hf : FineM rs n) (hm1 : 1 ≤ rs.length) (hn1 : 1 ≤ n) (henv : Env w) :
  Calls Tryz.prog 27 #[.slice A rs.length c] w (RankPost (decide (600 < heft rs n)) (eli rs.length (matP rs) n) w) := by
 generalize hQ : RankPost (decide (600 < heft rs n)) (eli rs.length (matP rs) n) w = Q
 replace hQ := Lib.hid hQ
 have HM := Lib.hid h
 have HF := Lib.hid hf
 have HE := Lib.hid henv
 have hm12 := hf.m
 have hn12 := hf.n12
 have HB0 := Lib.hid ((Below.refl w.heap.size w).alloc (Nat.le_refl _) (.cells #[.slice A rs.length c] 27))
 have HBG := Lib.hid (begin_one A rs c n w.heap.size (w.alloc (.cells #[.slice A rs.length c] 27)) (h.below HB0.out) hf ((Blk.new w 27 [.slice A rs.length c]).at_ (i := 0) rfl) (henv.below HB0.out))
 clear h hf henv
 go_enter Tryz.func27, Tryz.ntmps27
 go_wp2_with fail
 refine HBG.out.mono ?_
 rintro e w1 ⟨rfl, hb1⟩
 have HB1 := Lib.hid (HB0.out.trans (hb1.mono HB0.out.size))
 have HHV := Heavy_any A c n rs w1 (HM.out.below HB1.out) HF.out hm1 hn1 (HE.out.below HB1.out)
 clear hb1
 by_cases hh : 600 < heft rs n
 ·rw [show decide (600 < heft rs n) = true from by simpa using hh] at HHV hQ
  replace HHV := Lib.hid HHV
  clear hh
  go_wp2_with fail
  refine HHV.out.mono ?_
  rintro e w2 ⟨rfl, hb2⟩
  have HB2 := Lib.hid (HB1.out.trans (hb2.mono HB1.out.size))
  clear hb2
  go_wp2_with fail
  rw [← hQ.out]
  exact ⟨rfl, HB2.out⟩
 ·rw [show decide (600 < heft rs n) = false from by simpa using hh] at HHV hQ
  replace HHV := Lib.hid HHV
  have HH := Lib.hid hh
  clear hh
  go_wp2_with fail
  refine HHV.out.mono ?_
  rintro e w2 ⟨rfl, hb2⟩
  have HB2 := Lib.hid (HB1.out.trans (hb2.mono HB1.out.size))
  have HOF := Lib.hid (Of_any A c n rs w2 (HM.out.below HB2.out) HF.out hm1 hn1 (HE.out.below HB2.out))
  clear hb2
  go_wp2_with fail
  refine HOF.out.mono ?_
  rintro e w3 ⟨R, cR, rows, dv, rfl, hl, ht, -, -, hd3, hb3⟩
  have HB3 := Lib.hid (HB2.out.trans (hb3.mono HB2.out.size))
  have HWD := Lib.hid (width_ok A rs c n w3 (HM.out.below HB3.out) HF.out (HE.out.below HB3.out))
  replace ht : TabN w2.heap.size w3 (.slice (some ⟨R, 0, none⟩) rows.length cR) rows n (matP rs) := by rw [hl]; exact ht
  have HTR := Lib.hid ht.read
  have HL := Lib.hid hl
  clear ht hd3 hb3 hl
  go_wp2_with fail
  refine HWD.out.mono ?_
  rintro e w3' ⟨rfl, hb3'⟩
  have HB3' := Lib.hid (HB3.out.trans (hb3'.mono HB3.out.size))
  have HRD := Reduce_any _ cR n n rows (matP rs) w3' (HTR.out.below hb3') (by have := HL.out; omega) (by have := HL.out; omega) hn1 (by omega) (Nat.le_refl _) (fun i k hi => light_LL HF.out hm1 (Nat.le_of_not_lt HH.out) i k (by have := HL.out; omega))
  rw [HL.out] at HRD
  replace HRD := Lib.hid HRD
  clear hb3'
  go_wp2_with fail
  refine HRD.out.mono ?_
  rintro e w4 ⟨R4, cR4, rows4, pv, v, rfl, hl4, hrr, hb4⟩
  have HB4 := Lib.hid (HB3'.out.trans (hb4.mono HB3'.out.size))
  obtain ⟨Ap, cp, rfl, -⟩ := ownForm hrr.pvt
  generalize eli rs.length (matP rs) n = s at *
  obtain ⟨pl, hpl⟩ : ∃ pl, s.ps.length = pl := ⟨_, rfl⟩
  rw [hpl]
  have HPL := Lib.hid hpl
  clear hb4 hrr hl4 hpl HRD HOF
  go_wp2_with fail
  rw [← hQ.out]
  exact ⟨by rw [HPL.out]; rfl, HB4.out⟩
end Go.Proofs.YtajlojhklhlljaaGreatDoor
