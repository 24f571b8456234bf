/-
  The walk of SchemaValues.
-/
import Derived.Test.YtnjccldjlpkgkaaGreatDoorZSC
namespace Go.Proofs.YtnjccldjlpkgkaaGreatDoor
open Go.RowKit

/-- The three attributes lie there. -/
structure Three (w wc : World) (g : Nat) : Prop where
  a : Blk wc g 25 [.string ⟨#[97]⟩, .int .i64 1]
  b : Blk wc (g + 1) 25 [.string ⟨#[98]⟩, .int .i64 2]
  c : Blk wc (g + 2) 25 [.string ⟨#[99]⟩, .int .i64 3]
  bel : Below w.heap.size w wc
theorem Three.below {w wc wd : World} {g : Nat} (h : Three w wc g) (hb : Below wc.heap.size wc wd) : Three w wd g := ⟨h.a.below hb, h.b.below hb, h.c.below hb, h.bel.trans (hb.mono h.bel.size)⟩
theorem Three.cells {w wc : World} {g : Nat} (h : Three w wc g) : wc.cell? ⟨g, 0, none⟩ = some (.string ⟨#[97]⟩) ∧ wc.cell? ⟨g, 1, none⟩ = some (.int .i64 1) ∧ wc.cell? ⟨g + 1, 0, none⟩ = some (.string ⟨#[98]⟩) ∧ wc.cell? ⟨g + 1, 1, none⟩ = some (.int .i64 2) ∧ wc.cell? ⟨g + 2, 0, none⟩ = some (.string ⟨#[99]⟩) ∧ wc.cell? ⟨g + 2, 1, none⟩ = some (.int .i64 3) :=
  ⟨h.a.at_ (i := 0) rfl, h.a.at_ (i := 1) rfl, h.b.at_ (i := 0) rfl, h.b.at_ (i := 1) rfl, h.c.at_ (i := 0) rfl, h.c.at_ (i := 1) rfl⟩
theorem Three.new {w w1 : World} (hb : Below w.heap.size w w1) : Three w (((w1.alloc (.cells #[.string ⟨#[97]⟩, .int .i64 1] 25)).alloc (.cells #[.string ⟨#[98]⟩, .int .i64 2] 25)).alloc (.cells #[.string ⟨#[99]⟩, .int .i64 3] 25)) w1.heap.size :=
  ⟨((Blk.new' rfl _ [.string ⟨#[97]⟩, .int .i64 1]).alloc _).alloc _, (Blk.new' (by simp) _ [.string ⟨#[98]⟩, .int .i64 2]).alloc _, Blk.new' (by simp) _ [.string ⟨#[99]⟩, .int .i64 3], ((hb.alloc hb.size _).alloc (by have := hb.size; simp; omega) _).alloc (by have := hb.size; simp; omega) _⟩

set_option maxRecDepth 100000 in
set_option maxHeartbeats 8000000 in
theorem SchemaValues_any (n : Int) (d : Nat) (w : World) (h0 : -9223372036854775808 ≤ n) (h1 : n ≤ 9223372036854775807) (hd : d < 256) (henv : Env w) : Calls Tryz.prog 3 #[.int .i64 n, .int .u8 (d : Int)] w fun e w' => e = .returned (.bool true) ∧ Below w.heap.size w w' := by
  have HE := Lib.hid henv
  obtain ⟨hm1, hm2⟩ : 1 ≤ 1 + (d : Int) % 20 ∧ 1 + (d : Int) % 20 ≤ 20 := by omega
  have HK := Lib.hid (fun W => RMake_ok n W h0 h1)
  have FN := Lib.hid (fits_i64 h0 h1)
  clear henv
  go_enter Tryz.func3, Tryz.ntmps3
  go_wp2_with fail
  refine (HK.out _).mono ?_
  rintro e w1 ⟨rfl, hb⟩
  have HB1 := Lib.hid hb
  clear hb HK
  go_upto_region 3 with (fail)
  go_cut [9] (fun v wc => v = .bool (bndB n) ∧ Three w wc w1.heap.size)
  case first =>
    have H3 := Lib.hid (Three.new HB1.out)
    have E := Lib.hid (bndB_eq n)
    by_cases c1 : -1000000000 ≤ n
    · have E2 := Lib.hid (show bndB n = decide (n ≤ 1000000000) by rw [E.out, decide_eq_true c1, Bool.true_and])
      generalize bndB n = bb at *
      go_wp2_with fail
      go_meet
      exact ⟨by rw [E2.out], H3.out⟩
    · have E2 := Lib.hid (show bndB n = false by rw [E.out, decide_eq_false c1, Bool.false_and])
      have c1' : decide (-1000000000 ≤ n) = false := decide_eq_false c1
      generalize bndB n = bb at *
      go_wp2_with fail
      go_meet
      exact ⟨by rw [E2.out], H3.out⟩
  case rest =>
    obtain ⟨rfl, h3⟩ := hcut
    obtain ⟨w2, rfl⟩ : ∃ w2 : World, w2 = wc := ⟨_, rfl⟩
    have HT2 := Lib.hid h3
    clear h3
    obtain ⟨fq, hd20, hd1⟩ := den_fit h0 h1 hm1 hm2
    have HMQ := Lib.hid (fun W => RFMake_ok n (1 + (d : Int) % 20) W FN.out (fits_small (by omega)) (by omega))
    generalize Rat.divInt n (1 + (d : Int) % 20) = q at *
    have FQ := Lib.hid fq
    rw [outR_fits fq, outRE_fits fq] at HMQ
    clear fq
    have HSD := Lib.hid (fun W => RSmall_ok (q.den : Int) W FQ.out.2)
    rw [(small_den hd20).1, (small_den hd20).2] at HSD
    have HV : Hid (valQ q = (smallB q.num && (decide (-1000000000 ≤ smallV q.num) && decide (smallV q.num ≤ 1000000000)) && decide (q.den ≤ 12))) := Lib.hid (by unfold valQ bndB; rw [(small_den hd20).2]; congr 1; exact decide_eq_decide.2 ⟨fun h => by omega, fun h => by omega⟩)
    go_wp2_with fail
    refine (RMake_ok (1 + (d : Int) % 20) _ (by omega) (by omega)).mono ?_
    rintro e w3 ⟨rfl, hb⟩
    have HT3 := Lib.hid (HT2.out.below hb)
    clear hb
    go_wp2_with fail
    refine (HMQ.out _).mono ?_
    rintro e w4 ⟨rfl, hb⟩
    have HT4 := Lib.hid (HT3.out.below hb)
    clear hb
    go_wp2_with fail
    refine (RFParts_ok q _ FQ.out).mono ?_
    rintro e w5 ⟨rfl, hb⟩
    have HT5 := Lib.hid (HT4.out.below hb)
    clear hb
    go_wp2_with fail
    refine (RSmall_ok q.num _ FQ.out.1).mono ?_
    rintro e w6 ⟨rfl, hb⟩
    have HT6 := Lib.hid (HT5.out.below hb)
    clear hb
    go_wp2_with fail
    refine (HSD.out _).mono ?_
    rintro e w7 ⟨rfl, hb⟩
    have HT7 := Lib.hid (HT6.out.below hb)
    clear hb
    go_wp2_with fail
    refine (RSmall_ok q.num _ FQ.out.1).mono ?_
    rintro e w8 ⟨rfl, hb⟩
    have HT8 := Lib.hid (HT7.out.below hb)
    clear hb
    clear HMQ HSD
    go_upto_region 11 with (fail)
    go_cut [21] (fun v wc => v = .bool (valQ q) ∧ Three w wc w1.heap.size)
    case first =>
      generalize smallB q.num = sb at *
      generalize smallV q.num = sx at *
      generalize valQ q = vq at *
      generalize q.den = dn at *
      cases sb
      · have E := Lib.hid (show vq = false by rw [HV.out]; rfl)
        go_wp2_with fail
        go_meet
        exact ⟨by rw [E.out], HT8.out⟩
      · by_cases c1 : -1000000000 ≤ sx
        · by_cases c2 : sx ≤ 1000000000
          · have E := Lib.hid (show vq = decide ((dn : Int) ≤ 12) by rw [HV.out, decide_eq_true c1, decide_eq_true c2]; exact decide_eq_decide.2 ⟨fun h => by omega, fun h => by omega⟩)
            go_wp2_with fail
            go_meet
            exact ⟨by rw [E.out], HT8.out⟩
          · have E := Lib.hid (show vq = false by rw [HV.out, decide_eq_true c1, decide_eq_false c2]; rfl)
            have c2' : decide (sx ≤ 1000000000) = false := decide_eq_false c2
            go_wp2_with fail
            go_meet
            exact ⟨by rw [E.out], HT8.out⟩
        · have E := Lib.hid (show vq = false by rw [HV.out, decide_eq_false c1]; rfl)
          have c1' : decide (-1000000000 ≤ sx) = false := decide_eq_false c1
          go_wp2_with fail
          go_meet
          exact ⟨by rw [E.out], HT8.out⟩
    case rest =>
      obtain ⟨rfl, h3⟩ := hcut
      obtain ⟨w9, rfl⟩ : ∃ w9 : World, w9 = wc := ⟨_, rfl⟩
      have HT9 := Lib.hid h3
      clear h3
      have HVQ := Lib.hid (fun W hE => ValNum_q ⟨#[98]⟩ q W FQ.out hE)
      have HKQ := Lib.hid (fun W h => ValKey_q ⟨#[97]⟩ q W h FQ.out)
      by_cases hden : q.den = 1
      · have hq : ((str (q.den : Int)).toList == [49]) = true := by rw [hden, str_toList]; decide +kernel
        have HD := Lib.hid hden
        clear hden
        obtain ⟨a0, a1, b0, b1, c0, c1⟩ := HT9.out.cells
        go_wp2_with fail
        refine (ValKey_n ⟨#[97]⟩ n _ FN.out).mono ?_
        rintro e w10 ⟨rfl, hb⟩
        have HT10 := Lib.hid (HT9.out.below hb)
        clear hb
        clear a0 a1 b0 b1 c0 c1
        obtain ⟨a0, a1, b0, b1, c0, c1⟩ := HT10.out.cells
        go_wp2_with fail
        refine (HVQ.out _ (HE.out.below HT10.out.bel)).mono ?_
        rintro e w11 ⟨rfl, hb⟩
        have HT11 := Lib.hid (HT10.out.below hb)
        clear hb
        clear a0 a1 b0 b1 c0 c1
        obtain ⟨a0, a1, b0, b1, c0, c1⟩ := HT11.out.cells
        go_wp2_with fail
        refine (ValWord_n ⟨#[99]⟩ n _ FN.out).mono ?_
        rintro e w12 ⟨rfl, hb⟩
        have HT12 := Lib.hid (HT11.out.below hb)
        clear hb
        clear a0 a1 b0 b1 c0 c1
        obtain ⟨a0, a1, b0, b1, c0, c1⟩ := HT12.out.cells
        go_wp2_with fail
        refine (ValKey_nil ⟨#[97]⟩ _).mono ?_
        rintro e w13 ⟨rfl, hb⟩
        have HT13 := Lib.hid (HT12.out.below hb)
        clear hb
        clear a0 a1 b0 b1 c0 c1
        obtain ⟨a0, a1, b0, b1, c0, c1⟩ := HT13.out.cells
        go_wp2_with fail
        refine (ValNum_nil ⟨#[98]⟩ _ (HE.out.below HT13.out.bel)).mono ?_
        rintro e w14 ⟨rfl, hb⟩
        have HT14 := Lib.hid (HT13.out.below hb)
        clear hb
        clear a0 a1 b0 b1 c0 c1
        obtain ⟨a0, a1, b0, b1, c0, c1⟩ := HT14.out.cells
        go_wp2_with fail
        refine (ValWord_nil ⟨#[99]⟩ _).mono ?_
        rintro e w15 ⟨rfl, hb⟩
        have HT15 := Lib.hid (HT14.out.below hb)
        clear hb
        clear a0 a1 b0 b1 c0 c1
        obtain ⟨a0, a1, b0, b1, c0, c1⟩ := HT15.out.cells
        go_wp2_with fail
        refine (ValWord_red ⟨#[99]⟩ _).mono ?_
        rintro e w16 ⟨rfl, hb⟩
        have HT16 := Lib.hid (HT15.out.below hb)
        clear hb
        clear a0 a1 b0 b1 c0 c1
        obtain ⟨a0, a1, b0, b1, c0, c1⟩ := HT16.out.cells
        go_wp2_with fail
        refine (ValNum_red ⟨#[98]⟩ _ (HE.out.below HT16.out.bel)).mono ?_
        rintro e w17 ⟨rfl, hb⟩
        have HT17 := Lib.hid (HT16.out.below hb)
        clear hb
        clear a0 a1 b0 b1 c0 c1
        obtain ⟨a0, a1, b0, b1, c0, c1⟩ := HT17.out.cells
        go_wp2_with fail
        refine (SSane _ (HE.out.below HT17.out.bel)).mono ?_
        rintro e w18 ⟨rfl, hb⟩
        have HT18 := Lib.hid (HT17.out.below hb)
        clear hb
        clear a0 a1 b0 b1 c0 c1
        go_wp2_with fail
        go_ret
        exact ⟨rfl, HT18.out.bel⟩
      · have hq : ((str (q.den : Int)).toList == [49]) = false := by
          rw [str_toList, beq_eq_false_iff_ne]
          intro e
          exact hden (by have := itoa_inj (e.trans (show [49] = Lib.itoa (1 : Int) by decide +kernel)); omega)
        have HD := Lib.hid hden
        clear hden
        obtain ⟨a0, a1, b0, b1, c0, c1⟩ := HT9.out.cells
        go_wp2_with fail
        refine (ValKey_n ⟨#[97]⟩ n _ FN.out).mono ?_
        rintro e w10 ⟨rfl, hb⟩
        have HT10 := Lib.hid (HT9.out.below hb)
        clear hb
        clear a0 a1 b0 b1 c0 c1
        obtain ⟨a0, a1, b0, b1, c0, c1⟩ := HT10.out.cells
        go_wp2_with fail
        refine (HVQ.out _ (HE.out.below HT10.out.bel)).mono ?_
        rintro e w11 ⟨rfl, hb⟩
        have HT11 := Lib.hid (HT10.out.below hb)
        clear hb
        clear a0 a1 b0 b1 c0 c1
        obtain ⟨a0, a1, b0, b1, c0, c1⟩ := HT11.out.cells
        go_wp2_with fail
        refine (HKQ.out _ HD.out).mono ?_
        rintro e w12 ⟨rfl, hb⟩
        have HT12 := Lib.hid (HT11.out.below hb)
        clear hb
        clear a0 a1 b0 b1 c0 c1
        obtain ⟨a0, a1, b0, b1, c0, c1⟩ := HT12.out.cells
        go_wp2_with fail
        refine (ValWord_n ⟨#[99]⟩ n _ FN.out).mono ?_
        rintro e w13 ⟨rfl, hb⟩
        have HT13 := Lib.hid (HT12.out.below hb)
        clear hb
        clear a0 a1 b0 b1 c0 c1
        obtain ⟨a0, a1, b0, b1, c0, c1⟩ := HT13.out.cells
        go_wp2_with fail
        refine (ValKey_nil ⟨#[97]⟩ _).mono ?_
        rintro e w14 ⟨rfl, hb⟩
        have HT14 := Lib.hid (HT13.out.below hb)
        clear hb
        clear a0 a1 b0 b1 c0 c1
        obtain ⟨a0, a1, b0, b1, c0, c1⟩ := HT14.out.cells
        go_wp2_with fail
        refine (ValNum_nil ⟨#[98]⟩ _ (HE.out.below HT14.out.bel)).mono ?_
        rintro e w15 ⟨rfl, hb⟩
        have HT15 := Lib.hid (HT14.out.below hb)
        clear hb
        clear a0 a1 b0 b1 c0 c1
        obtain ⟨a0, a1, b0, b1, c0, c1⟩ := HT15.out.cells
        go_wp2_with fail
        refine (ValWord_nil ⟨#[99]⟩ _).mono ?_
        rintro e w16 ⟨rfl, hb⟩
        have HT16 := Lib.hid (HT15.out.below hb)
        clear hb
        clear a0 a1 b0 b1 c0 c1
        obtain ⟨a0, a1, b0, b1, c0, c1⟩ := HT16.out.cells
        go_wp2_with fail
        refine (ValWord_red ⟨#[99]⟩ _).mono ?_
        rintro e w17 ⟨rfl, hb⟩
        have HT17 := Lib.hid (HT16.out.below hb)
        clear hb
        clear a0 a1 b0 b1 c0 c1
        obtain ⟨a0, a1, b0, b1, c0, c1⟩ := HT17.out.cells
        go_wp2_with fail
        refine (ValNum_red ⟨#[98]⟩ _ (HE.out.below HT17.out.bel)).mono ?_
        rintro e w18 ⟨rfl, hb⟩
        have HT18 := Lib.hid (HT17.out.below hb)
        clear hb
        clear a0 a1 b0 b1 c0 c1
        obtain ⟨a0, a1, b0, b1, c0, c1⟩ := HT18.out.cells
        go_wp2_with fail
        refine (SSane _ (HE.out.below HT18.out.bel)).mono ?_
        rintro e w19 ⟨rfl, hb⟩
        have HT19 := Lib.hid (HT18.out.below hb)
        clear hb
        clear a0 a1 b0 b1 c0 c1
        go_wp2_with fail
        go_ret
        exact ⟨rfl, HT19.out.bel⟩

theorem SchemaValues_int (n d : Int) (w : World) (h0 : -9223372036854775808 ≤ n) (h1 : n ≤ 9223372036854775807) (h2 : 0 ≤ d) (h3 : d ≤ 255) (henv : Env w) : Calls Tryz.prog 3 #[.int .i64 n, .int .u8 d] w fun e w' => e = .returned (.bool true) ∧ Below w.heap.size w w' := by
  obtain ⟨k, rfl⟩ : ∃ k : Nat, d = k := ⟨d.toNat, by omega⟩
  exact SchemaValues_any n k w h0 h1 (by omega) henv

end Go.Proofs.YtnjccldjlpkgkaaGreatDoor
