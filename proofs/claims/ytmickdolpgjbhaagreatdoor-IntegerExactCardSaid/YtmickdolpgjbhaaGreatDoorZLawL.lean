/-
  The walk of IntegerLong.
-/
import Derived.Test.YtmickdolpgjbhaaGreatDoorZM
import Derived.Test.YtmickdolpgjbhaaGreatDoorZN
namespace Go.Proofs.YtmickdolpgjbhaaGreatDoor
open Go.RowKit

/-- So many nines. -/
def nin (k : Nat) : ByteArray := ⟨(List.replicate k 57).toArray⟩
theorem nin_size (k : Nat) : (nin k).size = k := by unfold nin; simp [ByteArray.size]
theorem nin_succ (k : Nat) : nin k ++ ⟨#[57]⟩ = nin (k + 1) := by
  unfold nin
  have := ba_append (List.replicate k 57) [57]
  rw [show (⟨#[57]⟩ : ByteArray) = ⟨[57].toArray⟩ from rfl, this]
  rw [List.replicate_succ']
theorem pairs_ix (sx sy sn sm : ByteArray) (hx : sx.size ≤ 401) (hy : sy.size ≤ 401) (hn : sn.size ≤ 402) (hm : sm.size ≤ 403) : ∀ n : Nat, n < 4 → ∃ s t : ByteArray,
    (∀ W : World, (Instr.index 31 (.agg #[.string sx, .string sy, .string sx, .string sn, .string sn, .string ⟨#[49]⟩, .string sm, .string sy]) (.int .i64 (n : Int))).run Tryz.prog W = .ok (.agg #[.string s, .string t]) W) ∧ s.size ≤ 140737488355328 ∧ t.size ≤ 140737488355328 := by
  intro n hn4
  match n, hn4 with
  | 0, _ => exact ⟨sx, sy, fun W => by kernel_rfl, by omega, by omega⟩
  | 1, _ => exact ⟨sx, sn, fun W => by kernel_rfl, by omega, by omega⟩
  | 2, _ => exact ⟨sn, ⟨#[49]⟩, fun W => by kernel_rfl, by omega, by decide⟩
  | 3, _ => exact ⟨sm, sy, fun W => by kernel_rfl, by omega, by omega⟩
theorem str_small (x : Int) (h : Fits x) : (str x).size ≤ 401 := by
  rw [str_size]
  have := itoa_length x
  unfold Fits at h
  omega

set_option maxRecDepth 100000 in
set_option maxHeartbeats 8000000 in
theorem IntegerLong_any (A : Option Addr) (l c : Nat) (w : World) (h : Ints w A l) (hlc : l ≤ c) (hl : l ≤ 9223372036854775807) (htab : Tab w) (m : Int) (hm0 : 0 ≤ m) (hm1 : m ≤ 255) : Calls Tryz.prog 3 #[.slice A l c, .int .u8 m] w fun e w' => e = .returned (.bool true) ∧ Below w.heap.size w w' := by
  have HT := Lib.hid htab
  have HI := Lib.hid h
  clear htab h
  go_enter Tryz.func3, Tryz.ntmps3
  go_wp2_with fail
  refine (New_any A l c w HI.out hlc hl).mono ?_
  rintro e w0 ⟨rfl, hs, hb⟩
  have HS0 := Lib.hid hs
  have HB0 := Lib.hid hb
  clear hs hb
  go_wp2_with fail
  refine (Big_any w.heap.size 60 w0 HS0.out (by decide) (by decide)).mono ?_
  rintro e w1 ⟨x0, rfl, hz, hs, hg⟩
  have HS1 := Lib.hid hs
  have HB1 := Lib.hid (below_grown HB0.out HB0.out.size hg)
  have Dx0 := Lib.hid (show Dig 60 x0 from Dig.of_len hz)
  clear hz hs hg
  go_wp2_with fail
  refine (Big_any w.heap.size 40 w1 HS1.out (by decide) (by decide)).mono ?_
  rintro e w2 ⟨y, rfl, hz, hs, hg⟩
  have HS2 := Lib.hid hs
  have HB2 := Lib.hid (below_grown HB1.out HB1.out.size hg)
  have Dy := Lib.hid (show Dig 40 y from Dig.of_len hz)
  clear hz hs hg
  have FX0 := Lib.hid (Dx0.out.fits (by decide) (by decide))
  have FY := Lib.hid (Dy.out.fits (by decide) (by decide))
  clear HS0 HS1 HS2 HB0 HB1 HI
  go_wp2_with fail
  go_loopw [6, 8] (fun xv iv wr => ∃ (x : Int) (i : Nat), xv = .string (str x) ∧ Fits x ∧ iv = .int .i64 (i : Int) ∧ i ≤ 3 ∧ Below w.heap.size w wr) (fun _ iv _ => 3 - (intOf iv).toNat)
  case atStart => exact ⟨x0, 0, rfl, FX0.out, rfl, by omega, HB2.out⟩
  case round =>
    obtain ⟨x, i, rfl, hfx, rfl, hi3, hbw⟩ := hrel
    have FX := Lib.hid hfx
    have HBW := Lib.hid hbw
    clear hfx hbw
    by_cases hlt : i < 3
    · by_cases hf : Fits (x * x)
      · have hc := RMulT_ok x x wr FX.out FX.out
        rw [outS_fits hf, outE_fits hf] at hc
        obtain ⟨z, hz⟩ : ∃ z, x * x = z := ⟨_, rfl⟩
        rw [hz] at hc hf
        have HC := Lib.hid hc
        have FZ := Lib.hid hf
        clear hc hf hz
        go_wp2_with fail
        refine HC.out.mono ?_
        rintro e w4 ⟨rfl, hb⟩
        have HB4 := Lib.hid (HBW.out.trans (hb.mono HBW.out.size))
        clear hb HC
        go_wp2_with fail
        go_roundw
        case rel => exact ⟨z, i + 1, rfl, FZ.out, by go_num, by omega, HB4.out⟩
        case measure => simp [intOf]; omega
      · have hc := RMulT_ok x x wr FX.out FX.out
        rw [show outS (x * x) = ⟨#[]⟩ from if_neg hf, show outE (x * x) = 3 from if_neg hf] at hc
        have HC := Lib.hid hc
        clear hc hf
        go_wp2_with fail
        refine HC.out.mono ?_
        rintro e w4 ⟨rfl, hb⟩
        have HB4 := Lib.hid (HBW.out.trans (hb.mono HBW.out.size))
        clear hb HC
        go_wp2_with fail
        go_roundw
        case rel => exact ⟨x, i + 1, rfl, FX.out, by go_num, by omega, HB4.out⟩
        case measure => simp [intOf]; omega
    · obtain ⟨M, hM⟩ : ∃ M : Nat, (M : Int) = 397 + m % 6 := ⟨(397 + m % 6).toNat, by omega⟩
      have hM1 : M ≤ 402 := by omega
      have hM' : (397 : Int) + m % 6 = (M : Int) := hM.symm
      clear hM
      go_wp2_with fail
      go_loop [11] (fun sv => ∃ k : Nat, sv = .string (nin k) ∧ k ≤ M) (fun sv => match sv with | .string s => M - s.size | _ => 0)
      case atStart => exact ⟨0, rfl, Nat.zero_le _⟩
      case round =>
        obtain ⟨k, rfl, hkM⟩ := hrel
        have hks : (nin k).size ≤ 402 := by rw [nin_size]; omega
        by_cases hk : k < M
        · have hq : decide (((nin k).size : Int) < (M : Int)) = true := decide_eq_true (by rw [nin_size]; omega)
          have hq' : (nin k).size < M := by rw [nin_size]; exact hk
          have HNS := Lib.hid (nin_succ k)
          go_wp2_with fail
          go_round
          case rel => exact ⟨k + 1, by rw [← HNS.out], by omega⟩
          case measure => rw [HNS.out]; show M - (nin (k + 1)).size < M - (nin k).size; rw [nin_size, nin_size]; omega
        · have hq' : ¬ (nin k).size < M := by rw [nin_size]; exact hk
          have hxs := str_small x FX.out
          have hys := str_small y FY.out
          have hmn : (⟨#[45]⟩ ++ nin k : ByteArray).size ≤ 403 := by rw [ByteArray.size_append]; exact Nat.le_trans (Nat.add_le_add (Nat.le_refl 1) hks) (by decide)
          generalize str x = sx at *
          generalize str y = sy at *
          generalize nin k = sn at *
          clear FX FY
          go_wp2_with fail
          have IX := Lib.hid (pairs_ix sx sy sn (⟨#[45]⟩ ++ sn) hxs hys hks hmn)
          go_loopw [69] (fun kv wr => ∃ (k : Nat), kv = .int .i64 (k : Int) ∧ k ≤ 4 ∧ Below w.heap.size w wr) (fun kv _ => 4 - (intOf kv).toNat)
          case atStart => exact ⟨0, rfl, by omega, HBW.out⟩
          case round =>
            obtain ⟨n, rfl, hn4, hbw⟩ := hrel
            have HBV := Lib.hid hbw
            clear hbw
            by_cases hlt2 : n < 4
            · obtain ⟨s, t, hix, hs, ht⟩ := IX.out n hlt2
              have HS := Lib.hid hs
              have HT2 := Lib.hid ht
              obtain ⟨r1, c1, ha1, hb1⟩ := agMul s t HS.out HT2.out
              obtain ⟨q2, r2, c2, ha2, hb2⟩ := agDiv s t HS.out HT2.out
              obtain ⟨r3, c3, ha3, hb3⟩ := agAdd s t HS.out HT2.out
              have A1 := Lib.hid ha1
              have A2 := Lib.hid ha2
              have A3 := Lib.hid ha3
              have B1 := Lib.hid hb1
              have B2 := Lib.hid hb2
              have B3 := Lib.hid hb3
              clear hs ht ha1 hb1 ha2 hb2 ha3 hb3
              go_wp2_with fail
              have k0 : Blk (wr.alloc (.cells #[.string s, .string t] 30)) wr.heap.size 30 [.string s, .string t] := Blk.new wr _ _
              have hb0 : Below w.heap.size w (wr.alloc (.cells #[.string s, .string t] 30)) := HBV.out.alloc (HBV.out.size) _
              generalize wr.alloc (.cells #[.string s, .string t] 30) = v0 at *
              have K0 := Lib.hid k0
              have V0 := Lib.hid hb0
              clear k0 hb0
              refine (A1.out v0 (HT.out.below V0.out)).mono ?_
              rintro e v1 ⟨rfl, hb⟩
              have V1 := Lib.hid (V0.out.trans (hb.mono V0.out.size))
              have K1 := Lib.hid (K0.out.below hb)
              clear hb
              have e0 : v1.cell? ⟨wr.heap.size, 0, none⟩ = some (.string s) := K1.out.at_ rfl
              have e1 : v1.cell? ⟨wr.heap.size, 1, none⟩ = some (.string t) := K1.out.at_ rfl
              go_wp2_with fail
              refine (B1.out v1).mono ?_
              rintro e v2 ⟨rfl, hb⟩
              have V2 := Lib.hid (V1.out.trans (hb.mono V1.out.size))
              have K2 := Lib.hid (K1.out.below hb)
              clear hb
              clear e0 e1
              have e0 : v2.cell? ⟨wr.heap.size, 0, none⟩ = some (.string s) := K2.out.at_ rfl
              have e1 : v2.cell? ⟨wr.heap.size, 1, none⟩ = some (.string t) := K2.out.at_ rfl
              go_wp2_with fail
              refine (A2.out v2 (HT.out.below V2.out)).mono ?_
              rintro e v3 ⟨rfl, hb⟩
              have V3 := Lib.hid (V2.out.trans (hb.mono V2.out.size))
              have K3 := Lib.hid (K2.out.below hb)
              clear hb
              clear e0 e1
              have e0 : v3.cell? ⟨wr.heap.size, 0, none⟩ = some (.string s) := K3.out.at_ rfl
              have e1 : v3.cell? ⟨wr.heap.size, 1, none⟩ = some (.string t) := K3.out.at_ rfl
              go_wp2_with fail
              refine (B2.out v3).mono ?_
              rintro e v4 ⟨rfl, hb⟩
              have V4 := Lib.hid (V3.out.trans (hb.mono V3.out.size))
              have K4 := Lib.hid (K3.out.below hb)
              clear hb
              clear e0 e1
              have e0 : v4.cell? ⟨wr.heap.size, 0, none⟩ = some (.string s) := K4.out.at_ rfl
              have e1 : v4.cell? ⟨wr.heap.size, 1, none⟩ = some (.string t) := K4.out.at_ rfl
              go_wp2_with fail
              refine (A3.out v4 (HT.out.below V4.out)).mono ?_
              rintro e v5 ⟨rfl, hb⟩
              have V5 := Lib.hid (V4.out.trans (hb.mono V4.out.size))
              have K5 := Lib.hid (K4.out.below hb)
              clear hb
              clear e0 e1
              have e0 : v5.cell? ⟨wr.heap.size, 0, none⟩ = some (.string s) := K5.out.at_ rfl
              have e1 : v5.cell? ⟨wr.heap.size, 1, none⟩ = some (.string t) := K5.out.at_ rfl
              go_wp2_with fail
              refine (B3.out v5).mono ?_
              rintro e v6 ⟨rfl, hb⟩
              have V6 := Lib.hid (V5.out.trans (hb.mono V5.out.size))
              have K6 := Lib.hid (K5.out.below hb)
              clear hb
              clear e0 e1
              go_wp2_with fail
              go_roundw
              case rel => exact ⟨n + 1, by go_num, by omega, V6.out⟩
              case measure => simp [intOf]; omega
            · go_wp2_with fail
              refine (sane_any wr (HT.out.below HBV.out)).mono ?_
              rintro e w5 ⟨rfl, hb⟩
              have HB5 := Lib.hid (HBV.out.trans (hb.mono HBV.out.size))
              clear hb
              go_wp2_with fail
              go_ret
              exact ⟨rfl, HB5.out⟩

end Go.Proofs.YtmickdolpgjbhaaGreatDoor
