import Derived.Test.YtajlojhklhlljaaGreatDoorZMU
set_option maxHeartbeats 16000000
set_option maxRecDepth 100000
set_option linter.unusedVariables false
set_option linter.unusedSimpArgs false
set_option linter.unusedSectionVars false
namespace Go.Proofs.YtajlojhklhlljaaGreatDoor
open Go.RowKit
theorem det3_le (q : Nat) (h : q ≤ 3) : detDig 1 q ≤ 400 :=
 match q, h with
 | 0, _ => by decide
 | 1, _ => by decide
 | 2, _ => by decide
 | 3, _ => by decide
theorem MatF.snoc {rs : List RowT} {m n : Nat} {M : Nat → Nat → Rat} {ss : List ByteArray} {x : Nat → Rat} {A : Option Addr} {c : Nat} (h : MatF rs m n M) (hv : VecF ss n x) : MatF (rs ++ [⟨A, c, ss⟩]) (m + 1) n (fun i k => if i < m then M i k else x k) := by
 have hl := h.len
 refine ⟨by rw [List.length_append, hl]; rfl, fun r hr => ?_, fun i k hi hk => ?_, fun i k hi hk => ?_⟩
 ·rcases List.mem_append.1 hr with h1 | h1
  ·exact h.row r h1
  ·rw [List.mem_singleton.1 h1]; exact hv.len
 ·by_cases e : i < m
  ·have hi' : i < rs.length := by omega
   simp only [List.getElem_append_left hi', if_pos e] at hk ⊢
   exact h.cel i k hi' hk
  ·have : i = rs.length := by simp at hi; omega
   subst this
   simp only [List.getElem_append_right (Nat.le_refl _), Nat.sub_self, List.getElem_singleton, if_neg e] at hk ⊢
   exact hv.cel k hk
 ·show FitsR (if i < m then M i k else x k)
  split
  ·exact h.fit i k (by assumption) hk
  ·exact hv.fit k hk
theorem MatrixRank_any (A : Option Addr) (l cp : Nat) (w : World) (h : Ints w A l) (hlc : l ≤ cp) (hl : l ≤ 9223372036854775807) (henv : Env w) :
  Calls Tryz.prog 4 #[.slice A l cp] w fun e w' => e = .returned (.bool true) ∧ Below w.heap.size w w' := by
 obtain ⟨i0, hi, hz0, hz1, hz2⟩ := info_parts Tryz.infoRats
 have HE := Lib.hid henv
 have HI := Lib.hid h
 clear henv h
 go_enter Tryz.func4, Tryz.ntmps4
 go_wp2_with fail
 refine (New_any A l cp w HI.out hlc hl).mono ?_
 rintro e w0 ⟨rfl, hs, hb⟩
 obtain ⟨b, hbe⟩ : ∃ b, w.heap.size = b := ⟨_, rfl⟩
 have hsz2 : w.heap.size ≤ b := by omega
 have HS : Hid (Src w0 b) := by rw [← hbe]; exact Lib.hid hs
 have HB := Lib.hid hb
 clear hs hb HI
 rw [hbe]
 have HUP := Lib.hid (fun (W W' : World) (hW : Below w.heap.size w W) (hg : W.grownBy W' (some b)) => srcBelow hW hsz2 hg)
 clear hbe hsz2
 go_wp2_with fail
 refine (N_any b 4 w0 HS.out (by decide) (by decide)).mono ?_
 rintro e w1 ⟨n', rfl, hn, hs, hg⟩
 replace HB := Lib.hid (HUP.out _ _ HB.out hg)
 obtain ⟨r, hn2⟩ : ∃ n : Nat, 1 + n' = n := ⟨_, rfl⟩
 have hrl : 1 ≤ r := by omega
 have hru : r ≤ 4 := by omega
 have hre : (1 : Int) + (n' : Int) = (r : Int) := by omega
 clear hn hn2
 replace HS := Lib.hid hs
 clear hs hg
 go_wp2_with fail
 refine (N_any b 4 w1 HS.out (by decide) (by decide)).mono ?_
 rintro e w2 ⟨n', rfl, hn, hs, hg⟩
 replace HB := Lib.hid (HUP.out _ _ HB.out hg)
 obtain ⟨n, hn2⟩ : ∃ n : Nat, 1 + n' = n := ⟨_, rfl⟩
 have hnl : 1 ≤ n := by omega
 have hnu : n ≤ 4 := by omega
 have hne : (1 : Int) + (n' : Int) = (n : Int) := by omega
 clear hn hn2
 replace HS := Lib.hid hs
 clear hs hg
 go_wp2_with fail
 refine (mxThin b r n w2 HS.out (by omega) (by omega) (Or.inl (by omega))).mono ?_
 rintro e w3 ⟨Aa, ca, a, rfl, hm, hd, hs, hg⟩
 replace HB := Lib.hid (HUP.out _ _ HB.out hg)
 have Oa := Lib.hid hm
 have Ta := Lib.hid hd
 obtain ⟨Ba, hBa⟩ : ∃ B, w2.heap.size = B := ⟨_, rfl⟩
 rw [hBa] at Oa
 have hba : b < Ba := by have := HS.out.lt; omega
 clear hm hd hBa
 have Da := Lib.hid Ta.out.dig
 replace HS := Lib.hid hs
 clear hs hg
 obtain ⟨rsa, hta, hfa⟩ := Oa.out
 have HT := Lib.hid hta
 have HF := Lib.hid hfa
 have hrl := hfa.len
 clear hta hfa Oa
 obtain ⟨B5, hB5⟩ : ∃ B, w3.heap.size = B := ⟨_, rfl⟩
 have hbB5 : b < B5 := by have := HS.out.lt; omega
 go_wp2_with fail
 refine (RTrn_any Aa rsa ca r n a w3 (by have := HT.out; rw [← hrl] at this; exact this.read) HF.out (by omega) (by omega) (by omega) (by omega)).mono ?_
 rintro e w5 ⟨Ab, cb, rsb, rfl, hfb, hmb, hb⟩
 rw [hB5] at hmb
 have Ob := Lib.hid (show MxOwn B5 w5 Ab n r cb (trn a) from ⟨rsb, hmb.topM, hfb⟩)
 replace HT := Lib.hid (HT.out.below hb)
 replace HS := Lib.hid (HS.out.below hb)
 replace HB := Lib.hid (HB.out.trans (hb.mono HB.out.size))
 clear hb hfb hmb hB5
 have HO := Lib.hid HT.out.o
 rw [hrl] at HO
 obtain ⟨ga, rfl⟩ := ownAddr HO.out (by omega)
 have NEWS := Lib.hid (show TopM Ba w5 (.slice (some ⟨ga, 0, none⟩) rsa.length ca) rsa by rw [hrl]; exact HT.out).news
 have HLR := Lib.hid (show (rowt rsa).length = r * 1 by rw [rowt_length]; omega)
 have hbw5 : b < w5.heap.size := HS.out.lt
 go_wp2_with (at_builtin; refine wpList_append_own _ rfl _ _ 27 rfl w5.heap.size 33 i0 (.slice none 0 0) 1 24 Tryz.underlying27 hi hz0 hz1 hz2 rfl (by decide) _ _ _ rfl (World.ownsRow_nil _ _ _ _) ⟨ga, 0, none⟩ r ca (rowt rsa) rfl HLR.out NEWS.out rowt_one (by unfold maxLen; omega) (by omega) (Nat.le_refl _) ?_)
 intro v7 w7 hown hgrow _
 have hb7 : Below w5.heap.size w5 w7 := below_none hgrow
 obtain ⟨A7, c7, rfl, -⟩ := ownForm hown
 obtain ⟨gX, rfl⟩ := ownAddr hown (by omega)
 have hgX := hown.lt gX rfl
 have HX := Lib.hid hown
 have HB7 := Lib.hid hb7
 have HS7 := Lib.hid (HS.out.below hb7)
 have HBB7 := Lib.hid (HB.out.trans (hb7.mono HB.out.size))
 have hz7 := hb7.size
 clear hown hgrow hb7 NEWS
 go_wp2_with fail
 refine (vcRats b n w7 HS7.out (by omega)).mono ?_
 rintro e w8 ⟨Ax, cx, x, rfl, hvo, hsm, hs8, hg8⟩
 have HX8 := Lib.hid (own_grown HX.out hg8 (by omega))
 have HV8 := Lib.hid hvo
 have HSM := Lib.hid hsm
 have HG8 := Lib.hid hg8
 have hz8 := hg8.size
 have HBB8 := Lib.hid (HUP.out _ _ HBB7.out hg8)
 clear hvo hsm hs8 hg8 HS7 HX
 go_wp2_with (at_builtin; refine wpList_append_own _ rfl _ _ 27 rfl w5.heap.size 33 i0 (.slice none 0 0) 1 24 Tryz.underlying27 hi hz0 hz1 hz2 rfl (by decide) _ _ _ rfl (HX8.out.alloc _) ⟨w8.heap.size, 0, none⟩ 1 1 [_] rfl rfl one_new sl_one (by unfold maxLen; omega) (by omega) (by simp; omega) ?_)
 intro v9 w9 hown hgrow _
 obtain ⟨A9, c9, rfl, -⟩ := ownForm hown
 have hg59 : w5.grownBy w9 (some b) := by
  refine ⟨hgrow.os.trans (HG8.out.os.trans HB7.out.os), hgrow.tape.trans (HG8.out.tape.trans HB7.out.tape), hgrow.output.trans (HG8.out.output.trans HB7.out.output), by have := hgrow.size; simp at this; omega, fun i hi hne => ?_⟩
  rw [hgrow.block i (by simp; omega) (by intro e; have e2 : i = gX := Option.some.inj e; have := hgX.1; omega), Below.heap_alloc _ _ _ (by omega), HG8.out.block i (by omega) hne, HB7.out.block i hi]
 have HT9 := Lib.hid (HT.out.grown hg59 hba)
 have Ob9 := Lib.hid (Ob.out.grown hg59 hbB5)
 obtain ⟨ssx, hsl, hso, hvf⟩ := HV8.out
 have hso9 := (hso.alloc (.cells #[.slice Ax n cx] 33)).kept hgrow (own_ne (hso.alloc (.cells #[.slice Ax n cx] 33)) (HX8.out.alloc (.cells #[.slice Ax n cx] 33)) (by decide))
 obtain ⟨A', c', e', -, hsx, -⟩ := own_strs (by rw [hsl]; exact hso9)
 have eA : Ax = A' := by injection e'
 subst eA
 have HF5 := HF.out
 have Om := Lib.hid (show MxIn w9 A9 (r + 1) n (fun i k => if i < r then a i k else x k) from ⟨rsa ++ [⟨Ax, cx, ssx⟩], ⟨by rw [rowt_snoc]; show VRow w9 A9 (rowt rsa ++ [.slice Ax ssx.length cx]); rw [hsl]; exact ownLies hown, fun q hq => (List.mem_append.1 hq).elim (fun h => (HT9.out.i q h).s) (fun h => by rw [List.mem_singleton.1 h]; exact hsx)⟩, HF.out.snoc hvf⟩)
 have Oa := Lib.hid (show MxIn w9 (some ⟨ga, 0, none⟩) r n a from ⟨rsa, (show TopM Ba w9 (.slice (some ⟨ga, 0, none⟩) rsa.length ca) rsa by rw [hrl]; exact HT9.out).read, HF.out⟩)
 replace Ob := Lib.hid Ob9.out.mxIn
 have Dm := Lib.hid (show DigM 1 (r + 1) n (fun i k => if i < r then a i k else x k) from fun i k hi hk => by show DigR 1 (if i < r then a i k else x k); split; exact Da.out i k (by assumption) hk; exact (HSM.out k hk).dig)
 have Db := Lib.hid (show DigM 1 n r (trn a) from fun i k hi hk => Da.out k i hk hi)
 replace HB := Lib.hid (HUP.out _ _ HB.out hg59)
 have EM := Lib.hid (show ∀ i k, i < r → k < n → (fun i k => if i < r then a i k else x k) i k = a i k from fun i k hi hk => if_pos hi)
 generalize (fun i k => if i < r then a i k else x k) = mo at *
 clear hown hgrow hg59 HT9 Ob9 HV8 hso hso9 hsx hvf e' HX8 HG8 HB7 HBB7 HBB8 HS HT HF HO HSM HUP HLR HF5 hsl
 go_wp2_with fail
 refine (mxRank 5 (k0 := 1) (by decide) Oa.out (by omega) (by omega) (by omega) (by omega) (by decide) (by decide) Da.out (HE.out.below HB.out)).mono ?_
 rintro e w10 ⟨rx, rfl, hk, hb⟩
 replace Oa := Lib.hid (Oa.out.below hb)
 replace Ob := Lib.hid (Ob.out.below hb)
 replace Om := Lib.hid (Om.out.below hb)
 replace HB := Lib.hid (HB.out.trans (hb.mono HB.out.size))
 clear hb
 have Kx := Lib.hid hk
 clear hk
 go_wp2_with fail
 refine (mxRank 5 (k0 := 1) (by decide) Ob.out (by omega) (by omega) (by omega) (by omega) (by decide) (by decide) Db.out (HE.out.below HB.out)).mono ?_
 rintro e w11 ⟨ry, rfl, hk, hb⟩
 replace Oa := Lib.hid (Oa.out.below hb)
 replace Ob := Lib.hid (Ob.out.below hb)
 replace Om := Lib.hid (Om.out.below hb)
 replace HB := Lib.hid (HB.out.trans (hb.mono HB.out.size))
 clear hb
 have Ky := Lib.hid hk
 clear hk
 go_wp2_with fail
 refine (mxRank 5 (k0 := 1) (by decide) Om.out (by omega) (by omega) (by omega) (by omega) (by decide) (by decide) Dm.out (HE.out.below HB.out)).mono ?_
 rintro e w12 ⟨rz, rfl, hk, hb⟩
 replace Oa := Lib.hid (Oa.out.below hb)
 replace Ob := Lib.hid (Ob.out.below hb)
 replace Om := Lib.hid (Om.out.below hb)
 replace HB := Lib.hid (HB.out.trans (hb.mono HB.out.size))
 clear hb
 have Kz := Lib.hid hk
 clear hk
 have exy : ry = rx := Ky.out.same Kx.out.trn
 subst exy
 have hrm := (Kx.out.congr fun i k hi hk => (EM.out i k hi hk).symm).more Kz.out
 have hxr := Kx.out.rows
 have hxc := Kx.out.cols
 obtain ⟨hz1', hz2'⟩ := hrm
 go_wp2_with fail
 refine (mxKernel 5 (k0 := 1) (by decide) Oa.out (by omega) (by omega) (by omega) (by omega) (by decide) (by decide) Da.out Ta.out.int (fun q h1 h2 => det3_le q (by omega)) (HE.out.below HB.out)).mono ?_
 rintro e wk ⟨rk, hk, hh⟩
 obtain rfl : rk = ry := hk.same Kx.out
 have k1 : ¬ (rz : Int) < (rk : Int) := by omega
 have k2 : ¬ (rk : Int) + 1 < (rz : Int) := by omega
 have k3 : ¬ min (r : Int) (n : Int) < (rk : Int) := by omega
 clear hk
 rcases hh with ⟨he, rfl, hb⟩ | ⟨hlt, xk, ak, hak, hx1, hz, hfx, A0, c0, rfl, hv, hb⟩
 ·have k4 : ¬ (rk : Int) < (n : Int) := by omega
  replace HB := Lib.hid (HB.out.trans (hb.mono HB.out.size))
  clear hb
  go_wp2_with fail
  refine (Sane3 _ (HE.out.below HB.out)).mono ?_
  rintro e wz ⟨rfl, hb⟩
  have HBZ := Lib.hid (HB.out.trans (hb.mono HB.out.size))
  clear hb
  go_wp2_with fail
  go_ret
  exact ⟨rfl, HBZ.out⟩
 ·have k4 : (rk : Int) < (n : Int) := by omega
  replace HB := Lib.hid (HB.out.trans (hb.mono HB.out.size))
  have Oa' := Lib.hid (Oa.out.below hb)
  have Ok := Lib.hid hv
  have HX1 := Lib.hid hx1
  have HZ0 := Lib.hid hz
  clear hb hv hx1 hz Oa Ob Om
  go_wp2_with fail
  refine (mxApp Oa'.out Ok.out (by omega) (by omega) (by omega) (by omega) (fun i hi => by rw [HZ0.out i hi]; exact fits0) (HE.out.below HB.out)).mono ?_
  rintro e wm ⟨Az, cz, rfl, hm, hb⟩
  have Oz := Lib.hid (hm.congr (y := fun _ => 0) HZ0.out)
  replace Ok := Lib.hid (Ok.out.below hb)
  replace HB := Lib.hid (HB.out.trans (hb.mono HB.out.size))
  clear hm hb Oa' HZ0 k1 k2 k3 k4
  obtain ⟨gk, ok, ek⟩ := Ok.out.addr (by omega)
  subst ek
  obtain ⟨gz, oz, ez⟩ := Oz.out.addr (by omega)
  subst ez
  go_wp2_with fail
  go_loopw [20, 125] (fun sv iv wr => ∃ (i : Nat) (bb : Bool), iv = .int .i64 (i : Int) ∧ sv = .bool bb ∧ i ≤ n ∧ (ak < i → bb = true) ∧ Below wm.heap.size wm wr) (fun _ iv _ => n - (intOf iv).toNat)
  case atStart => exact ⟨0, false, rfl, rfl, Nat.zero_le _, fun h => by omega, Below.refl _ _⟩
  case round =>
   obtain ⟨i, bb, rfl, rfl, hi', hbb, hbw⟩ := hrel
   obtain ⟨wq, rfl⟩ : ∃ wq : World, wq = wr := ⟨_, rfl⟩
   have HBK := Lib.hid hbw
   by_cases hlt2 : i < n
   ·have ck := (Ok.out.below hbw).at_ hlt2
    have h0 := rstr_is0 (xk i)
    have HC := Lib.hid (fun (e : ak = i) => (show decide (xk i = 0) = false by rw [← e, HX1.out]; decide))
    obtain ⟨dz, hdz⟩ : ∃ dz, decide (xk i = 0) = dz := ⟨_, rfl⟩
    rw [hdz] at h0 HC
    clear hdz hbw
    generalize rstr (xk i) = sx at *
    have k1 : (0 : Int) ≤ (i : Int) := by omega
    have k2 : (i : Int) < (n : Int) := by omega
    cases bb <;> cases dz
    all_goals
     go_wp2_with fail
     go_roundw
     case rel => exact ⟨i + 1, _, by go_num, rfl, by omega, fun h => (by first | rfl | exact ((Nat.lt_or_ge ak i).elim (fun e => absurd (hbb e) (by decide)) (fun e => absurd (HC.out (by omega)) (by decide)))), HBK.out⟩
     case measure => simp [intOf]; omega
   ·have hbt : bb = true := hbb (by omega)
    subst hbt
    have hcn : (i : Int) = (n : Int) := by omega
    have k5 : ¬ (i : Int) < (n : Int) := by omega
    clear hbw hbb
    go_wp2_with fail
    go_loopw [137] (fun iv wr => ∃ j : Nat, iv = .int .i64 (j : Int) ∧ j ≤ r ∧ Below wq.heap.size wq wr) (fun iv _ => r - (intOf iv).toNat)
    case atStart => exact ⟨0, rfl, Nat.zero_le _, Below.refl _ _⟩
    case round =>
     obtain ⟨j, rfl, hj, hbw⟩ := hrel
     obtain ⟨wp, rfl⟩ : ∃ wp : World, wp = wr := ⟨_, rfl⟩
     have HBP := Lib.hid (HBK.out.trans (hbw.mono HBK.out.size))
     have HBQ := Lib.hid hbw
     clear hbw
     by_cases hlt3 : j < r
     ·have cz := (Oz.out.below HBP.out).at_ hlt3
      have h0 := rstr_is0 0
      rw [show decide ((0 : Rat) = 0) = true by decide] at h0
      generalize rstr 0 = s0 at *
      have k1 : (0 : Int) ≤ (j : Int) := by omega
      have k2 : (j : Int) < (r : Int) := by omega
      go_wp2_with fail
      go_roundw
      case rel => exact ⟨j + 1, by go_num, by omega, HBQ.out⟩
      case measure => simp [intOf]; omega
     ·have k6 : ¬ (j : Int) < (r : Int) := by omega
      have HBY := Lib.hid (HB.out.trans (HBP.out.mono HB.out.size))
      go_wp2_with fail
      refine (Sane3 _ (HE.out.below HBY.out)).mono ?_
      rintro e wz ⟨rfl, hb⟩
      have HBZ := Lib.hid (HBY.out.trans (hb.mono HBY.out.size))
      clear hb
      go_wp2_with fail
      go_ret
      exact ⟨rfl, HBZ.out⟩
end Go.Proofs.YtajlojhklhlljaaGreatDoor
