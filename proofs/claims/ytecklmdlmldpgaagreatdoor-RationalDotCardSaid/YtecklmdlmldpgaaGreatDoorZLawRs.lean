/-
  The walk of RationalSums.
-/
import Derived.Test.YtecklmdlmldpgaaGreatDoorZXA
import Derived.Test.YtecklmdlmldpgaaGreatDoorZY
import Derived.Test.YtecklmdlmldpgaaGreatDoorZV
namespace Go.Proofs.YtecklmdlmldpgaaGreatDoor
open Go.RowKit

/-- A list of texts that lies below block N and not in block b. -/
def StrN (b N : Nat) (w : World) (A : Option Addr) (ss : List ByteArray) : Prop := Strs w A ss ∧ ∀ bb off, A = some ⟨bb, off, none⟩ → ss ≠ [] → bb < N ∧ bb ≠ b
theorem StrN.up {b N : Nat} {w w' : World} {A : Option Addr} {ss : List ByteArray} (h : StrN b N w A ss) (hs : w.heap.size ≤ w'.heap.size) (hk : ∀ i, i < N → i ≠ b → w'.heap[i]? = w.heap[i]?) : StrN b N w' A ss := by
  refine ⟨fun hn => ?_, h.2⟩
  obtain ⟨bb, off, e, hlt, hc⟩ := h.1 hn
  obtain ⟨h1, h2⟩ := h.2 bb off e hn
  exact ⟨bb, off, e, by omega, fun i hi => (World.cell?_of_block (w := w) (a := ⟨bb, off + i, none⟩) (hk bb h1 h2)).trans (hc i hi)⟩
theorem StrN.grown {b N : Nat} {w w' : World} {A : Option Addr} {ss : List ByteArray} (h : StrN b N w A ss) (hN : N ≤ w.heap.size) (hg : w.grownBy w' (some b)) : StrN b N w' A ss :=
  h.up hg.size (fun i hi hne => hg.block i (by omega) (fun e => hne (by injection e)))
theorem StrN.of_own {b B e : Nat} {w : World} {v : Value} {ss : List ByteArray} (h : w.ownsRow B e 1 v ss.length (sv ss)) (hb : b < B) : ∃ A c, v = .slice A ss.length c ∧ StrN b w.heap.size w A ss := by
  obtain ⟨A, c, e1, h1, h2, h3⟩ := own_strs h
  refine ⟨A, c, e1, h2, fun bb off e2 hn => ?_⟩
  obtain ⟨bb', off', e3, hlt, _⟩ := h2 hn
  rw [e2] at e3
  injection e3 with e3
  injection e3 with e3 e4
  subst e3
  have := h3 bb off e2
  exact ⟨hlt, by omega⟩
theorem StrN.more {b N N' : Nat} {w : World} {A : Option Addr} {ss : List ByteArray} (h : StrN b N w A ss) (hN : N ≤ N') : StrN b N' w A ss := ⟨h.1, fun bb off e hn => by have := h.2 bb off e hn; exact ⟨by omega, this.2⟩⟩
theorem below_above {w W W' : World} {b : Nat} (h : Below w.heap.size w W) (hb : w.heap.size ≤ b) (g : W.grownBy W' (some b)) : Below w.heap.size w W' :=
  h.trans { os := g.os, tape := g.tape, output := g.output, size := g.size, block := fun i hi => g.block i (Nat.lt_of_lt_of_le hi h.size) (fun e => by have := Option.some.inj e; omega) }
theorem below_of_grown0 {a w : World} (h : a.grownBy w none) : Below a.heap.size a w := ⟨h.os, h.tape, h.output, h.size, fun i hi => h.block i hi (by simp)⟩
/-- A list of texts that can be tried. -/
structure Tl (ss : List ByteArray) : Prop where
  len : ss.length ≤ 1000
  sz : ∀ s ∈ ss, s.size ≤ 4000000000
theorem Tl.short {ss : List ByteArray} (h : shortB ss = true) : Tl ss := by
  unfold shortB at h
  rw [Bool.and_eq_true_iff, List.all_eq_true] at h
  exact ⟨by have := of_decide_eq_true h.1; omega, fun s hs => by have := of_decide_eq_true (h.2 s hs); omega⟩
theorem Tl.rats {qs : List Rat} (h : ∀ q ∈ qs, Small1 q) (hl : qs.length ≤ 999) : Tl (qs.map rstr) := ⟨by simp; omega, fun s hs => by
  obtain ⟨q, hq, rfl⟩ := List.mem_map.1 hs
  rw [rstr_size]
  have := rtext_len (h q hq).fits
  omega⟩
theorem Tl.snoc {ss : List ByteArray} {s : ByteArray} (h : Tl ss) (hl : ss.length ≤ 999) (hs : s.size ≤ 100) : Tl (ss ++ [s]) := ⟨by simp; omega, fun x hx => by
  rcases List.mem_append.1 hx with h1 | h1
  · exact h.sz x h1
  · rw [List.mem_singleton.1 h1]; omega⟩
theorem sum_form (ss : List ByteArray) : ∃ r e, sumV ss = .tuple #[.string r, .int .i64 e] := by
  unfold sumV
  split
  · exact ⟨_, _, rfl⟩
  · split
    · exact ⟨_, _, rfl⟩
    · exact ⟨_, _, rfl⟩
theorem dot_form (ss ts : List ByteArray) : ∃ r e, dotV ss ts = .tuple #[.string r, .int .i64 e] := by
  unfold dotV
  split
  · exact ⟨_, _, rfl⟩
  · split
    · exact ⟨_, _, rfl⟩
    · split
      · exact ⟨_, _, rfl⟩
      · exact ⟨_, _, rfl⟩
/-- The program and its reference give the same sum and the same product. -/
theorem agSum (A : Option Addr) (ss : List ByteArray) (c : Nat) (h : Tl ss) : ∃ r e, (∀ w, Strs w A ss → Env w → Calls Tryz.prog 67 #[.slice A ss.length c] w fun x w' => x = .returned (.tuple #[.string r, .int .i64 e]) ∧ Below w.heap.size w w') ∧ (∀ w, Strs w A ss → Calls Tryz.prog 68 #[.slice A ss.length c] w fun x w' => x = .returned (.tuple #[.string r, .int .i64 e]) ∧ Below w.heap.size w w') := by
  obtain ⟨r, e, he⟩ := sum_form ss
  have hl := h.len
  refine ⟨r, e, fun w hs hE => ?_, fun w hs => ?_⟩
  · have := RatSum A ss c w hs (by omega) h.sz hE
    rwa [he] at this
  · have := RFSum_any A ss c w hs (by omega) h.sz
    rwa [he] at this
theorem agDot (A A' : Option Addr) (ss ts : List ByteArray) (c c' : Nat) (h : Tl ss) (h' : Tl ts) : ∃ r e, (∀ w, Strs w A ss → Strs w A' ts → Env w → Calls Tryz.prog 69 #[.slice A ss.length c, .slice A' ts.length c'] w fun x w' => x = .returned (.tuple #[.string r, .int .i64 e]) ∧ Below w.heap.size w w') ∧ (∀ w, Strs w A ss → Strs w A' ts → Calls Tryz.prog 70 #[.slice A ss.length c, .slice A' ts.length c'] w fun x w' => x = .returned (.tuple #[.string r, .int .i64 e]) ∧ Below w.heap.size w w') := by
  obtain ⟨r, e, he⟩ := dot_form ss ts
  have hl := h.len
  have hl' := h'.len
  refine ⟨r, e, fun w hs ht hE => ?_, fun w hs ht => ?_⟩
  · have := RatDot A A' ss ts c c' w hs ht (by omega) (by omega) h.sz h'.sz hE
    rwa [he] at this
  · have := RFDot_any A A' ss ts c c' w hs ht (by omega) (by omega) h.sz h'.sz
    rwa [he] at this
/-- The five lists. -/
structure Five (W : World) (Ax Ay Az A1 A2 : Option Addr) (xs ys zs rs os : List ByteArray) : Prop where
  x : Strs W Ax xs
  y : Strs W Ay ys
  z : Strs W Az zs
  r : Strs W A1 rs
  o : Strs W A2 os
theorem Five.below {W W' : World} {Ax Ay Az A1 A2 : Option Addr} {xs ys zs rs os : List ByteArray} (h : Five W Ax Ay Az A1 A2 xs ys zs rs os) (hb : Below W.heap.size W W') : Five W' Ax Ay Az A1 A2 xs ys zs rs os := ⟨h.x.below hb, h.y.below hb, h.z.below hb, h.r.below hb, h.o.below hb⟩
theorem four_ix (Ax Ay Az A1 A2 : Option Addr) (xs ys zs rs os : List ByteArray) (cx cz c1 c2 : Nat) (hx : Tl xs) (hz : Tl zs) (hr : Tl rs) (ho : Tl os) : ∀ n : Nat, n < 4 → ∃ (A : Option Addr) (ss : List ByteArray) (c : Nat),
    (∀ W : World, (Instr.index 79 (.agg #[.slice Ax xs.length cx, .slice A1 rs.length c1, .slice Az zs.length cz, .slice A2 os.length c2]) (.int .i64 (n : Int))).run Tryz.prog W = .ok (.slice A ss.length c) W) ∧ Tl ss ∧ ∀ W, Five W Ax Ay Az A1 A2 xs ys zs rs os → Strs W A ss := by
  intro n hn
  match n, hn with
  | 0, _ => exact ⟨Ax, xs, cx, fun W => by kernel_rfl, hx, fun W h => h.x⟩
  | 1, _ => exact ⟨A1, rs, c1, fun W => by kernel_rfl, hr, fun W h => h.r⟩
  | 2, _ => exact ⟨Az, zs, cz, fun W => by kernel_rfl, hz, fun W h => h.z⟩
  | 3, _ => exact ⟨A2, os, c2, fun W => by kernel_rfl, ho, fun W h => h.o⟩
theorem three_ix (Ax Ay Az A1 A2 : Option Addr) (xs ys zs rs os : List ByteArray) (cy c1 c2 : Nat) (hy : Tl ys) (hr : Tl rs) (ho : Tl os) : ∀ n : Nat, n < 3 → ∃ (A : Option Addr) (ss : List ByteArray) (c : Nat),
    (∀ W : World, (Instr.index 81 (.agg #[.slice Ay ys.length cy, .slice A2 os.length c2, .slice A1 rs.length c1]) (.int .i64 (n : Int))).run Tryz.prog W = .ok (.slice A ss.length c) W) ∧ Tl ss ∧ ∀ W, Five W Ax Ay Az A1 A2 xs ys zs rs os → Strs W A ss := by
  intro n hn
  match n, hn with
  | 0, _ => exact ⟨Ay, ys, cy, fun W => by kernel_rfl, hy, fun W h => h.y⟩
  | 1, _ => exact ⟨A2, os, c2, fun W => by kernel_rfl, ho, fun W h => h.o⟩
  | 2, _ => exact ⟨A1, rs, c1, fun W => by kernel_rfl, hr, fun W h => h.r⟩

set_option maxRecDepth 100000 in
set_option maxHeartbeats 16000000 in
theorem RationalSums_any (A : Option Addr) (l cp : Nat) (w : World) (h : Ints w A l) (hlc : l ≤ cp) (hl : l ≤ 9223372036854775807) (henv : Env w) (A1 A2 : Option Addr) (rs os : List ByteArray) (c1 c2 : Nat) (h1 : Strs w A1 rs) (h2 : Strs w A2 os) (hl1 : rs.length ≤ 9223372036854775807) (hl2 : os.length ≤ 9223372036854775807) (hz1 : ∀ s ∈ rs, s.size ≤ 9223372036854775807) (hz2 : ∀ s ∈ os, s.size ≤ 9223372036854775807) :
    Calls Tryz.prog 13 #[.slice A l cp, .slice A1 rs.length c1, .slice A2 os.length c2] w fun e w' => e = .returned (.bool true) ∧ Below w.heap.size w w' := by
  have HL1 := Lib.hid (Lists_any A1 rs c1 w h1 hl1 hz1)
  have HL2 := Lib.hid (fun W (hW : Below w.heap.size w W) => Lists_any A2 os c2 W (h2.below hW) hl2 hz2)
  have HR := Lib.hid h1
  have HO := Lib.hid h2
  obtain ⟨i0, hi, hy0, hy1, hy2⟩ := info_parts Tryz.infoRat
  have HE := Lib.hid henv
  have HI := Lib.hid h
  clear henv h h1 h2 hz1 hz2
  by_cases hc0 : 400 < l
  · have hc0' : decide (400 < (l : Int)) = true := decide_eq_true (by omega)
    go_enter Tryz.func13, Tryz.ntmps13
    go_wp2_with fail
    refine (RSane w HE.out).mono ?_
    rintro e w1 ⟨rfl, hb⟩
    have HB := Lib.hid hb
    clear hb
    go_wp2_with fail
    go_ret
    exact ⟨rfl, HB.out⟩
  · have hc0' : decide (400 < (l : Int)) = false := decide_eq_false (by omega)
    cases hs1 : shortB rs
    · rw [hs1] at HL1
      clear hs1
      go_enter Tryz.func13, Tryz.ntmps13
      go_wp2_with fail
      refine (HL1.out).mono ?_
      rintro e w1 ⟨rfl, hb⟩
      have HB := Lib.hid hb
      clear hb
      go_wp2_with fail
      refine (RSane w1 (HE.out.below HB.out)).mono ?_
      rintro e w2 ⟨rfl, hb⟩
      replace HB := Lib.hid (HB.out.trans (hb.mono HB.out.size))
      clear hb
      go_wp2_with fail
      go_ret
      exact ⟨rfl, HB.out⟩
    · rw [hs1] at HL1
      have TR := Lib.hid (Tl.short hs1)
      clear hs1
      cases hs2 : shortB os
      · rw [hs2] at HL2
        clear hs2
        go_enter Tryz.func13, Tryz.ntmps13
        go_wp2_with fail
        refine (HL1.out).mono ?_
        rintro e w1 ⟨rfl, hb⟩
        have HB := Lib.hid hb
        clear hb
        go_wp2_with fail
        refine (HL2.out w1 HB.out).mono ?_
        rintro e w2 ⟨rfl, hb⟩
        replace HB := Lib.hid (HB.out.trans (hb.mono HB.out.size))
        clear hb
        go_wp2_with fail
        refine (RSane w2 (HE.out.below HB.out)).mono ?_
        rintro e w3 ⟨rfl, hb⟩
        replace HB := Lib.hid (HB.out.trans (hb.mono HB.out.size))
        clear hb
        go_wp2_with fail
        go_ret
        exact ⟨rfl, HB.out⟩
      · rw [hs2] at HL2
        have TO := Lib.hid (Tl.short hs2)
        clear hs2
        go_enter Tryz.func13, Tryz.ntmps13
        go_wp2_with fail
        refine (HL1.out).mono ?_
        rintro e w1 ⟨rfl, hb⟩
        have HB := Lib.hid hb
        clear hb
        go_wp2_with fail
        refine (HL2.out w1 HB.out).mono ?_
        rintro e w2 ⟨rfl, hb⟩
        replace HB := Lib.hid (HB.out.trans (hb.mono HB.out.size))
        clear hb
        clear HL1 HL2 hc0'
        go_wp2_with fail
        have hIn : Ints w2 A l := fun h0 => by
          obtain ⟨bb, off, e1, e2, e3⟩ := HI.out h0
          have hsz := HB.out.size
          exact ⟨bb, off, e1, by omega, fun i hi => by obtain ⟨z, e4, e5⟩ := e3 i hi; exact ⟨z, (HB.out.cell (p := ⟨bb, off + i, none⟩) e2).trans e4, e5⟩⟩
        have HNW := Lib.hid (New_any A l cp w2 hIn hlc hl)
        clear hIn
        refine HNW.out.mono ?_
        rintro e w3 ⟨rfl, hs, hb⟩
        have hsz2 := HB.out.size
        obtain ⟨b, hbe⟩ : ∃ b, w2.heap.size = b := ⟨_, rfl⟩
        rw [hbe] at hs hsz2 ⊢
        have HS := Lib.hid hs
        replace HB := Lib.hid (HB.out.trans (hb.mono HB.out.size))
        clear hs hb hbe HNW HI
        have HUP := Lib.hid (fun (W W' : World) (hW : Below w.heap.size w W) (hg : W.grownBy W' (some b)) => below_above hW hsz2 hg)
        go_wp2_with fail
        refine (N_any b 8 w3 HS.out (by decide) (by decide)).mono ?_
        rintro e w4 ⟨n, rfl, hn, hs, hg⟩
        replace HS := Lib.hid hs
        have hn8 : n < 8 := by omega
        clear hn
        replace HB := Lib.hid (HUP.out _ _ HB.out hg)
        clear hs hg
        go_wp2_with fail
        refine (Rats_any b n w4 HS.out (by omega)).mono ?_
        have HS4 := Lib.hid HS.out.lt
        rintro e w5 ⟨vx, qx, rfl, hlx, hsx, hox, hs, hg⟩
        replace HS := Lib.hid hs
        obtain ⟨Ax, cx, rfl, hnx⟩ := StrN.of_own (b := b) hox HS4.out
        have HX := Lib.hid hnx
        have TX := Lib.hid (Tl.rats hsx (by omega))
        clear hlx hsx hox hnx
        generalize qx.map rstr = xs at *
        replace HB := Lib.hid (HUP.out _ _ HB.out hg)
        clear hs hg
        go_wp2_with fail
        refine (Rats_any b n w5 HS.out (by omega)).mono ?_
        have HS5 := Lib.hid HS.out.lt
        rintro e w6 ⟨vy, qy, rfl, hly, hsy, hoy, hs, hg⟩
        replace HS := Lib.hid hs
        obtain ⟨Ay, cy, rfl, hny⟩ := StrN.of_own (b := b) hoy HS5.out
        have HY := Lib.hid hny
        have TY := Lib.hid (Tl.rats hsy (by omega))
        have hX6 : StrN b w6.heap.size w6 Ax xs := (HX.out.grown (Nat.le_refl _) hg).more hg.size
        replace HX := Lib.hid hX6
        clear hly hsy hoy hny hX6
        generalize qy.map rstr = ys at *
        replace HB := Lib.hid (HUP.out _ _ HB.out hg)
        clear hs hg
        go_wp2_with fail
        refine (Rats_any b 2 w6 HS.out (by omega)).mono ?_
        have HS6 := Lib.hid HS.out.lt
        rintro e w7 ⟨vz, qz, rfl, hlz, hsz, hoz, hs, hg⟩
        replace HS := Lib.hid hs
        have HZO := Lib.hid hoz
        have TZ := Lib.hid (Tl.rats hsz (by omega))
        have hqz : (qz.map rstr).length ≤ 2 := by simp; omega
        replace HX := Lib.hid (HX.out.grown (Nat.le_refl _) hg)
        replace HY := Lib.hid (HY.out.grown (Nat.le_refl _) hg)
        have HS67 := Lib.hid hg.size
        clear hlz hsz hoz
        generalize qz.map rstr = zs at *
        replace HB := Lib.hid (HUP.out _ _ HB.out hg)
        clear hs hg
        go_wp2_with fail
        refine (OddRat_any b w7 HS.out).mono ?_
        rintro e w8 ⟨so, rfl, hso, hs, hg⟩
        replace HS := Lib.hid hs
        replace HZO := Lib.hid (own_grown HZO.out hg HS6.out)
        replace HX := Lib.hid (HX.out.grown HS67.out hg)
        replace HY := Lib.hid (HY.out.grown HS67.out hg)
        have HS68 := Lib.hid (Nat.le_trans HS67.out hg.size)
        replace HB := Lib.hid (HUP.out _ _ HB.out hg)
        clear hs hg
        have hz68 := HS68.out
        go_wp2_with (at_builtin; refine wpList_append_own _ rfl _ _ 71 rfl w6.heap.size 26 i0 (.string ⟨#[]⟩) 1 16 Tryz.underlying71 hi hy0 hy1 hy2 rfl (by decide) _ _ _ rfl (HZO.out.alloc _) ⟨w8.heap.size, 0, none⟩ 1 1 [_] rfl rfl one_new one_str (by unfold maxLen; omega) (by omega) (by simp; omega) ?_)
        intro v' w9 hown9 hgrow9 _
        obtain ⟨ho9, hk9, hs9, hg9⟩ := sown_push HZO.out hz68 hown9 hgrow9
        obtain ⟨Az, cz, rfl, -, hz9, -⟩ := own_strs ho9
        have hw6 : w.heap.size ≤ w6.heap.size := by have := HS6.out; omega
        have HB9 := Lib.hid (below_of_grown0 (hg9 w none hw6 (grown_of_below HB.out none)))
        have HFV := Lib.hid (Five.mk (HX.out.up hs9 (fun i hi _ => hk9 i hi)).1 (HY.out.up hs9 (fun i hi _ => hk9 i hi)).1 hz9 (HR.out.below HB9.out) (HO.out.below HB9.out))
        have TZ2 := Lib.hid (TZ.out.snoc (s := so) (by omega) (by omega))
        have HIX := Lib.hid (four_ix Ax Ay Az A1 A2 xs ys (zs ++ [so]) rs os cx cz c1 c2 TX.out TZ2.out TR.out TO.out)
        have HJX := Lib.hid (three_ix Ax Ay Az A1 A2 xs ys (zs ++ [so]) rs os cy c1 c2 TY.out TR.out TO.out)
        generalize zs ++ [so] = zt at *
        clear hgrow9 hown9 ho9 hk9 hs9 hg9 hz9 HX HY HZO HS HR HO TX TY TZ TZ2 TR TO HB HUP HS4 HS5 HS6 HS67 HS68 hz68 hqz
        go_wp2_with fail
        go_loopw [55] (fun kv wr => ∃ k : Nat, kv = .int .i64 (k : Int) ∧ k ≤ 4 ∧ Five wr Ax Ay Az A1 A2 xs ys zt rs os ∧ Below w.heap.size w wr) (fun kv _ => 4 - (intOf kv).toNat)
        case atStart => exact ⟨0, rfl, by omega, HFV.out, HB9.out⟩
        case round =>
          clear HFV HB9
          obtain ⟨k, rfl, hk4, hfv, hbw⟩ := hrel
          have HFV := Lib.hid hfv
          have HB := Lib.hid hbw
          clear hfv hbw
          by_cases hlt : k < 4
          · obtain ⟨AS, ss, cs, hix, hts, hst⟩ := HIX.out k hlt
            have TS := Lib.hid hts
            have ST := Lib.hid hst
            obtain ⟨r1, e1, hS1, hS2⟩ := agSum AS ss cs hts
            have S1 := Lib.hid hS1
            have S2 := Lib.hid hS2
            have hsl := hts.len
            clear hts hst hS1 hS2
            obtain ⟨wq, rfl⟩ : ∃ wq : World, wq = wr := ⟨_, rfl⟩
            go_wp2_with fail
            refine (S1.out wq (ST.out _ HFV.out) (HE.out.below HB.out)).mono ?_
            rintro e w21 ⟨rfl, hb⟩
            replace HFV := Lib.hid (HFV.out.below hb)
            replace HB := Lib.hid (HB.out.trans (hb.mono HB.out.size))
            clear hb
            clear hix
            go_wp2_with fail
            refine (S2.out w21 (ST.out _ HFV.out)).mono ?_
            rintro e w22 ⟨rfl, hb⟩
            replace HFV := Lib.hid (HFV.out.below hb)
            replace HB := Lib.hid (HB.out.trans (hb.mono HB.out.size))
            clear hb
            go_wp2_with fail
            go_loopw [80] (fun kv wr => ∃ j : Nat, kv = .int .i64 (j : Int) ∧ j ≤ 3 ∧ Five wr Ax Ay Az A1 A2 xs ys zt rs os ∧ Below w.heap.size w wr) (fun kv _ => 3 - (intOf kv).toNat)
            case atStart => exact ⟨0, rfl, by omega, HFV.out, HB.out⟩
            case round =>
              clear HFV HB
              obtain ⟨j, rfl, hj3, hfv, hbw⟩ := hrel
              have HFV := Lib.hid hfv
              have HB := Lib.hid hbw
              clear hfv hbw
              by_cases hltj : j < 3
              · obtain ⟨AT, tt, ct, hjx, htt, htst⟩ := HJX.out j hltj
                have TT := Lib.hid htst
                obtain ⟨r2, e2, hD1, hD2⟩ := agDot AS AT ss tt cs ct TS.out htt
                have D1 := Lib.hid hD1
                have D2 := Lib.hid hD2
                have htl := htt.len
                clear htt htst hD1 hD2
                obtain ⟨wq, rfl⟩ : ∃ wq : World, wq = wr := ⟨_, rfl⟩
                go_wp2_with fail
                refine (D1.out wq (ST.out _ HFV.out) (TT.out _ HFV.out) (HE.out.below HB.out)).mono ?_
                rintro e w41 ⟨rfl, hb⟩
                replace HFV := Lib.hid (HFV.out.below hb)
                replace HB := Lib.hid (HB.out.trans (hb.mono HB.out.size))
                clear hb
                clear hjx
                go_wp2_with fail
                refine (D2.out w41 (ST.out _ HFV.out) (TT.out _ HFV.out)).mono ?_
                rintro e w42 ⟨rfl, hb⟩
                replace HFV := Lib.hid (HFV.out.below hb)
                replace HB := Lib.hid (HB.out.trans (hb.mono HB.out.size))
                clear hb
                go_wp2_with fail
                go_roundw
                case rel => exact ⟨j + 1, by go_num, by omega, HFV.out, HB.out⟩
                case measure => simp [intOf]; omega
              · go_wp2_with fail
                go_roundw
                case rel => exact ⟨k + 1, by go_num, by omega, HFV.out, HB.out⟩
                case measure => simp [intOf]; omega
          · clear HIX HJX
            go_wp2_with fail
            refine (RSane wr (HE.out.below HB.out)).mono ?_
            rintro e w21 ⟨rfl, hb⟩
            replace HB := Lib.hid (HB.out.trans (hb.mono HB.out.size))
            clear hb
            go_wp2_with fail
            go_ret
            exact ⟨rfl, HB.out⟩

end Go.Proofs.YtecklmdlmldpgaaGreatDoor
