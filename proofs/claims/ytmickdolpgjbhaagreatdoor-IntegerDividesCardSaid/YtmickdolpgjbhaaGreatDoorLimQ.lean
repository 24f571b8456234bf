/-
  Package limbs: String of numbers with signs.
-/
import Derived.Test.YtmickdolpgjbhaaGreatDoorLimP
namespace Go.Proofs.YtmickdolpgjbhaaGreatDoor
open Go.RowKit

/-- A builder that holds bytes. -/
def Bu (B b : Nat) (l : List UInt8) (w : World) : Prop := Lib.IsBuilder 108 5 B b (Lib.byteCells l) w
theorem builderAt_below {B b : Nat} {p : Value} {bs : List Value} {w w' : World} (h : Lib.BuilderAt 108 5 B b p bs w) (hb : Below w.heap.size w w') : Lib.BuilderAt 108 5 B b p bs w' := by
  have hlt := h.lt
  obtain ⟨hB, v, hbk, hown, hne⟩ := h
  exact ⟨hB, v, (hb.block b hlt).trans hbk, hown.kept (row := none) ⟨hb.os, hb.tape, hb.output, hb.size, fun k hk _ => hb.block k hk⟩ (by
    rcases hv : v.ownBlock with _ | g
    · exact .inl rfl
    · exact .inr (by simp)), hne⟩
theorem Bu.below {B b : Nat} {l : List UInt8} {w w' : World} (h : Bu B b l w) (hb : Below w.heap.size w w') : Bu B b l w' := by
  rcases h with h | h
  · exact .inl (builderAt_below h hb)
  · exact .inr (builderAt_below h hb)
theorem Bu.new (w : World) : Bu w.heap.size w.heap.size [] (w.alloc (.cells #[.pointer none, .slice none 0 0] 108)) :=
  .inl ⟨Nat.le_refl _, .slice none 0 0, heap_alloc_new w _, World.ownsRow_nil _ _ _ _, by simp [Value.ownBlock]⟩
theorem write_bu (B b : Nat) (l m : List UInt8) (w : World) (h : Bu B b l w) (hlen : l.length + m.length ≤ 1000000000) (hBw : B ≤ w.heap.size) :
    Calls Tryz.prog 85 #[.pointer (some ⟨b, 0, none⟩), .string ⟨m.toArray⟩] w fun e w' => e = .returned (.tuple #[.int .i64 (m.length : Nat), .nilIface]) ∧ Bu B b (l ++ m) w' ∧ Below B w w' := by
  refine (writeString_any B b (Lib.byteCells l) ⟨m.toArray⟩ w h (by rw [Lib.byteCells_length]; show l.length + m.toArray.size ≤ _; simp; omega) hBw).mono ?_
  rintro e w' ⟨rfl, h1, h2⟩
  refine ⟨by simp [ByteArray.size], .inr ?_, h2⟩
  rw [Lib.byteCells_append]
  exact h1
/-- What has been written when the limbs from k on are done. -/
def strD (n k : Nat) : List UInt8 := if k = (limbs n).length then [] else Lib.decDigits (val ((limbs n).drop k))
theorem strD_first {n m : Nat} (h : (limbs n).length = m + 1) : strD n m = Lib.decDigits (nth (limbs n) m) := by
  rw [strD, if_neg (by omega), val_drop, List.drop_eq_nil_of_le (by omega), val_nil]; rfl
theorem strD_next {n k : Nat} (h : k + 1 < (limbs n).length) : strD n k = strD n (k + 1) ++ (List.replicate (9 - (Lib.decDigits (nth (limbs n) k)).length) 48 ++ Lib.decDigits (nth (limbs n) k)) := by
  rw [strD, strD, if_neg (by omega), if_neg (by omega), decDigits_step h]; rfl
theorem strD_length (n k : Nat) (hk : k ≤ (limbs n).length) : (strD n k).length ≤ 9 * (limbs n).length := by
  unfold strD
  by_cases h : k = (limbs n).length
  · rw [if_pos h]; simp
  · rw [if_neg h, decDigits_len n k (by omega)]
    have := decDigits_length_le (r := nth (limbs n) ((limbs n).length - 1)) (k := 9) (by omega) (by simpa using (Low.limbs n).nth _)
    omega
theorem repeat_zero (c : Nat) : Lib.repeatL [48] c = List.replicate c 48 := by
  induction c with
  | zero => rfl
  | succ c ih => rw [Lib.repeatL, ih, List.replicate_succ]; rfl
/-- The bytes of a sign. -/
def sgB (b : Bool) : List UInt8 := if b then [45] else []
theorem itoa_parts (x : Int) (h : x ≠ 0) : Lib.itoa x = sgB (decide (x < 0)) ++ strD x.natAbs 0 := by
  have h1 : 0 ≠ (limbs x.natAbs).length := by have := limbs_length_pos.2 (show x.natAbs ≠ 0 by omega); omega
  rw [strD, if_neg h1, List.drop_zero, val_limbs]
  unfold Lib.itoa sgB
  by_cases hx : x < 0
  · simp [hx]
  · simp [hx]; congr 1; omega

set_option maxRecDepth 100000 in
set_option maxHeartbeats 4000000 in
theorem String_any (u : Value) (x : Int) (w : World) (hx : IsNum w u x) (hlx : (limbs x.natAbs).length ≤ 10000000) (htab : Tab w) :
    Calls Tryz.prog 67 #[u] w fun e w' => e = .returned (.string ⟨(Lib.itoa x).toArray⟩) ∧ Below w.heap.size w w' := by
  obtain ⟨_, rfl, A, c, rfl, hlc, hc⟩ := hx
  by_cases hx0 : x = 0
  · subst hx0
    have E := Lib.hid (show Lib.itoa 0 = [48] by unfold Lib.itoa; rw [if_neg (by omega)]; exact Lib.decDigits_one (by decide))
    have hz : (limbs (0 : Int).natAbs).length = 0 := by rw [show (0 : Int).natAbs = 0 from rfl, limbs_zero]; rfl
    rw [hz]
    clear hc hz hlc hlx
    go_enter Tryz.func67, Tryz.ntmps67
    go_wp2_with fail
    go_ret
    exact ⟨by rw [E.out]; rfl, (Below.refl _ _).alloc (Nat.le_refl _) _⟩
  · have E := Lib.hid (itoa_parts x hx0)
    have hp := limbs_length_pos.2 (show x.natAbs ≠ 0 by omega)
    have hp' : (((limbs x.natAbs).length : Int) == 0) = false := by rw [beq_eq_false_iff_ne]; omega
    generalize decide (x < 0) = na at *
    generalize x.natAbs = n at *
    have HT := Lib.hid htab
    have HC := Lib.hid hc
    clear htab hc
    go_enter Tryz.func67, Tryz.ntmps67
    go_upto_region 4 with (fail)
    have hb0 : Below w.heap.size w (w.alloc (.cells #[.bool na, .slice A (limbs n).length c] 62)) := (Below.refl _ _).alloc (Nat.le_refl _) _
    have hbox : (w.alloc (.cells #[.bool na, .slice A (limbs n).length c] 62)).heap[w.heap.size]? = some (.cells #[.bool na, .slice A (limbs n).length c] 62 (0, 0)) := heap_alloc_new w _
    have hs0 : (w.alloc (.cells #[.bool na, .slice A (limbs n).length c] 62)).heap.size = w.heap.size + 1 := by simp
    generalize w.alloc (.cells #[.bool na, .slice A (limbs n).length c] 62) = W0 at *
    have hbu := Bu.new W0
    have hb1 : Below W0.heap.size W0 (W0.alloc (.cells #[.pointer none, .slice none 0 0] 108)) := (Below.refl _ _).alloc (Nat.le_refl _) _
    rw [hs0] at hbu hb1
    generalize W0.alloc (.cells #[.pointer none, .slice none 0 0] 108) = W1 at *
    have hs1 : w.heap.size + 1 ≤ W1.heap.size := by have := hb1.size; omega
    have HBU := Lib.hid hbu
    have HB1 := Lib.hid hb1
    have HB0 := Lib.hid hb0
    have HBOX := Lib.hid hbox
    have HS0 := Lib.hid hs0
    clear hbu hb1 hb0 hbox hs0
    have ha0 : W1.cell? ⟨w.heap.size, 0, none⟩ = some (.bool na) := (HB1.out.cell (p := ⟨w.heap.size, 0, none⟩) (by show w.heap.size < w.heap.size + 1; omega)).trans (cell_of_row _ _ 0 _ _ _ HBOX.out)
    go_upto_if 11 with (fail)
    clear ha0
    go_cut [1, 3] (fun s1 s3 wc => s1 = .pointer (some ⟨w.heap.size, 0, none⟩) ∧ s3 = .pointer (some ⟨w.heap.size + 1, 0, none⟩) ∧ Bu (w.heap.size + 1) (w.heap.size + 1) (sgB na) wc ∧ Below (w.heap.size + 1) W0 wc)
    case first =>
      cases na
      · go_wp2_with fail
        go_meet
        case rel => exact ⟨rfl, rfl, HBU.out, HB1.out⟩
      · have HW := Lib.hid (write_bu (w.heap.size + 1) (w.heap.size + 1) [] [45] W1 HBU.out (by simp) hs1)
        go_wp2_with fail
        refine HW.out.mono ?_
        rintro e w2 ⟨rfl, hbu2, hb2⟩
        have HBU2 := Lib.hid hbu2
        have HB2 := Lib.hid hb2
        clear hbu2 hb2
        go_wp2_with fail
        go_meet
        case rel => exact ⟨rfl, rfl, HBU2.out, HB1.out.trans HB2.out⟩
    case rest =>
      obtain ⟨rfl, rfl, hbu, hbc⟩ := hcut
      have ha1 : wc.cell? ⟨w.heap.size, 1, none⟩ = some (.slice A (limbs n).length c) := (hbc.cell (p := ⟨w.heap.size, 1, none⟩) (by show w.heap.size < w.heap.size + 1; omega)).trans (cell_of_row _ _ 1 _ _ _ HBOX.out)
      clear HBU HB1
      have HBU := Lib.hid hbu
      have HBC := Lib.hid hbc
      clear hbu hbc
      go_wp2_with fail
      clear ha1
      go_loopw [4] (fun ix wr => ∃ k : Nat, k ≤ (limbs n).length ∧ ix = .int .i64 ((k : Int) - 1) ∧ Bu (w.heap.size + 1) (w.heap.size + 1) (sgB na ++ strD n k) wr ∧ Below (w.heap.size + 1) W0 wr) (fun ix _ => (intOf ix + 1).toNat)
      case atStart => exact ⟨(limbs n).length, Nat.le_refl _, rfl, by rw [strD, if_pos rfl, List.append_nil]; exact HBU.out, HBC.out⟩
      case round =>
        obtain ⟨k, hk, rfl, hbu, hbr⟩ := hrel
        clear HBU HBC
        have HBU := Lib.hid hbu
        have HBR := Lib.hid hbr
        have ha1 : wr.cell? ⟨w.heap.size, 1, none⟩ = some (.slice A (limbs n).length c) := (hbr.cell (p := ⟨w.heap.size, 1, none⟩) (by show w.heap.size < w.heap.size + 1; omega)).trans (cell_of_row _ _ 1 _ _ _ HBOX.out)
        have hsr := hbr.size
        have hbw : Below w.heap.size w wr := HB0.out.trans (hbr.mono (by omega))
        have HBW := Lib.hid hbw
        have HCR := Lib.hid (HC.out.below hbw)
        have HTR := Lib.hid (HT.out.below hbw)
        clear hbu hbr hbw
        have hsr' : w.heap.size + 1 ≤ wr.heap.size := by have := HS0.out; omega
        clear hsr
        rcases Nat.eq_zero_or_pos k with h0 | h0
        · subst h0
          have HS := Lib.hid (Tryz.Builder_String_any (w.heap.size + 1) (w.heap.size + 1) (sgB na ++ strD n 0) wr HBU.out hsr')
          go_wp2_with fail
          refine HS.out.mono ?_
          rintro e w3 ⟨rfl, hb3⟩
          have HB3 := Lib.hid hb3
          clear hb3
          go_wp2_with fail
          go_ret
          exact ⟨by rw [E.out]; rfl, HBW.out.trans (HB3.out.mono (by omega))⟩
        · obtain ⟨j, rfl⟩ : ∃ j, k = j + 1 := ⟨k - 1, by omega⟩
          obtain ⟨g, off, rfl, hg, hcl⟩ := HCR.out (by intro e; rw [e] at hp; simp at hp)
          have hcell := hcl j (by omega)
          have hlow := (Low.limbs n).nth j
          have hdl := decDigits_length_le (r := nth (limbs n) j) (k := 9) (by omega) (by simpa using hlow)
          have hdl1 := Lib.nDigits_pos (nth (limbs n) j)
          rw [← Lib.decDigits_length] at hdl1
          have hsl := strD_length n (j + 1) hk
          have hsg : (sgB na).length ≤ 1 := by cases na <;> simp [sgB]
          have HF := Lib.hid (formatUint_any (nth (limbs n) j) wr hlow HTR.out)
          clear hcl
          go_wp2_with fail
          refine HF.out.mono ?_
          rintro e w4 ⟨rfl, hb4⟩
          have hs4 := hb4.size
          have ha4 : w4.cell? ⟨w.heap.size, 1, none⟩ = some (.slice (some ⟨g, off, none⟩) (limbs n).length c) := (hb4.cell (p := ⟨w.heap.size, 1, none⟩) (by show w.heap.size < wr.heap.size; omega)).trans ha1
          have HBU4 := Lib.hid (HBU.out.below hb4)
          have HB4 := Lib.hid (HBR.out.trans (hb4.mono hsr'))
          clear hb4 HF ha1
          by_cases hj : j + 1 < (limbs n).length
          · have EN := Lib.hid (strD_next hj)
            have HRP := Lib.hid (Tryz.strings_Repeat ⟨#[48]⟩ (9 - (Lib.decDigits (nth (limbs n) j)).length) w4 (by omega) (by show 1 * _ ≤ _; omega))
            go_wp2_with fail
            rw [show ((9 : Int) - ((Lib.decDigits (nth (limbs n) j)).length : Int)) = ((9 - (Lib.decDigits (nth (limbs n) j)).length : Nat) : Int) by omega]
            refine HRP.out.mono ?_
            rintro e w5 ⟨rfl, hb5⟩
            have hs5 := hb5.size
            have HBU5 := Lib.hid (HBU4.out.below hb5)
            have HB5 := Lib.hid (HB4.out.trans (hb5.mono (show w.heap.size + 1 ≤ w4.heap.size by omega)))
            clear hb5 HRP
            have erp : Lib.repeatL (⟨#[48]⟩ : ByteArray).data.toList (9 - (Lib.decDigits (nth (limbs n) j)).length) = List.replicate (9 - (Lib.decDigits (nth (limbs n) j)).length) 48 := repeat_zero _
            rw [erp]
            clear erp
            have HW := Lib.hid (write_bu (w.heap.size + 1) (w.heap.size + 1) (sgB na ++ strD n (j + 1)) (List.replicate (9 - (Lib.decDigits (nth (limbs n) j)).length) 48) w5 HBU5.out (by rw [List.length_append, List.length_replicate]; omega) (by omega))
            have hzl : (List.replicate (9 - (Lib.decDigits (nth (limbs n) j)).length) (48 : UInt8)).length ≤ 9 := by rw [List.length_replicate]; omega
            generalize List.replicate (9 - (Lib.decDigits (nth (limbs n) j)).length) (48 : UInt8) = zs at *
            go_wp2_with fail
            refine HW.out.mono ?_
            rintro e w6 ⟨rfl, hbu6, hb6⟩
            have hs6 := hb6.size
            have HBU6 := Lib.hid hbu6
            have HB6 := Lib.hid (HB5.out.trans hb6)
            clear hbu6 hb6 HW
            have HW := Lib.hid (write_bu (w.heap.size + 1) (w.heap.size + 1) ((sgB na ++ strD n (j + 1)) ++ zs) (Lib.decDigits (nth (limbs n) j)) w6 HBU6.out (by rw [List.length_append, List.length_append]; omega) (by omega))
            go_wp2_with fail
            refine HW.out.mono ?_
            rintro e w7 ⟨rfl, hbu7, hb7⟩
            have HBU7 := Lib.hid hbu7
            have HB7 := Lib.hid (HB6.out.trans hb7)
            clear hbu7 hb7 HW
            go_wp2_with fail
            go_roundw
            case rel => exact ⟨j, by omega, by go_num, by rw [EN.out, ← List.append_assoc, ← List.append_assoc]; exact HBU7.out, HB7.out⟩
            case measure => simp [intOf]
          · have EN := Lib.hid (strD_first (n := n) (m := j) (by omega))
            have ED := Lib.hid (show strD n (j + 1) = [] by rw [strD, if_pos (by omega)])
            have HW := Lib.hid (write_bu (w.heap.size + 1) (w.heap.size + 1) (sgB na ++ strD n (j + 1)) (Lib.decDigits (nth (limbs n) j)) w4 HBU4.out (by rw [List.length_append]; omega) (by omega))
            go_wp2_with fail
            refine HW.out.mono ?_
            rintro e w7 ⟨rfl, hbu7, hb7⟩
            have HBU7 := Lib.hid hbu7
            have HB7 := Lib.hid (HB4.out.trans hb7)
            clear hbu7 hb7 HW
            go_wp2_with fail
            go_roundw
            case rel => exact ⟨j, by omega, by go_num, by have := HBU7.out; rw [ED.out, List.append_nil] at this; rw [EN.out]; exact this, HB7.out⟩
            case measure => simp [intOf]

end Go.Proofs.YtmickdolpgjbhaaGreatDoor
