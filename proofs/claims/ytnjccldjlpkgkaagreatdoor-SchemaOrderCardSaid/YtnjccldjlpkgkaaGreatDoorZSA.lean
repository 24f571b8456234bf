/-
  Package schema: features.
-/
import Derived.Test.YtnjccldjlpkgkaaGreatDoorZF
import Derived.Test.YtnjccldjlpkgkaaGreatDoorZN
import Derived.Test.YtnjccldjlpkgkaaGreatDoorZS
import Derived.Test.YtnjccldjlpkgkaaGreatDoorShelfC
import Derived.Test.YtnjccldjlpkgkaaGreatDoorZB
namespace Go.Proofs.YtnjccldjlpkgkaaGreatDoor
open Go.RowKit

def letB (c : UInt8) : Bool := decide (97 ≤ c.toNat ∧ c.toNat ≤ 122)
def tailB (c : UInt8) : Bool := letB c || decide (c.toNat = 45) || digB c
/-- A letter, then letters, digits and dashes (or nothing). -/
def okW : List UInt8 → Bool
  | [] => true
  | c :: r => letB c && r.all tailB
/-- Which texts are words. -/
def wordB (l : List UInt8) : Bool := okW l && decide (1 ≤ l.length ∧ l.length ≤ 12)
theorem okW_snoc (l : List UInt8) (d : UInt8) : okW (l ++ [d]) = (okW l && (if l = [] then letB d else tailB d)) := by
  cases l with
  | nil => simp [okW]
  | cons c r => simp [okW, Bool.and_assoc]
theorem okW_take {l : List UInt8} (n : Nat) (h : okW l = true) : okW (l.take n) = true := by
  cases l with
  | nil => simp [okW]
  | cons c r =>
    cases n with
    | zero => rfl
    | succ n =>
      rw [List.take_succ_cons]
      unfold okW at *
      rw [Bool.and_eq_true_iff, List.all_eq_true] at *
      exact ⟨h.1, fun x hx => h.2 x (List.mem_of_mem_take hx)⟩

set_option maxRecDepth 100000 in
set_option maxHeartbeats 4000000 in
theorem Word_any (s : ByteArray) (w : World) (hs : s.size ≤ 9223372036854775807) : Calls Tryz.prog 36 #[.string s] w fun e w' => e = .returned (.bool (wordB s.data.toList)) ∧ Below w.heap.size w w' := by
  have hcv := fun W => Lib.run_convert_string_bytes (P := Tryz.prog) W 9 57 5 s Tryz.underlying9 Tryz.underlying57 Tryz.underlying5
  have HL := Lib.hid (show s.data.toList.length = s.size from Array.length_toList)
  have HNO := Lib.hid (fun k (h : okW (s.data.toList.take k) = false) => show wordB s.data.toList = false by
    unfold wordB
    cases ho : okW s.data.toList with
    | false => rfl
    | true => rw [okW_take k ho] at h; cases h)
  go_enter Tryz.func36, Tryz.ntmps36
  go_wp2_with fail
  clear hcv
  go_loop [9] (fun ix => ∃ k : Nat, k ≤ s.size ∧ ix = .int .i64 (k : Int) ∧ okW (s.data.toList.take k) = true) (fun ix => s.size - (intOf ix).toNat)
  case atStart => exact ⟨0, Nat.zero_le _, rfl, rfl⟩
  case round =>
    obtain ⟨k, hk, rfl, hall⟩ := hrel
    have HALL := Lib.hid hall
    clear hall
    by_cases hlt : k < s.size
    · have hcell := Lib.bytesWorld_cell w 5 s k hlt
      have hts : s.data.toList.take (k + 1) = s.data.toList.take k ++ [s.data.toList.getD k 0] := by
        rw [List.take_succ_eq_append_getElem (by rw [HL.out]; exact hlt)]
        simp [List.getD_eq_getElem?_getD, HL.out, hlt]
      have hnil : (s.data.toList.take k = []) = (k = 0) := by
        apply propext
        constructor
        · intro e
          have := congrArg List.length e
          rw [List.length_take, HL.out, List.length_nil] at this
          omega
        · rintro rfl; rfl
      have HTS : Hid (okW (s.data.toList.take (k + 1)) = if k = 0 then letB (s.data.toList.getD k 0) else tailB (s.data.toList.getD k 0)) := Lib.hid (by rw [hts, okW_snoc, HALL.out, Bool.true_and]; simp only [hnil])
      clear hts hnil
      have HNK := Lib.hid (HNO.out (k + 1))
      generalize s.data.toList.getD k 0 = d at *
      have hd256 : d.toNat < 256 := d.toNat_lt
      have HLT := Lib.hid (fun h => show letB d = true from decide_eq_true h)
      have HLF := Lib.hid (fun h => show letB d = false from decide_eq_false h)
      by_cases hl1 : 97 ≤ d.toNat ∧ d.toNat ≤ 122
      · have EL := Lib.hid (HLT.out hl1)
        obtain ⟨g1, g2⟩ := hl1
        go_wp2_with fail
        go_round
        case rel => exact ⟨k + 1, by omega, by go_num, by rw [HTS.out]; unfold tailB; rw [EL.out]; simp⟩
        case measure => simp [intOf]; omega
      · have EL := Lib.hid (HLF.out hl1)
        have hnl : d.toNat < 97 ∨ 122 < d.toNat := by omega
        have h97 : ∀ (Q : Prop), (d.toNat < 97 → Q) → (97 ≤ d.toNat → ¬ ((d.toNat : Int) ≤ 122) → Q) → Q := fun Q a b => by
          rcases Nat.lt_or_ge d.toNat 97 with h | h
          · exact a h
          · exact b h (by omega)
        have H97 := Lib.hid h97
        clear hl1 hnl h97
        by_cases hk0 : k = 0
        · subst hk0
          have E := Lib.hid (HNK.out (by rw [HTS.out, if_pos rfl]; exact EL.out))
          refine H97.out _ (fun g => ?_) (fun g g' => ?_)
          · go_wp2_with fail
            go_ret
            exact ⟨by rw [E.out]; rfl, Lib.bytesWorld_below _ _ _⟩
          · go_wp2_with fail
            go_ret
            exact ⟨by rw [E.out]; rfl, Lib.bytesWorld_below _ _ _⟩
        · have HT2 := Lib.hid (show okW (s.data.toList.take (k + 1)) = (decide (d.toNat = 45) || digB d) by rw [HTS.out, if_neg hk0]; unfold tailB; rw [EL.out]; rfl)
          have hkz : ((k : Int) == 0) = false := by rw [beq_eq_false_iff_ne]; omega
          by_cases h45 : d.toNat = 45
          · have hz : ((d.toNat : Int) == 45) = true := by rw [h45]; rfl
            have hz2 : ((d.toNat : Int) != 45) = false := by rw [bne, hz]; rfl
            have E := Lib.hid (show okW (s.data.toList.take (k + 1)) = true by rw [HT2.out, decide_eq_true h45]; rfl)
            have g : d.toNat < 97 := by omega
            clear h45
            go_wp2_with fail
            go_round
            case rel => exact ⟨k + 1, by omega, by go_num, E.out⟩
            case measure => simp [intOf]; omega
          · have hz : ((d.toNat : Int) == 45) = false := by rw [beq_eq_false_iff_ne]; omega
            have hz2 : ((d.toNat : Int) != 45) = true := by rw [bne, hz]; rfl
            by_cases hd : 48 ≤ d.toNat ∧ d.toNat ≤ 57
            · have E := Lib.hid (show okW (s.data.toList.take (k + 1)) = true by rw [HT2.out, show digB d = true from decide_eq_true hd, Bool.or_true])
              obtain ⟨g1, g2⟩ := hd
              have g : d.toNat < 97 := by omega
              clear h45
              go_wp2_with fail
              go_round
              case rel => exact ⟨k + 1, by omega, by go_num, E.out⟩
              case measure => simp [intOf]; omega
            · have E := Lib.hid (HNK.out (by rw [HT2.out, show digB d = false from decide_eq_false hd, decide_eq_false h45]; rfl))
              clear h45
              by_cases hd1 : d.toNat < 48
              · have g : d.toNat < 97 := by omega
                go_wp2_with fail
                go_ret
                exact ⟨by rw [E.out]; rfl, Lib.bytesWorld_below _ _ _⟩
              · have g0 : 48 ≤ d.toNat := by omega
                have g1 : 57 < d.toNat := by omega
                clear hd hd1
                refine H97.out _ (fun g => ?_) (fun g g' => ?_)
                · go_wp2_with fail
                  go_ret
                  exact ⟨by rw [E.out]; rfl, Lib.bytesWorld_below _ _ _⟩
                · go_wp2_with fail
                  go_ret
                  exact ⟨by rw [E.out]; rfl, Lib.bytesWorld_below _ _ _⟩
    · obtain rfl : k = s.size := by omega
      have E := Lib.hid (show wordB s.data.toList = decide (1 ≤ s.size ∧ s.size ≤ 12) by
        have := HALL.out
        rw [← HL.out, List.take_length] at this
        unfold wordB
        rw [this, Bool.true_and, HL.out])
      clear HNO
      by_cases h1 : 1 ≤ s.size
      · have E2 := Lib.hid (show wordB s.data.toList = decide ((s.size : Int) ≤ 12) by rw [E.out]; exact decide_eq_decide.2 ⟨fun h => by omega, fun h => ⟨h1, by omega⟩⟩)
        go_wp2_with fail
        go_ret
        exact ⟨by rw [E2.out]; rfl, Lib.bytesWorld_below _ _ _⟩
      · have E2 := Lib.hid (show wordB s.data.toList = false by rw [E.out]; exact decide_eq_false (fun h => h1 h.1))
        go_wp2_with fail
        go_ret
        exact ⟨by rw [E2.out]; rfl, Lib.bytesWorld_below _ _ _⟩

end Go.Proofs.YtnjccldjlpkgkaaGreatDoor

namespace Go.Proofs.YtnjccldjlpkgkaaGreatDoor
open Go.RowKit

/-- A number that is not too great. -/
def bndB (x : Int) : Bool := smallB x && (decide (-1000000000 ≤ smallV x) && decide (smallV x ≤ 1000000000))

set_option maxRecDepth 100000 in
theorem bounded_of (s : ByteArray) (v : Int) (b : Bool) (w : World) (h : Calls Tryz.prog 35 #[.string s] w fun e w' => e = .returned (.tuple #[.int .i64 v, .bool b]) ∧ Below w.heap.size w w') :
    Calls Tryz.prog 33 #[.string s] w fun e w' => e = .returned (.bool (b && (decide (-1000000000 ≤ v) && decide (v ≤ 1000000000)))) ∧ Below w.heap.size w w' := by
  have HC := Lib.hid h
  clear h
  cases b
  · go_enter Tryz.func33, Tryz.ntmps33
    go_wp2_with fail
    refine HC.out.mono ?_
    rintro e w1 ⟨rfl, hb⟩
    have HB := Lib.hid hb
    clear hb
    go_wp2_with fail
    go_ret
    exact ⟨rfl, HB.out⟩
  · by_cases h1 : -1000000000 ≤ v
    · have E := Lib.hid (show (true && (decide (-1000000000 ≤ v) && decide (v ≤ 1000000000))) = decide (v ≤ 1000000000) by rw [decide_eq_true h1]; rfl)
      go_enter Tryz.func33, Tryz.ntmps33
      go_wp2_with fail
      refine HC.out.mono ?_
      rintro e w1 ⟨rfl, hb⟩
      have HB := Lib.hid hb
      clear hb
      go_wp2_with fail
      go_ret
      exact ⟨by rw [E.out]; rfl, HB.out⟩
    · have E := Lib.hid (show (true && (decide (-1000000000 ≤ v) && decide (v ≤ 1000000000))) = false by rw [decide_eq_false h1]; rfl)
      go_enter Tryz.func33, Tryz.ntmps33
      go_wp2_with fail
      refine HC.out.mono ?_
      rintro e w1 ⟨rfl, hb⟩
      have HB := Lib.hid hb
      clear hb
      go_wp2_with fail
      go_ret
      exact ⟨by rw [show (decide (-1000000000 ≤ v) && decide (v ≤ 1000000000)) = false from E.out]; rfl, HB.out⟩
theorem bounded_ok (x : Int) (w : World) (hf : Fits x) : Calls Tryz.prog 33 #[.string (str x)] w fun e w' => e = .returned (.bool (bndB x)) ∧ Below w.heap.size w w' := bounded_of _ _ _ w (ISmall_ok x w hf)
theorem bounded_bad (l : List UInt8) (w : World) (hl : l.length ≤ 140737488355328) (h : validB l = false) : Calls Tryz.prog 33 #[.string ⟨l.toArray⟩] w fun e w' => e = .returned (.bool false) ∧ Below w.heap.size w w' := bounded_of _ _ _ w (ISmall_bad l w hl h)

end Go.Proofs.YtnjccldjlpkgkaaGreatDoor

namespace Go.Proofs.YtnjccldjlpkgkaaGreatDoor
open Go.RowKit

set_option maxRecDepth 100000 in
set_option maxHeartbeats 1000000 in
/-- A key: the text is not empty. -/
theorem ValKey_of (nm s : ByteArray) (b : Bool) (w : World) (hs : s.toList ≠ []) (h : ∀ W : World, Calls Tryz.prog 33 #[.string s] W fun e w' => e = .returned (.bool b) ∧ Below W.heap.size W w') :
    Calls Tryz.prog 11 #[.agg #[.string nm, .int .i64 1], .string s] w fun e w' => e = .returned (.bool b) ∧ Below w.heap.size w w' := by
  have HC := Lib.hid h
  have hse : s.toList.isEmpty = false := by cases hh : s.toList with | nil => exact absurd hh hs | cons => rfl
  clear h
  go_enter Tryz.func11, Tryz.ntmps11
  go_wp2_with fail
  refine (HC.out _).mono ?_
  rintro e w1 ⟨rfl, hb⟩
  have HB := Lib.hid (((Below.refl w.heap.size w).alloc (Nat.le_refl _) _).trans (hb.mono (by simp)))
  clear hb
  go_wp2_with fail
  go_ret
  exact ⟨rfl, HB.out⟩

set_option maxRecDepth 100000 in
set_option maxHeartbeats 2000000 in
theorem ValKey_nil (nm : ByteArray) (w : World) : Calls Tryz.prog 11 #[.agg #[.string nm, .int .i64 1], .string ⟨#[]⟩] w fun e w' => e = .returned (.bool true) ∧ Below w.heap.size w w' := by
  go_enter Tryz.func11, Tryz.ntmps11
  go_wp2_with fail
  go_ret
  exact ⟨rfl, (Below.refl w.heap.size w).alloc (Nat.le_refl _) _⟩
set_option maxRecDepth 100000 in
set_option maxHeartbeats 2000000 in
theorem ValWord_nil (nm : ByteArray) (w : World) : Calls Tryz.prog 11 #[.agg #[.string nm, .int .i64 3], .string ⟨#[]⟩] w fun e w' => e = .returned (.bool true) ∧ Below w.heap.size w w' := by
  go_enter Tryz.func11, Tryz.ntmps11
  go_wp2_with fail
  go_ret
  exact ⟨rfl, (Below.refl w.heap.size w).alloc (Nat.le_refl _) _⟩
set_option maxRecDepth 100000 in
set_option maxHeartbeats 2000000 in
theorem ValWord_of (nm s : ByteArray) (w : World) (hs : s.toList ≠ []) (hz : s.size ≤ 9223372036854775807) : Calls Tryz.prog 11 #[.agg #[.string nm, .int .i64 3], .string s] w fun e w' => e = .returned (.bool (wordB s.data.toList)) ∧ Below w.heap.size w w' := by
  have HC := Lib.hid (fun W => Word_any s W hz)
  have hse : s.toList.isEmpty = false := by cases hh : s.toList with | nil => exact absurd hh hs | cons => rfl
  go_enter Tryz.func11, Tryz.ntmps11
  go_wp2_with fail
  refine (HC.out _).mono ?_
  rintro e w1 ⟨rfl, hb⟩
  have HB := Lib.hid (((Below.refl w.heap.size w).alloc (Nat.le_refl _) _).trans (hb.mono (by simp)))
  clear hb
  go_wp2_with fail
  go_ret
  exact ⟨rfl, HB.out⟩

set_option maxRecDepth 100000 in
set_option maxHeartbeats 2000000 in
/-- A number: the text is not empty. -/
theorem ValNum_of (nm s p q : ByteArray) (ok b2 b : Bool) (d : Int) (w : World) (hs : s.toList ≠ []) (hP : ∀ W, Env W → Calls Tryz.prog 34 #[.string s] W fun e w' => e = .returned (.tuple #[.string p, .string q, .bool ok]) ∧ Below W.heap.size W w')
    (hS : ∀ W : World, Calls Tryz.prog 35 #[.string q] W fun e w' => e = .returned (.tuple #[.int .i64 d, .bool b2]) ∧ Below W.heap.size W w') (hC : ∀ W : World, Calls Tryz.prog 33 #[.string p] W fun e w' => e = .returned (.bool b) ∧ Below W.heap.size W w') (henv : Env w) :
    Calls Tryz.prog 11 #[.agg #[.string nm, .int .i64 2], .string s] w fun e w' => e = .returned (.bool (ok && (b && decide (1 ≤ d ∧ d ≤ 12)))) ∧ Below w.heap.size w w' := by
  have HP := Lib.hid hP
  have HS := Lib.hid hS
  have HC := Lib.hid hC
  have hse : s.toList.isEmpty = false := by cases hh : s.toList with | nil => exact absurd hh hs | cons => rfl
  clear hP hS hC
  cases ok
  · have E := Lib.hid (show (false && (b && decide (1 ≤ d ∧ d ≤ 12))) = false from rfl)
    go_enter Tryz.func11, Tryz.ntmps11
    go_wp2_with fail
    refine (HP.out _ ?_).mono ?_
    · exact henv.below ((Below.refl w.heap.size w).alloc (Nat.le_refl _) _)
    rintro e w1 ⟨rfl, hb⟩
    have HB := Lib.hid (((Below.refl w.heap.size w).alloc (Nat.le_refl _) _).trans (hb.mono (by simp)))
    clear hb
    go_wp2_with fail
    refine (HS.out _).mono ?_
    rintro e w2 ⟨rfl, hb⟩
    replace HB := Lib.hid (HB.out.trans (hb.mono HB.out.size))
    clear hb
    go_wp2_with fail
    go_ret
    exact ⟨rfl, HB.out⟩
  · cases b
    · go_enter Tryz.func11, Tryz.ntmps11
      go_wp2_with fail
      refine (HP.out _ ?_).mono ?_
      · exact henv.below ((Below.refl w.heap.size w).alloc (Nat.le_refl _) _)
      rintro e w1 ⟨rfl, hb⟩
      have HB := Lib.hid (((Below.refl w.heap.size w).alloc (Nat.le_refl _) _).trans (hb.mono (by simp)))
      clear hb
      go_wp2_with fail
      refine (HS.out _).mono ?_
      rintro e w2 ⟨rfl, hb⟩
      replace HB := Lib.hid (HB.out.trans (hb.mono HB.out.size))
      clear hb
      go_wp2_with fail
      refine (HC.out _).mono ?_
      rintro e w3 ⟨rfl, hb⟩
      replace HB := Lib.hid (HB.out.trans (hb.mono HB.out.size))
      clear hb
      go_wp2_with fail
      go_ret
      exact ⟨rfl, HB.out⟩
    · by_cases h1 : 1 ≤ d
      · have E := Lib.hid (show decide (1 ≤ d ∧ d ≤ 12) = decide (d ≤ 12) from decide_eq_decide.2 ⟨fun h => h.2, fun h => ⟨h1, h⟩⟩)
        obtain ⟨r, hr⟩ : ∃ r, decide (1 ≤ d ∧ d ≤ 12) = r := ⟨_, rfl⟩
        have HR := Lib.hid hr
        rw [hr]
        clear hr
        go_enter Tryz.func11, Tryz.ntmps11
        go_wp2_with fail
        refine (HP.out _ ?_).mono ?_
        · exact henv.below ((Below.refl w.heap.size w).alloc (Nat.le_refl _) _)
        rintro e w1 ⟨rfl, hb⟩
        have HB := Lib.hid (((Below.refl w.heap.size w).alloc (Nat.le_refl _) _).trans (hb.mono (by simp)))
        clear hb
        go_wp2_with fail
        refine (HS.out _).mono ?_
        rintro e w2 ⟨rfl, hb⟩
        replace HB := Lib.hid (HB.out.trans (hb.mono HB.out.size))
        clear hb
        go_wp2_with fail
        refine (HC.out _).mono ?_
        rintro e w3 ⟨rfl, hb⟩
        replace HB := Lib.hid (HB.out.trans (hb.mono HB.out.size))
        clear hb
        go_wp2_with fail
        go_ret
        exact ⟨by rw [← HR.out, E.out]; rfl, HB.out⟩
      · have E := Lib.hid (show decide (1 ≤ d ∧ d ≤ 12) = false from decide_eq_false fun h => h1 h.1)
        obtain ⟨r, hr⟩ : ∃ r, decide (1 ≤ d ∧ d ≤ 12) = r := ⟨_, rfl⟩
        have HR := Lib.hid hr
        rw [hr]
        clear hr
        go_enter Tryz.func11, Tryz.ntmps11
        go_wp2_with fail
        refine (HP.out _ ?_).mono ?_
        · exact henv.below ((Below.refl w.heap.size w).alloc (Nat.le_refl _) _)
        rintro e w1 ⟨rfl, hb⟩
        have HB := Lib.hid (((Below.refl w.heap.size w).alloc (Nat.le_refl _) _).trans (hb.mono (by simp)))
        clear hb
        go_wp2_with fail
        refine (HS.out _).mono ?_
        rintro e w2 ⟨rfl, hb⟩
        replace HB := Lib.hid (HB.out.trans (hb.mono HB.out.size))
        clear hb
        go_wp2_with fail
        refine (HC.out _).mono ?_
        rintro e w3 ⟨rfl, hb⟩
        replace HB := Lib.hid (HB.out.trans (hb.mono HB.out.size))
        clear hb
        go_wp2_with fail
        go_ret
        exact ⟨by rw [← HR.out, E.out]; rfl, HB.out⟩

set_option maxRecDepth 100000 in
set_option maxHeartbeats 2000000 in
theorem ValNum_nil (nm : ByteArray) (w : World) (henv : Env w) : Calls Tryz.prog 11 #[.agg #[.string nm, .int .i64 2], .string ⟨#[]⟩] w fun e w' => e = .returned (.bool true) ∧ Below w.heap.size w w' := by
  have HP := Lib.hid (fun W hE => RatParts_bad [] W (by decide) hE (validR_badnum (by decide)))
  have HS := Lib.hid (fun W => ISmall_bad [] W (by decide) (by decide))
  go_enter Tryz.func11, Tryz.ntmps11
  go_wp2_with fail
  refine (HP.out _ ?_).mono ?_
  · exact henv.below ((Below.refl w.heap.size w).alloc (Nat.le_refl _) _)
  rintro e w1 ⟨rfl, hb⟩
  have HB := Lib.hid (((Below.refl w.heap.size w).alloc (Nat.le_refl _) _).trans (hb.mono (by simp)))
  clear hb
  go_wp2_with fail
  refine (HS.out _).mono ?_
  rintro e w2 ⟨rfl, hb⟩
  replace HB := Lib.hid (HB.out.trans (hb.mono HB.out.size))
  clear hb
  go_wp2_with fail
  go_ret
  exact ⟨rfl, HB.out⟩

end Go.Proofs.YtnjccldjlpkgkaaGreatDoor

namespace Go.Proofs.YtnjccldjlpkgkaaGreatDoor
open Go.RowKit

/-- The cells from an address on are these. -/
def VRow (w : World) (A : Option Addr) (cs : List Value) : Prop := cs ≠ [] → ∃ b off, A = some ⟨b, off, none⟩ ∧ b < w.heap.size ∧ ∀ i, (h : i < cs.length) → w.cell? ⟨b, off + i, none⟩ = some cs[i]
theorem VRow.nil (w : World) (A : Option Addr) : VRow w A [] := fun h => absurd rfl h
theorem VRow.below {w w' : World} {A : Option Addr} {cs : List Value} (h : VRow w A cs) (hb : Below w.heap.size w w') : VRow w' A cs := fun hn => by
  obtain ⟨b, off, e, hlt, hc⟩ := h hn
  have := hb.size
  exact ⟨b, off, e, by omega, fun i hi => (hb.cell (p := ⟨b, off + i, none⟩) hlt).trans (hc i hi)⟩
theorem VRow.under {w w' : World} {B : Nat} {A : Option Addr} {cs : List Value} (h : VRow w A cs) (hw : w.heap.size ≤ B) (hb : Below B w w') : VRow w' A cs := h.below (hb.mono hw)
/-- The cell of a row. -/
theorem VRow.at_ {w : World} {b off : Nat} {cs : List Value} (h : VRow w (some ⟨b, off, none⟩) cs) {i : Nat} {v : Value} (hi : cs[i]? = some v) : w.cell? ⟨b, off + i, none⟩ = some v := by
  obtain ⟨hl, e⟩ := List.getElem?_eq_some_iff.1 hi
  obtain ⟨b', off', e', _, hc⟩ := h (by intro h0; subst h0; simp at hl)
  injection e' with e'
  injection e' with e1 e2
  subst e1 e2
  rw [hc i hl, e]
theorem VRow.some {w : World} {A : Option Addr} {cs : List Value} (h : VRow w A cs) (hn : cs ≠ []) : ∃ b off, A = some ⟨b, off, none⟩ ∧ b < w.heap.size ∧ VRow w (some ⟨b, off, none⟩) cs := by
  obtain ⟨b, off, e, hlt, hc⟩ := h hn
  exact ⟨b, off, e, hlt, fun _ => ⟨b, off, rfl, hlt, hc⟩⟩

/-- The values of texts. -/
def tv (ss : List ByteArray) : List Value := ss.map Value.string
theorem tv_length (ss : List ByteArray) : (tv ss).length = ss.length := by simp [tv]
theorem tv_snoc (ss : List ByteArray) (s : ByteArray) : tv (ss ++ [s]) = tv ss ++ [.string s] := by simp [tv]
theorem tv_get {ss : List ByteArray} {i : Nat} (h : i < ss.length) : (tv ss)[i]? = some (.string ss[i]) := by simp [tv, h]

set_option maxRecDepth 100000 in
set_option maxHeartbeats 2000000 in
/-- The last name is a word: is it among the names before it? -/
theorem named_of (A : Option Addr) (ss : List ByteArray) (s : ByteArray) (n c : Nat) (r : Bool) (w : World) (h : VRow w A (tv (ss ++ [s]))) (hn : ss.length = n) (hl : n ≤ 1000) (hc : n + 1 ≤ c) (hw : wordB s.data.toList = true) (hz : s.size ≤ 9223372036854775807) (hr : Lib.containsS ss s = r) :
    Calls Tryz.prog 61 #[.slice A (n + 1) c, .int .i64 (n : Int)] w fun e w' => e = .returned (.int .i64 (if r then 9 else 0)) ∧ Below w.heap.size w w' := by
  subst hn
  obtain ⟨b, off, rfl, hb, hrow⟩ := h.some (by simp [tv])
  have hk : w.cell? ⟨b, off + ss.length, none⟩ = some (.string s) := hrow.at_ (by simp [tv])
  have HROW := Lib.hid hrow
  have HW := Lib.hid (fun W => Word_any s W hz)
  have HWT := Lib.hid hw
  have HR := Lib.hid hr
  clear h hrow hw hr
  go_enter Tryz.func61, Tryz.ntmps61
  go_wp2_with fail
  refine (HW.out _).mono ?_
  rintro e w1 ⟨rfl, hb1⟩
  rw [HWT.out]
  have HB := Lib.hid hb1
  have hk1 : w1.cell? ⟨b, off + ss.length, none⟩ = some (.string s) := (hb1.cell (p := ⟨b, off + ss.length, none⟩) hb).trans hk
  have HC := Lib.hid (fun n => Tryz.slices_Contains_string b off ss.length c (ss ++ [s]) s (w1.drewN n) (by simp) (by omega) (fun j hj => by
    rw [show (w1.drewN n).cell? ⟨b, off + j, none⟩ = w1.cell? ⟨b, off + j, none⟩ from rfl, hb1.cell (p := ⟨b, off + j, none⟩) hb]
    refine HROW.out.at_ ?_
    rw [tv_get hj]
    rw [List.getD_eq_getElem?_getD, List.getElem?_eq_getElem hj]; rfl))
  clear hb1
  replace HC := Lib.hid (fun n => show Calls Tryz.prog 79 #[.slice (some ⟨b, off, none⟩) ss.length c, .string s] (w1.drewN n) fun e w' => e = .returned (.bool r) ∧ w' = w1.drewN n by
    have := HC.out n
    rw [List.take_left' rfl, HR.out] at this
    exact this)
  cases r
  all_goals
    go_wp2_with fail
    go_quiet ((go_at_call 79; exact Calls.quiet_of_same (HC.out _)))
    go_wp2_with fail
    go_ret
    exact ⟨rfl, below_drewN HB.out _⟩

end Go.Proofs.YtnjccldjlpkgkaaGreatDoor

namespace Go.Proofs.YtnjccldjlpkgkaaGreatDoor
open Go.RowKit

/-- The values of attributes. -/
def av (at1 : List (ByteArray × Int)) : List Value := at1.flatMap fun a => [.string a.1, .int .i64 a.2]
theorem av_nil {at1 : List (ByteArray × Int)} (h : at1 ≠ []) : av at1 ≠ [] := by
  cases at1 with
  | nil => exact absurd rfl h
  | cons a r => simp [av]
theorem av_get : ∀ {at1 : List (ByteArray × Int)} {i : Nat} (h : i < at1.length), (av at1)[i * 2]? = some (.string at1[i].1) ∧ (av at1)[i * 2 + 1]? = some (.int .i64 at1[i].2)
  | a :: r, 0, _ => ⟨rfl, rfl⟩
  | a :: r, i + 1, h => by
    have := av_get (at1 := r) (i := i) (by simpa using h)
    rw [show (i + 1) * 2 = i * 2 + 2 by omega, show i * 2 + 2 + 1 = (i * 2 + 1) + 2 by omega]
    exact this
theorem av_length (at1 : List (ByteArray × Int)) : (av at1).length = at1.length * 2 := by
  induction at1 with
  | nil => rfl
  | cons a r ih => simp only [av, List.flatMap_cons, List.length_append] at *; simp only [List.length_cons, List.length_nil]; omega
theorem word_size {s : ByteArray} (h : wordB s.data.toList = true) : s.size ≤ 12 := by
  unfold wordB at h
  rw [Bool.and_eq_true_iff, decide_eq_true_eq] at h
  exact h.2.2
theorem Tryz.infoStr : (Tryz.prog.info? 9).map (fun i => (i.zero, i.size, i.bytes)) = some (some (.string ⟨#[]⟩), 1, 16) := by kernel_rfl
theorem one_txt {s : ByteArray} : ∀ u ∈ ([Value.string s] : List Value), u.oneCell' = true := by intro u hu; simp at hu; subst hu; rfl
/-- A row of one's own reads at1 a row. -/
theorem own_vrow {w : World} {B e n : Nat} {v : Value} {cs : List Value} (h : w.ownsRow B e 1 v n cs) (hn : cs.length = n) : ∃ A c, v = .slice A n c ∧ n ≤ c ∧ VRow w A cs ∧ ∀ b off, A = some ⟨b, off, none⟩ → B ≤ b := by
  have h' := h
  rcases h.2 with ⟨hv, h0⟩ | ⟨g, cap, cur, hv, hB, hg, hle, hm, hs, htake⟩
  · subst h0
    have : cs = [] := List.eq_nil_of_length_eq_zero hn
    subst this
    exact ⟨none, 0, hv, by simp, VRow.nil _ _, fun b off e => by cases e⟩
  · refine ⟨_, cap, hv, hle, fun _ => ⟨g, 0, rfl, ?_, fun i hi => ?_⟩, ?_⟩
    · rcases Nat.lt_or_ge g w.heap.size with h' | h'
      · exact h'
      · rw [Array.getElem?_eq_none h'] at hg; cases hg
    · subst hv
      have := h'.cellAt i (by omega)
      rw [Nat.zero_add, this]
      simp
    · intro b off e
      injection e with e
      injection e with e
      omega

theorem one_new' {w : World} {u : Value} {t : TypeId} {g : Nat} (hg : w.heap.size = g) : ∀ (j : Nat) (x : Value), ([u] : List Value)[j]? = some x → (w.alloc (.cells #[u] t)).cell? ((⟨g, 0, none⟩ : Addr).add j) = some x := by subst hg; exact one_new
/-- Behind an append to a row of one's own, with a box made just before it. -/
theorem app2 {B : Nat} {wr w3 : World} {e : TypeId} {v : Value} {n : Nat} {xs : List Value} {cs cs2 : Array Value} {t t2 : TypeId} {hs : B ≤ wr.heap.size} (h : wr.ownsRow B e 1 v n xs) (hg : ((wr.alloc (.cells cs t)).alloc (.cells cs2 t2)).grownBy w3 v.ownBlock) :
    Blk w3 wr.heap.size t cs.toList ∧ wr.heap.size + 2 ≤ w3.heap.size ∧ Below B wr w3 := by
  have hsz := hg.size
  rw [World.size_alloc, World.size_alloc] at hsz
  have hne : ∀ g, some g = v.ownBlock → B ≤ g ∧ g < wr.heap.size := fun g e => h.lt g e.symm
  refine ⟨?_, by omega, ?_⟩
  · have h1 : Blk (wr.alloc (.cells cs t)) wr.heap.size t cs.toList := Blk.new wr t cs.toList
    exact (h1.alloc _).grown hg (fun e => by have := hne _ e; omega)
  · refine ⟨hg.os, hg.tape, hg.output, by omega, fun i hi => ?_⟩
    rw [hg.block i (by simp; omega) (fun e => by have := hne _ e; omega)]
    rw [Below.heap_alloc _ _ i (by simp; omega)]
    exact Below.heap_alloc wr _ i (by omega)

/-- The error of a name that occurs twice. -/
def twc (r : Bool) : Int := if r then 9 else 0
theorem nodup_snoc {ss : List ByteArray} {s : ByteArray} : (ss ++ [s]).Nodup ↔ ss.Nodup ∧ Lib.containsS ss s = false := by
  rw [List.nodup_append]
  have : Lib.containsS ss s = false ↔ s ∉ ss := by rw [← Lib.containsS_iff]; cases Lib.containsS ss s <;> simp
  rw [this]
  constructor
  · rintro ⟨h1, -, h3⟩
    exact ⟨h1, fun h => h3 s h s (by simp) rfl⟩
  · rintro ⟨h1, h2⟩
    exact ⟨h1, by simp, fun a ha b hb e => by
      rw [List.mem_singleton] at hb
      subst hb e
      exact h2 ha⟩

set_option maxRecDepth 100000 in
set_option maxHeartbeats 4000000 in
theorem attributes_of (A : Option Addr) (at1 : List (ByteArray × Int)) (c : Nat) (v1 v2 v3 : Value) (r : Bool) (w : World) (h : VRow w A (av at1)) (hl : at1.length ≤ 1000) (hw : ∀ a ∈ at1, wordB a.1.data.toList = true ∧ 1 ≤ a.2 ∧ a.2 ≤ 3) (hr : r = true ↔ ¬ (at1.map (·.1)).Nodup) :
    Calls Tryz.prog 41 #[.agg #[.slice A at1.length c, v1, v2, v3]] w fun e w' => e = .returned (.int .i64 (twc r)) ∧ Below w.heap.size w w' := by
  obtain ⟨i0, hi, hz0, hz1, hz2⟩ := info_parts Tryz.infoStr
  have HROW := Lib.hid h
  have HW := Lib.hid hw
  have HR := Lib.hid hr
  clear h hw hr
  go_enter Tryz.func41, Tryz.ntmps41
  go_wp2_with fail
  go_loopw [3, 10] (fun v iv wr => ∃ k : Nat, iv = .int .i64 (k : Int) ∧ k ≤ at1.length ∧ ((at1.map (·.1)).take k).Nodup ∧ wr.ownsRow (w.heap.size + 1) 9 1 v k (tv ((at1.map (·.1)).take k)) ∧ Below (w.heap.size + 1) (w.alloc (.cells #[.slice A at1.length c, v1, v2, v3] 44)) wr) (fun _ iv _ => at1.length - (intOf iv).toNat)
  case atStart => exact ⟨0, rfl, Nat.zero_le _, List.nodup_nil, World.ownsRow_nil _ _ _ _, Below.refl _ _⟩
  case round =>
    obtain ⟨k, rfl, hk, hnd, hown, hbel⟩ := hrel
    have HND := Lib.hid hnd
    have HOWN := Lib.hid hown
    have HBEL := Lib.hid hbel
    clear hnd hown hbel
    by_cases hlt : k < at1.length
    · obtain ⟨b, off, rfl, hb, hrow⟩ := HROW.out.some (av_nil (by intro e; subst e; simp at hlt))
      have hb2 : b < w.heap.size + 1 := by omega
      obtain ⟨hg1, hg2⟩ := av_get hlt
      have hc1 := (HBEL.out.cell (p := ⟨b, off + k * 2, none⟩) hb2).trans ((World.cell?_alloc_lt w _ ⟨b, off + k * 2, none⟩ hb).trans (hrow.at_ hg1))
      have hc2 : wr.cell? ⟨b, off + k * 2 + 1, none⟩ = _ := (HBEL.out.cell (p := ⟨b, off + (k * 2 + 1), none⟩) hb2).trans ((World.cell?_alloc_lt w _ ⟨b, off + (k * 2 + 1), none⟩ hb).trans (hrow.at_ hg2))
      clear hrow hg1 hg2
      obtain ⟨hwd, hk1, hk2⟩ := HW.out at1[k] (List.getElem_mem hlt)
      have hts : (at1.map (·.1)).take (k + 1) = (at1.map (·.1)).take k ++ [at1[k].1] := by rw [List.take_succ_eq_append_getElem (by simpa using hlt)]; simp
      have HTS := Lib.hid hts
      generalize at1[k].1 = s at *
      generalize at1[k].2 = z at *
      clear hts
      have HWD := Lib.hid hwd
      clear hwd
      have hsz := HBEL.out.size
      rw [World.size_alloc] at hsz
      have hk3 : k ≤ 1000 := by omega
      go_wp2_with (at_builtin; refine wpList_append_own _ rfl _ _ 101 rfl (w.heap.size + 1) 9 i0 (.string ⟨#[]⟩) 1 16 Tryz.underlying101 hi hz0 hz1 hz2 rfl (by decide) _ _ _ rfl ((HOWN.out.alloc _).alloc _) ⟨wr.heap.size + 1, 0, none⟩ 1 1 [_] rfl rfl (one_new' (by simp)) one_txt (by unfold maxLen; omega) (by omega) (by simp; omega) ?_)
      intro v' w3 hown3 hgrow3 _
      obtain ⟨hblk3, hgr3, hbel3⟩ := app2 (hs := hsz) HOWN.out hgrow3
      have hkc : ((at1.map (·.1)).take k).length = k := by rw [List.length_take, List.length_map]; omega
      obtain ⟨A', c', rfl, hc', hrow', hfar⟩ := own_vrow hown3 (by rw [List.length_append, tv_length, hkc]; rfl)
      have hrow4 : VRow w3 A' (tv ((at1.map (·.1)).take k ++ [s])) := by rw [tv_snoc]; exact hrow'
      have hd1 := hblk3.at_ (i := 0) rfl
      have hd2 := hblk3.at_ (i := 1) rfl
      have HBLK := Lib.hid hblk3
      have HOWN3 := Lib.hid hown3
      have HBEL3 := Lib.hid (HBEL.out.trans hbel3)
      have hsz3 : wr.heap.size < w3.heap.size := hblk3.lt
      cases hin : Lib.containsS ((at1.map (·.1)).take k) s with
      | false =>
        have HN := Lib.hid (named_of A' _ s k c' false w3 hrow4 hkc hk3 hc' HWD.out (by have := word_size HWD.out; omega) hin)
        have HND2 : Hid (((at1.map (·.1)).take (k + 1)).Nodup) := by
          rw [HTS.out]
          exact Lib.hid (nodup_snoc.2 ⟨HND.out, hin⟩)
        clear hown3 hgrow3 hblk3 hgr3 hbel3 hkc hrow' hfar hrow4 hin
        go_wp2_with fail
        refine HN.out.mono ?_
        rintro e w4 ⟨rfl, hb4⟩
        have hd2' := (hb4.cell (p := ⟨wr.heap.size, 1, none⟩) hsz3).trans hd2
        have HO4 := Lib.hid (own_below HOWN3.out hb4)
        have HB4 := Lib.hid (HBEL3.out.trans (hb4.mono (by omega)))
        clear hb4
        go_wp2_with fail
        go_roundw
        case rel => exact ⟨k + 1, by go_num, by omega, HND2.out, by rw [HTS.out, tv_snoc]; exact HO4.out, HB4.out⟩
        case measure => simp [intOf]; omega
      | true =>
        have HN := Lib.hid (named_of A' _ s k c' true w3 hrow4 hkc hk3 hc' HWD.out (by have := word_size HWD.out; omega) hin)
        have ER : Hid (r = true) := by
          refine Lib.hid (HR.out.2 fun hall => ?_)
          have h2 := (List.take_sublist (k + 1) _).nodup hall
          rw [HTS.out, nodup_snoc, hin] at h2
          cases h2.2
        clear hown3 hgrow3 hblk3 hgr3 hbel3 hkc hrow' hfar hrow4 hin
        go_wp2_with fail
        refine HN.out.mono ?_
        rintro e w4 ⟨rfl, hb4⟩
        have HB4 := Lib.hid (HBEL3.out.trans (hb4.mono (by omega)))
        clear hb4
        go_wp2_with fail
        go_ret
        exact ⟨by rw [ER.out]; rfl, ((Below.refl w.heap.size w).alloc (Nat.le_refl _) _).trans (HB4.out.mono (by omega))⟩
    · obtain rfl : k = at1.length := by omega
      have ER : Hid (r = false) := by
        have := HND.out
        rw [List.take_of_length_le (by simp)] at this
        cases r with
        | false => exact Lib.hid rfl
        | true => exact absurd this (HR.out.1 rfl)
      go_wp2_with fail
      go_ret
      exact ⟨by rw [ER.out]; rfl, ((Below.refl w.heap.size w).alloc (Nat.le_refl _) _).trans (HBEL.out.mono (by omega))⟩

end Go.Proofs.YtnjccldjlpkgkaaGreatDoor

namespace Go.Proofs.YtnjccldjlpkgkaaGreatDoor
open Go.RowKit

/-- The values of bools. -/
def bv (us : List Bool) : List Value := us.map Value.bool
theorem bv_length (us : List Bool) : (bv us).length = us.length := by simp [bv]
theorem bv_get {us : List Bool} {i : Nat} (h : i < us.length) : (bv us)[i]? = some (.bool us[i]) := by simp [bv, h]
/-- Where the first false stands. -/
def idxF (us : List Bool) : Int := match us.findIdx? (fun b => !b) with | some i => (i : Int) | none => -1
theorem idxF_at {us : List Bool} {k : Nat} (hk : k < us.length) (h : us[k] = false) (hb : ∀ j, (hj : j < k) → us[j] = true) : idxF us = k := by
  unfold idxF
  rw [show us.findIdx? (fun b => !b) = some k from List.findIdx?_eq_some_iff_getElem.2 ⟨hk, by simp [h], fun j hj => by simp [hb j hj]⟩]
theorem idxF_no {us : List Bool} (hb : ∀ j, (hj : j < us.length) → us[j] = true) : idxF us = -1 := by
  unfold idxF
  rw [show us.findIdx? (fun b => !b) = none from List.findIdx?_eq_none_iff.2 fun x hx => by
    obtain ⟨j, hj, e⟩ := List.getElem_of_mem hx
    rw [← e, hb j hj]; rfl]
theorem idxF_has (us : List Bool) : decide (0 ≤ idxF us) = us.contains false := by
  rw [Bool.eq_iff_iff, decide_eq_true_eq, List.contains_iff_mem]
  unfold idxF
  constructor
  · intro h
    split at h
    · rename_i i e
      obtain ⟨hi, he, _⟩ := List.findIdx?_eq_some_iff_getElem.1 e
      have : us[i] = false := by simpa using he
      rw [← this]; exact List.getElem_mem hi
    · omega
  · intro h
    split
    · omega
    · rename_i e
      have := List.findIdx?_eq_none_iff.1 e false h
      simp at this

set_option maxRecDepth 100000 in
set_option maxHeartbeats 1000000 in
theorem IndexF_any (A : Option Addr) (us : List Bool) (c : Nat) (w : World) (h : VRow w A (bv us)) (hl : us.length ≤ 9223372036854775807) :
    Calls Tryz.prog 80 #[.slice A us.length c, .bool false] w fun e w' => e = .returned (.int .i64 (idxF us)) ∧ w = w' := by
  have HROW := Lib.hid h
  clear h
  go_enter Tryz.func80, Tryz.ntmps80
  go_wp2_with fail
  go_loop [8] (fun iv => ∃ k : Nat, iv = .int .i64 (k : Int) ∧ k ≤ us.length ∧ ∀ j, (hj : j < us.length) → j < k → us[j] = true) (fun iv => us.length - (intOf iv).toNat)
  case atStart => exact ⟨0, rfl, Nat.zero_le _, fun j _ h => absurd h (by omega)⟩
  case round =>
    obtain ⟨k, rfl, hk, hall⟩ := hrel
    have HALL := Lib.hid hall
    clear hall
    by_cases hlt : k < us.length
    · obtain ⟨b, off, rfl, hb, hrow⟩ := HROW.out.some (by intro e; have := congrArg List.length e; rw [bv_length] at this; simp at this; subst this; simp at hlt)
      have hc := hrow.at_ (bv_get hlt)
      have HX := Lib.hid (fun h => idxF_at hlt h fun j hj => HALL.out j (by omega) hj)
      have HY := Lib.hid (fun (h : us[k] = true) j (hj : j < us.length) (hjk : j < k + 1) => show us[j] = true by
        rcases Nat.lt_or_ge j k with h1 | h1
        · exact HALL.out j hj h1
        · obtain rfl : j = k := by omega
          exact h)
      generalize us[k] = x at *
      clear hrow
      cases x
      · have E := Lib.hid (HX.out rfl)
        go_wp2_with fail
        go_ret
        exact ⟨by rw [E.out]; rfl, rfl⟩
      · go_wp2_with fail
        go_round
        case rel => exact ⟨k + 1, by go_num, by omega, HY.out rfl⟩
        case measure => simp [intOf]; omega
    · obtain rfl : k = us.length := by omega
      have E := Lib.hid (idxF_no (us := us) fun j hj => HALL.out j hj hj)
      go_wp2_with fail
      go_ret
      exact ⟨by rw [E.out]; rfl, rfl⟩
set_option maxRecDepth 100000 in
theorem ContainsF_any (A : Option Addr) (us : List Bool) (c : Nat) (w : World) (h : VRow w A (bv us)) (hl : us.length ≤ 9223372036854775807) :
    Calls Tryz.prog 62 #[.slice A us.length c, .bool false] w fun e w' => e = .returned (.bool (us.contains false)) ∧ w = w' := by
  have H := Lib.hid (IndexF_any A us c w h hl)
  have E := Lib.hid (idxF_has us)
  generalize us.contains false = r at *
  generalize idxF us = z at *
  clear h
  go_enter Tryz.func62, Tryz.ntmps62
  go_wp2_with fail
  refine H.out.mono ?_
  rintro e w' ⟨rfl, rfl⟩
  go_wp2_with fail
  go_ret
  exact ⟨by rw [← E.out]; rfl, rfl⟩

/-- A relation as it lies in memory: its name, where its attributes lie, with which room, and which they are. -/
structure RelV where
  nm : ByteArray
  ad : Option Addr
  cp : Nat
  xs : List Nat
def relv (rs : List RelV) : List Value := rs.flatMap fun r => [.string r.nm, .slice r.ad r.xs.length r.cp]
theorem relv_nil {rs : List RelV} (h : rs ≠ []) : relv rs ≠ [] := by
  cases rs with
  | nil => exact absurd rfl h
  | cons a r => simp [relv]
theorem relv_get : ∀ {rs : List RelV} {i : Nat} (h : i < rs.length), (relv rs)[i * 2]? = some (.string rs[i].nm) ∧ (relv rs)[i * 2 + 1]? = some (.slice rs[i].ad rs[i].xs.length rs[i].cp)
  | a :: r, 0, _ => ⟨rfl, rfl⟩
  | a :: r, i + 1, h => by
    have := relv_get (rs := r) (i := i) (by simpa using h)
    rw [show (i + 1) * 2 = i * 2 + 2 by omega, show i * 2 + 2 + 1 = (i * 2 + 1) + 2 by omega]
    exact this
theorem relv_length (rs : List RelV) : (relv rs).length = rs.length * 2 := by
  induction rs with
  | nil => rfl
  | cons a r ih => simp only [relv, List.flatMap_cons, List.length_append] at *; simp only [List.length_cons, List.length_nil]; omega
/-- Some relation has attribute i. -/
def usedB (rs : List RelV) (i : Nat) : Bool := rs.any fun r => r.xs.contains i
/-- Ascending. -/
def Asc (xs : List Nat) : Prop := ∀ i, i + 1 < xs.length → nth xs i < nth xs (i + 1)
structure RelFine (n : Nat) (r : RelV) : Prop where
  word : wordB r.nm.data.toList = true
  some_ : r.xs ≠ []
  lt : ∀ x ∈ r.xs, x < n
  asc : Asc r.xs
  room : r.xs.length ≤ r.cp
  short : r.xs.length ≤ 1000
/-- Which of n attributes are used. -/
def usesL (n : Nat) (f : Nat → Bool) : List Bool := (List.range n).map f
theorem usesL_length (n : Nat) (f : Nat → Bool) : (usesL n f).length = n := by simp [usesL]
theorem usesL_set (n : Nat) (f : Nat → Bool) (x : Nat) : (usesL n f).set x true = usesL n fun i => f i || i == x := by
  apply List.ext_getElem?
  intro i
  rw [List.getElem?_set]
  unfold usesL
  by_cases hi : i < n
  · by_cases hx : x = i
    · subst hx; simp [hi]
    · have : (i == x) = false := by rw [beq_eq_false_iff_ne]; exact fun e => hx e.symm
      simp [hi, hx, this]
  · simp [hi]; omega
theorem bv_set (us : List Bool) (x : Nat) (b : Bool) : (bv us).set x (.bool b) = bv (us.set x b) := by simp [bv, List.map_set]
theorem bv_zero (n : Nat) : bv (usesL n (usedB [])) = List.replicate n (.bool false) := by
  apply List.ext_getElem
  · simp [bv, usesL]
  · intro i h1 h2; simp [bv, usesL, usedB]

end Go.Proofs.YtnjccldjlpkgkaaGreatDoor

namespace Go.Proofs.YtnjccldjlpkgkaaGreatDoor
open Go.RowKit

theorem Tryz.infoBool : (Tryz.prog.info? 4).map (fun i => (i.zero, i.size, i.bytes)) = some (some (.bool false), 1, 1) := by kernel_rfl
theorem run_make_bools {P : Program} (t e : TypeId) (i : TypeInfo) (ht : P.underlying t = some (.slice e)) (hi : P.info? e = some i) (hz : i.zero = some (.bool false)) (hs : i.size = 1) (hby : i.bytes = 1)
    (n : Nat) (hb : n ≤ 1000) (w : World) :
    (Instr.makeSlice t (.int .i64 (n : Int)) (.int .i64 (n : Int))).run P w = .ok (.slice (some ⟨w.heap.size, 0, none⟩) n n) (w.alloc (.cells (bv (usesL n (usedB []))).toArray e)) := by
  have hb' : (i.bytes : Int) * (n : Int) ≤ 281474976710656 := by rw [hby]; omega
  have hr := run_make (P := P) w t e i (.bool false) ht hi hz .i64 .i64 n n (by omega) (Int.le_refl _) hb' (by omega)
  have hm : madeCells (Value.bool false).cells n = (bv (usesL n (usedB []))).toArray := by
    apply Array.toList_inj.1
    show (madeCells #[Value.bool false] n).toList = _
    rw [toList_madeCells_one, bv_zero]
  simp only [Int.toNat_natCast, hs, Nat.mul_one, hm] at hr
  exact hr
theorem usedB_snoc (rs : List RelV) (r : RelV) (i : Nat) : usedB (rs ++ [r]) i = (usedB rs i || r.xs.contains i) := by simp [usedB]
theorem grown_cell {w w' : World} {g b o : Nat} (h : w.grownBy w' (some g)) (hb : b < w.heap.size) (hg : b ≠ g) : w'.cell? ⟨b, o, none⟩ = w.cell? ⟨b, o, none⟩ :=
  World.cell?_of_block (w := w) (a := ⟨b, o, none⟩) (h.block b hb (fun e => hg (by injection e)))
theorem own_grown' {w w' : World} {B e n b : Nat} {v : Value} {xs : List Value} (h : w.ownsRow B e 1 v n xs) (hg : w.grownBy w' (some b)) (hb : b < B) : w'.ownsRow B e 1 v n xs :=
  h.kept (row := some b) hg (by
    rcases hv : v.ownBlock with _ | g
    · exact .inl rfl
    · refine .inr ?_
      have := (h.lt g hv).1
      intro e
      injection e with e
      omega)
theorem below_gr {w w' : World} {B g : Nat} (hg : w.grownBy w' (some g)) (hB : B ≤ g) (hw : B ≤ w.heap.size) : Below B w w' :=
  ⟨hg.os, hg.tape, hg.output, hg.size, fun i hi => hg.block i (by omega) (fun e => by injection e with e; omega)⟩
/-- The error of an attribute that no relation has. -/
def unu (b : Bool) : Int := if b then 0 else 7

set_option maxRecDepth 100000 in
set_option maxHeartbeats 8000000 in
theorem relations_of (v0A A : Option Addr) (n c0 : Nat) (rs : List RelV) (c : Nat) (v2 v3 : Value) (w : World) (h : VRow w A (relv rs)) (hn : n ≤ 1000) (hl : rs.length ≤ 1000)
    (hf : ∀ r ∈ rs, RelFine n r ∧ Cells .i64 w r.ad r.xs) (hd : (rs.map (·.nm)).Nodup) :
    Calls Tryz.prog 42 #[.agg #[.slice v0A n c0, .slice A rs.length c, v2, v3]] w fun e w' => e = .returned (.int .i64 (unu ((List.range n).all (usedB rs)))) ∧ Below w.heap.size w w' := by
  obtain ⟨i0, hi, hz0, hz1, hz2⟩ := info_parts Tryz.infoStr
  obtain ⟨i1, hj, hy0, hy1, hy2⟩ := info_parts Tryz.infoBool
  have HROW := Lib.hid h
  have HF := Lib.hid hf
  have HD := Lib.hid hd
  have hmk := fun W => run_make_bools (P := Tryz.prog) 103 4 i1 Tryz.underlying103 hj hy0 hy1 hy2 n hn W
  obtain ⟨rr, hrr⟩ : ∃ rr, (List.range n).all (usedB rs) = rr := ⟨_, rfl⟩
  have HRR := Lib.hid hrr
  rw [hrr]
  clear h hf hd hrr
  go_enter Tryz.func42, Tryz.ntmps42
  go_wp2_with fail
  clear hmk
  go_loopw [3, 18] (fun v iv wr => ∃ k : Nat, iv = .int .i64 (k : Int) ∧ k ≤ rs.length ∧ wr.ownsRow (w.heap.size + 2) 9 1 v k (tv ((rs.map (·.nm)).take k)) ∧ Blk wr (w.heap.size + 1) 4 (bv (usesL n (usedB (rs.take k)))) ∧ Below (w.heap.size + 1) (w.alloc (.cells #[.slice v0A n c0, .slice A rs.length c, v2, v3] 44)) wr) (fun _ iv _ => rs.length - (intOf iv).toNat)
  case atStart => exact ⟨0, rfl, Nat.zero_le _, World.ownsRow_nil _ _ _ _, by
    have := Blk.new (w.alloc (.cells #[.slice v0A n c0, .slice A rs.length c, v2, v3] 44)) 4 (bv (usesL n (usedB [])))
    rw [World.size_alloc] at this
    exact this, (Below.refl _ _).alloc (by simp) _⟩
  case round =>
    obtain ⟨wo, rfl⟩ : ∃ wo : World, wo = wr := ⟨_, rfl⟩
    obtain ⟨k, rfl, hk, hown, hblk, hbel⟩ := hrel
    have HOWN := Lib.hid hown
    have HBLK := Lib.hid hblk
    have HBEL := Lib.hid hbel
    have hgw := hblk.lt
    clear hown hblk hbel
    by_cases hlt : k < rs.length
    · obtain ⟨b, off, rfl, hb, hrow⟩ := HROW.out.some (relv_nil (by intro e; subst e; simp at hlt))
      have hb2 : b < w.heap.size + 1 := by omega
      obtain ⟨hg1, hg2⟩ := relv_get hlt
      have hc1 := (HBEL.out.cell (p := ⟨b, off + k * 2, none⟩) hb2).trans ((World.cell?_alloc_lt w _ ⟨b, off + k * 2, none⟩ hb).trans (hrow.at_ hg1))
      have hc2 : wo.cell? ⟨b, off + k * 2 + 1, none⟩ = _ := (HBEL.out.cell (p := ⟨b, off + (k * 2 + 1), none⟩) hb2).trans ((World.cell?_alloc_lt w _ ⟨b, off + (k * 2 + 1), none⟩ hb).trans (hrow.at_ hg2))
      clear hrow hg1 hg2
      obtain ⟨hfine, hcells⟩ := HF.out rs[k] (List.getElem_mem hlt)
      have hts : (rs.map (·.nm)).take (k + 1) = (rs.map (·.nm)).take k ++ [rs[k].nm] := by rw [List.take_succ_eq_append_getElem (by simpa using hlt)]; simp
      have HTS := Lib.hid hts
      have HTR := Lib.hid (List.take_succ_eq_append_getElem hlt)
      have HNI : Hid (Lib.containsS ((rs.map (·.nm)).take k) rs[k].nm = false) := by
        have h2 := (List.take_sublist (k + 1) _).nodup HD.out
        rw [hts, nodup_snoc] at h2
        exact Lib.hid h2.2
      obtain ⟨r, hr⟩ : ∃ r, rs[k] = r := ⟨_, rfl⟩
      rw [hr] at hc1 hc2 hfine hcells HTS HTR HNI
      clear hts hr
      obtain ⟨s, A1, c1, xs⟩ := r
      have HFI := Lib.hid hfine
      have HCE := Lib.hid hcells
      have hxl : xs.length ≤ 1000 := hfine.short
      have hxne : ((xs.length : Int) == 0) = false := by
        have hx : xs ≠ [] := hfine.some_
        have hx2 : xs.length ≠ 0 := fun e => hx (List.eq_nil_of_length_eq_zero e)
        rw [beq_eq_false_iff_ne]
        omega
      clear hfine hcells
      have hsz := HBEL.out.size
      rw [World.size_alloc] at hsz
      have hk3 : k ≤ 1000 := by omega
      go_wp2_with (at_builtin; refine wpList_append_own _ rfl _ _ 101 rfl (w.heap.size + 2) 9 i0 (.string ⟨#[]⟩) 1 16 Tryz.underlying101 hi hz0 hz1 hz2 rfl (by decide) _ _ _ rfl ((HOWN.out.alloc _).alloc _) ⟨wo.heap.size + 1, 0, none⟩ 1 1 [_] rfl rfl (one_new' (by simp)) one_txt (by unfold maxLen; omega) (by omega) (by simp; omega) ?_)
      intro v' w3 hown3 hgrow3 _
      obtain ⟨hblk3, hgr3, hbel3⟩ := app2 (hs := by omega) HOWN.out hgrow3
      have hkc : ((rs.map (·.nm)).take k).length = k := by rw [List.length_take, List.length_map]; omega
      obtain ⟨A', c', rfl, hc', hrow', hfar⟩ := own_vrow hown3 (by rw [List.length_append, tv_length, hkc]; rfl)
      have hrow4 : VRow w3 A' (tv ((rs.map (·.nm)).take k ++ [s])) := by rw [tv_snoc]; exact hrow'
      have HBLK3 := Lib.hid hblk3
      have HUSE3 := Lib.hid (HBLK.out.under hbel3 (by omega))
      have HOWN3 := Lib.hid hown3
      have HBEL3 := Lib.hid (HBEL.out.trans (hbel3.mono (by omega)))
      have hsz3 : wo.heap.size < w3.heap.size := hblk3.lt
      have HN := Lib.hid (named_of A' _ s k c' false w3 hrow4 hkc hk3 hc' HFI.out.word (by have := word_size HFI.out.word; simp at this; omega) HNI.out)
      clear hown3 hgrow3 hblk3 hgr3 hbel3 hkc hrow' hfar hrow4
      go_wp2_with fail
      refine HN.out.mono ?_
      rintro e w4 ⟨rfl, hb4⟩
      have HBLK4 := Lib.hid (HBLK3.out.below hb4)
      have HUSE4 := Lib.hid (HUSE3.out.below hb4)
      have HOWN4 := Lib.hid (own_below HOWN3.out hb4)
      have HBEL4 := Lib.hid (HBEL3.out.trans (hb4.mono (by omega)))
      have hsz4 : wo.heap.size < w4.heap.size := HBLK4.out.lt
      have hd2 : w4.cell? ⟨wo.heap.size, 1, none⟩ = some (.slice A1 xs.length c1) := HBLK4.out.at_ (i := 1) rfl
      clear hb4
      obtain ⟨b1, off1, rfl, hb1, hcx⟩ := HCE.out HFI.out.some_
      have HB4 := Lib.hid (((Below.refl w.heap.size w).alloc (Nat.le_refl _) (.cells #[.slice v0A n c0, .slice (some ⟨b, off, none⟩) rs.length c, v2, v3] 44)).trans (HBEL4.out.mono (by omega)))
      have HCX := Lib.hid (fun i (hi : i < xs.length) => (HB4.out.cell (p := ⟨b1, off1 + i, none⟩) hb1).trans (hcx i hi))
      clear hcx
      go_wp2_with fail
      go_loopw [41] (fun iv wj => ∃ j : Nat, iv = .int .i64 (j : Int) ∧ j ≤ xs.length ∧ Blk wj (w.heap.size + 1) 4 (bv (usesL n fun i => usedB (rs.take k) i || (xs.take j).contains i)) ∧ w4.grownBy wj (some (w.heap.size + 1))) (fun iv _ => xs.length - (intOf iv).toNat)
      case atStart => exact ⟨0, rfl, Nat.zero_le _, by simp only [List.take_zero, List.contains_nil, Bool.or_false]; exact HUSE4.out, World.grownBy.refl _ _⟩
      case round =>
        obtain ⟨j, rfl, hj, huse, hgr⟩ := hrel
        obtain ⟨wj, rfl⟩ : ∃ wj : World, wj = wr := ⟨_, rfl⟩
        have HUSE := Lib.hid huse
        have HGR := Lib.hid hgr
        have hd2' := (grown_cell (o := 1) hgr hsz4 (by omega)).trans hd2
        clear huse hgr
        by_cases hltj : j < xs.length
        · have hcj := (grown_cell (o := off1 + j) HGR.out (b := b1) (by omega) (by omega)).trans (HCX.out j hltj)
          have hxn : nth xs j < n := HFI.out.lt _ (by rw [nth, List.getD_eq_getElem?_getD, List.getElem?_eq_getElem hltj]; exact List.getElem_mem hltj)
          have HTJ := Lib.hid (show xs.take (j + 1) = xs.take j ++ [nth xs j] by rw [List.take_succ_eq_append_getElem hltj, nth, List.getD_eq_getElem?_getD, List.getElem?_eq_getElem hltj]; rfl)
          generalize nth xs j = x at *
          have hcu : wj.cell? ⟨w.heap.size + 1, x, none⟩ = some (.bool ((usesL n fun i => usedB (rs.take k) i || (xs.take j).contains i)[x]'(by rw [usesL_length]; exact hxn))) := HUSE.out.at_ (bv_get (by rw [usesL_length]; exact hxn))
          have hfu := HUSE.out.fr x
          have HUS := Lib.hid (show Blk (wj.setCell ⟨w.heap.size + 1, x, none⟩ (.bool true)) (w.heap.size + 1) 4 (bv (usesL n fun i => usedB (rs.take k) i || (xs.take (j + 1)).contains i)) by
            have h1 := HUSE.out.set x (.bool true)
            rw [bv_set, usesL_set] at h1
            have e : (fun i => usedB (rs.take k) i || (xs.take (j + 1)).contains i) = fun i => (usedB (rs.take k) i || (xs.take j).contains i) || i == x := by
              funext i
              rw [HTJ.out]
              by_cases hix : i = x
              · subst hix; simp
              · have : (i == x) = false := by rw [beq_eq_false_iff_ne]; exact hix
                simp [hix, this]
            rw [e]
            exact h1)
          have HGS := Lib.hid (grown_set' HGR.out x (.bool true))
          generalize ((usesL n fun i => usedB (rs.take k) i || (xs.take j).contains i)[x]'_) = ob at hcu
          go_wp2_with fail
          go_roundw
          case rel => exact ⟨j + 1, by go_num, by omega, HUS.out, HGS.out⟩
          case measure => simp [intOf]; omega
        · obtain rfl : j = xs.length := by omega
          have HU5 := Lib.hid (show Blk wj (w.heap.size + 1) 4 (bv (usesL n (usedB (rs.take (k + 1))))) by
            have h1 := HUSE.out
            rw [List.take_length] at h1
            have e : usedB (rs.take (k + 1)) = fun i => usedB (rs.take k) i || xs.contains i := by
              funext i
              rw [HTR.out, usedB_snoc]
            rw [e]
            exact h1)
          have hsz5 := HGR.out.size
          have HO5 := Lib.hid (own_grown' HOWN4.out HGR.out (by omega))
          have HB5 := Lib.hid (HBEL4.out.trans (below_gr HGR.out (by omega) (by omega)))
          have HCJ := Lib.hid (fun i (hi : i < xs.length) => (grown_cell (o := off1 + i) HGR.out (b := b1) (by omega) (by omega)).trans (HCX.out i hi))
          have hx1 : 1 ≤ xs.length := by
            have h1 : xs ≠ [] := HFI.out.some_
            rcases Nat.lt_or_ge 0 xs.length with h2 | h2
            · exact h2
            · exact absurd (List.eq_nil_of_length_eq_zero (by omega)) h1
          go_wp2_with fail
          go_loopw [10] (fun iv wq => ∃ q m : Nat, iv = .int .i64 ((q : Int) + 1) ∧ q + 1 ≤ xs.length ∧ wq = wj.drewN m) (fun iv _ => xs.length - (intOf iv).toNat)
          case atStart => exact ⟨0, 0, rfl, hx1, rfl⟩
          case round =>
            obtain ⟨q, m, rfl, hq, rfl⟩ := hrel
            have hd2'' : (wj.drewN m).cell? ⟨wo.heap.size, 1, none⟩ = _ := hd2'
            by_cases hltq : q + 1 < xs.length
            · have hcq := HCJ.out q (by omega)
              have hcq1 := HCJ.out (q + 1) hltq
              have hasc := HFI.out.asc q hltq
              generalize nth xs q = x0 at *
              generalize nth xs (q + 1) = x1 at *
              go_wp2_with fail
              have e1 : IntKind.i64.wrap ((q : Int) + 1 - 1) = q := by rw [Int.add_sub_cancel]; exact IntWalk.i64_in _ (by omega)
              have e2 : (0 : Int) ≤ (q : Int) + 1 := by omega
              have e3 : (q : Int) + 1 < (xs.length : Int) := by omega
              have e4 : ((q : Int) + 1).toNat = q + 1 := by omega
              go_quiet (fail)
              clear e1 e2 e3 e4
              go_wp2_with fail
              go_roundw
              case rel => exact ⟨q + 1, _, by go_num, by omega, rfl⟩
              case measure => simp [intOf]; omega
            · have hq2 : xs.length ≤ q + 1 := by omega
              go_wp2_with fail
              go_roundw
              case rel => exact ⟨k + 1, by go_num, by omega, by rw [HTS.out, tv_snoc]; exact HO5.out, HU5.out, below_drewN HB5.out _⟩
              case measure => simp [intOf]; omega
    · obtain rfl : k = rs.length := by omega
      have HU := Lib.hid (show VRow wo (some ⟨w.heap.size + 1, 0, none⟩) (bv (usesL n (usedB rs))) by
        have h1 := HBLK.out
        rw [List.take_length] at h1
        exact fun _ => ⟨w.heap.size + 1, 0, rfl, h1.lt, fun i hi => by rw [Nat.zero_add, h1.cell i, List.getElem?_eq_getElem hi]⟩)
      have HC := Lib.hid (ContainsF_any _ _ n wo HU.out (by rw [usesL_length]; omega))
      have E : Hid ((usesL n (usedB rs)).contains false = !rr) := by
        refine Lib.hid ?_
        rw [← HRR.out, Bool.eq_iff_iff, List.contains_iff_mem, Bool.not_eq_true', ← Bool.not_eq_true, List.all_eq_true]
        unfold usesL
        rw [List.mem_map]
        constructor
        · rintro ⟨i, hi, e⟩ h2
          rw [h2 i hi] at e
          cases e
        · intro h2
          refine Classical.byContradiction fun h3 => h2 fun i hi => ?_
          cases hu : usedB rs i with
          | true => rfl
          | false => exact absurd ⟨i, hi, hu⟩ h3
      rw [usesL_length] at HC
      rw [E.out] at HC
      cases rr
      all_goals
        go_wp2_with fail
        refine HC.out.mono ?_
        rintro e w' ⟨rfl, rfl⟩
        go_wp2_with fail
        go_ret
        exact ⟨rfl, ((Below.refl w.heap.size w).alloc (Nat.le_refl _) _).trans (HBEL.out.mono (by omega))⟩

end Go.Proofs.YtnjccldjlpkgkaaGreatDoor

namespace Go.Proofs.YtnjccldjlpkgkaaGreatDoor
open Go.RowKit

/-- A feature: its attribute, its kind, what is done where it is missing. -/
structure FeatV where
  a : Nat
  k : Int
  m : Int
def fv (fs : List FeatV) : List Value := fs.flatMap fun f => [.int .i64 (f.a : Int), .int .i64 f.k, .int .i64 f.m]
theorem fv_nil {fs : List FeatV} (h : fs ≠ []) : fv fs ≠ [] := by
  cases fs with
  | nil => exact absurd rfl h
  | cons a r => simp [fv]
theorem fv_get : ∀ {fs : List FeatV} {i : Nat} (h : i < fs.length), (fv fs)[i * 3]? = some (.int .i64 (fs[i].a : Int)) ∧ (fv fs)[i * 3 + 1]? = some (.int .i64 fs[i].k) ∧ (fv fs)[i * 3 + 2]? = some (.int .i64 fs[i].m)
  | a :: r, 0, _ => ⟨rfl, rfl, rfl⟩
  | a :: r, i + 1, h => by
    have := fv_get (fs := r) (i := i) (by simpa using h)
    rw [show (i + 1) * 3 = i * 3 + 3 by omega, show i * 3 + 3 + 1 = (i * 3 + 1) + 3 by omega, show i * 3 + 3 + 2 = (i * 3 + 2) + 3 by omega]
    exact this
theorem fv_length (fs : List FeatV) : (fv fs).length = fs.length * 3 := by
  induction fs with
  | nil => rfl
  | cons a r ih => simp only [fv, List.flatMap_cons, List.length_append] at *; simp only [List.length_cons, List.length_nil]; omega
/-- What a feature must be over attributes. -/
structure FeatFine (at1 : List (ByteArray × Int)) (lb : Int) (f : FeatV) : Prop where
  lt : f.a < at1.length
  kind : (f.k = 1 ∧ at1[f.a].2 = 2 ∧ (f.m = 0 ∨ f.m = 1)) ∨ (f.k = 2 ∧ at1[f.a].2 = 3 ∧ f.m = 0)
  other : (f.a : Int) ≠ lb

set_option maxRecDepth 100000 in
set_option maxHeartbeats 1000000 in
/-- Is it the same attribute? -/
theorem feat1 (g x y : Nat) (k m : Int) (w : World) (h : w.cell? ⟨g, 0, none⟩ = some (.int .i64 (y : Int))) (hg : g < w.heap.size) :
    Calls Tryz.prog 64 #[.agg #[.int .i64 (x : Int), .int .i64 k, .int .i64 m], .pointer (some ⟨g, 0, none⟩)] w fun e w' => e = .returned (.bool ((x : Int) == (y : Int))) ∧ Below w.heap.size w w' := by
  go_enter Tryz.func64, Tryz.ntmps64
  go_wp2_with fail
  go_ret
  exact ⟨rfl, (Below.refl _ _).alloc (Nat.le_refl _) _⟩
set_option maxRecDepth 100000 in
set_option maxHeartbeats 2000000 in
theorem IdxFeat_no (b off y g n c : Nat) (fs : List FeatV) (w : World) (h : VRow w (some ⟨b, off, none⟩) (fv fs)) (hb : b < w.heap.size) (hn : n ≤ fs.length) (hl : n ≤ 1000) (hy : ∀ i, (hi : i < fs.length) → i < n → fs[i].a ≠ y) (hg : w.cell? ⟨g, 0, none⟩ = some (.int .i64 (y : Int))) (hgl : g < w.heap.size) :
    Calls Tryz.prog 81 #[.slice (some ⟨b, off, none⟩) n c, .func (.func 64) #[] #[.pointer (some ⟨g, 0, none⟩)]] w fun e w' => e = .returned (.int .i64 (-1)) ∧ Below w.heap.size w w' := by
  have HROW := Lib.hid h
  have HY := Lib.hid hy
  have HG := Lib.hid hg
  clear h hy hg
  go_enter Tryz.func81, Tryz.ntmps81
  go_wp2_with fail
  go_loopw [8] (fun iv wr => ∃ k : Nat, iv = .int .i64 (k : Int) ∧ k ≤ n ∧ Below w.heap.size w wr) (fun iv _ => n - (intOf iv).toNat)
  case atStart => exact ⟨0, rfl, Nat.zero_le _, Below.refl _ _⟩
  case round =>
    obtain ⟨k, rfl, hk, hbel⟩ := hrel
    have HB := Lib.hid hbel
    clear hbel
    by_cases hlt : k < n
    · have hltf : k < fs.length := by omega
      obtain ⟨hg1, hg2, hg3⟩ := fv_get hltf
      have hc1 := (HB.out.cell (p := ⟨b, off + k * 3, none⟩) hb).trans (HROW.out.at_ hg1)
      have hc2' : wr.cell? ⟨b, off + k * 3 + 1, none⟩ = _ := (HB.out.cell (p := ⟨b, off + (k * 3 + 1), none⟩) hb).trans (HROW.out.at_ hg2)
      have hc3 : wr.cell? ⟨b, off + k * 3 + 2, none⟩ = _ := (HB.out.cell (p := ⟨b, off + (k * 3 + 2), none⟩) hb).trans (HROW.out.at_ hg3)
      have hne := HY.out k hltf hlt
      have HP := Lib.hid (fun kk mm => feat1 g fs[k].a y kk mm wr ((HB.out.cell (p := ⟨g, 0, none⟩) hgl).trans HG.out) (by have := HB.out.size; omega))
      generalize fs[k].k = kk at *
      generalize fs[k].m = mm at *
      generalize fs[k].a = x at *
      have hne' : ((x : Int) == (y : Int)) = false := by rw [beq_eq_false_iff_ne]; omega
      rw [hne'] at HP
      clear hg1 hg2 hg3 hne hne'
      go_wp2_with fail
      refine (HP.out _ _).mono ?_
      rintro e w2 ⟨rfl, hb2⟩
      have HB2 := Lib.hid (HB.out.trans (hb2.mono HB.out.size))
      clear hb2
      go_wp2_with fail
      go_roundw
      case rel => exact ⟨k + 1, by go_num, by omega, HB2.out⟩
      case measure => simp [intOf]; omega
    · go_wp2_with fail
      go_ret
      exact ⟨rfl, HB.out⟩
set_option maxRecDepth 100000 in
theorem ConFeat_no (b off y g n c : Nat) (fs : List FeatV) (w : World) (h : VRow w (some ⟨b, off, none⟩) (fv fs)) (hb : b < w.heap.size) (hn : n ≤ fs.length) (hl : n ≤ 1000) (hy : ∀ i, (hi : i < fs.length) → i < n → fs[i].a ≠ y) (hg : w.cell? ⟨g, 0, none⟩ = some (.int .i64 (y : Int))) (hgl : g < w.heap.size) :
    Calls Tryz.prog 63 #[.slice (some ⟨b, off, none⟩) n c, .func (.func 64) #[] #[.pointer (some ⟨g, 0, none⟩)]] w fun e w' => e = .returned (.bool false) ∧ Below w.heap.size w w' := by
  have H := Lib.hid (IdxFeat_no b off y g n c fs w h hb hn hl hy hg hgl)
  clear h hy hg
  go_enter Tryz.func63, Tryz.ntmps63
  go_wp2_with fail
  refine H.out.mono ?_
  rintro e w' ⟨rfl, hb2⟩
  have HB2 := Lib.hid hb2
  clear hb2
  go_wp2_with fail
  go_ret
  exact ⟨rfl, HB2.out⟩

set_option maxRecDepth 100000 in
set_option maxHeartbeats 4000000 in
theorem features_of (at1 : List (ByteArray × Int)) (fs : List FeatV) (A F : Option Addr) (c c2 : Nat) (v1 : Value) (lb : Int) (w : World) (h : VRow w A (av at1)) (hf : VRow w F (fv fs)) (hl : at1.length ≤ 1000) (hl2 : fs.length ≤ 1000) (hc2 : fs.length ≤ c2)
    (hfine : ∀ f ∈ fs, FeatFine at1 lb f) (hd : (fs.map (·.a)).Nodup) :
    Calls Tryz.prog 43 #[.agg #[.slice A at1.length c, v1, .slice F fs.length c2, .int .i64 lb]] w fun e w' => e = .returned (.int .i64 0) ∧ Below w.heap.size w w' := by
  have HROW := Lib.hid h
  have HFR := Lib.hid hf
  have HF := Lib.hid hfine
  have HD := Lib.hid hd
  clear h hf hfine hd
  go_enter Tryz.func43, Tryz.ntmps43
  go_wp2_with fail
  go_loopw [11] (fun iv wr => ∃ k : Nat, iv = .int .i64 (k : Int) ∧ k ≤ fs.length ∧ Below (w.heap.size + 1) (w.alloc (.cells #[.slice A at1.length c, v1, .slice F fs.length c2, .int .i64 lb] 44)) wr) (fun iv _ => fs.length - (intOf iv).toNat)
  case atStart => exact ⟨0, rfl, Nat.zero_le _, Below.refl _ _⟩
  case round =>
    obtain ⟨k, rfl, hk, hbel⟩ := hrel
    have HBEL := Lib.hid hbel
    have hsz := hbel.size
    rw [World.size_alloc] at hsz
    have HB := Lib.hid (((Below.refl w.heap.size w).alloc (Nat.le_refl _) (.cells #[.slice A at1.length c, v1, .slice F fs.length c2, .int .i64 lb] 44)).trans (hbel.mono (by omega)))
    have hs0 : wr.cell? ⟨w.heap.size, 0, none⟩ = some (.slice A at1.length c) := (hbel.cell (p := ⟨w.heap.size, 0, none⟩) (by simp)).trans (by simp)
    have hs2 : wr.cell? ⟨w.heap.size, 2, none⟩ = some (.slice F fs.length c2) := (hbel.cell (p := ⟨w.heap.size, 2, none⟩) (by simp)).trans (by simp)
    have hs3 : wr.cell? ⟨w.heap.size, 3, none⟩ = some (.int .i64 lb) := (hbel.cell (p := ⟨w.heap.size, 3, none⟩) (by simp)).trans (by simp)
    clear hbel
    by_cases hlt : k < fs.length
    · obtain ⟨b, off, rfl, hb, hrow⟩ := HFR.out.some (fv_nil (by intro e; subst e; simp at hlt))
      obtain ⟨hg1, hg2, hg3⟩ := fv_get hlt
      have hc1 := (HB.out.cell (p := ⟨b, off + k * 3, none⟩) hb).trans (hrow.at_ hg1)
      have hc2' : wr.cell? ⟨b, off + k * 3 + 1, none⟩ = _ := (HB.out.cell (p := ⟨b, off + (k * 3 + 1), none⟩) hb).trans (hrow.at_ hg2)
      have hc3 : wr.cell? ⟨b, off + k * 3 + 2, none⟩ = _ := (HB.out.cell (p := ⟨b, off + (k * 3 + 2), none⟩) hb).trans (hrow.at_ hg3)
      clear hrow hg1 hg2 hg3
      obtain ⟨fl, fk, fo⟩ := HF.out fs[k] (List.getElem_mem hlt)
      obtain ⟨b1, off1, rfl, hb1, hrow1⟩ := HROW.out.some (av_nil (by intro e; subst e; simp at fl))
      have hc4 : wr.cell? ⟨b1, off1 + fs[k].a * 2 + 1, none⟩ = _ := (HB.out.cell (p := ⟨b1, off1 + (fs[k].a * 2 + 1), none⟩) hb1).trans (hrow1.at_ (av_get fl).2)
      clear hrow1
      generalize at1[fs[k].a].2 = z at *
      generalize fs[k].k = kk at *
      generalize fs[k].m = mm at *
      have HNE : Hid (∀ i, (hi : i < fs.length) → i < k → fs[i].a ≠ fs[k].a) := Lib.hid fun i hi hik e => by
        have h2 := (List.pairwise_iff_getElem.1 HD.out) i k (by simpa using hi) (by simpa using hlt) hik
        apply h2
        simp [e]
      generalize hx : fs[k].a = x at *
      have hnl : ((x : Int) == lb) = false := by rw [beq_eq_false_iff_ne]; exact fo
      clear fo hx
      have hx0 : decide ((x : Int) < 0) = false := by simp
      have hx1 : decide (at1.length ≤ x) = false := by simp; omega
      have hbw : b < wr.heap.size := by omega
      have hb1w : b1 < wr.heap.size := by omega
      have hszlt : w.heap.size < wr.heap.size := by omega
      have HCALL := Lib.hid (fun kk mm => ConFeat_no b off x wr.heap.size k c2 fs (wr.alloc (.cells #[.int .i64 (x : Int), .int .i64 kk, .int .i64 mm] 73))
        (HFR.out.below (HB.out.trans ((Below.refl _ _).alloc (by omega) _))) (by simp; omega) (by omega) (by omega) HNE.out (by simp) (by simp))
      rcases fk with ⟨rfl, rfl, rfl | rfl⟩ | ⟨rfl, rfl, rfl⟩
      all_goals
        go_wp2_with fail
        refine (HCALL.out _ _).mono ?_
        rintro e w2 ⟨rfl, hb2⟩
        have HB2 := Lib.hid (HBEL.out.trans (((Below.refl (w.heap.size + 1) wr).alloc (by omega) _).trans (hb2.mono (by simp; omega))))
        clear hb2
        go_wp2_with fail
        go_roundw
        case rel => exact ⟨k + 1, by go_num, by omega, HB2.out⟩
        case measure => simp [intOf]; omega
    · go_wp2_with fail
      go_ret
      exact ⟨rfl, HB.out⟩

end Go.Proofs.YtnjccldjlpkgkaaGreatDoor
