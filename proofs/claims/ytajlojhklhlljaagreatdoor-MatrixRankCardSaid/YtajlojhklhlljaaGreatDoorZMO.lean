import Derived.Test.YtajlojhklhlljaaGreatDoorZMD
import Derived.Test.YtajlojhklhlljaaGreatDoorZU
import Derived.Test.YtajlojhklhlljaaGreatDoorZMK
set_option maxHeartbeats 16000000
set_option maxRecDepth 100000
set_option linter.unusedVariables false
set_option linter.unusedSimpArgs false
set_option linter.unusedSectionVars false
namespace Go.Proofs.YtajlojhklhlljaaGreatDoor
open Go.RowKit
def colsS : List RowT → Nat
 | [] => 0
 | r :: _ => r.ss.length
noncomputable def shapeS (rs : List RowT) : Nat × Nat × Int :=
 if 12 < rs.length then (0, 0, 3)
 else if rs.any (fun r => decide (12 < r.ss.length)) then (0, 0, 3)
 else if rs.any (fun r => decide (r.ss.length ≠ colsS rs)) then (0, 0, 5)
 else if rs.any (fun r => !r.ss.all vR) then (0, 0, 1)
 else (rs.length, colsS rs, 0)
def RetSh (w : World) (p : Nat × Nat × Int) (e : Ending) (w' : World) : Prop := e = .returned (.tuple #[.int .i64 (p.1 : Int), .int .i64 (p.2.1 : Int), .int .i64 p.2.2]) ∧ Below w.heap.size w w'
section
variable {rs : List RowT}
theorem any_at {p : RowT → Bool} {i : Nat} (hi : i < rs.length) (h : p rs[i] = true) : rs.any p = true := List.any_eq_true.2 ⟨_, List.getElem_mem hi, h⟩
theorem any_no {p : RowT → Bool} (h : ∀ i, (hi : i < rs.length) → p rs[i] = false) : rs.any p = false := by
 rw [List.any_eq_false]
 intro r hr
 obtain ⟨i, hi, rfl⟩ := List.getElem_of_mem hr
 rw [h i hi]
 decide
theorem shape_1 (h : 12 < rs.length) : shapeS rs = (0, 0, 3) := if_pos h
theorem shape_2 (h : ¬ 12 < rs.length) {i : Nat} (hi : i < rs.length) (h2 : 12 < rs[i].ss.length) : shapeS rs = (0, 0, 3) := by
 unfold shapeS
 rw [if_neg h, any_at hi (decide_eq_true h2), if_pos rfl]
theorem shape_3 (h : ¬ 12 < rs.length) (h2 : ∀ i, (hi : i < rs.length) → ¬ 12 < rs[i].ss.length) {i : Nat} (hi : i < rs.length) (h3 : rs[i].ss.length ≠ colsS rs) : shapeS rs = (0, 0, 5) := by
 unfold shapeS
 rw [if_neg h, any_no (fun i hi => decide_eq_false (h2 i hi)), if_neg Bool.false_ne_true, any_at hi (decide_eq_true h3), if_pos rfl]
theorem shape_4 (h : ¬ 12 < rs.length) (h2 : ∀ i, (hi : i < rs.length) → ¬ 12 < rs[i].ss.length) (h3 : ∀ i, (hi : i < rs.length) → rs[i].ss.length = colsS rs) {i k : Nat} (hi : i < rs.length) (hk : k < rs[i].ss.length) (h4 : vR rs[i].ss[k] = false) : shapeS rs = (0, 0, 1) := by
 unfold shapeS
 rw [if_neg h, any_no (fun i hi => decide_eq_false (h2 i hi)), if_neg Bool.false_ne_true, any_no (fun i hi => decide_eq_false (fun e => e (h3 i hi))), if_neg Bool.false_ne_true, any_at hi (show (!rs[i].ss.all vR) = true from ?_), if_pos rfl]
 rw [Bool.not_eq_true', List.all_eq_false]
 exact ⟨_, List.getElem_mem hk, by rw [h4]; decide⟩
theorem shape_5 (h : ¬ 12 < rs.length) (h2 : ∀ i, (hi : i < rs.length) → ¬ 12 < rs[i].ss.length) (h3 : ∀ i, (hi : i < rs.length) → rs[i].ss.length = colsS rs) (h4 : ∀ i, (hi : i < rs.length) → ∀ k, (hk : k < rs[i].ss.length) → vR rs[i].ss[k] = true) : shapeS rs = (rs.length, colsS rs, 0) := by
 unfold shapeS
 rw [if_neg h, any_no (fun i hi => decide_eq_false (h2 i hi)), if_neg Bool.false_ne_true, any_no (fun i hi => decide_eq_false (fun e => e (h3 i hi))), if_neg Bool.false_ne_true, any_no (fun i hi => ?_), if_neg Bool.false_ne_true]
 show (!rs[i].ss.all vR) = false
 rw [Bool.not_eq_false', List.all_eq_true]
 intro s hs
 obtain ⟨k, hk, rfl⟩ := List.getElem_of_mem hs
 exact h4 i hi k hk
theorem colsS_at (h : 0 < rs.length) : colsS rs = rs[0].ss.length := by
 cases rs with
 | nil => simp at h
 | cons a r => rfl
end
theorem RShape_any (A : Option Addr) (rs : List RowT) (c : Nat) (w : World) (h : MatIn w A rs) (hl : rs.length ≤ 1000000) (hl2 : ∀ r ∈ rs, r.ss.length ≤ 1000000) (hz : ∀ r ∈ rs, ∀ s ∈ r.ss, s.size ≤ 4000000000) :
  Calls Tryz.prog 92 #[.slice A rs.length c] w (RetSh w (shapeS rs)) := by
 have HM := Lib.hid h
 have HLL := Lib.hid hl2
 have HZ := Lib.hid hz
 generalize hQ : RetSh w (shapeS rs) = Q
 replace hQ := Lib.hid hQ
 clear h hl2 hz
 obtain ⟨cs, hcs⟩ : ∃ cs, colsS rs = cs := ⟨_, rfl⟩
 have HCS := Lib.hid hcs
 have HRET := Lib.hid (fun (p : Nat × Nat × Int) (hp : shapeS rs = p) (W : World) (hb : Below w.heap.size w W) => (show Q (.returned (.tuple #[.int .i64 (p.1 : Int), .int .i64 (p.2.1 : Int), .int .i64 p.2.2])) W from by rw [← hQ.out, hp]; exact ⟨rfl, hb⟩))
 have H1 := Lib.hid (fun (h : 12 < rs.length) => shape_1 h)
 have H2 := Lib.hid (fun (h : ¬ 12 < rs.length) (i : Nat) (hi : i < rs.length) (h2 : 12 < rs[i].ss.length) => shape_2 h hi h2)
 have hcl : cs ≤ 1000000 := by
  rw [← hcs]
  rcases Nat.eq_zero_or_pos rs.length with h0 | h0
  ·rw [List.eq_nil_of_length_eq_zero h0]; exact Nat.zero_le _
  ·rw [colsS_at h0]; exact HLL.out _ (List.getElem_mem h0)
 clear hcs
 go_enter Tryz.func92, Tryz.ntmps92
 go_upto_if 12 with (fail)
 go_cut [5] (fun v wc => v = .int .i64 (cs : Int) ∧ wc = w)
 case first =>
  by_cases h0 : 0 < rs.length
  ·have hx : (0 : Int) < (rs.length : Int) := by omega
   obtain ⟨b, off, rfl, hb, hc⟩ := HM.out.some (by intro e; subst e; simp at h0)
   have hc0 := hc 0 h0
   have hcs := HCS.out
   rw [colsS_at h0] at hcs
   rw [hcs, Nat.add_zero] at hc0
   generalize rs[0].ad = ad at *
   generalize rs[0].cp = cp at *
   clear hc hcs
   go_wp2_with fail
   go_meet
   exact ⟨rfl, rfl⟩
  ·have hx : ¬ (0 : Int) < (rs.length : Int) := by omega
   have h00 : cs = 0 := by rw [← HCS.out, List.eq_nil_of_length_eq_zero (show rs.length = 0 by omega)]; rfl
   subst h00
   go_wp2_with fail
   go_meet
   exact ⟨rfl, rfl⟩
 case rest =>
  obtain ⟨rfl, rfl⟩ := hcut
  obtain ⟨w, rfl⟩ : ∃ w' : World, w' = wc := ⟨_, rfl⟩
  by_cases h12 : 12 < rs.length
  ·have hx : (12 : Int) < (rs.length : Int) := by omega
   have HR := Lib.hid (HRET.out _ (H1.out h12) w (Below.refl _ _))
   go_wp2_with fail
   go_ret3
   exact HR.out
  ·have hx : ¬ (12 : Int) < (rs.length : Int) := by omega
   go_wp2_with fail
   clear hx
   go_loopw [22] (fun iv wr => ∃ i : Nat, iv = .int .i64 (i : Int) ∧ i ≤ rs.length ∧ (∀ j, (hj : j < rs.length) → j < i → ¬ 12 < rs[j].ss.length) ∧ wr = w) (fun iv _ => rs.length - (intOf iv).toNat)
   case atStart => exact ⟨0, rfl, Nat.zero_le _, fun j _ h => absurd h (by omega), rfl⟩
   case round =>
    obtain ⟨i, rfl, hi, hall, rfl⟩ := hrel
    obtain ⟨w, rfl⟩ : ∃ w' : World, w' = wr := ⟨_, rfl⟩
    have HALL := Lib.hid hall
    clear hall
    by_cases hlt : i < rs.length
    ·obtain ⟨b, off, rfl, hb, hc⟩ := HM.out.some (by intro e; subst e; simp at hlt)
     have hci := hc i hlt
     have H2i := Lib.hid (H2.out h12 i hlt)
     have HNX := Lib.hid (fun (h : ¬ 12 < rs[i].ss.length) j (hj : j < rs.length) (hji : j < i + 1) => (show ¬ 12 < rs[j].ss.length by
      rcases Nat.lt_or_ge j i with h1 | h1
      ·exact HALL.out j hj h1
      ·obtain rfl : j = i := by omega
       exact h))
     generalize rs[i].ss.length = li at *
     generalize rs[i].ad = ad at *
     generalize rs[i].cp = cp at *
     clear hc
     have i1 : (0 : Int) ≤ (i : Int) := by omega
     have i2 : (i : Int) < (rs.length : Int) := by omega
     by_cases h2 : 12 < li
     ·have hx : (12 : Int) < (li : Int) := by omega
      have HR := Lib.hid (HRET.out _ (H2i.out h2) w (Below.refl _ _))
      go_wp2_with fail
      go_ret3
      exact HR.out
     ·have hx : ¬ (12 : Int) < (li : Int) := by omega
      have HN := Lib.hid (HNX.out h2)
      go_wp2_with fail
      go_roundw
      case rel => exact ⟨i + 1, by go_num, by omega, HN.out, (by first | trivial | rfl)⟩
      case measure => simp [intOf]; omega
    ·have HA2 := Lib.hid (fun j (hj : j < rs.length) => HALL.out j hj (by omega))
     have H3 := Lib.hid (fun (i : Nat) (hi : i < rs.length) (h3 : rs[i].ss.length ≠ cs) => shape_3 h12 HA2.out hi (by rw [HCS.out]; exact h3))
     clear HALL H1 H2
     go_wp2_with fail
     go_loopw [34] (fun iv wr => ∃ i : Nat, iv = .int .i64 (i : Int) ∧ i ≤ rs.length ∧ (∀ j, (hj : j < rs.length) → j < i → rs[j].ss.length = cs) ∧ wr = w) (fun iv _ => rs.length - (intOf iv).toNat)
     case atStart => exact ⟨0, rfl, Nat.zero_le _, fun j _ h => absurd h (by omega), (by first | trivial | rfl)⟩
     case round =>
      obtain ⟨i, rfl, hi, hall, rfl⟩ := hrel
      obtain ⟨w, rfl⟩ : ∃ w' : World, w' = wr := ⟨_, rfl⟩
      have HALL := Lib.hid hall
      clear hall
      by_cases hlt : i < rs.length
      ·obtain ⟨b, off, rfl, hb, hc⟩ := HM.out.some (by intro e; subst e; simp at hlt)
       have hci := hc i hlt
       have H3i := Lib.hid (H3.out i hlt)
       have HNX := Lib.hid (fun (h : rs[i].ss.length = cs) j (hj : j < rs.length) (hji : j < i + 1) => (show rs[j].ss.length = cs by
        rcases Nat.lt_or_ge j i with h1 | h1
        ·exact HALL.out j hj h1
        ·obtain rfl : j = i := by omega
         exact h))
       generalize rs[i].ss.length = li at *
       generalize rs[i].ad = ad at *
       generalize rs[i].cp = cp at *
       clear hc
       have i1 : (0 : Int) ≤ (i : Int) := by omega
       have i2 : (i : Int) < (rs.length : Int) := by omega
       by_cases h2 : li = cs
       ·have HN := Lib.hid (HNX.out h2)
        subst h2
        have hx : ((li : Int) != (li : Int)) = false := by simp
        go_wp2_with fail
        go_roundw
        case rel => exact ⟨i + 1, by go_num, by omega, HN.out, (by first | trivial | rfl)⟩
        case measure => simp [intOf]; omega
       ·have hx : ((li : Int) != (cs : Int)) = true := by simp; omega
        have HR := Lib.hid (HRET.out _ (H3i.out h2) w (Below.refl _ _))
        go_wp2_with fail
        go_ret3
        exact HR.out
      ·have HA3 := Lib.hid (fun j (hj : j < rs.length) => HALL.out j hj (by omega))
       have H4 := Lib.hid (fun (i k : Nat) (hi : i < rs.length) (hk : k < rs[i].ss.length) (h4 : vR rs[i].ss[k] = false) => shape_4 h12 HA2.out (fun i hi => by rw [HCS.out]; exact HA3.out i hi) hi hk h4)
       have H5 := Lib.hid (fun (h : ∀ i, (hi : i < rs.length) → ∀ k, (hk : k < rs[i].ss.length) → vR rs[i].ss[k] = true) => (shape_5 h12 HA2.out (fun i hi => by rw [HCS.out]; exact HA3.out i hi) h).trans (by rw [HCS.out]))
       clear HALL H3
       go_wp2_with fail
       go_loopw [47] (fun iv wr => ∃ i : Nat, iv = .int .i64 (i : Int) ∧ i ≤ rs.length ∧ (∀ j, (hj : j < rs.length) → j < i → ∀ k, (hk : k < rs[j].ss.length) → vR rs[j].ss[k] = true) ∧ Below w.heap.size w wr) (fun iv _ => rs.length - (intOf iv).toNat)
       case atStart => exact ⟨0, rfl, Nat.zero_le _, fun j _ h => absurd h (by omega), Below.refl _ _⟩
       case round =>
        obtain ⟨i, rfl, hi, hall, hbw⟩ := hrel
        obtain ⟨wk, rfl⟩ : ∃ w' : World, w' = wr := ⟨_, rfl⟩
        have HALL := Lib.hid hall
        have HBW := Lib.hid hbw
        clear hall hbw
        by_cases hlt : i < rs.length
        ·obtain ⟨b, off, rfl, hb, hc⟩ := HM.out.some (by intro e; subst e; simp at hlt)
         have hci := (HBW.out.cell (p := ⟨b, off + i, none⟩) hb).trans (hc i hlt)
         have HCI := Lib.hid (hc i hlt)
         have HSS := Lib.hid (HM.out.i _ (List.getElem_mem hlt))
         have hll := HLL.out _ (List.getElem_mem hlt)
         have HZZ := Lib.hid (HZ.out _ (List.getElem_mem hlt))
         have H4i := Lib.hid (fun k hk h => H4.out i k hlt hk h)
         have HNX := Lib.hid (fun (h : ∀ k, (hk : k < rs[i].ss.length) → vR rs[i].ss[k] = true) j (hj : j < rs.length) (hji : j < i + 1) => (show ∀ k, (hk : k < rs[j].ss.length) → vR rs[j].ss[k] = true by
          rcases Nat.lt_or_ge j i with h1 | h1
          ·exact HALL.out j hj h1
          ·obtain rfl : j = i := by omega
           exact h))
         generalize rs[i].ss = ss at *
         generalize rs[i].ad = ad at *
         generalize rs[i].cp = cp at *
         clear hc
         have i1 : (0 : Int) ≤ (i : Int) := by omega
         have i2 : (i : Int) < (rs.length : Int) := by omega
         go_wp2_with fail
         go_loopw [55] (fun kv wq => ∃ k : Nat, kv = .int .i64 (k : Int) ∧ k ≤ ss.length ∧ (∀ j, (hj : j < ss.length) → j < k → vR ss[j] = true) ∧ Below w.heap.size w wq) (fun kv _ => ss.length - (intOf kv).toNat)
         case atStart => exact ⟨0, rfl, Nat.zero_le _, fun j _ h => absurd h (by omega), HBW.out⟩
         case round =>
          clear hci
          obtain ⟨k, rfl, hk, hal2, hbq⟩ := hrel
          obtain ⟨wq, rfl⟩ : ∃ w' : World, w' = wr := ⟨_, rfl⟩
          have HAL2 := Lib.hid hal2
          have HBQ := Lib.hid hbq
          clear hal2 hbq
          by_cases hlt2 : k < ss.length
          ·obtain ⟨b2, o2, rfl, hb2, hc2⟩ := HSS.out (by intro e; subst e; simp at hlt2)
           have hck := (HBQ.out.cell (p := ⟨b2, o2 + k, none⟩) hb2).trans (hc2 k hlt2)
           have hci := (HBQ.out.cell (p := ⟨b, off + i, none⟩) hb).trans HCI.out
           have HV := Lib.hid (RFValid ss[k] wq (HZZ.out _ (List.getElem_mem hlt2)))
           have H4k := Lib.hid (H4i.out k hlt2)
           have HN2 := Lib.hid (fun (h : vR ss[k] = true) j (hj : j < ss.length) (hjk : j < k + 1) => (show vR ss[j] = true by
            rcases Nat.lt_or_ge j k with h1 | h1
            ·exact HAL2.out j hj h1
            ·obtain rfl : j = k := by omega
             exact h))
           generalize vR ss[k] = bb at *
           generalize ss[k] = s at *
           have k1 : (0 : Int) ≤ (k : Int) := by omega
           have k2 : (k : Int) < (ss.length : Int) := by omega
           clear hc2
           cases bb
           ·have H4f := Lib.hid (H4k.out (by trivial))
            go_wp2_with fail
            refine HV.out.mono ?_
            rintro e wx ⟨rfl, hbx⟩
            have HR := Lib.hid (HRET.out _ H4f.out wx (HBQ.out.trans (hbx.mono HBQ.out.size)))
            clear hbx hci hck
            go_wp2_with fail
            go_ret3
            exact HR.out
           ·have HN3 := Lib.hid (HN2.out (by trivial))
            go_wp2_with fail
            refine HV.out.mono ?_
            rintro e wx ⟨rfl, hbx⟩
            have HBX := Lib.hid (HBQ.out.trans (hbx.mono HBQ.out.size))
            clear hbx hci hck
            go_wp2_with fail
            go_roundw
            case rel => exact ⟨k + 1, by go_num, by omega, HN3.out, HBX.out⟩
            case measure => simp [intOf]; omega
          ·have HN := Lib.hid (HNX.out (fun j hj => HAL2.out j hj (by omega)))
           go_wp2_with fail
           go_roundw
           case rel => exact ⟨i + 1, by go_num, by omega, HN.out, HBQ.out⟩
           case measure => simp [intOf]; omega
        ·have HR := Lib.hid (HRET.out _ (H5.out (fun j hj k hk => HALL.out j hj (by omega) k hk)) wk HBW.out)
         go_wp2_with fail
         go_ret3
         exact HR.out
end Go.Proofs.YtajlojhklhlljaaGreatDoor
namespace Go.Proofs.YtajlojhklhlljaaGreatDoor
open Go.RowKit
theorem MatF.shape {rs : List RowT} {m n : Nat} {M : Nat → Nat → Rat} (h : MatF rs m n M) (hm1 : 1 ≤ m) (hm : m ≤ 12) (hn : n ≤ 12) : shapeS rs = (m, n, 0) := by
 have hl := h.len
 have hc : colsS rs = n := by rw [colsS_at (by omega)]; exact h.rowAt _
 have e := shape_5 (rs := rs) (by omega) (fun i hi => by rw [h.rowAt hi]; omega) (fun i hi => by rw [h.rowAt hi, hc]) (fun i hi k hk => by
  rw [h.cel i k hi hk]
  exact vR_rstr (h.fit i k (by omega) (by have := h.rowAt hi; omega)))
 rw [e, hc, hl]
theorem MatF.len1000 {rs : List RowT} {m n : Nat} {M : Nat → Nat → Rat} (h : MatF rs m n M) (hm : m ≤ 12) (hn : n ≤ 12) : rs.length ≤ 1000000 ∧ (∀ r ∈ rs, r.ss.length ≤ 1000000) ∧ ∀ r ∈ rs, ∀ s ∈ r.ss, s.size ≤ 4000000000 := by
 have hl := h.len
 refine ⟨by omega, fun r hr => by rw [h.row r hr]; omega, fun r hr s hs => ?_⟩
 obtain ⟨i, hi, rfl⟩ := List.getElem_of_mem hr
 obtain ⟨k, hk, rfl⟩ := List.getElem_of_mem hs
 rw [h.cel i k hi hk, rstr_size]
 have := rtext_len (h.fit i k (by omega) (by have := h.rowAt hi; omega))
 omega
theorem mat_el {w : World} {A : Option Addr} {rs : List RowT} {m n : Nat} {M : Nat → Nat → Rat} (h : MatIn w A rs) (hm : MatF rs m n M) {i k : Nat} (hi : i < m) (hk : k < n) : ∃ b off b2 o2 cp : Nat, A = some ⟨b, off, none⟩ ∧ b < w.heap.size ∧ b2 < w.heap.size ∧ w.cell? ⟨b, off + i, none⟩ = some (.slice (some ⟨b2, o2, none⟩) n cp) ∧ w.cell? ⟨b2, o2 + k, none⟩ = some (.string (rstr (M i k))) := by
 have hl := hm.len
 have hi' : i < rs.length := by omega
 obtain ⟨b, off, e, hb, hc⟩ := h.some (by intro e; subst e; simp at hi')
 have hr := hm.rowAt hi'
 obtain ⟨b2, o2, e2, hb2, hc2⟩ := h.i _ (List.getElem_mem hi') (by intro e; rw [e] at hr; simp at hr; omega)
 refine ⟨b, off, b2, o2, rs[i].cp, e, hb, hb2, ?_, ?_⟩
 ·rw [hc i hi', hr, e2]
 ·rw [hc2 k (by omega), hm.cel i k hi' (by omega)]
theorem mat_row {w : World} {A : Option Addr} {rs : List RowT} {m n : Nat} {M : Nat → Nat → Rat} (h : MatIn w A rs) (hm : MatF rs m n M) (hn : 0 < n) {i : Nat} (hi : i < m) : ∃ b off b2 o2 cp : Nat, A = some ⟨b, off, none⟩ ∧ b < w.heap.size ∧ b2 < w.heap.size ∧ w.cell? ⟨b, off + i, none⟩ = some (.slice (some ⟨b2, o2, none⟩) n cp) ∧ ∀ k, k < n → w.cell? ⟨b2, o2 + k, none⟩ = some (.string (rstr (M i k))) := by
 have hl := hm.len
 have hi' : i < rs.length := by omega
 obtain ⟨b, off, e, hb, hc⟩ := h.some (by intro e; subst e; simp at hi')
 have hr := hm.rowAt hi'
 obtain ⟨b2, o2, e2, hb2, hc2⟩ := h.i _ (List.getElem_mem hi') (by intro e; rw [e] at hr; simp at hr; omega)
 refine ⟨b, off, b2, o2, rs[i].cp, e, hb, hb2, ?_, fun k hk => ?_⟩
 ·rw [hc i hi', hr, e2]
 ·rw [hc2 k (by omega), hm.cel i k hi' (by omega)]
def RetOk (w : World) (m n : Nat) (M : Nat → Nat → Rat) (e : Ending) (w' : World) : Prop := ∃ A c rs, e = .returned (.tuple #[.slice A m c, .int .i64 0]) ∧ MatF rs m n M ∧ MatOwn w.heap.size w' (.slice A m c) rs ∧ Below w.heap.size w w'
theorem RTrn_any (A : Option Addr) (rs : List RowT) (c m n : Nat) (M : Nat → Nat → Rat) (w : World) (h : MatIn w A rs) (hmf : MatF rs m n M) (hm1 : 1 ≤ m) (hm : m ≤ 12) (hn1 : 1 ≤ n) (hn : n ≤ 12) :
  Calls Tryz.prog 25 #[.slice A m c] w (RetOk w n m (trn M)) := by
 obtain ⟨i0, hi, hz0, hz1, hz2⟩ := info_parts Tryz.infoRats
 obtain ⟨j0, hj, hy0, hy1, hy2⟩ := info_parts Tryz.infoRat
 generalize hQ : RetOk w n m (trn M) = Q
 replace hQ := Lib.hid hQ
 obtain ⟨l1, l2, l3⟩ := hmf.len1000 hm hn
 have HSH := RShape_any A rs c w h l1 l2 l3
 rw [hmf.shape hm1 hm hn, hmf.len] at HSH
 replace HSH := Lib.hid HSH
 have HM := Lib.hid h
 have HF := Lib.hid hmf
 clear h hmf l1 l2 l3
 go_enter Tryz.func25, Tryz.ntmps25
 go_wp2_with fail
 refine HSH.out.mono ?_
 rintro e w1 ⟨rfl, hb1⟩
 have HB1 := Lib.hid hb1
 clear hb1
 simp only
 go_wp2_with fail
 go_loopw [7, 8] (fun v kv wr => ∃ (qs : List RowT), kv = .int .i64 (qs.length : Int) ∧ qs.length ≤ n ∧ MatOwn w.heap.size wr v qs ∧ (∀ j, (hj : j < qs.length) → qs[j].ss.length = m ∧ ∀ i, (hi : i < qs[j].ss.length) → qs[j].ss[i] = rstr (M i j)) ∧ Below w.heap.size w wr) (fun _ kv _ => n - (intOf kv).toNat)
 case atStart => exact ⟨[], rfl, Nat.zero_le _, MatOwn.zero _ _, fun j hj => (by simp at hj), HB1.out⟩
 case round =>
  obtain ⟨qs, rfl, hqn, hown, hq, hbw⟩ := hrel
  obtain ⟨wk, rfl⟩ : ∃ w' : World, w' = wr := ⟨_, rfl⟩
  obtain ⟨AV, cV, rfl, -⟩ := ownForm hown.o
  have HOWN := Lib.hid hown
  have HQQ := Lib.hid hq
  have HBW := Lib.hid hbw
  have hsz := hbw.size
  clear hown hq hbw
  by_cases hlt : qs.length < n
  ·go_wp2_with fail
   go_loopw [9, 10] (fun v iv wr => ∃ (ss : List ByteArray), iv = .int .i64 (ss.length : Int) ∧ ss.length ≤ m ∧ (∀ i, (hi : i < ss.length) → ss[i] = rstr (M i qs.length)) ∧ wr.ownsRow wk.heap.size 29 1 v ss.length (sv ss) ∧ Below wk.heap.size wk wr) (fun _ iv _ => m - (intOf iv).toNat)
   case atStart => exact ⟨[], rfl, Nat.zero_le _, fun i hi => (by simp at hi), World.ownsRow_nil _ _ _ _, Below.refl _ _⟩
   case round =>
    obtain ⟨ss, rfl, hsm, hss, hown, hbq⟩ := hrel
    obtain ⟨wq, rfl⟩ : ∃ w' : World, w' = wr := ⟨_, rfl⟩
    have HSS := Lib.hid hss
    have HO := Lib.hid hown
    have HBQ := Lib.hid hbq
    have hszq := hbq.size
    by_cases hlt2 : ss.length < m
    ·obtain ⟨b, off, b2, o2, cp, rfl, hb, hb2, hc, hc2⟩ := mat_el HM.out HF.out hlt2 hlt
     have hbx := HBW.out.trans (hbq.mono hsz)
     have k0 := (hbx.cell (p := ⟨b, off + ss.length, none⟩) hb).trans hc
     have k1 := (hbx.cell (p := ⟨b2, o2 + qs.length, none⟩) hb2).trans hc2
     have HTN := Lib.hid (fun i (hi : i < (ss ++ [rstr (M ss.length qs.length)]).length) => (show (ss ++ [rstr (M ss.length qs.length)])[i] = rstr (M i qs.length) by
      rw [List.getElem_append]
      split
      ·exact HSS.out i _
      ·rename_i hh
       simp only [List.length_append, List.length_singleton] at hi
       obtain rfl : i = ss.length := by omega
       simp))
     generalize rstr (M ss.length qs.length) = s at *
     have x1 : (0 : Int) ≤ (ss.length : Int) := by omega
     have x2 : (ss.length : Int) < (m : Int) := by omega
     have x3 : (0 : Int) ≤ (qs.length : Int) := by omega
     have x4 : (qs.length : Int) < (n : Int) := by omega
     clear hss hown hbq hbx hc hc2
     go_wp2_with (at_builtin; refine wpList_append_own _ rfl _ _ 33 rfl wk.heap.size 29 j0 (.string ⟨#[]⟩) 1 16 Tryz.underlying33 hj hy0 hy1 hy2 rfl (by decide) _ _ _ rfl (HO.out.alloc _) ⟨wq.heap.size, 0, none⟩ 1 1 [_] rfl rfl one_new one_str (by unfold maxLen; omega) (by omega) (by simp; omega) ?_)
     intro v4 w4 hown4 hgrow4 _
     obtain ⟨ho4, hk4, hs4, hg4⟩ := sown_push HO.out hszq hown4 hgrow4
     have HO4 := Lib.hid ho4
     have HB4 := Lib.hid (show Below wk.heap.size wk w4 from HBQ.out.trans ⟨hgrow4.os.trans rfl, hgrow4.tape.trans rfl, hgrow4.output.trans rfl, hs4, hk4⟩)
     clear hown4 hgrow4 ho4 hk4 hs4 hg4
     go_wp2_with fail
     go_roundw
     case rel => exact ⟨ss ++ [s], by simp only [List.length_append, List.length_singleton]; go_num, by simp; omega, HTN.out, HO4.out, HB4.out⟩
     case measure => simp [intOf]; omega
    ·have HSL := Lib.hid (show ss.length = m by omega)
     obtain ⟨A5, c5, rfl, -⟩ := ownForm hown
     have HNEW := Lib.hid (ownMono hown hsz)
     have HMO := Lib.hid (HOWN.out.below hbq)
     have HB5 := Lib.hid (HBW.out.trans (hbq.mono hsz))
     have hsz5 := HB5.out.size
     clear hss hown hbq HO HBQ
     go_wp2_with (at_builtin; refine wpList_append_own _ rfl _ _ 27 rfl w.heap.size 33 i0 (.slice none 0 0) 1 24 Tryz.underlying27 hi hz0 hz1 hz2 rfl (by decide) _ _ _ rfl (HMO.out.o.alloc _) ⟨wq.heap.size, 0, none⟩ 1 1 [_] rfl rfl one_new sl_one (by unfold maxLen; omega) (by omega) (by simp; omega) ?_)
     intro v' w6 hown6 hgrow6 _
     have hlt2 : ∀ k, (Value.slice AV qs.length cV).ownBlock = some k → w.heap.size ≤ k := fun k hk => (HMO.out.o.lt k hk).1
     have HB6 := Lib.hid (bel_push HB5.out hsz5 hgrow6 hlt2)
     have HM6 := Lib.hid ((HMO.out.below ((Below.refl _ _).alloc (Nat.le_refl _) _)).push (r := ⟨A5, c5, ss⟩) (own_belowF HNEW.out ((Below.refl _ _).alloc (Nat.le_refl _) _)) hown6 hgrow6)
     clear hown6 hgrow6 hlt2
     go_wp2_with fail
     go_roundw
     case rel => exact ⟨qs ++ [⟨A5, c5, ss⟩], by simp only [List.length_append, List.length_singleton]; go_num, by simp; omega, HM6.out, fun j hj => (by
      by_cases e : j < qs.length
      ·simp only [List.getElem_append_left e]
       exact HQQ.out j e
      ·simp only [List.length_append, List.length_singleton] at hj
       obtain rfl : j = qs.length := by omega
       simp only [List.getElem_append_right (Nat.le_refl _), Nat.sub_self, List.getElem_singleton]
       exact ⟨HSL.out, fun i hi => HSS.out i hi⟩), HB6.out⟩
     case measure => simp [intOf]; omega
  ·have hql : qs.length = n := by omega
   have HR := Lib.hid (show RetOk w n m (trn M) (.returned (.tuple #[.slice AV n cV, .int .i64 0])) wk from ⟨AV, cV, qs, rfl, ⟨hql, fun r hr => by
    obtain ⟨j, hj, rfl⟩ := List.getElem_of_mem hr
    exact (HQQ.out j hj).1, fun j i hj hi => (HQQ.out j hj).2 i hi, fun j i hj hi => HF.out.fit i j hi hj⟩, by rw [← hql]; exact HOWN.out, HBW.out⟩)
   rw [← hql] at HR
   have HQL := Lib.hid hql
   clear hql
   go_wp2_with fail
   rw [← hQ.out, ← HQL.out]
   exact HR.out
end Go.Proofs.YtajlojhklhlljaaGreatDoor
