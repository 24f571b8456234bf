/-
  What rows share: an argument of any readable type reads again behind the call; a list of texts that came in.
-/
import Derived.Test.YtecklmdlmldpgaaGreatDoorZW
import Derived.Test.YtecklmdlmldpgaaGreatDoorZX
import Derived.Test.YtecklmdlmldpgaaGreatDoorShelfB
import Derived.Laws.CopyOwn
import Derived.Deep.RegionLaw
import Derived.Test.YtecklmdlmldpgaaGreatDoorZV
import Derived.Test.YtecklmdlmldpgaaGreatDoorZS
import Derived.OpenVars
import Derived.SliceStrings
namespace Go.Proofs.YtecklmdlmldpgaaGreatDoor
open Go.RowKit

/-- The values of texts. -/
def sv (ss : List ByteArray) : List Value := ss.map Value.string
theorem sv_length (ss : List ByteArray) : (sv ss).length = ss.length := by simp [sv]
theorem sv_snoc (ss : List ByteArray) (s : ByteArray) : sv (ss ++ [s]) = sv ss ++ [.string s] := by simp [sv]
theorem own_strs {w : World} {B e : Nat} {v : Value} {ss : List ByteArray} (h : w.ownsRow B e 1 v ss.length (sv ss)) : ∃ A c, v = .slice A ss.length c ∧ ss.length ≤ c ∧ Strs w A ss ∧ ∀ b off, A = some ⟨b, off, none⟩ → B ≤ b := by
  have h' := h
  rcases h.2 with ⟨hv, h0⟩ | ⟨g, cap, cur, hv, hB, hg, hle, hm, hs, htake⟩
  · have : ss = [] := by simpa using h0
    subst this
    exact ⟨none, 0, hv, by simp, fun hn => absurd rfl hn, fun b off e => by cases e⟩
  · refine ⟨_, cap, hv, hle, fun _ => ⟨g, 0, rfl, ?_, fun i hi => ?_⟩, ?_⟩
    · rcases Nat.lt_or_ge g w.heap.size with h' | h'
      · exact h'
      · rw [Array.getElem?_eq_none h'] at hg; cases hg
    · subst hv
      have := h'.cellAt i (by omega)
      rw [Nat.zero_add, this]
      simp [sv, hi]
    · intro b off e
      injection e with e
      injection e with e
      omega
theorem Tryz.infoRat : (Tryz.prog.info? 26).map (fun i => (i.zero, i.size, i.bytes)) = some (some (.string ⟨#[]⟩), 1, 16) := by kernel_rfl
theorem one_str {s : ByteArray} : ∀ u ∈ ([Value.string s] : List Value), u.oneCell' = true := by intro u hu; simp at hu; subst hu; rfl
theorem sown_push {B : Nat} {wr w1 : World} {t e : TypeId} {v v' u : Value} {ss : List ByteArray} {s : ByteArray} (h : wr.ownsRow B e 1 v ss.length (sv ss)) (hB : B ≤ wr.heap.size)
    (hown : w1.ownsRow B e 1 v' (ss.length + 1) (sv ss ++ [.string s])) (hg : (wr.alloc (.cells #[u] t)).grownBy w1 v.ownBlock) :
    w1.ownsRow B e 1 v' (ss ++ [s]).length (sv (ss ++ [s])) ∧ (∀ i, i < B → w1.heap[i]? = wr.heap[i]?) ∧ wr.heap.size ≤ w1.heap.size ∧ ∀ (a : World) (g : Option Nat), a.heap.size ≤ B → a.grownBy wr g → a.grownBy w1 g := by
  have hs := hg.size
  rw [World.size_alloc] at hs
  have hk : ∀ i, i < B → w1.heap[i]? = wr.heap[i]? := fun i hi => by
    rw [hg.block i (by simp; omega) (fun e => by have := (h.lt i e.symm).1; omega)]
    exact Below.heap_alloc wr _ i (by omega)
  refine ⟨?_, hk, by omega, fun a g ha hag => ⟨hg.os.trans hag.os, hg.tape.trans hag.tape, hg.output.trans hag.output, Nat.le_trans hag.size (by omega), fun i hi hne => (hk i (by omega)).trans (hag.block i hi hne)⟩⟩
  rw [sv_snoc, List.length_append]
  exact hown
theorem own_grown {w w' : World} {B e n b : Nat} {v : Value} {xs : List Value} (h : w.ownsRow B e 1 v n xs) (hg : w.grownBy w' (some b)) (hb : b < B) : w'.ownsRow B e 1 v n xs :=
  h.kept (row := some b) hg (by
    rcases hv : v.ownBlock with _ | g
    · exact .inl rfl
    · refine .inr ?_
      have := (h.lt g hv).1
      intro e
      injection e with e
      omega)
/-- The result is a new list of texts of small fractions; the source goes on. -/
def RetRats (w : World) (b n : Nat) (e : Ending) (w' : World) : Prop := ∃ (v : Value) (qs : List Rat), e = .returned v ∧ qs.length = n ∧ (∀ q ∈ qs, Small1 q) ∧ w'.ownsRow w.heap.size 26 1 v (qs.map rstr).length (sv (qs.map rstr)) ∧ Src w' b ∧ w.grownBy w' (some b)

set_option maxRecDepth 100000 in
set_option maxHeartbeats 2000000 in
theorem Rats_any (b n : Nat) (w : World) (hs : Src w b) (hn : n ≤ 1000) : Calls Tryz.prog 66 #[.pointer (some ⟨b, 0, none⟩), .int .i64 (n : Int)] w (RetRats w b n) := by
  obtain ⟨i0, hi, hz0, hz1, hz2⟩ := info_parts Tryz.infoRat
  have HS := Lib.hid hs
  have hbw := hs.lt
  clear hs
  go_enter Tryz.func66, Tryz.ntmps66
  go_wp2_with fail
  go_loopw [5, 6] (fun v iv wr => ∃ qs : List Rat, iv = .int .i64 (qs.length : Int) ∧ qs.length ≤ n ∧ (∀ q ∈ qs, Small1 q) ∧ wr.ownsRow w.heap.size 26 1 v (qs.map rstr).length (sv (qs.map rstr)) ∧ Src wr b ∧ w.grownBy wr (some b)) (fun _ iv _ => n - (intOf iv).toNat)
  case atStart => exact ⟨[], rfl, Nat.zero_le _, by simp, World.ownsRow_nil _ _ _ _, HS.out, World.grownBy.refl _ _⟩
  case round =>
    obtain ⟨qs, rfl, hqn, hsm, hown, hsr, hgr⟩ := hrel
    have HSM := Lib.hid hsm
    have HOWN := Lib.hid hown
    have HSR := Lib.hid hsr
    have HGR := Lib.hid hgr
    have hsz := hgr.size
    clear hsm hown hsr hgr
    by_cases hlt : qs.length < n
    · go_wp2_with fail
      refine (MRat_any b wr HSR.out).mono ?_
      rintro e w2 ⟨q, rfl, hq, hs2, hg2⟩
      have HQ := Lib.hid hq
      have HS2 := Lib.hid hs2
      have HG2 := Lib.hid (grown_trans HGR.out hg2)
      have HO2 := Lib.hid (own_grown HOWN.out hg2 hbw)
      have hsz2 : w.heap.size ≤ w2.heap.size := HG2.out.size
      have hml : (qs.map rstr).length ≤ 1000 := by simp; omega
      clear hq hs2 hg2
      go_wp2_with (at_builtin; refine wpList_append_own _ rfl _ _ 71 rfl w.heap.size 26 i0 (.string ⟨#[]⟩) 1 16 Tryz.underlying71 hi hz0 hz1 hz2 rfl (by decide) _ _ _ rfl (HO2.out.alloc _) ⟨w2.heap.size, 0, none⟩ 1 1 [_] rfl rfl one_new one_str (by unfold maxLen; omega) (by omega) (by simp; omega) ?_)
      intro v' w3 hown3 hgrow3 _
      have hown4 : w3.ownsRow w.heap.size 26 1 v' ((qs.map rstr).length + 1) (sv (qs.map rstr) ++ [.string (rstr q)]) := by rw [List.length_map]; exact hown3
      obtain ⟨ho3, hk3, hs3, hg3⟩ := sown_push HO2.out hsz2 hown4 hgrow3
      have HO3 := Lib.hid ho3
      have HS3 := Lib.hid (HS2.out.above hs3 (fun i hi => hk3 i (by omega)))
      have HG3 := Lib.hid (hg3 w (some b) (Nat.le_refl _) HG2.out)
      clear hown3 hown4 hgrow3 ho3 hk3 hs3 hg3
      go_wp2_with fail
      go_roundw
      case rel => exact ⟨qs ++ [q], by simp, by simp; omega, fun x hx => (List.mem_append.1 hx).elim (HSM.out x) (fun h => by rw [List.mem_singleton.1 h]; exact HQ.out), by rw [List.map_append]; exact HO3.out, HS3.out, HG3.out⟩
      case measure => simp [intOf]; omega
    · go_wp2_with fail
      go_ret
      exact ⟨_, qs, rfl, by omega, HSM.out, HOWN.out, HSR.out, HGR.out⟩

/-- Whether a list is short enough to be tried. -/
def shortB (ss : List ByteArray) : Bool := decide (ss.length ≤ 14) && ss.all fun s => decide (s.size ≤ 30)
theorem short_take {ss : List ByteArray} {k : Nat} (hk : k < ss.length) (h : (ss.take k).all (fun s => decide (s.size ≤ 30)) = true) (hv : ss[k].size ≤ 30) : (ss.take (k + 1)).all (fun s => decide (s.size ≤ 30)) = true := by
  rw [List.take_succ_eq_append_getElem hk, List.all_append, h]; simp [hv]
theorem short_not {ss : List ByteArray} {k : Nat} (hk : k < ss.length) (hv : ¬ ss[k].size ≤ 30) : shortB ss = false := by
  unfold shortB
  rw [← Bool.not_eq_true, Bool.and_eq_true_iff, List.all_eq_true]
  rintro ⟨_, h⟩
  exact hv (by simpa using h _ (List.getElem_mem hk))
set_option maxRecDepth 100000 in
set_option maxHeartbeats 2000000 in
theorem Short_one (A : Option Addr) (ss : List ByteArray) (c g : Nat) (w : World) (hs : Strs w A ss) (hl : ss.length ≤ 9223372036854775807) (hz : ∀ s ∈ ss, s.size ≤ 9223372036854775807) (hk : w.cell? ⟨g, 0, none⟩ = some (.slice A ss.length c)) :
    Calls Tryz.prog 130 #[.slice (some ⟨g, 0, none⟩) 1 1] w fun e w' => e = .returned (.bool (shortB ss)) ∧ w = w' := by
  have HS := Lib.hid hs
  have HZ := Lib.hid hz
  clear hs hz
  go_enter Tryz.func130, Tryz.ntmps130
  go_wp2_with fail
  go_loop [12] (fun iv => ∃ k : Nat, iv = .int .i64 (k : Int) ∧ k ≤ 1 ∧ (k = 1 → shortB ss = true)) (fun iv => 1 - (intOf iv).toNat)
  case atStart => exact ⟨0, rfl, by omega, by omega⟩
  case round =>
    obtain ⟨k, rfl, hk1, hdone⟩ := hrel
    have HD := Lib.hid hdone
    clear hdone
    by_cases hlt : k < 1
    · obtain rfl : k = 0 := by omega
      by_cases h14 : ss.length ≤ 14
      · go_wp2_with fail
        go_loop [21] (fun iv => ∃ j : Nat, iv = .int .i64 (j : Int) ∧ j ≤ ss.length ∧ (ss.take j).all (fun s => decide (s.size ≤ 30)) = true) (fun iv => ss.length - (intOf iv).toNat)
        case atStart => exact ⟨0, rfl, Nat.zero_le _, rfl⟩
        case round =>
          obtain ⟨j, rfl, hj, hall⟩ := hrel
          have HALL := Lib.hid hall
          clear hall
          by_cases hltj : j < ss.length
          · obtain ⟨b, off, rfl, hbb, hc⟩ := HS.out (by intro e; subst e; simp at hltj)
            have hci := hc j hltj
            have hzi := HZ.out ss[j] (List.getElem_mem hltj)
            have HNX := Lib.hid (fun h => short_take hltj HALL.out h)
            have HNO := Lib.hid (fun h => short_not (ss := ss) hltj h)
            obtain ⟨s, hse⟩ : ∃ s, ss[j] = s := ⟨_, rfl⟩
            rw [hse] at hci hzi HNX HNO
            clear hc hse
            by_cases h30 : s.size ≤ 30
            · have E := Lib.hid (HNX.out h30)
              go_wp2_with fail
              go_round
              case rel => exact ⟨j + 1, by go_num, by omega, E.out⟩
              case measure => simp [intOf]; omega
            · have E := Lib.hid (HNO.out h30)
              go_wp2_with fail
              go_ret
              exact ⟨by rw [E.out]; rfl, rfl⟩
          · have E : Hid (shortB ss = true) := by
              have h := HALL.out
              rw [List.take_of_length_le (by omega)] at h
              unfold shortB
              rw [h, decide_eq_true h14]
              rfl
            go_wp2_with fail
            go_round
            case rel => exact ⟨1, rfl, by omega, fun _ => E.out⟩
            case measure => simp [intOf]
      · have E := Lib.hid (show shortB ss = false by unfold shortB; rw [decide_eq_false h14]; rfl)
        go_wp2_with fail
        go_ret
        exact ⟨by rw [E.out]; rfl, rfl⟩
    · obtain rfl : k = 1 := by omega
      have E := Lib.hid (HD.out rfl)
      go_wp2_with fail
      go_ret
      exact ⟨by rw [E.out]; rfl, rfl⟩

set_option maxRecDepth 100000 in
set_option maxHeartbeats 1000000 in
theorem Lists_any (A : Option Addr) (ss : List ByteArray) (c : Nat) (w : World) (hs : Strs w A ss) (hl : ss.length ≤ 9223372036854775807) (hz : ∀ s ∈ ss, s.size ≤ 9223372036854775807) :
    Calls Tryz.prog 64 #[.slice A ss.length c] w fun e w' => e = .returned (.bool (shortB ss)) ∧ Below w.heap.size w w' := by
  have hb0 : Below w.heap.size w (w.alloc (.cells #[.slice A ss.length c] 71)) := (Below.refl _ _).alloc (Nat.le_refl _) _
  have hk := Blk.new w 71 [.slice A ss.length c]
  have H := Lib.hid (Short_one A ss c w.heap.size _ (hs.below hb0) hl hz (hk.at_ (i := 0) rfl))
  have HB := Lib.hid hb0
  clear hs hz hb0 hk
  go_enter Tryz.func64, Tryz.ntmps64
  go_wp2_with fail
  refine H.out.mono ?_
  rintro e w' ⟨rfl, rfl⟩
  go_wp2_with fail
  go_ret
  exact ⟨rfl, HB.out⟩

end Go.Proofs.YtecklmdlmldpgaaGreatDoor

namespace Go.Proofs.YtecklmdlmldpgaaGreatDoor
open Go.RowKit

/-- So many ones, then empty texts. -/
def repL (k n : Nat) : List Value := List.replicate k (.string one1) ++ List.replicate (n - k) (.string ⟨#[]⟩)
theorem repL_length {k n : Nat} (h : k ≤ n) : (repL k n).length = n := by simp [repL]; omega
theorem repL_splice {k m n : Nat} (h : k + m ≤ n) : splice (repL k n) k (List.replicate m (.string one1)) = repL (k + m) n := by
  unfold splice repL
  rw [List.take_append_of_le_length (by simp), List.take_of_length_le (by simp), List.length_replicate, List.drop_append, List.drop_eq_nil_of_le (by simp), List.nil_append, List.length_replicate, List.drop_replicate, ← List.append_assoc, List.replicate_append_replicate]
  congr 2
  omega
theorem repL_get {k n i : Nat} (h : i < k) : (repL k n)[i]? = some (.string one1) := by
  unfold repL
  rw [List.getElem?_append_left (by simp; exact h)]
  simp [h]
theorem repL_strs {w : World} {g n : Nat} (h : Blk w g 26 (repL n n)) : Strs w (some ⟨g, 0, none⟩) (List.replicate n one1) := fun _ => ⟨g, 0, rfl, h.lt, fun i hi => by
  rw [Nat.zero_add, h.cell, repL_get (by simpa using hi)]
  simp⟩
theorem Tryz.infoRatE : (Tryz.prog.info? 26).map (fun i => (i.zero, i.size, i.bytes)) = some (some (.string ⟨#[]⟩), 1, 16) := by kernel_rfl
theorem Tryz.sizeRat : (Tryz.prog.info? 26).map (·.size) = some 1 := by kernel_rfl
theorem made_strs (n : Nat) : madeCells (Value.string ⟨#[]⟩).cells n = (repL 0 n).toArray := by
  have h := toList_madeCells_one (.string ⟨#[]⟩) n
  have h2 : (madeCells (Value.string ⟨#[]⟩).cells n).toList = (repL 0 n).toArray.toList := by
    show (madeCells #[Value.string ⟨#[]⟩] n).toList = _
    rw [h]; simp [repL]
  exact Array.toList_inj.1 h2
theorem run_make_strs (n : Nat) (hn : n ≤ 1000000) (w : World) : (Instr.makeSlice 71 (.int .i64 (n : Int)) (.int .i64 (n : Int))).run Tryz.prog w = .ok (.slice (some ⟨w.heap.size, 0, none⟩) n n) (w.alloc (.cells (repL 0 n).toArray 26)) := by
  obtain ⟨i0, hi, hz0, hz1, hz2⟩ := info_parts Tryz.infoRatE
  have hr := run_make (P := Tryz.prog) w 71 26 i0 (.string ⟨#[]⟩) Tryz.underlying71 hi hz0 .i64 .i64 n n (by omega) (Int.le_refl _) (by rw [hz2]; omega) (by omega)
  simp only [Int.toNat_natCast, hz1, Nat.mul_one, made_strs] at hr
  exact hr
theorem ones_cell (m : Nat) : ∀ u ∈ List.replicate m (Value.string one1), u.oneCell' = true := by intro u hu; rw [(List.mem_replicate.1 hu).2]; rfl

theorem rep_pos {W : World} {g k m n : Nat} {t : TypeId} (hk : Blk W g t (repL k n)) (hmk : m ≤ k) : 0 < (List.replicate m (Value.string one1)).length → (some ⟨g, k, none⟩ : Option Addr) = some ⟨g, k, none⟩ ∧ ∃ ad : Addr, (some ⟨g, 0, none⟩ : Option Addr) = some ad ∧ ∀ j v, (List.replicate m (Value.string one1))[j]? = some v → W.cell? (ad.add j) = some v := fun _ => ⟨rfl, _, rfl, fun j v hj => by
  have hjm : j < m := by
    rcases Nat.lt_or_ge j m with h | h
    · exact h
    · rw [List.getElem?_eq_none (by simpa using h)] at hj; cases hj
  have hv : v = .string one1 := by
    rw [List.getElem?_replicate, if_pos hjm] at hj
    injection hj with hj
    exact hj.symm
  subst hv
  rw [Lib.add_plain, Nat.zero_add]
  exact hk.at_ (repL_get (by omega))⟩
set_option maxRecDepth 100000 in
set_option maxHeartbeats 1000000 in
theorem Repeat_one (gx n : Nat) (w : World) (hx : w.cell? ⟨gx, 0, none⟩ = some (.string one1)) (hgx : gx < w.heap.size) (hn : n ≤ 1000000) :
    Calls Tryz.prog 132 #[.slice (some ⟨gx, 0, none⟩) 1 1, .int .i64 (n : Int)] w fun e w' => ∃ A, e = .returned (.slice A n n) ∧ Strs w' A (List.replicate n one1) ∧ Below w.heap.size w w' := by
  have HM := Lib.hid (fun W => Tryz.bits_Mul 1 n (by decide) (by omega) W)
  rw [show 1 * n / 18446744073709551616 = 0 by omega, show 1 * n % 18446744073709551616 = n by omega] at HM
  have hmk := run_make_strs n hn
  have hd : decide ((n : Int) < 0) = false := decide_eq_false (by omega)
  have HX := Lib.hid hx
  clear hx
  go_enter Tryz.func132, Tryz.ntmps132
  go_wp2_with fail
  refine (HM.out w).mono ?_
  rintro e w' ⟨rfl, rfl⟩
  clear HM hd
  go_upto_region 7 with (fail)
  clear hmk
  have hk := Blk.new w' 26 (repL 0 n)
  have hb0 : Below w'.heap.size w' (w'.alloc (.cells (repL 0 n).toArray 26)) := (Below.refl _ _).alloc (Nat.le_refl _) _
  have hx1 := (hb0.cell (p := ⟨gx, 0, none⟩) hgx).trans HX.out
  generalize w'.alloc (.cells (repL 0 n).toArray 26) = W at *
  have HK := Lib.hid hk
  have HB := Lib.hid hb0
  have HX1 := Lib.hid hx1
  clear hk hb0 hx1
  obtain ⟨g, hg⟩ : ∃ g, w'.heap.size = g := ⟨_, rfl⟩
  have HG : Hid (w'.heap.size ≤ g) := Lib.hid (by omega)
  have HG2 := Lib.hid hg
  rw [hg] at HK ⊢
  clear hg
  by_cases h0 : n = 0
  · subst h0
    go_wp2_with (refine wpList_copy_splice (o := ⟨some 33, _, _, _, _, _⟩) rfl (.tmp 31) (.tmp 32) 71 71 rfl 26 Tryz.underlying71 Tryz.sizeRat _ _ _ _ _ _ rfl rfl g 0 (repL 0 0) 26 HK.out [] rfl (fun h => absurd h (by decide)) (by simp) (by simp) w'.heap.size w' HB.out HG.out ?_)
    intro w2 hk2 hb2
    have HB2 := Lib.hid hb2
    clear hk2 hb2
    go_wp2_with fail
    go_loopw [8] (fun kv wr => kv = .int .i64 0 ∧ Below w'.heap.size w' wr) (fun _ _ => 0)
    case atStart => exact ⟨rfl, HB2.out⟩
    case round =>
      obtain ⟨rfl, hb⟩ := hrel
      have HB3 := Lib.hid hb
      clear hb
      go_wp2_with fail
      go_ret
      exact ⟨_, rfl, fun h => absurd rfl h, HB3.out⟩
  · go_wp2_with (refine wpList_copy_splice (o := ⟨some 33, _, _, _, _, _⟩) rfl (.tmp 31) (.tmp 32) 71 71 rfl 26 Tryz.underlying71 Tryz.sizeRat _ _ _ _ _ _ rfl rfl g 0 (repL 0 n) 26 HK.out (List.replicate 1 (.string one1)) (by show 1 = min 1 n; omega) (fun _ => ⟨rfl, _, rfl, fun j v hj => by match j, hj with | 0, hj => simp at hj; subst hj; exact HX1.out⟩) (by rw [repL_length (Nat.zero_le _)]; simp; omega) (ones_cell 1) w'.heap.size w' HB.out HG.out ?_)
    intro w2 hk2 hb2
    have hk3 : Blk w2 g 26 (repL 1 n) := by
      have e : splice (repL 0 n) 0 [Value.string one1] = repL (0 + 1) n := repL_splice (k := 0) (m := 1) (by omega)
      have h2 := hk2.out
      rw [e] at h2
      exact h2
    have HK2 := Lib.hid hk3
    have HB2 := Lib.hid hb2
    clear hk2 hb2 hk3 HK HB HX1
    go_wp2_with fail
    go_loopw [8] (fun kv wr => ∃ k : Nat, kv = .int .i64 (k : Int) ∧ 1 ≤ k ∧ k ≤ n ∧ Blk wr g 26 (repL k n) ∧ Below w'.heap.size w' wr) (fun kv _ => n - (intOf kv).toNat)
    case atStart => exact ⟨1, rfl, by omega, by omega, HK2.out, HB2.out⟩
    case round =>
      clear HK2 HB2
      obtain ⟨k, rfl, hk1, hkn, hkb, hb⟩ := hrel
      have HK := Lib.hid hkb
      have HB := Lib.hid hb
      clear hkb hb
      by_cases hlt : k < n
      · have i1 : (0 : Int) ≤ (k : Int) := by omega
        have i2 : (k : Int) ≤ (n : Int) := by omega
        obtain ⟨m, hm⟩ : ∃ m, min k (n - k) = m := ⟨_, rfl⟩
        have hm1 : 1 ≤ m := by omega
        have hm2 : k + m ≤ n := by omega
        have hnk : ¬ n = k := by omega
        have hwm : IntKind.i64.wrap ((k : Int) + (m : Int)) = (k : Int) + (m : Int) := IntWalk.i64_in _ (by omega)
        have hmk' : m ≤ k := by omega
        have HKB := Lib.hid HK.out.drew
        have HKD := Lib.hid (show wr.drew.heap[g]? = some (.cells (repL k n).toArray 26 (0, 0)) from HK.out)
        have HBD := Lib.hid HB.out.drew
        have HLEN : Hid ((List.replicate m (Value.string one1)).length = Nat.min k (n - k)) := Lib.hid (by rw [List.length_replicate, ← hm])
        have HFIT : Hid (k + (List.replicate m (Value.string one1)).length ≤ (repL k n).length) := Lib.hid (by rw [repL_length (by omega), List.length_replicate]; exact hm2)
        clear hm
        go_wp2_with fail
        go_region_law (refine step_copy_splice rfl (.tmp 41) (.tmp 44) 71 71 rfl 26 Tryz.underlying71 Tryz.sizeRat (some ⟨g, k, none⟩) (some ⟨g, 0, none⟩) (n - k) (n - k) k n (by go_simp) (by go_simp) g k (repL k n) 26 HKD.out (List.replicate m (.string one1)) HLEN.out (rep_pos HKB.out hmk') HFIT.out (ones_cell m) w'.heap.size w' HBD.out HG.out ?_; intro w3 hk3 hb3; have HK3 := Lib.hid hk3; have HB3 := Lib.hid hb3; clear hk3 hb3)
        have HK4 : Hid (Blk w3 g 26 (repL (k + m) n)) := Lib.hid (by
          have h2 := HK3.out.out
          rw [repL_splice hm2] at h2
          exact h2)
        go_frame
        go_roundw
        case rel => (repeat apply Exists.intro); exact ⟨⟨k + m, by go_num, by omega, hm2, HK4.out, HB3.out⟩, rfl⟩
        case measure => simp [intOf]; omega
      · obtain rfl : k = n := by omega
        have HS := Lib.hid (repL_strs HK.out)
        go_wp2_with fail
        go_ret
        exact ⟨_, rfl, HS.out, HB.out⟩

set_option maxRecDepth 100000 in
set_option maxHeartbeats 1000000 in
theorem RatSum (A : Option Addr) (ss : List ByteArray) (c : Nat) (w : World) (hs : Strs w A ss) (hl : ss.length ≤ 1000000) (hz : ∀ s ∈ ss, s.size ≤ 4000000000) (henv : Env w) :
    Calls Tryz.prog 67 #[.slice A ss.length c] w fun e w' => e = .returned (sumV ss) ∧ Below w.heap.size w w' := by
  have E := Lib.hid (dot_ones ss)
  have hsum : ∃ r e, sumV ss = .tuple #[.string r, .int .i64 e] := by
    unfold sumV
    split
    · exact ⟨_, _, rfl⟩
    · split
      · exact ⟨_, _, rfl⟩
      · exact ⟨_, _, rfl⟩
  obtain ⟨r0, e0, hre⟩ := hsum
  have HRE := Lib.hid hre
  have HDT := Lib.hid (fun A' W (hW : Below w.heap.size w W) (ht : Strs W A' (List.replicate ss.length one1)) => RatDot A A' ss (List.replicate ss.length one1) c ss.length W (hs.below hW) ht hl (by simpa using hl) hz (fun s h => by rw [(List.mem_replicate.1 h).2]; decide) (henv.below hW))
  rw [E.out, hre, List.length_replicate] at HDT
  rw [hre]
  have hk := Blk.new w 26 [.string one1]
  have hb0 : Below w.heap.size w (w.alloc (.cells #[.string ⟨#[49]⟩] 26)) := (Below.refl _ _).alloc (Nat.le_refl _) _
  have HRP := Lib.hid (fun (h : (w.alloc (.cells #[.string ⟨#[49]⟩] 26)).cell? ⟨w.heap.size, 0, none⟩ = some (.string one1)) => Repeat_one w.heap.size ss.length _ h (by simp) hl)
  have HK := Lib.hid (show (w.alloc (.cells #[.string ⟨#[49]⟩] 26)).cell? ⟨w.heap.size, 0, none⟩ = some (.string one1) from hk.at_ (i := 0) rfl)
  have HB := Lib.hid hb0
  clear hs hz henv hk hb0 hre
  go_enter Tryz.func67, Tryz.ntmps67
  go_wp2_with fail
  refine (HRP.out HK.out).mono ?_
  rintro e w1 ⟨A', rfl, hst, hb⟩
  have HST := Lib.hid hst
  have HB1 := Lib.hid (HB.out.trans (hb.mono HB.out.size))
  clear hst hb
  go_wp2_with fail
  refine (HDT.out A' w1 HB1.out HST.out).mono ?_
  rintro e w2 ⟨rfl, hb⟩
  have HB2 := Lib.hid (HB1.out.trans (hb.mono HB1.out.size))
  clear hb
  go_wp2_with fail
  go_ret2
  exact ⟨rfl, HB2.out⟩

end Go.Proofs.YtecklmdlmldpgaaGreatDoor

namespace Go.Proofs.YtecklmdlmldpgaaGreatDoor
open Go.ChangeShapes Go.WideShapes Go.ChangeAt Go.RowKit Go.WideElems

theorem laidOut : laidOutB Tryz.prog = true := by kernel_rfl
section
variable {H : Type} {enc : TypeId × Value → H}
/-- An argument reads in every world that keeps what was as it read before. -/
theorem again_in {W : World} {t : TypeId} (hr : Tryz.prog.readableRec t = true) (hrow : t < Tryz.prog.types.size) {v : Value} {d : DataW H} {p : List MemPlace} (h : DataW.Trod enc Tryz.prog W 0 (fun _ => true) true t v d p) :
    ∀ W', Below W.heap.size W W' → ∀ sp : Nat → Bool, (∀ x ∈ p, sp x.block = true) → DataW.Trod enc Tryz.prog W' 0 sp true t v d p := by
  intro W' hb sp hsp
  obtain ⟨fuel, hf⟩ := h
  have hlt : ∀ x ∈ p, x.block < W.heap.size := fun x hx => DataW.trod_lt fuel t _ _ hf x hx
  exact ⟨fuel, DataW.trod_stays (kids_book laidOut hr) (book_sized hr) (fun h => by cases h) ⟨hrow, book_self t⟩ hf (fun x hx => hb.same (hlt x hx)) hsp⟩
theorem cellsRat : Tryz.prog.cellsOf 26 = 1 := by kernel_rfl
theorem ltRats : 71 < Tryz.prog.types.size := of_decide_eq_true (by kernel_rfl)
theorem readRats : Tryz.prog.readableRec 71 = true := by kernel_rfl
set_option maxRecDepth 100000 in
/-- A list of texts that came in. -/
theorem strs_in {W : World} {base : Nat} {v : Value} {d : DataW H} {p : List MemPlace} (hv : Value.okWide Tryz.prog W .any base 71 v)
    (h : DataW.Trod enc Tryz.prog W 0 (fun _ => true) true 71 v d p) :
    ∃ (A : Option Addr) (ss : List ByteArray) (c : Nat), v = .slice A ss.length c ∧ Strs W A ss ∧ ss.length ≤ 9223372036854775807 ∧ (∀ s ∈ ss, s.size ≤ 9223372036854775807) ∧
      ∀ W', Below W.heap.size W W' → ∀ sp : Nat → Bool, (∀ x ∈ p, sp x.block = true) → DataW.Trod enc Tryz.prog W' 0 sp true 71 v d p := by
  have hag := again_in readRats ltRats h
  obtain ⟨a0, len, cap, rfl⟩ := okWide_slice Tryz.underlying71 hv
  obtain ⟨fuel, hf⟩ := h
  rcases open_strings Tryz.underlying71 Tryz.underlying26 cellsRat hf with ⟨hcs, hx⟩ | ⟨a, len', cap', ss, hcs, _, hl, hm, hz, hx, hcell, hwz⟩
  · obtain ⟨rfl, rfl, rfl⟩ : a0 = none ∧ len = 0 ∧ cap = 0 := by simpa [Value.cells] using hcs
    exact ⟨none, [], 0, rfl, fun h => absurd rfl h, by decide, by simp, hag⟩
  · obtain ⟨rfl, rfl, rfl⟩ : a0 = some a ∧ len = len' ∧ cap = cap' := by simpa [Value.cells] using hcs
    have hzc : ss.length = cap := by simpa using hz
    have hm' : cap ≤ 9223372036854775807 := hm
    refine ⟨some a, ss.take len, cap, ?_, ?_, by simp; omega, fun s hs => hwz s (List.mem_of_mem_take hs), hag⟩
    · rw [List.length_take, Nat.min_eq_left (by omega)]
    · intro hne
      have h0 : 0 < len := by
        rcases Nat.eq_zero_or_pos len with h | h
        · subst h; exact absurd (by simp) hne
        · exact h
      obtain ⟨b, off, spot⟩ := a
      have hsp := World.cell?_spot (hcell 0 (by omega))
      have hspot : spot = none := hsp
      subst hspot
      have hlt : b < W.heap.size := by
        have h1 := hcell 0 (by omega)
        rcases Nat.lt_or_ge b W.heap.size with hl' | hg'
        · exact hl'
        · exfalso
          rw [Lib.add_plain] at h1
          unfold World.cell? at h1
          rw [Array.getElem?_eq_none hg'] at h1
          simp at h1
      refine ⟨b, off, rfl, hlt, fun i hi => ?_⟩
      have := hcell i (by simp at hi; omega)
      rw [Lib.add_plain] at this
      rw [this, List.getD_eq_getElem?_getD, List.getElem?_eq_getElem (by simp at hi; omega)]
      simp
end
end Go.Proofs.YtecklmdlmldpgaaGreatDoor
