/-
  Package joinlearnmake: New, Big.
-/
import Derived.Test.YtmickdolpgjbhaaGreatDoorMkA
import Derived.Test.YtmickdolpgjbhaaGreatDoorIntB
namespace Go.Proofs.YtmickdolpgjbhaaGreatDoor
open Go.RowKit

/-- A slice of ints that can be read. -/
def Ints (w : World) (A : Option Addr) (l : Nat) : Prop := 0 < l → ∃ bb off, A = some ⟨bb, off, none⟩ ∧ bb < w.heap.size ∧ ∀ i, i < l → ∃ z : Int, w.cell? ⟨bb, off + i, none⟩ = some (.int .i64 z) ∧ -9223372036854775808 ≤ z ∧ z ≤ 9223372036854775807
theorem Src.new {w : World} {A : Option Addr} {l c : Nat} (h : Ints w A l) (hl : l ≤ 600) : Src (w.alloc (.cells #[.slice A l c, .int .i64 0] 47)) w.heap.size := by
  refine ⟨A, l, c, 0, heap_alloc_new w _, hl, Nat.zero_le _, fun h0 => ?_⟩
  obtain ⟨bb, off, e, hlt, hc⟩ := h h0
  refine ⟨bb, off, e, by omega, by simp; omega, fun i hi => ?_⟩
  obtain ⟨z, hz, h1, h2⟩ := hc i hi
  exact ⟨z, (World.cell?_alloc_lt w _ ⟨bb, off + i, none⟩ hlt).trans hz, h1, h2⟩

set_option maxHeartbeats 1000000 in
theorem New_any (A : Option Addr) (l c : Nat) (w : World) (h : Ints w A l) (hlc : l ≤ c) (hl : l ≤ 9223372036854775807) : Calls Tryz.prog 6 #[.slice A l c] w fun e w' => e = .returned (.pointer (some ⟨w.heap.size, 0, none⟩)) ∧ Src w' w.heap.size ∧ Below w.heap.size w w' := by
  rcases Nat.lt_or_ge l 600 with h6 | h6
  · have HS := Lib.hid (Src.new (c := c) h (show l ≤ 600 by omega))
    clear h
    go_enter Tryz.func6, Tryz.ntmps6
    go_wp2
    go_ret
    rw [show (min (l : Int) 600).toNat = l by omega]
    exact ⟨rfl, HS.out, (Below.refl _ _).alloc (Nat.le_refl _) _⟩
  · have h' : Ints w A 600 := fun _ => by
      obtain ⟨bb, off, e, hlt, hc⟩ := h (by omega)
      exact ⟨bb, off, e, hlt, fun i hi => hc i (by omega)⟩
    have HS := Lib.hid (Src.new (c := c) h' (show 600 ≤ 600 by omega))
    clear h h'
    go_enter Tryz.func6, Tryz.ntmps6
    go_wp2
    go_ret
    rw [show (min (l : Int) 600).toNat = 600 by omega]
    exact ⟨rfl, HS.out, (Below.refl _ _).alloc (Nat.le_refl _) _⟩

/-- The result is the text of some integer with at most d digits; the source goes on. -/
def RetBig (w : World) (b d : Nat) (e : Ending) (w' : World) : Prop := ∃ z : Int, e = .returned (.string (str z)) ∧ (Lib.decDigits z.natAbs).length ≤ d ∧ Src w' b ∧ w.grownBy w' (some b)
theorem grown_trans {a b c : World} {g : Nat} (h : a.grownBy b (some g)) (k : b.grownBy c (some g)) : a.grownBy c (some g) :=
  ⟨k.os.trans h.os, k.tape.trans h.tape, k.output.trans h.output, Nat.le_trans h.size k.size, fun i hi hne => (k.block i (Nat.lt_of_lt_of_le hi h.size) hne).trans (h.block i hi hne)⟩
theorem grown_of_below {a w : World} (h : Below a.heap.size a w) (row : Option Nat) : a.grownBy w row := ⟨h.os, h.tape, h.output, h.size, fun i hi _ => h.block i hi⟩

theorem ba_append (a b : List UInt8) : (⟨a.toArray⟩ : ByteArray) ++ ⟨b.toArray⟩ = ⟨(a ++ b).toArray⟩ := by
  apply ByteArray.ext; simp
theorem src_alloc {w : World} {b : Nat} (h : Src w b) (o : Obj) : Src (w.alloc o) b := h.below ((Below.refl _ _).alloc (Nat.le_refl _) _)
theorem str_zero : str 0 = ⟨#[48]⟩ := by unfold str; rw [itoa_zero]
theorem str_dec {ds : List UInt8} (h : Digs ds) (hne : ds ≠ []) (h0 : ds.head? ≠ some 48) : str (decVal ds : Int) = ⟨ds.toArray⟩ := by
  unfold str; rw [itoa_pos, decDigits_of h hne h0]
theorem decVal_pos {ds : List UInt8} (h : Digs ds) (hne : ds ≠ []) (h0 : ds.head? ≠ some 48) : 0 < decVal ds := by
  rcases Nat.eq_zero_or_pos (decVal ds) with e | e
  · exfalso
    have he := decDigits_of h hne h0
    rw [e, Lib.decDigits_one (by decide)] at he
    apply h0; rw [← he]; rfl
  · exact e
theorem str_decNeg {ds : List UInt8} (h : Digs ds) (hne : ds ≠ []) (h0 : ds.head? ≠ some 48) : str (-(decVal ds : Int)) = ⟨(45 :: ds).toArray⟩ := by
  unfold str; rw [itoa_negNat _ (decVal_pos h hne h0), decDigits_of h hne h0]
theorem conv_one (W : World) (x : Int) (c : UInt8) (hx : x = (c.toNat : Int)) : (convert 49 9 (.slice (some ⟨W.heap.size, 0, none⟩) 1 1)).run Tryz.prog (W.alloc (.cells #[.int .u8 x] 5)) = .ok (.string ⟨#[c]⟩) (W.alloc (.cells #[.int .u8 x] 5)) := by
  have h := run_convert_bytes_back (P := Tryz.prog) (W.alloc (.cells #[.int .u8 x] 5)) 49 9 5 ⟨W.heap.size, 0, none⟩ 1 [c] Tryz.underlying49 Tryz.underlying5 Tryz.underlying9 (fun j hj => by
    obtain rfl : j = 0 := by simp at hj; omega
    rw [Lib.add_plain, World.cell?_alloc_new, hx]; rfl)
  exact h
theorem wrap_u8 (x : Int) (h0 : 0 ≤ x) (h1 : x < 256) : IntKind.u8.wrap x = x := by
  rw [IntKind.wrap_u8]; omega

set_option maxRecDepth 100000 in
set_option maxHeartbeats 2000000 in
theorem Big_any (b d : Nat) (w : World) (hs : Src w b) (hd1 : 1 ≤ d) (hd2 : d ≤ 100000) : Calls Tryz.prog 7 #[.pointer (some ⟨b, 0, none⟩), .int .i64 (d : Int)] w (RetBig w b d) := by
  have HS := Lib.hid hs
  clear hs
  go_enter Tryz.func7, Tryz.ntmps7
  go_wp2_with fail
  refine (N_any b ((d : Int) + 1) w HS.out (by omega) (by omega)).mono ?_
  rintro e w1 ⟨n, rfl, hn, hs1, hg1⟩
  have HS1 := Lib.hid hs1
  have HG1 := Lib.hid hg1
  clear hs1 hg1
  go_wp2_with fail
  go_loopw [6, 7] (fun o ix wr => ∃ ds : List UInt8, o = .string ⟨ds.toArray⟩ ∧ ix = .int .i64 (ds.length : Int) ∧ ds.length ≤ n ∧ Digs ds ∧ ds.head? ≠ some 48 ∧ Src wr b ∧ w.grownBy wr (some b)) (fun _ ix _ => n - (intOf ix).toNat)
  case atStart => exact ⟨[], rfl, rfl, Nat.zero_le _, Digs.nil, by simp, HS1.out, HG1.out⟩
  case round =>
    obtain ⟨ds, rfl, rfl, hdn, hdig, hhead, hsr, hgr⟩ := hrel
    have HDIG := Lib.hid hdig
    have HHEAD := Lib.hid hhead
    have HSR := Lib.hid hsr
    have HGR := Lib.hid hgr
    clear hdig hhead hsr hgr
    by_cases hlt : ds.length < n
    · go_wp2_with fail
      refine (N_any b 10 wr HSR.out (by omega) (by omega)).mono ?_
      rintro e w2 ⟨r, rfl, hr, hs2, hg2⟩
      have HS2 := Lib.hid hs2
      have HG2 := Lib.hid (grown_trans HGR.out hg2)
      clear hs2 hg2
      have hr' : r < 10 := by omega
      by_cases h0 : ds.length = 0
      · obtain rfl : ds = [] := List.eq_nil_of_length_eq_zero h0
        go_wp2_with fail
        refine (N_any b 9 w2 HS2.out (by omega) (by omega)).mono ?_
        rintro e w3 ⟨q, rfl, hq, hs3, hg3⟩
        have HS3 := Lib.hid hs3
        have HG3 := Lib.hid (grown_trans HG2.out hg3)
        clear hs3 hg3
        obtain ⟨c, hc⟩ : ∃ c : UInt8, c.toNat = 48 + (1 + q) := ⟨UInt8.ofNat (48 + (1 + q)), dig_toNat (by omega)⟩
        have hcv := conv_one w3 (48 + (1 + (q : Int))) c (by omega)
        have HCC := Lib.hid hc
        clear hc
        go_wp2_with fail
        go_roundw
        case rel =>
          have hcd : IsDig c := by unfold IsDig; have := HCC.out; omega
          refine ⟨[c], by exact congrArg Value.string (ba_append [] [c]), rfl, by simp; omega, ?_, ?_, src_alloc HS3.out _, grown_trans HG3.out (World.grownBy_alloc _ _ _)⟩
          · intro x hx; rw [List.mem_singleton] at hx; subst hx; exact hcd
          · intro e
            rw [List.head?_cons] at e
            have := congrArg UInt8.toNat (Option.some.inj e)
            rw [HCC.out, show (48 : UInt8).toNat = 48 from rfl] at this
            omega
        case measure => simp [intOf]; omega
      · have h0' : ((ds.length : Int) == 0) = false := by rw [beq_eq_false_iff_ne]; omega
        obtain ⟨c, hc⟩ : ∃ c : UInt8, c.toNat = 48 + r := ⟨UInt8.ofNat (48 + r), dig_toNat (by omega)⟩
        have hcv := conv_one w2 (48 + (r : Int)) c (by omega)
        have HCC := Lib.hid hc
        clear hc
        go_wp2_with fail
        go_roundw
        case rel =>
          have hcd : IsDig c := by unfold IsDig; have := HCC.out; omega
          refine ⟨ds ++ [c], by exact congrArg Value.string (ba_append ds [c]), by simp, by simp; omega, ?_, ?_, src_alloc HS2.out _, grown_trans HG2.out (World.grownBy_alloc _ _ _)⟩
          · exact HDIG.out.append (by intro x hx; rw [List.mem_singleton] at hx; subst hx; exact hcd)
          · have hh := HHEAD.out
            cases ds with
            | nil => simp at h0
            | cons a l => simpa using hh
        case measure => simp [intOf]; omega
    · by_cases h0 : ds = []
      · subst h0
        go_wp2_with fail
        go_ret
        exact ⟨0, by rw [str_zero]; rfl, by rw [show (0 : Int).natAbs = 0 from rfl, Lib.decDigits_one (by decide)]; simp; omega, HSR.out, HGR.out⟩
      · have hse : (⟨ds.toArray⟩ : ByteArray).toList.isEmpty = false := by rw [Lib.toList_data]; simpa using h0
        have hse' : ¬ (⟨ds.toArray⟩ : ByteArray).toList = [] := by rw [Lib.toList_data]; simpa using h0
        have hse2 : ds.isEmpty = false := by simpa using h0
        have ES := Lib.hid (str_dec HDIG.out h0 HHEAD.out)
        have EN := Lib.hid (str_decNeg HDIG.out h0 HHEAD.out)
        have EL := Lib.hid (congrArg List.length (decDigits_of HDIG.out h0 HHEAD.out))
        have H0 := Lib.hid h0
        clear h0
        go_wp2_with fail
        refine (N_any b 2 wr HSR.out (by omega) (by omega)).mono ?_
        rintro e w2 ⟨r, rfl, hr, hs2, hg2⟩
        have HS2 := Lib.hid hs2
        have HG2 := Lib.hid (grown_trans HGR.out hg2)
        clear hs2 hg2
        by_cases hr1 : r = 1
        · subst hr1
          go_wp2_with fail
          go_ret
          refine ⟨-(decVal ds : Int), ?_, by rw [Int.natAbs_neg, Int.natAbs_natCast, EL.out]; omega, HS2.out, HG2.out⟩
          rw [EN.out]
          exact congrArg (fun s => Ending.returned (Value.string s)) (ba_append [45] ds)
        · have hr1' : ((r : Int) == 1) = false := by rw [beq_eq_false_iff_ne]; omega
          go_wp2_with fail
          go_ret
          exact ⟨(decVal ds : Int), by rw [ES.out]; rfl, by rw [Int.natAbs_natCast, EL.out]; omega, HS2.out, HG2.out⟩

end Go.Proofs.YtmickdolpgjbhaaGreatDoor
