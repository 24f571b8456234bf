import Derived.Test.YtajlojhklhlljaaGreatDoorZE
import Derived.Test.YtajlojhklhlljaaGreatDoorZF
import Derived.Test.YtajlojhklhlljaaGreatDoorZB
set_option maxHeartbeats 16000000
set_option maxRecDepth 100000
namespace Go.Proofs.YtajlojhklhlljaaGreatDoor
open Go.RowKit
def modI (x n : Int) : Int := (x.tmod n + n).tmod n
theorem modI_bounds (x n : Int) (h : 1 ≤ n) : 0 ≤ modI x n ∧ modI x n < n := by
 unfold modI
 have h1 : 0 ≤ x.tmod n + n := by
  have := Int.tmod_lt_of_pos (-x) (show 0 < n by omega)
  rw [Int.neg_tmod] at this
  omega
 exact ⟨Int.tmod_nonneg _ h1, Int.tmod_lt_of_pos _ (by omega)⟩
theorem Mod_any (x n : Int) (w : World) (h1 : 1 ≤ n) (h2 : n ≤ 1000000) (_hx : -9223372036854775808 ≤ x) (_hx' : x ≤ 9223372036854775807) :
  Calls Tryz.prog 71 #[.int .i64 x, .int .i64 n] w fun e w' => e = .returned (.int .i64 (modI x n)) ∧ w = w' := by
 have hn1 : ¬ n < 1 := by omega
 have hn0 : (n == 0) = false := by rw [beq_eq_false_iff_ne]; omega
 have b1 : -1000000 ≤ x.tmod n := by
  have := Int.tmod_lt_of_pos (-x) (show 0 < n by omega)
  rw [Int.neg_tmod] at this
  omega
 have b2 : x.tmod n ≤ 1000000 := by
  have := Int.tmod_lt_of_pos x (show 0 < n by omega)
  omega
 have E := Lib.hid (show (x.tmod n + n).tmod n = modI x n from rfl)
 have b3 : 0 ≤ x.tmod n + n := by
  have := Int.tmod_lt_of_pos (-x) (show 0 < n by omega)
  rw [Int.neg_tmod] at this
  omega
 have E2 := Lib.hid (show (x.tmod n + n) % n = modI x n by unfold modI; rw [Int.tmod_eq_emod_of_nonneg b3])
 go_enter Tryz.func71, Tryz.ntmps71
 go_wp2
 go_ret
 refine ⟨?_, rfl⟩
 have E3 : x.tmod n % n = modI x n := by rw [← E2.out, Int.add_emod_right]
 first | (rw [← E.out]; rfl) | (rw [← E2.out]; rfl) | (rw [← E3]; rfl)
def Src (w : World) (b : Nat) : Prop := ∃ (A : Option Addr) (l c k : Nat), w.heap[b]? = some (.cells #[.slice A l c, .int .i64 (k : Int)] 75 (0, 0)) ∧ l ≤ 600 ∧ k ≤ l ∧
 (0 < l → ∃ bb off, A = some ⟨bb, off, none⟩ ∧ bb < b ∧ bb < w.heap.size ∧ ∀ i, i < l → ∃ z : Int, w.cell? ⟨bb, off + i, none⟩ = some (.int .i64 z) ∧ -9223372036854775808 ≤ z ∧ z ≤ 9223372036854775807)
theorem Src.lt {w : World} {b : Nat} (h : Src w b) : b < w.heap.size := by
 obtain ⟨A, l, c, k, hb, _⟩ := h
 rcases Nat.lt_or_ge b w.heap.size with hlt | hge
 ·exact hlt
 ·rw [Array.getElem?_eq_none hge] at hb; cases hb
theorem Src.below {w w' : World} {b : Nat} (h : Src w b) (hb : Below w.heap.size w w') : Src w' b := by
 have hlt := h.lt
 obtain ⟨A, l, c, k, hbk, hl, hk, hc⟩ := h
 refine ⟨A, l, c, k, (hb.block b hlt).trans hbk, hl, hk, fun h0 => ?_⟩
 obtain ⟨bb, off, e, hne, hlt', hcell⟩ := hc h0
 have := hb.size
 exact ⟨bb, off, e, hne, by omega, fun i hi => by
  obtain ⟨z, hz, h1, h2⟩ := hcell i hi
  exact ⟨z, (hb.cell (p := ⟨bb, off + i, none⟩) hlt').trans hz, h1, h2⟩⟩
theorem Src.above {w w' : World} {b : Nat} (h : Src w b) (hs : w.heap.size ≤ w'.heap.size) (hk : ∀ i, i ≤ b → w'.heap[i]? = w.heap[i]?) : Src w' b := by
 obtain ⟨A, l, c, k, hbk, hl, hk', hc⟩ := h
 refine ⟨A, l, c, k, (hk b (Nat.le_refl _)).trans hbk, hl, hk', fun h0 => ?_⟩
 obtain ⟨bb, off, e, hne, hlt', hcell⟩ := hc h0
 exact ⟨bb, off, e, hne, by omega, fun i hi => by
  obtain ⟨z, hz, h1, h2⟩ := hcell i hi
  exact ⟨z, (World.cell?_of_block (w := w) (a := ⟨bb, off + i, none⟩) (hk bb (Nat.le_of_lt hne))).trans hz, h1, h2⟩⟩
def RetN (w : World) (b : Nat) (n : Int) (e : Ending) (w' : World) : Prop := ∃ r : Nat, e = .returned (.int .i64 (r : Int)) ∧ (r : Int) < n ∧ Src w' b ∧ w.grownBy w' (some b)
theorem N_any (b : Nat) (n : Int) (w : World) (hs : Src w b) (h1 : 1 ≤ n) (h2 : n ≤ 1000000) : Calls Tryz.prog 16 #[.pointer (some ⟨b, 0, none⟩), .int .i64 n] w (RetN w b n) := by
 have HS := Lib.hid hs
 obtain ⟨A, l, c, k, hbk, hl, hk, hc⟩ := hs
 have h0c : w.cell? ⟨b, 0, none⟩ = some (.slice A l c) := cell_of_row _ _ 0 _ _ _ hbk
 have h1c : w.cell? ⟨b, 1, none⟩ = some (.int .i64 (k : Int)) := cell_of_row _ _ 1 _ _ _ hbk
 have h1f : w.frozen? ⟨b, 1, none⟩ = false := frozen_of_row _ _ 1 _ _ hbk
 by_cases hlt : k < l
 ·obtain ⟨bb, off, rfl, hne, hbb, hcell⟩ := hc (by omega)
  obtain ⟨z, hz, hz1, hz2⟩ := hcell k hlt
  have hz' : ∀ u, (w.setCell ⟨b, 1, none⟩ u).cell? ⟨bb, off + k, none⟩ = some (.int .i64 z) := fun u => (cell_far u (by show bb ≠ b; exact Nat.ne_of_lt hne)).trans hz
  have HBK := Lib.hid hbk
  have HCELL := Lib.hid hcell
  have hd : decide ((l : Int) ≤ (k : Int)) = false := by simp; omega
  clear hbk hcell hz hc
  go_enter Tryz.func16, Tryz.ntmps16
  go_wp2_with fail
  go_quiet (fail)
  go_wp2_with fail
  have hw3 : ((w.drewN nq).setCell ⟨b, 1, none⟩ (.int .i64 ((k : Int) + 1))).heap[b]? = some (.cells #[.slice (some ⟨bb, off, none⟩) l c, .int .i64 ((k : Int) + 1)] 75 (0, 0)) := by
   have hbk : (w.drewN nq).heap[b]? = some (.cells #[.slice (some ⟨bb, off, none⟩) l c, .int .i64 (k : Int)] 75 (0, 0)) := HBK.out
   exact heap_setCell_same (w.drewN nq) b 1 _ _ _ hbk
  have hz3 : ((w.drewN nq).setCell ⟨b, 1, none⟩ (.int .i64 ((k : Int) + 1))).cell? ⟨bb, off + k, none⟩ = some (.int .i64 z) := hz' _
  have hg3 : w.grownBy ((w.drewN nq).setCell ⟨b, 1, none⟩ (.int .i64 ((k : Int) + 1))) (some b) := only_setCell (p := ⟨b, 1, none⟩) (only_drewN (World.grownBy.refl w (some b)) nq) (.inl rfl) _
  generalize (w.drewN nq).setCell ⟨b, 1, none⟩ (.int .i64 ((k : Int) + 1)) = W at *
  have d0 : W.cell? ⟨b, 0, none⟩ = some (.slice (some ⟨bb, off, none⟩) l c) := cell_of_row _ _ 0 _ _ _ hw3
  have d1 : W.cell? ⟨b, 1, none⟩ = some (.int .i64 ((k : Int) + 1)) := cell_of_row _ _ 1 _ _ _ hw3
  have HW3 := Lib.hid hw3
  have HG3 := Lib.hid hg3
  clear hw3 hg3 hz' h0c h1c h1f
  have e1 : IntKind.i64.wrap ((k : Int) + 1 - 1) = (k : Int) := by rw [IntWalk.i64_in _ (by omega)]; omega
  have e2 : (k : Int) + 1 - 1 = (k : Int) := by omega
  have hi0 : (0 : Int) ≤ (k : Int) := by omega
  have hi1 : (k : Int) < (l : Int) := by omega
  go_quiet ((go_at_call 71; exact quiet_left (Mod_any z n _ h1 h2 hz1 hz2)))
  clear e1 e2
  go_wp2_with fail
  go_ret
  obtain ⟨m1, m2⟩ := modI_bounds z n h1
  refine ⟨(modI z n).toNat, by rw [Int.toNat_of_nonneg m1]; rfl, by omega, ?_, only_drewN HG3.out _⟩
  refine ⟨_, l, c, k + 1, by rw [Int.natCast_succ]; exact HW3.out, hl, hlt, fun _ => ⟨bb, off, rfl, hne, ?_, fun i hi => ?_⟩⟩
  ·have := HG3.out.size; exact Nat.lt_of_lt_of_le hbb this
  ·obtain ⟨z', hz', hb1, hb2⟩ := HCELL.out i hi
   exact ⟨z', (World.cell?_of_block (w := w) (a := ⟨bb, off + i, none⟩) (HG3.out.block bb hbb (fun e => Nat.ne_of_lt hne (by injection e)))).trans hz', hb1, hb2⟩
 ·have hd : decide ((l : Int) ≤ (k : Int)) = true := by simp; omega
  clear hc hbk
  go_enter Tryz.func16, Tryz.ntmps16
  go_wp2_with fail
  go_quiet (fail)
  go_wp2_with fail
  go_ret
  exact ⟨0, rfl, by omega, HS.out, only_drewN (World.grownBy.refl _ _) _⟩
end Go.Proofs.YtajlojhklhlljaaGreatDoor
namespace Go.Proofs.YtajlojhklhlljaaGreatDoor
open Go.RowKit
def Ints (w : World) (A : Option Addr) (l : Nat) : Prop := 0 < l → ∃ bb off, A = some ⟨bb, off, none⟩ ∧ bb < w.heap.size ∧ ∀ i, i < l → ∃ z : Int, w.cell? ⟨bb, off + i, none⟩ = some (.int .i64 z) ∧ -9223372036854775808 ≤ z ∧ z ≤ 9223372036854775807
theorem Src.new {w : World} {A : Option Addr} {l c : Nat} (h : Ints w A l) (hl : l ≤ 600) : Src (w.alloc (.cells #[.slice A l c, .int .i64 0] 75)) w.heap.size := by
 refine ⟨A, l, c, 0, heap_alloc_new w _, hl, Nat.zero_le _, fun h0 => ?_⟩
 obtain ⟨bb, off, e, hlt, hc⟩ := h h0
 refine ⟨bb, off, e, by omega, by simp; omega, fun i hi => ?_⟩
 obtain ⟨z, hz, h1, h2⟩ := hc i hi
 exact ⟨z, (World.cell?_alloc_lt w _ ⟨bb, off + i, none⟩ hlt).trans hz, h1, h2⟩
theorem New_any (A : Option Addr) (l c : Nat) (w : World) (h : Ints w A l) (hlc : l ≤ c) (hl : l ≤ 9223372036854775807) : Calls Tryz.prog 15 #[.slice A l c] w fun e w' => e = .returned (.pointer (some ⟨w.heap.size, 0, none⟩)) ∧ Src w' w.heap.size ∧ Below w.heap.size w w' := by
 rcases Nat.lt_or_ge l 600 with h6 | h6
 ·have HS := Lib.hid (Src.new (c := c) h (show l ≤ 600 by omega))
  clear h
  go_enter Tryz.func15, Tryz.ntmps15
  go_wp2
  go_ret
  rw [show (min (l : Int) 600).toNat = l by omega]
  exact ⟨rfl, HS.out, (Below.refl _ _).alloc (Nat.le_refl _) _⟩
 ·have h' : Ints w A 600 := fun _ => by
   obtain ⟨bb, off, e, hlt, hc⟩ := h (by omega)
   exact ⟨bb, off, e, hlt, fun i hi => hc i (by omega)⟩
  have HS := Lib.hid (Src.new (c := c) h' (show 600 ≤ 600 by omega))
  clear h h'
  go_enter Tryz.func15, Tryz.ntmps15
  go_wp2
  go_ret
  rw [show (min (l : Int) 600).toNat = 600 by omega]
  exact ⟨rfl, HS.out, (Below.refl _ _).alloc (Nat.le_refl _) _⟩
def RetBig (w : World) (b d : Nat) (e : Ending) (w' : World) : Prop := ∃ z : Int, e = .returned (.string (str z)) ∧ (Lib.decDigits z.natAbs).length ≤ d ∧ Src w' b ∧ w.grownBy w' (some b)
theorem grown_trans {a b c : World} {g : Nat} (h : a.grownBy b (some g)) (k : b.grownBy c (some g)) : a.grownBy c (some g) :=
 ⟨k.os.trans h.os, k.tape.trans h.tape, k.output.trans h.output, Nat.le_trans h.size k.size, fun i hi hne => (k.block i (Nat.lt_of_lt_of_le hi h.size) hne).trans (h.block i hi hne)⟩
theorem ba_append (a b : List UInt8) : (⟨a.toArray⟩ : ByteArray) ++ ⟨b.toArray⟩ = ⟨(a ++ b).toArray⟩ := by
 apply ByteArray.ext; simp
theorem str_zero : str 0 = ⟨#[48]⟩ := by unfold str; rw [itoa_zero]
end Go.Proofs.YtajlojhklhlljaaGreatDoor
namespace Go.Proofs.YtajlojhklhlljaaGreatDoor
open Go.RowKit
def odds : List ByteArray := [⟨#[]⟩, ⟨#[45]⟩, ⟨#[48]⟩, ⟨#[45, 48]⟩, ⟨#[48, 48]⟩, ⟨#[43, 49]⟩, ⟨#[49, 47, 50]⟩, ⟨#[48, 55]⟩, ⟨#[45, 49, 50]⟩, ⟨#[32, 49]⟩, ⟨#[49, 32]⟩, ⟨#[57, 120]⟩, ⟨#[57, 57, 57, 57, 57, 57, 57, 57, 57, 57, 57, 57, 57, 57, 57, 57, 57, 57, 57, 57]⟩]
end Go.Proofs.YtajlojhklhlljaaGreatDoor
