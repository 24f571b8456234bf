/-
  Package rational and its reference agree on all texts.
-/
import Derived.Test.YtnjccldjlpkgkaaGreatDoorZV
namespace Go.Proofs.YtnjccldjlpkgkaaGreatDoor
open Go.RowKit

set_option maxRecDepth 100000 in
set_option maxHeartbeats 1000000 in
theorem Range_any (b : Nat) (lo hi : Int) (w : World) (hs : Src w b) (h1 : lo ≤ hi) (h2 : -100000 ≤ lo) (h3 : hi ≤ 100000) :
    Calls Tryz.prog 37 #[.pointer (some ⟨b, 0, none⟩), .int .i64 lo, .int .i64 hi] w fun e w' => ∃ r : Int, e = .returned (.int .i64 r) ∧ (lo ≤ r ∧ r ≤ hi) ∧ Src w' b ∧ w.grownBy w' (some b) := by
  have HN := Lib.hid (N_any b (hi - lo + 1) w hs (by omega) (by omega))
  clear hs
  go_enter Tryz.func37, Tryz.ntmps37
  go_wp2_with fail
  refine HN.out.mono ?_
  rintro e w1 ⟨r, rfl, hr, hs1, hg1⟩
  have HS1 := Lib.hid hs1
  have HG1 := Lib.hid hg1
  clear hs1 hg1
  go_wp2_with fail
  go_ret
  exact ⟨lo + (r : Int), rfl, ⟨by omega, by omega⟩, HS1.out, HG1.out⟩

set_option maxRecDepth 100000 in
set_option maxHeartbeats 1000000 in
theorem Pick_any (b g n : Nat) (S : Nat → Int) (w : World) (hs : Src w b) (hrow : ∀ i, i < n → w.cell? ⟨g, i, none⟩ = some (.int .i64 (S i))) (hgb : g ≠ b) (hg : g < w.heap.size) (hn1 : 1 ≤ n) (hn2 : n ≤ 1000) :
    Calls Tryz.prog 40 #[.pointer (some ⟨b, 0, none⟩), .slice (some ⟨g, 0, none⟩) n n] w fun e w' => ∃ i, i < n ∧ e = .returned (.int .i64 (S i)) ∧ Src w' b ∧ w.grownBy w' (some b) := by
  have HS := Lib.hid hs
  have HROW := Lib.hid hrow
  clear hs hrow
  go_enter Tryz.func40, Tryz.ntmps40
  go_wp2_with fail
  refine (N_any b (n : Int) w HS.out (by omega) (by omega)).mono ?_
  rintro e w1 ⟨r, rfl, hr, hs1, hg1⟩
  have hcell : w1.cell? ⟨g, r, none⟩ = some (.int .i64 (S r)) := (World.cell?_of_block (w := w) (a := ⟨g, r, none⟩) (hg1.block g hg (fun e => hgb (by injection e)))).trans (HROW.out r (by omega))
  have HS1 := Lib.hid hs1
  have HG1 := Lib.hid hg1
  have hrn : r < n := by omega
  clear hs1 hg1
  go_wp2_with fail
  go_ret
  exact ⟨r, hrn, rfl, HS1.out, HG1.out⟩

/-- A small fraction. -/
def Small1 (q : Rat) : Prop := q.num.natAbs ≤ 9 ∧ q.den ≤ 4
theorem Small1.dig {q : Rat} (h : Small1 q) : DigR 1 q := ⟨by unfold Dig; have := h.1; omega, by unfold Dig; have := h.2; omega⟩
theorem Small1.fits {q : Rat} (h : Small1 q) : FitsR q := h.dig.fits (by decide) (by decide)
def dens : List Int := [1, 1, 1, 2, 3, 4]
theorem dens_get (i : Nat) : 1 ≤ dens.getD i 1 ∧ dens.getD i 1 ≤ 4 := by
  by_cases h : i < dens.length
  · have : ∀ s ∈ dens, 1 ≤ s ∧ s ≤ 4 := by decide
    rw [List.getD_eq_getElem?_getD, List.getElem?_eq_getElem h]
    exact this _ (List.getElem_mem h)
  · rw [List.getD_eq_getElem?_getD, List.getElem?_eq_none (by omega)]
    decide
/-- The result is the text of a small fraction; the source goes on. -/
def RetRat (w : World) (b : Nat) (e : Ending) (w' : World) : Prop := ∃ q : Rat, e = .returned (.string (rstr q)) ∧ Small1 q ∧ Src w' b ∧ w.grownBy w' (some b)

/-- The texts that are nearly fractions. -/
def oddRats : List ByteArray := [⟨#[]⟩, ⟨#[49, 47, 49]⟩, ⟨#[50, 47, 52]⟩, ⟨#[49, 47, 45, 50]⟩, ⟨#[49, 47, 48]⟩, ⟨#[48, 47, 51]⟩, ⟨#[45, 49, 47, 50]⟩, ⟨#[49, 47, 50, 47, 51]⟩, ⟨#[47, 50]⟩, ⟨#[49, 47]⟩, ⟨#[45, 48]⟩, ⟨#[55]⟩, ⟨#[49, 50, 51, 52, 53, 54, 55, 56, 57, 48, 49, 50, 51, 52, 53, 54, 55, 56, 57, 48, 47, 55]⟩]
theorem oddRats_size (i : Nat) : (oddRats.getD i ⟨#[]⟩).size ≤ 22 := by
  by_cases h : i < oddRats.length
  · have : ∀ s ∈ oddRats, s.size ≤ 22 := by decide
    rw [List.getD_eq_getElem?_getD, List.getElem?_eq_getElem h]
    exact this _ (List.getElem_mem h)
  · rw [List.getD_eq_getElem?_getD, List.getElem?_eq_none (by omega)]
    decide

end Go.Proofs.YtnjccldjlpkgkaaGreatDoor

namespace Go.Proofs.YtnjccldjlpkgkaaGreatDoor
open Go.RowKit

theorem agRParts (s : ByteArray) (hs : s.size ≤ 4000000000) : ∃ (p q : ByteArray) (b : Bool), (∀ w, Env w → Calls Tryz.prog 34 #[.string s] w fun e w' => e = .returned (.tuple #[.string p, .string q, .bool b]) ∧ Below w.heap.size w w') ∧ (∀ w, Calls Tryz.prog 9 #[.string s] w fun e w' => e = .returned (.tuple #[.string p, .string q, .bool b]) ∧ Below w.heap.size w w') := by
  cases h : vR s
  · refine ⟨⟨#[]⟩, ⟨#[]⟩, false, fun w he => ?_, fun w => RFParts_bad s w hs h⟩
    have := RatParts_bad s.data.toList w (by rw [ba_size]; exact hs) he h
    rwa [ba_list] at this
  · obtain ⟨q, rfl, hf⟩ := vR_ex h
    exact ⟨str q.num, str (q.den : Int), true, fun w he => RatParts_ok q w hf he, fun w => RFParts_ok q w hf⟩
theorem valid_strR {s : ByteArray} (h : validB s.data.toList = true) : ∃ x, s = str x ∧ Fits x := by
  obtain ⟨x, hx, hf⟩ := valid_ex h
  refine ⟨x, ?_, hf⟩
  rw [← ba_list s, hx]
  rfl
end Go.Proofs.YtnjccldjlpkgkaaGreatDoor
