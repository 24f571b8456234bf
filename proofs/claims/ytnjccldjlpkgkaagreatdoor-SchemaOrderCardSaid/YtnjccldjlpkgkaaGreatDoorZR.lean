/-
  Package fraction: Rat, Fits, Of, Floor.
-/
import Derived.Test.YtnjccldjlpkgkaaGreatDoorZQ
import Derived.Test.YtnjccldjlpkgkaaGreatDoorZE
namespace Go.Proofs.YtnjccldjlpkgkaaGreatDoor
open Go.RowKit

/-- The library's variables: the table of powers, and the length up to which bytealg searches. -/
def Env (w : World) : Prop := Tab w ∧ ∃ m : Int, w.cell? ⟨0, 0, none⟩ = some (.int .i64 m)
theorem Env.tab {w : World} (h : Env w) : Tab w := h.1
theorem Env.below {w w' : World} (h : Env w) (hb : Below w.heap.size w w') : Env w' := by
  obtain ⟨h1, m, hm⟩ := h
  refine ⟨h1.below hb, m, ?_⟩
  rw [hb.cell (p := ⟨0, 0, none⟩)]
  · exact hm
  · show 0 < w.heap.size
    rcases Nat.lt_or_ge 0 w.heap.size with h | h
    · exact h
    · unfold World.cell? at hm
      rw [Array.getElem?_eq_none h] at hm
      simp at hm
theorem Env.drewN {w : World} (h : Env w) (n : Nat) : Env (w.drewN n) := h

/-- The text of a fraction. -/
def rstr (q : Rat) : ByteArray := ⟨(rtext q).toArray⟩
instance (q : Rat) : Decidable (FitsR q) := inferInstanceAs (Decidable (_ ∧ _))
/-- The text and the error code that a fraction gives. -/
def outR (q : Rat) : ByteArray := if FitsR q then rstr q else ⟨#[]⟩
def outRE (q : Rat) : Int := if FitsR q then 0 else 3
theorem outR_fits {q : Rat} (h : FitsR q) : outR q = rstr q := if_pos h
theorem outRE_fits {q : Rat} (h : FitsR q) : outRE q = 0 := if_pos h
theorem outR_not {q : Rat} (h : ¬ FitsR q) : outR q = ⟨#[]⟩ := if_neg h
theorem outRE_not {q : Rat} (h : ¬ FitsR q) : outRE q = 3 := if_neg h
theorem itoa_len {x : Int} (h : Fits x) : (Lib.itoa x).length ≤ 401 := by have := itoa_length x; unfold Fits at h; omega
theorem rtext_len {q : Rat} (h : FitsR q) : (rtext q).length ≤ 803 := by
  have h1 := itoa_len h.1
  have h2 := itoa_len h.2
  unfold rtext
  split
  · omega
  · simp; omega
theorem rstr_size (q : Rat) : (rstr q).size = (rtext q).length := by unfold rstr; simp [ByteArray.size]
theorem rstr_list (q : Rat) : (rstr q).data.toList = rtext q := by unfold rstr; simp
theorem rstr_parts {q : Rat} (h : q.den ≠ 1) : (str q.num ++ ⟨#[47]⟩) ++ str (q.den : Int) = rstr q := by
  unfold rstr str
  rw [rtext_parts h, show (⟨#[47]⟩ : ByteArray) = ⟨[47].toArray⟩ from rfl, ba_append, ba_append]
  simp
theorem rstr_whole {q : Rat} (h : q.den = 1) : rstr q = str q.num := by unfold rstr str; rw [rtext_whole h]

/-- strings.Cut at a slash. -/
theorem Cut_any (l : List UInt8) (w : World) (hl : l.length < 4294967281) (he : Env w) :
    Calls Tryz.prog 56 #[.string ⟨l.toArray⟩, .string ⟨#[47]⟩] w fun e w' => e = .returned (.tuple #[.string ⟨(cutS l).1.toArray⟩, .string ⟨(cutS l).2.1.toArray⟩, .bool (cutS l).2.2]) ∧ Below w.heap.size w w' := by
  obtain ⟨_, m, hm⟩ := he
  have h := Tryz.strings_Cut ⟨l.toArray⟩ ⟨#[47]⟩ m w (by simpa [ByteArray.size] using hl) hm
  rw [show (⟨l.toArray⟩ : ByteArray).data.toList = l by simp, show (⟨#[47]⟩ : ByteArray).data.toList = [47] from rfl, cut_slash] at h
  refine h.mono ?_
  rintro e w' ⟨rfl, n, rfl⟩
  exact ⟨rfl, below_drewN (Below.refl _ _) _⟩
theorem Cut_whole {q : Rat} (h : q.den = 1) (hf : FitsR q) (w : World) (he : Env w) :
    Calls Tryz.prog 56 #[.string (rstr q), .string ⟨#[47]⟩] w fun e w' => e = .returned (.tuple #[.string (str q.num), .string ⟨#[]⟩, .bool false]) ∧ Below w.heap.size w w' := by
  have := Cut_any (rtext q) w (by have := rtext_len hf; omega) he
  rw [cut_whole h] at this
  exact this
theorem Cut_parts {q : Rat} (h : q.den ≠ 1) (hf : FitsR q) (w : World) (he : Env w) :
    Calls Tryz.prog 56 #[.string (rstr q), .string ⟨#[47]⟩] w fun e w' => e = .returned (.tuple #[.string (str q.num), .string (str (q.den : Int)), .bool true]) ∧ Below w.heap.size w w' := by
  have := Cut_any (rtext q) w (by have := rtext_len hf; omega) he
  rw [cut_parts h] at this
  exact this
theorem LRead_fits (x : Int) (w : World) (hf : Fits x) : Calls Tryz.prog 71 #[.string (str x)] w (RetNum w x) := Read_any x w (by unfold Fits at hf; omega)
theorem one_fits : Fits 1 := fits_small (by decide)
theorem LRead_one (w : World) : Calls Tryz.prog 71 #[.string ⟨#[49]⟩] w (RetNum w 1) := by
  have := LRead_fits 1 w one_fits
  rwa [str_1] at this

end Go.Proofs.YtnjccldjlpkgkaaGreatDoor

namespace Go.Proofs.YtnjccldjlpkgkaaGreatDoor
open Go.RowKit

theorem str_len {x : Int} (h : Fits x) : (str x).size ≤ 401 := by unfold str; simpa [ByteArray.size] using itoa_len h
end Go.Proofs.YtnjccldjlpkgkaaGreatDoor
