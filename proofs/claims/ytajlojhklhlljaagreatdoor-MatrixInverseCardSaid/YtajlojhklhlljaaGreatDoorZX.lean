import Derived.Test.YtajlojhklhlljaaGreatDoorZU
set_option maxHeartbeats 16000000
set_option maxRecDepth 100000
namespace Go.Proofs.YtajlojhklhlljaaGreatDoor
open Go.RowKit
open Classical in
noncomputable def valS (s : ByteArray) : Rat := if h : ∃ q : Rat, s = rstr q ∧ FitsR q then h.choose else 0
theorem rstr_inj {p q : Rat} (h : rstr p = rstr q) : p = q := by
 apply rtext_inj
 rw [← rstr_list p, ← rstr_list q, h]
open Classical in
theorem valS_rstr {q : Rat} (h : FitsR q) : valS (rstr q) = q := by
 have hx : ∃ p : Rat, rstr q = rstr p ∧ FitsR p := ⟨q, rfl, h⟩
 unfold valS
 rw [dif_pos hx]
 exact (rstr_inj hx.choose_spec.1).symm
theorem vR_val {s : ByteArray} (h : vR s = true) : s = rstr (valS s) ∧ FitsR (valS s) := by
 obtain ⟨q, rfl, hf⟩ := vR_ex h
 rw [valS_rstr hf]
 exact ⟨rfl, hf⟩
noncomputable def digS (s : ByteArray) : Nat := if vR s then digR (valS s) else 0
theorem FReadS (s : ByteArray) (w : World) (h : vR s = true) (henv : Env w) : Calls Tryz.prog 101 #[.string s] w (RetFrac w (valS s)) := by
 obtain ⟨h1, h2⟩ := vR_val h
 have := FRead_ok (valS s) w h2 henv
 rw [← h1] at this
 exact this
theorem valS_sz (s : ByteArray) : Sz 45 (valS s) := by
 cases h : vR s
 ·have : valS s = 0 := by
   unfold valS
   rw [dif_neg]
   rintro ⟨q, rfl, hf⟩
   rw [vR_rstr hf] at h
   cases h
  rw [this]
  exact Sz.zero.mono (by decide)
 ·exact (vR_val h).2.sz
def rsum (l : List Rat) : Rat := l.foldl (· + ·) 0
def nmax (l : List Nat) : Nat := l.foldl max 0
noncomputable def prods (ss ts : List ByteArray) : List Rat := List.zipWith (fun s t => valS s * valS t) ss ts
noncomputable def pdigs (ss ts : List ByteArray) : List Nat := List.zipWith (fun s t => max (digS s) (digS t)) ss ts
noncomputable def dotS (ss ts : List ByteArray) : Rat := rsum (prods ss ts)
noncomputable def mostS (ss ts : List ByteArray) : Nat := nmax (pdigs ss ts)
noncomputable def dotV (ss ts : List ByteArray) : Value :=
 if ss.length ≠ ts.length then .tuple #[.string ⟨#[]⟩, .int .i64 5]
 else if ¬ (ss.all vR = true ∧ ts.all vR = true) then .tuple #[.string ⟨#[]⟩, .int .i64 1]
 else if 6000 < ss.length * mostS ss ts then .tuple #[.string ⟨#[]⟩, .int .i64 3]
 else .tuple #[.string (outR (dotS ss ts)), .int .i64 (outRE (dotS ss ts))]
end Go.Proofs.YtajlojhklhlljaaGreatDoor
