import Derived.Test.YtajlojhklhlljaaGreatDoorZMD
import Derived.Test.YtajlojhklhlljaaGreatDoorZU
import Derived.Test.YtajlojhklhlljaaGreatDoorZMK
set_option maxHeartbeats 16000000
set_option maxRecDepth 100000
set_option linter.unusedVariables false
set_option linter.unusedSimpArgs false
set_option linter.unusedSectionVars false
namespace Go.Proofs.YtajlojhklhlljaaGreatDoor
open Go.RowKit
def colsS : List RowT → Nat
 | [] => 0
 | r :: _ => r.ss.length
noncomputable def shapeS (rs : List RowT) : Nat × Nat × Int :=
 if 12 < rs.length then (0, 0, 3)
 else if rs.any (fun r => decide (12 < r.ss.length)) then (0, 0, 3)
 else if rs.any (fun r => decide (r.ss.length ≠ colsS rs)) then (0, 0, 5)
 else if rs.any (fun r => !r.ss.all vR) then (0, 0, 1)
 else (rs.length, colsS rs, 0)
def RetSh (w : World) (p : Nat × Nat × Int) (e : Ending) (w' : World) : Prop := e = .returned (.tuple #[.int .i64 (p.1 : Int), .int .i64 (p.2.1 : Int), .int .i64 p.2.2]) ∧ Below w.heap.size w w'
section
variable {rs : List RowT}
end
end Go.Proofs.YtajlojhklhlljaaGreatDoor
namespace Go.Proofs.YtajlojhklhlljaaGreatDoor
open Go.RowKit
theorem mat_el {w : World} {A : Option Addr} {rs : List RowT} {m n : Nat} {M : Nat → Nat → Rat} (h : MatIn w A rs) (hm : MatF rs m n M) {i k : Nat} (hi : i < m) (hk : k < n) : ∃ b off b2 o2 cp : Nat, A = some ⟨b, off, none⟩ ∧ b < w.heap.size ∧ b2 < w.heap.size ∧ w.cell? ⟨b, off + i, none⟩ = some (.slice (some ⟨b2, o2, none⟩) n cp) ∧ w.cell? ⟨b2, o2 + k, none⟩ = some (.string (rstr (M i k))) := by
 have hl := hm.len
 have hi' : i < rs.length := by omega
 obtain ⟨b, off, e, hb, hc⟩ := h.some (by intro e; subst e; simp at hi')
 have hr := hm.rowAt hi'
 obtain ⟨b2, o2, e2, hb2, hc2⟩ := h.i _ (List.getElem_mem hi') (by intro e; rw [e] at hr; simp at hr; omega)
 refine ⟨b, off, b2, o2, rs[i].cp, e, hb, hb2, ?_, ?_⟩
 ·rw [hc i hi', hr, e2]
 ·rw [hc2 k (by omega), hm.cel i k hi' (by omega)]
theorem mat_row {w : World} {A : Option Addr} {rs : List RowT} {m n : Nat} {M : Nat → Nat → Rat} (h : MatIn w A rs) (hm : MatF rs m n M) (hn : 0 < n) {i : Nat} (hi : i < m) : ∃ b off b2 o2 cp : Nat, A = some ⟨b, off, none⟩ ∧ b < w.heap.size ∧ b2 < w.heap.size ∧ w.cell? ⟨b, off + i, none⟩ = some (.slice (some ⟨b2, o2, none⟩) n cp) ∧ ∀ k, k < n → w.cell? ⟨b2, o2 + k, none⟩ = some (.string (rstr (M i k))) := by
 have hl := hm.len
 have hi' : i < rs.length := by omega
 obtain ⟨b, off, e, hb, hc⟩ := h.some (by intro e; subst e; simp at hi')
 have hr := hm.rowAt hi'
 obtain ⟨b2, o2, e2, hb2, hc2⟩ := h.i _ (List.getElem_mem hi') (by intro e; rw [e] at hr; simp at hr; omega)
 refine ⟨b, off, b2, o2, rs[i].cp, e, hb, hb2, ?_, fun k hk => ?_⟩
 ·rw [hc i hi', hr, e2]
 ·rw [hc2 k (by omega), hm.cel i k hi' (by omega)]
def RetOk (w : World) (m n : Nat) (M : Nat → Nat → Rat) (e : Ending) (w' : World) : Prop := ∃ A c rs, e = .returned (.tuple #[.slice A m c, .int .i64 0]) ∧ MatF rs m n M ∧ MatOwn w.heap.size w' (.slice A m c) rs ∧ Below w.heap.size w w'
end Go.Proofs.YtajlojhklhlljaaGreatDoor
