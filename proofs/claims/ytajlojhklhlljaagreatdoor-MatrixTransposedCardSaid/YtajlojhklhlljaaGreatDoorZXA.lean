import Derived.Test.YtajlojhklhlljaaGreatDoorZW
import Derived.Test.YtajlojhklhlljaaGreatDoorZX
set_option maxHeartbeats 16000000
set_option maxRecDepth 100000
namespace Go.Proofs.YtajlojhklhlljaaGreatDoor
open Go.RowKit
def sv (ss : List ByteArray) : List Value := ss.map Value.string
theorem sv_length (ss : List ByteArray) : (sv ss).length = ss.length := by simp [sv]
theorem sv_snoc (ss : List ByteArray) (s : ByteArray) : sv (ss ++ [s]) = sv ss ++ [.string s] := by simp [sv]
theorem own_strs {w : World} {B e : Nat} {v : Value} {ss : List ByteArray} (h : w.ownsRow B e 1 v ss.length (sv ss)) : ∃ A c, v = .slice A ss.length c ∧ ss.length ≤ c ∧ Strs w A ss ∧ ∀ b off, A = some ⟨b, off, none⟩ → B ≤ b := by
 have h' := h
 rcases h.2 with ⟨hv, h0⟩ | ⟨g, cap, cur, hv, hB, hg, hle, hm, hs, htake⟩
 ·have : ss = [] := by simpa using h0
  subst this
  exact ⟨none, 0, hv, by simp, fun hn => absurd rfl hn, fun b off e => by cases e⟩
 ·refine ⟨_, cap, hv, hle, fun _ => ⟨g, 0, rfl, ?_, fun i hi => ?_⟩, ?_⟩
  ·rcases Nat.lt_or_ge g w.heap.size with h' | h'
   ·exact h'
   ·rw [Array.getElem?_eq_none h'] at hg; cases hg
  ·subst hv
   have := h'.cellAt i (by omega)
   rw [Nat.zero_add, this]
   simp [sv, hi]
  ·intro b off e
   injection e with e
   injection e with e
   omega
theorem Tryz.infoRat : (Tryz.prog.info? 29).map (fun i => (i.zero, i.size, i.bytes)) = some (some (.string ⟨#[]⟩), 1, 16) := by kernel_rfl
theorem one_str {s : ByteArray} : ∀ u ∈ ([Value.string s] : List Value), u.oneCell' = true := by intro u hu; simp at hu; subst hu; rfl
theorem sown_push {B : Nat} {wr w1 : World} {t e : TypeId} {v v' u : Value} {ss : List ByteArray} {s : ByteArray} (h : wr.ownsRow B e 1 v ss.length (sv ss)) (hB : B ≤ wr.heap.size)
  (hown : w1.ownsRow B e 1 v' (ss.length + 1) (sv ss ++ [.string s])) (hg : (wr.alloc (.cells #[u] t)).grownBy w1 v.ownBlock) :
  w1.ownsRow B e 1 v' (ss ++ [s]).length (sv (ss ++ [s])) ∧ (∀ i, i < B → w1.heap[i]? = wr.heap[i]?) ∧ wr.heap.size ≤ w1.heap.size ∧ ∀ (a : World) (g : Option Nat), a.heap.size ≤ B → a.grownBy wr g → a.grownBy w1 g := by
 have hs := hg.size
 rw [World.size_alloc] at hs
 have hk : ∀ i, i < B → w1.heap[i]? = wr.heap[i]? := fun i hi => by
  rw [hg.block i (by simp; omega) (fun e => by have := (h.lt i e.symm).1; omega)]
  exact Below.heap_alloc wr _ i (by omega)
 refine ⟨?_, hk, by omega, fun a g ha hag => ⟨hg.os.trans hag.os, hg.tape.trans hag.tape, hg.output.trans hag.output, Nat.le_trans hag.size (by omega), fun i hi hne => (hk i (by omega)).trans (hag.block i hi hne)⟩⟩
 rw [sv_snoc, List.length_append]
 exact hown
theorem own_grown {w w' : World} {B e n b : Nat} {v : Value} {xs : List Value} (h : w.ownsRow B e 1 v n xs) (hg : w.grownBy w' (some b)) (hb : b < B) : w'.ownsRow B e 1 v n xs :=
 h.kept (row := some b) hg (by
  rcases hv : v.ownBlock with _ | g
  ·exact .inl rfl
  ·refine .inr ?_
   have := (h.lt g hv).1
   intro e
   injection e with e
   omega)
def RetRats (w : World) (b n : Nat) (e : Ending) (w' : World) : Prop := ∃ (v : Value) (qs : List Rat), e = .returned v ∧ qs.length = n ∧ (∀ q ∈ qs, Small1 q) ∧ w'.ownsRow w.heap.size 29 1 v (qs.map rstr).length (sv (qs.map rstr)) ∧ Src w' b ∧ w.grownBy w' (some b)
theorem Rats_any (b n : Nat) (w : World) (hs : Src w b) (hn : n ≤ 1000) : Calls Tryz.prog 26 #[.pointer (some ⟨b, 0, none⟩), .int .i64 (n : Int)] w (RetRats w b n) := by
 obtain ⟨i0, hi, hz0, hz1, hz2⟩ := info_parts Tryz.infoRat
 have HS := Lib.hid hs
 have hbw := hs.lt
 clear hs
 go_enter Tryz.func26, Tryz.ntmps26
 go_wp2_with fail
 go_loopw [5, 6] (fun v iv wr => ∃ qs : List Rat, iv = .int .i64 (qs.length : Int) ∧ qs.length ≤ n ∧ (∀ q ∈ qs, Small1 q) ∧ wr.ownsRow w.heap.size 29 1 v (qs.map rstr).length (sv (qs.map rstr)) ∧ Src wr b ∧ w.grownBy wr (some b)) (fun _ iv _ => n - (intOf iv).toNat)
 case atStart => exact ⟨[], rfl, Nat.zero_le _, by simp, World.ownsRow_nil _ _ _ _, HS.out, World.grownBy.refl _ _⟩
 case round =>
  obtain ⟨qs, rfl, hqn, hsm, hown, hsr, hgr⟩ := hrel
  have HSM := Lib.hid hsm
  have HOWN := Lib.hid hown
  have HSR := Lib.hid hsr
  have HGR := Lib.hid hgr
  have hsz := hgr.size
  clear hsm hown hsr hgr
  by_cases hlt : qs.length < n
  ·go_wp2_with fail
   refine (MRat_any b wr HSR.out).mono ?_
   rintro e w2 ⟨q, rfl, hq, hs2, hg2⟩
   have HQ := Lib.hid hq
   have HS2 := Lib.hid hs2
   have HG2 := Lib.hid (grown_trans HGR.out hg2)
   have HO2 := Lib.hid (own_grown HOWN.out hg2 hbw)
   have hsz2 : w.heap.size ≤ w2.heap.size := HG2.out.size
   have hml : (qs.map rstr).length ≤ 1000 := by simp; omega
   clear hq hs2 hg2
   go_wp2_with (at_builtin; refine wpList_append_own _ rfl _ _ 33 rfl w.heap.size 29 i0 (.string ⟨#[]⟩) 1 16 Tryz.underlying33 hi hz0 hz1 hz2 rfl (by decide) _ _ _ rfl (HO2.out.alloc _) ⟨w2.heap.size, 0, none⟩ 1 1 [_] rfl rfl one_new one_str (by unfold maxLen; omega) (by omega) (by simp; omega) ?_)
   intro v' w3 hown3 hgrow3 _
   have hown4 : w3.ownsRow w.heap.size 29 1 v' ((qs.map rstr).length + 1) (sv (qs.map rstr) ++ [.string (rstr q)]) := by rw [List.length_map]; exact hown3
   obtain ⟨ho3, hk3, hs3, hg3⟩ := sown_push HO2.out hsz2 hown4 hgrow3
   have HO3 := Lib.hid ho3
   have HS3 := Lib.hid (HS2.out.above hs3 (fun i hi => hk3 i (by omega)))
   have HG3 := Lib.hid (hg3 w (some b) (Nat.le_refl _) HG2.out)
   clear hown3 hown4 hgrow3 ho3 hk3 hs3 hg3
   go_wp2_with fail
   go_roundw
   case rel => exact ⟨qs ++ [q], by simp, by simp; omega, fun x hx => (List.mem_append.1 hx).elim (HSM.out x) (fun h => by rw [List.mem_singleton.1 h]; exact HQ.out), by rw [List.map_append]; exact HO3.out, HS3.out, HG3.out⟩
   case measure => simp [intOf]; omega
  ·go_wp2_with fail
   go_ret
   exact ⟨_, qs, rfl, by omega, HSM.out, HOWN.out, HSR.out, HGR.out⟩
def shortB (ss : List ByteArray) : Bool := decide (ss.length ≤ 14) && ss.all fun s => decide (s.size ≤ 30)
end Go.Proofs.YtajlojhklhlljaaGreatDoor
