import Derived.Test.YtajlojhklhlljaaGreatDoorZMH
import Derived.Test.YtajlojhklhlljaaGreatDoorZMJ
import Derived.Test.YtajlojhklhlljaaGreatDoorZMA
import Derived.Test.YtajlojhklhlljaaGreatDoorZXA
import Derived.Test.YtajlojhklhlljaaGreatDoorZV
set_option maxHeartbeats 16000000
set_option maxRecDepth 100000
set_option linter.unusedVariables false
set_option linter.unusedSimpArgs false
set_option linter.unusedSectionVars false
namespace Go.Proofs.YtajlojhklhlljaaGreatDoor
open Go.RowKit
structure MatF (rs : List RowT) (m n : Nat) (M : Nat → Nat → Rat) : Prop where
 len : rs.length = m
 row : ∀ r ∈ rs, r.ss.length = n
 cel : ∀ i k, (hi : i < rs.length) → (hk : k < rs[i].ss.length) → rs[i].ss[k] = rstr (M i k)
 fit : ∀ i k, i < m → k < n → FitsR (M i k)
section
variable {rs : List RowT} {m n k0 : Nat} {M N : Nat → Nat → Rat}
theorem MatF.rowAt (h : MatF rs m n M) {i : Nat} (hi : i < rs.length) : rs[i].ss.length = n := h.row _ (List.getElem_mem hi)
theorem MatF.fine (h : MatF rs m n M) (hm : m ≤ 12) (hn : n ≤ 12) (h0 : m = 0 → n = 0) : FineM rs n := by
 refine ⟨by rw [h.len]; exact hm, hn, h.row, fun r hr s hs => ?_, fun e => h0 (by rw [← h.len, e]; rfl)⟩
 obtain ⟨i, hi, rfl⟩ := List.getElem_of_mem hr
 obtain ⟨k, hk, rfl⟩ := List.getElem_of_mem hs
 have hl := h.rowAt hi
 have hf := h.fit i k (by rw [← h.len]; exact hi) (by omega)
 rw [h.cel i k hi hk]
 refine ⟨vR_rstr hf, ?_⟩
 rw [rstr_size]
 have := rtext_len hf
 omega
theorem MatF.q (h : MatF rs m n M) {i k : Nat} (hi : i < m) (hk : k < n) : matQ rs i k = M i k := by
 have hi' : i < rs.length := by rw [h.len]; exact hi
 have hk' : k < rs[i].ss.length := by rw [h.rowAt hi']; exact hk
 rw [matQ_at hi' hk', h.cel i k hi' hk', valS_rstr (h.fit i k hi hk)]
theorem MatF.congr (h : MatF rs m n M) (e : ∀ i k, i < m → k < n → M i k = N i k) : MatF rs m n N := by
 refine ⟨h.len, h.row, fun i k hi hk => ?_, fun i k hi hk => by rw [← e i k hi hk]; exact h.fit i k hi hk⟩
 have hl := h.rowAt hi
 have := h.len
 rw [h.cel i k hi hk, e i k (by omega) (by omega)]
theorem MatF.det (h : MatF rs n n M) : det rs.length (matQ rs) = det n M := by
 rw [h.len]
 exact (det_alt n).ext _ _ fun r c hr hc => h.q hr hc
theorem MatF.light (h : MatF rs m n M) (hm : m ≤ 4) (hn : n ≤ 4) (hk1 : 1 ≤ k0) (hk : k0 ≤ 8) (hd : ∀ i k, i < m → k < n → DigR k0 (M i k)) : ¬ 600 < heft rs n := by
 have hlen := h.len
 have hL : ∀ l ∈ matL rs, l.length ≤ 4 ∧ ∀ q ∈ l, DigR k0 q := fun l hl => by
  obtain ⟨r, hr, rfl⟩ := List.mem_map.1 hl
  refine ⟨by rw [List.length_map, h.row r hr]; exact hn, fun q hq => ?_⟩
  obtain ⟨s, hs, rfl⟩ := List.mem_map.1 hq
  obtain ⟨i, hi, rfl⟩ := List.getElem_of_mem hr
  obtain ⟨k, hk, rfl⟩ := List.getElem_of_mem hs
  have hl := h.rowAt hi
  rw [h.cel i k hi hk, valS_rstr (h.fit i k (by omega) (by omega))]
  exact hd i k (by omega) (by omega)
 have hlL : (matL rs).length = m := by unfold matL; rw [List.length_map, hlen]
 have hD : Dig (1 + 4 * (4 * k0)) (matD rs) := by
  have h1 := denM_dig (a := 1) (d := 1) (m := matL rs) (by unfold Dig; decide) hL
  refine h1.mono ?_
  rw [hlL]
  have : m * (4 * k0) ≤ 4 * (4 * k0) := Nat.mul_le_mul_right _ hm
  omega
 have hQ : ∀ i k, DigR k0 (matQ rs i k) := fun i k => by
  by_cases hi : i < m
  ·by_cases hk : k < n
   ·rw [h.q hi hk]; exact hd i k hi hk
   ·have h0 : matQ rs i k = 0 := by
     unfold matQ
     rw [List.getD_eq_getElem?_getD]
     have h9 : ((matL rs).getD i []).length ≤ n := by
      rw [List.getD_eq_getElem?_getD]
      rcases h2 : (matL rs)[i]? with _ | l
      ·simp
      ·obtain ⟨r, hr, rfl⟩ := List.mem_map.1 (List.mem_of_getElem? h2)
       have := h.row r hr
       simp
       omega
     rw [List.getElem?_eq_none (by omega)]
     rfl
    rw [h0]
    exact dig_zero.mono hk1
  ·have h0 : matQ rs i k = 0 := by
    unfold matQ
    rw [List.getD_eq_getElem?_getD (l := matL rs), List.getElem?_eq_none (l := matL rs) (by omega)]
    rfl
   rw [h0]
   exact dig_zero.mono hk1
 have hdig : digT (matD rs) (matP rs) rs.length n ≤ 1 + 17 * k0 := by
  refine mxTab_le ?_ fun i k hi hk => ?_
  ·have := dig_nd (k := 4 * (4 * k0)) (by rw [Nat.add_comm]; exact hD)
   omega
  ·have h1 : Dig (k0 + 4 * (4 * k0) + 1) (matP rs i k) := by
    have := celN_dig hD (hQ i k)
    rw [show k0 + 4 * (4 * k0) + 1 = k0 + (1 + 4 * (4 * k0)) by omega]
    exact this
   have := dig_nd h1
   show nd (matP rs i k) ≤ _
   omega
 unfold heft
 have h2 : max rs.length n ≤ 4 := by omega
 have h3 := Nat.mul_le_mul h2 hdig
 omega
theorem MatF.detS (h : MatF rs n n M) (hl : ¬ 600 < heft rs n) : detS rs = outR (Proofs.YtajlojhklhlljaaGreatDoor.det n M) ∧ detE rs = outRE (Proofs.YtajlojhklhlljaaGreatDoor.det n M) := by
 have e := h.det
 rw [← h.len] at hl
 unfold Proofs.YtajlojhklhlljaaGreatDoor.detS detE
 rw [if_neg hl, if_neg hl, e]
 exact ⟨rfl, rfl⟩
end
def celQ (qss : List (List Rat)) (i k : Nat) : Rat := (qss.getD i []).getD k 0
theorem matF_of {rs : List RowT} {qss : List (List Rat)} {m n : Nat} (hm : qss.length = m) (hq : ∀ l ∈ qss, l.length = n ∧ ∀ q ∈ l, FitsR q) (h : rs.map (·.ss) = qss.map (·.map rstr)) : MatF rs m n (celQ qss) := by
 have hl : rs.length = qss.length := by have := congrArg List.length h; simpa using this
 have hr : ∀ i, (hi : i < rs.length) → (hj : i < qss.length) → rs[i].ss = qss[i].map rstr := fun i hi hj => by
  have h1 : (rs.map (·.ss))[i]? = (qss.map (·.map rstr))[i]? := by rw [h]
  rw [List.getElem?_map, List.getElem?_map, List.getElem?_eq_getElem hi, List.getElem?_eq_getElem hj] at h1
  simpa using h1
 have hc : ∀ i k, (hj : i < qss.length) → (hk : k < qss[i].length) → celQ qss i k = qss[i][k] := fun i k hj hk => by
  unfold celQ
  rw [List.getD_eq_getElem?_getD, List.getD_eq_getElem?_getD, List.getElem?_eq_getElem hj, Option.getD_some, List.getElem?_eq_getElem hk]
  rfl
 refine ⟨by omega, fun r hr2 => ?_, fun i k hi hk => ?_, fun i k hi hk => ?_⟩
 ·obtain ⟨i, hi, rfl⟩ := List.getElem_of_mem hr2
  rw [hr i hi (by omega), List.length_map]
  exact (hq _ (List.getElem_mem _)).1
 ·have hj : i < qss.length := by omega
  have e := hr i hi hj
  have hk2 : k < qss[i].length := by rw [e, List.length_map] at hk; exact hk
  rw [hc i k hj hk2]
  simp only [e, List.getElem_map]
 ·have hj : i < qss.length := by omega
  have hk2 : k < qss[i].length := by rw [(hq _ (List.getElem_mem hj)).1]; exact hk
  rw [hc i k hj hk2]
  exact (hq _ (List.getElem_mem hj)).2 _ (List.getElem_mem hk2)
theorem celQ_all {qss : List (List Rat)} {m n : Nat} (hm : qss.length = m) {p : Rat → Prop} (hq : ∀ l ∈ qss, l.length = n ∧ ∀ q ∈ l, p q) : ∀ i k, i < m → k < n → p (celQ qss i k) := fun i k hi hk => by
 have hj : i < qss.length := by omega
 have hk2 : k < qss[i].length := by rw [(hq _ (List.getElem_mem hj)).1]; exact hk
 have hc : celQ qss i k = qss[i][k] := by
  unfold celQ
  rw [List.getD_eq_getElem?_getD, List.getD_eq_getElem?_getD, List.getElem?_eq_getElem hj, Option.getD_some, List.getElem?_eq_getElem hk2]
  rfl
 rw [hc]
 exact (hq _ (List.getElem_mem hj)).2 _ (List.getElem_mem hk2)
end Go.Proofs.YtajlojhklhlljaaGreatDoor
namespace Go.Proofs.YtajlojhklhlljaaGreatDoor
open Go.RowKit
section
variable {rs : List RowT} {m n : Nat} {M : Nat → Nat → Rat}
theorem MatF.det_eq (h : MatF rs n n M) {q : Rat} (hl : ¬ 600 < heft rs n) (hd : Proofs.YtajlojhklhlljaaGreatDoor.det n M = q) (hf : FitsR q) : Proofs.YtajlojhklhlljaaGreatDoor.detS rs = rstr q ∧ detE rs = 0 := by
 obtain ⟨h1, h2⟩ := h.detS hl
 rw [hd] at h1 h2
 rw [h1, h2, outR_fits hf, outRE_fits hf]
 exact ⟨rfl, rfl⟩
end
def lowZ (M : Nat → Nat → Rat) (r : Nat) : Nat → Nat → Rat := fun a c => if a < r ∧ c < a then 0 else M a c
def plusM (M : Nat → Nat → Rat) (i k : Nat) (f : Rat) : Nat → Nat → Rat := upd M i (fun c => M i c + f * M k c)
end Go.Proofs.YtajlojhklhlljaaGreatDoor
namespace Go.Proofs.YtajlojhklhlljaaGreatDoor
open Go.RowKit
structure RowI (B : Nat) (w : World) (A : Option Addr) (ss : List ByteArray) : Prop where
 s : Strs w A ss
 lo : ∀ g off x, A = some ⟨g, off, x⟩ → B ≤ g ∧ g < w.heap.size
section
variable {B b : Nat} {w w' : World} {A : Option Addr} {ss : List ByteArray}
theorem RowI.of_own {e c : Nat} (h : w.ownsRow B e 1 (.slice A ss.length c) ss.length (sv ss)) : RowI B w A ss := by
 obtain ⟨A', c', e1, -, hs, hl⟩ := own_strs h
 injection e1 with e1
 subst e1
 refine ⟨hs, fun g off x e2 => ?_⟩
 rcases h.2 with ⟨hv, h0⟩ | ⟨g0, cap, cur, hv, hB, _⟩
 ·rw [e2] at hv
  injection hv with hv
  cases hv
 ·rw [e2] at hv
  injection hv with hv
  injection hv with hv
  injection hv with hv
  subst hv
  exact h.lt g (by rw [e2]; rfl)
theorem RowI.up (h : RowI B w A ss) (hs : w.heap.size ≤ w'.heap.size) (hk : ∀ i, B ≤ i → i < w.heap.size → w'.heap[i]? = w.heap[i]?) : RowI B w' A ss := by
 refine ⟨fun hn => ?_, fun g off x e => by have := h.lo g off x e; omega⟩
 obtain ⟨g, off, e, hg, hc⟩ := h.s hn
 refine ⟨g, off, e, by omega, fun i hi => ?_⟩
 rw [World.cell?_of_block (w := w) (hk g (h.lo _ _ _ e).1 hg)]
 exact hc i hi
theorem RowI.below (h : RowI B w A ss) (hb : Below w.heap.size w w') : RowI B w' A ss := h.up hb.size fun i _ hi => hb.block i hi
theorem RowI.grown (h : RowI B w A ss) (hg : w.grownBy w' (some b)) (hb : b < B) : RowI B w' A ss := h.up hg.size fun i h1 h2 => hg.block i h2 (fun e => by injection e with e; omega)
theorem RowI.mono {B' : Nat} (h : RowI B w A ss) (hb : B' ≤ B) : RowI B' w A ss := ⟨h.s, fun g off x e => by have := h.lo g off x e; omega⟩
theorem RowI.over (h : RowI B w A ss) {p : Addr} {u : Value} (hc : w.cell? p = some u) (hu : ∀ s, u ≠ .string s) (x : Value) : RowI B (w.setCell p x) A ss := by
 refine ⟨fun hn => ?_, fun g off x e => by have := h.lo g off x e; simpa using this⟩
 obtain ⟨g, off, e, hg, hk⟩ := h.s hn
 refine ⟨g, off, e, by simpa using hg, fun i hi => ?_⟩
 rw [World.cell?_setCell_other]
 ·exact hk i hi
 ·intro e2
  subst e2
  rw [hk i hi] at hc
  injection hc with hc
  exact hu _ hc.symm
theorem RowI.far (h : RowI B w A ss) {g : Nat} (hg : ∀ off x, A ≠ some ⟨g, off, x⟩) (j : Nat) (x : Value) : RowI B (w.setCell ⟨g, j, none⟩ x) A ss := by
 refine ⟨fun hn => ?_, fun g off x e => by have := h.lo g off x e; simpa using this⟩
 obtain ⟨g', off, e, hg', hk⟩ := h.s hn
 refine ⟨g', off, e, by simpa using hg', fun i hi => ?_⟩
 rw [World.cell?_setCell_other]
 ·exact hk i hi
 ·intro e2
  injection e2 with e3
  exact hg off none (by rw [e, e3])
end
structure TopM (B : Nat) (w : World) (V : Value) (rs : List RowT) : Prop where
 o : w.ownsRow B 33 1 V rs.length (rowt rs)
 i : ∀ r ∈ rs, RowI B w r.ad r.ss
section
variable {B b : Nat} {w w' : World} {V : Value} {rs : List RowT}
theorem MatOwn.topM (h : MatOwn B w V rs) : TopM B w V rs := ⟨h.o, fun r hr => RowI.of_own (h.i r hr)⟩
theorem TopM.below (h : TopM B w V rs) (hb : Below w.heap.size w w') : TopM B w' V rs := ⟨own_belowF h.o hb, fun r hr => (h.i r hr).below hb⟩
theorem TopM.alloc (h : TopM B w V rs) (o : Obj) : TopM B (w.alloc o) V rs := h.below ((Below.refl _ _).alloc (Nat.le_refl _) o)
theorem TopM.grown (h : TopM B w V rs) (hg : w.grownBy w' (some b)) (hb : b < B) : TopM B w' V rs := ⟨own_grown h.o hg hb, fun r hr => (h.i r hr).grown hg hb⟩
theorem TopM.mono {B' : Nat} (h : TopM B w V rs) (hb : B' ≤ B) : TopM B' w V rs := ⟨ownMono h.o hb, fun r hr => (h.i r hr).mono hb⟩
theorem TopM.read {A : Option Addr} {c : Nat} (h : TopM B w (.slice A rs.length c) rs) : MatIn w A rs := ⟨ownLies h.o, fun r hr => (h.i r hr).s⟩
theorem rowt_set (rs : List RowT) (i : Nat) (r : RowT) : rowt (rs.set i r) = (rowt rs).set i (.slice r.ad r.ss.length r.cp) := by simp [rowt, List.map_set]
theorem TopM.top {g c : Nat} (h : TopM B w (.slice (some ⟨g, 0, none⟩) rs.length c) rs) {i : Nat} (hi : i < rs.length) : w.cell? ⟨g, i, none⟩ = some (.slice rs[i].ad rs[i].ss.length rs[i].cp) ∧ w.frozen? ⟨g, i, none⟩ = false := by
 refine ⟨?_, h.o.frozenAt i⟩
 rw [h.o.cellAt i (by omega), rowt_get hi]
theorem TopM.set {g c : Nat} (h : TopM B w (.slice (some ⟨g, 0, none⟩) rs.length c) rs) {i : Nat} (hi : i < rs.length) {r : RowT} (hr : RowI B w r.ad r.ss) : TopM B (w.setCell ⟨g, i, none⟩ (.slice r.ad r.ss.length r.cp)) (.slice (some ⟨g, 0, none⟩) rs.length c) (rs.set i r) := by
 have hk := (h.top hi).1
 refine ⟨?_, fun a ha => ?_⟩
 ·rw [List.length_set, rowt_set]
  exact (h.o.stored i _).1
 ·rcases List.mem_or_eq_of_mem_set ha with h1 | rfl
  ·exact (h.i a h1).over hk (fun s e => by cases e) _
  ·exact hr.over hk (fun s e => by cases e) _
end
theorem strs_news {w : World} {b off : Nat} {ss : List ByteArray} (h : Strs w (some ⟨b, off, none⟩) ss) : ∀ (j : Nat) (u : Value), (sv ss)[j]? = some u → w.cell? ((⟨b, off, none⟩ : Addr).add j) = some u := fun j u hj => by
 have hadd : (⟨b, off, none⟩ : Addr).add j = ⟨b, off + j, none⟩ := by unfold Addr.add; split <;> simp_all
 have hj' : j < ss.length := by have := (List.getElem?_eq_some_iff.1 hj).1; rwa [sv_length] at this
 obtain ⟨b', off', e, -, hc⟩ := h (by intro e; subst e; simp at hj')
 injection e with e
 injection e with e1 e2
 subst e1 e2
 rw [hadd, hc j hj']
 unfold sv at hj
 rw [List.getElem?_map, List.getElem?_eq_getElem hj'] at hj
 exact hj
theorem sv_one {ss : List ByteArray} : ∀ u ∈ sv ss, u.oneCell' = true := fun u hu => by
 obtain ⟨s, -, rfl⟩ := List.mem_map.1 hu
 rfl
theorem rowt_one {rs : List RowT} : ∀ u ∈ rowt rs, u.oneCell' = true := fun u hu => by
 obtain ⟨s, -, rfl⟩ := List.mem_map.1 hu
 rfl
theorem TopM.news {B : Nat} {w : World} {g c : Nat} {rs : List RowT} (h : TopM B w (.slice (some ⟨g, 0, none⟩) rs.length c) rs) : ∀ (j : Nat) (u : Value), (rowt rs)[j]? = some u → w.cell? ((⟨g, 0, none⟩ : Addr).add j) = some u := h.o.cells (g := g) rfl
theorem RowI.nil (B : Nat) (w : World) : RowI B w none [] := ⟨fun h => absurd rfl h, fun g off x e => by cases e⟩
structure UpS (B : Nat) (W0 wr : World) (U cU : Nat) (rs : List RowT) (r g cp : Nat) (ts : List ByteArray) : Prop where
 top : wr.ownsRow B 33 1 (.slice (some ⟨U, 0, none⟩) rs.length cU) rs.length (rowt (rs.set r ⟨some ⟨g, 0, none⟩, cp, ts⟩))
 row : wr.ownsRow B 29 1 (.slice (some ⟨g, 0, none⟩) ts.length cp) ts.length (sv ts)
 oth : ∀ j, (hj : j < rs.length) → j ≠ r → RowI B wr rs[j].ad rs[j].ss ∧ ∀ off x, rs[j].ad ≠ some ⟨g, off, x⟩
 bel : Below B W0 wr
theorem sv_set (ss : List ByteArray) (i : Nat) (s : ByteArray) : sv (ss.set i s) = (sv ss).set i (.string s) := by simp [sv, List.map_set]
theorem sv_get {ss : List ByteArray} {i : Nat} (h : i < ss.length) : (sv ss)[i]? = some (.string ss[i]) := by simp [sv, h]
section
variable {B : Nat} {W0 wr w' : World} {U cU : Nat} {rs : List RowT} {r g cp : Nat} {ts : List ByteArray}
theorem UpS.put (h : UpS B W0 wr U cU rs r g cp ts) (c : Nat) (s : ByteArray) : UpS B W0 (wr.setCell ⟨g, c, none⟩ (.string s)) U cU rs r g cp (ts.set c s) := by
 have h1 := h.row.stored c (.string s)
 rw [← sv_set] at h1
 have ht := h.top.kept h1.2 (own_ne h.top h.row (by decide))
 refine ⟨?_, by rw [List.length_set]; exact h1.1, fun j hj hne => ⟨(h.oth j hj hne).1.far (h.oth j hj hne).2 c _, (h.oth j hj hne).2⟩, h.bel.setCell (p := ⟨g, c, none⟩) (h.row.lt g rfl).1 _⟩
 rw [rowt_set] at ht ⊢
 simp only [List.length_set]
 exact ht
theorem UpS.below (h : UpS B W0 wr U cU rs r g cp ts) (hB : B ≤ wr.heap.size) (hb : Below wr.heap.size wr w') : UpS B W0 w' U cU rs r g cp ts :=
 ⟨own_belowF h.top hb, own_belowF h.row hb, fun j hj hne => ⟨(h.oth j hj hne).1.below hb, (h.oth j hj hne).2⟩, h.bel.trans (hb.mono hB)⟩
theorem UpS.done (h : UpS B W0 wr U cU rs r g cp ts) : TopM B wr (.slice (some ⟨U, 0, none⟩) rs.length cU) (rs.set r ⟨some ⟨g, 0, none⟩, cp, ts⟩) := by
 refine ⟨by rw [List.length_set]; exact h.top, fun a ha => ?_⟩
 obtain ⟨j, hj, rfl⟩ := List.getElem_of_mem ha
 have hj' : j < rs.length := by simpa using hj
 by_cases e : j = r
 ·subst e
  rw [List.getElem_set_self]
  exact RowI.of_own h.row
 ·rw [List.getElem_set_ne (Ne.symm e)]
  exact (h.oth j hj' e).1
theorem UpS.start {c : Nat} (h : TopM B wr (.slice (some ⟨U, 0, none⟩) rs.length cU) rs) (hr : r < rs.length) (hown : w'.ownsRow wr.heap.size 29 1 (.slice (some ⟨g, 0, none⟩) ts.length cp) ts.length (sv ts)) (hb : Below wr.heap.size wr w') (hB : B ≤ wr.heap.size) (hbel : Below B W0 wr) :
  UpS B W0 (w'.setCell ⟨U, r, none⟩ (.slice (some ⟨g, 0, none⟩) ts.length cp)) U cU rs r g cp ts := by
 have h1 := h.below hb
 have hg := (hown.lt g rfl).1
 have h2 := h1.set hr (r := ⟨some ⟨g, 0, none⟩, cp, ts⟩) ((RowI.of_own hown).mono hB)
 have hU := (h.o.lt U rfl)
 have ho2 := hown.kept (h1.o.stored r (.slice (some ⟨g, 0, none⟩) ts.length cp)).2 (own_ne hown h1.o (by decide))
 refine ⟨by have := h2.o; rw [List.length_set] at this; exact this, ownMono ho2 hB, fun j hj hne => ⟨?_, fun off x e => ?_⟩, (hbel.trans (hb.mono hB)).setCell (p := ⟨U, r, none⟩) hU.1 _⟩
 ·have := h2.i rs[j] (by
   rw [List.mem_iff_getElem]
   exact ⟨j, by simpa using hj, List.getElem_set_ne (Ne.symm hne) _⟩)
  exact this
 ·have := (h.i _ (List.getElem_mem hj)).lo _ _ _ e
  omega
end
theorem mul_fit_call (a b : Rat) (w : World) (ha : FitsR a) (hb : FitsR b) (hf : FitsR (a * b)) : Calls Tryz.prog 20 #[.string (rstr a), .string (rstr b)] w fun e w' => e = .returned (.tuple #[.string (rstr (a * b)), .int .i64 0]) ∧ Below w.heap.size w w' := by
 have h := RFMulT_ok a b w ha hb
 rw [outR_fits hf, outRE_fits hf] at h
 exact h
end Go.Proofs.YtajlojhklhlljaaGreatDoor
namespace Go.Proofs.YtajlojhklhlljaaGreatDoor
open Go.RowKit
theorem text_ne {x y : ByteArray} (h : x ≠ y) : (x.toList == y.toList) = false := by
 rw [beq_eq_false_iff_ne, Lib.toList_data, Lib.toList_data]
 intro e
 apply h
 cases x
 cases y
 simp only at e
 rw [ByteArray.mk.injEq, ← Array.toList_inj]
 exact e
theorem Same_of (A B : Option Addr) (xs ys : List ByteArray) (c d : Nat) (w : World) (h : Strs w A xs) (h2 : Strs w B ys) (hl : xs.length ≤ 1000) (hl2 : ys.length ≤ 1000) : Calls Tryz.prog 35 #[.slice A xs.length c, .slice B ys.length d] w fun e w' => e = .returned (.bool (decide (xs = ys))) ∧ Below w.heap.size w w' := by
 have HC := Lib.hid h
 have HD := Lib.hid h2
 clear h h2
 by_cases hll : xs.length = ys.length
 ·have HLL := Lib.hid hll
  have hn : ((xs.length : Int) != (ys.length : Int)) = false := by rw [hll]; simp
  have hll2 : xs.length ≤ ys.length := by omega
  clear hll
  go_enter Tryz.func35, Tryz.ntmps35
  go_wp2_with fail
  clear hn
  go_loopw [13] (fun iv wr => ∃ k m : Nat, iv = .int .i64 (k : Int) ∧ k ≤ xs.length ∧ xs.take k = ys.take k ∧ wr = w.drewN m) (fun iv _ => xs.length - (intOf iv).toNat)
  case atStart => exact ⟨0, 0, rfl, Nat.zero_le _, rfl, rfl⟩
  case round =>
   obtain ⟨k, m, rfl, hk, hall, rfl⟩ := hrel
   have HALL := Lib.hid hall
   clear hall
   by_cases hlt : k < xs.length
   ·obtain ⟨b, off, rfl, hb, hc⟩ := HC.out (by intro e; subst e; simp at hlt)
    obtain ⟨b', off', rfl, hb', hc'⟩ := HD.out (by intro e; rw [e] at hll2; simp only [List.length_nil] at hll2; omega)
    have hky : k < ys.length := by omega
    have hck := hc k hlt
    have hck' := hc' k hky
    have HN := Lib.hid (fun (h : xs[k] ≠ ys[k]) => show decide (xs = ys) = false from decide_eq_false fun e => h (by simp only [e]))
    have HS := Lib.hid (fun (h : xs[k] = ys[k]) => show xs.take (k + 1) = ys.take (k + 1) by
     rw [List.take_succ_eq_append_getElem hlt, List.take_succ_eq_append_getElem hky, HALL.out, h])
    generalize xs[k] = x at *
    generalize ys[k] = y at *
    clear hc hc'
    by_cases hxy : x = y
    ·have E := Lib.hid (HS.out hxy)
     subst hxy
     clear HS HN
     go_wp2_with fail
     go_quiet (fail)
     go_wp2_with fail
     go_roundw
     case rel => exact ⟨k + 1, _, by go_num, by omega, E.out, rfl⟩
     case measure => simp [intOf]; omega
    ·have E := Lib.hid (HN.out hxy)
     have hne : (x.toList == y.toList) = false := text_ne hxy
     clear HS HN
     go_wp2_with fail
     go_quiet (fail)
     go_wp2_with fail
     go_ret
     exact ⟨by rw [E.out]; rfl, below_drewN (below_drewN (Below.refl _ _) _) _⟩
   ·have E := Lib.hid (show decide (xs = ys) = true from decide_eq_true (by
     have h1 := HALL.out
     have h2 := HLL.out
     rw [List.take_of_length_le (by omega), List.take_of_length_le (by omega)] at h1
     exact h1))
    go_wp2_with fail
    go_ret
    exact ⟨by rw [E.out]; rfl, below_drewN (Below.refl _ _) _⟩
 ·have E := Lib.hid (show decide (xs = ys) = false from decide_eq_false fun e => hll (by rw [e]))
  have hn : ((xs.length : Int) != (ys.length : Int)) = true := by rw [bne, Bool.not_eq_true', beq_eq_false_iff_ne]; omega
  clear hll
  go_enter Tryz.func35, Tryz.ntmps35
  go_wp2_with fail
  go_ret
  exact ⟨by rw [E.out]; rfl, Below.refl _ _⟩
end Go.Proofs.YtajlojhklhlljaaGreatDoor
namespace Go.Proofs.YtajlojhklhlljaaGreatDoor
open Go.RowKit
theorem t_d {n : Nat} (h : n < 10) : rstr ((n : Int) : Rat) = ⟨#[UInt8.ofNat (48 + n)]⟩ := by
 rw [rstr_int]
 unfold str
 rw [itoa_d h]
theorem t_m2 : rstr (-2) = ⟨#[45, 50]⟩ := by
 rw [show (-2 : Rat) = ((-2 : Int) : Rat) from rfl, rstr_int]
 unfold str
 rw [show (-2 : Int) = -((2 : Nat) : Int) from rfl, itoa_nd (by decide) (by decide)]
 rfl
theorem t_14 : rstr (Rat.divInt 1 4) = ⟨#[49, 47, 52]⟩ := rstr_lit (n := 1) (d := 4) (by decide +kernel) (by decide +kernel) (by decide) (itoa_d (n := 1) (by decide)) (itoa_d (n := 4) (by decide))
theorem small_fits {z : Int} (h : z.natAbs < 1000000000) : FitsR (z : Rat) := fitsR_small (by rw [Rat.num_intCast]; exact h) (by rw [Rat.den_intCast]; decide)
theorem val_d {n : Nat} (h : n < 10) : valS ⟨#[UInt8.ofNat (48 + n)]⟩ = ((n : Int) : Rat) := by
 rw [← t_d h]
 exact valS_rstr (small_fits (by omega))
def two22 (a b c d : Int) (i k : Nat) : Int := if i = 0 then (if k = 0 then a else if k = 1 then b else 0) else if i = 1 then (if k = 0 then c else if k = 1 then d else 0) else 0
def rows22 (A0 A1 : Option Addr) (c0 c1 : Nat) (a b c d : Nat) : List RowT := [⟨A0, c0, [⟨#[UInt8.ofNat (48 + a)]⟩, ⟨#[UInt8.ofNat (48 + b)]⟩]⟩, ⟨A1, c1, [⟨#[UInt8.ofNat (48 + c)]⟩, ⟨#[UInt8.ofNat (48 + d)]⟩]⟩]
section
variable {A0 A1 : Option Addr} {c0 c1 a b c d : Nat} (ha : a < 10) (hb : b < 10) (hc : c < 10) (hd : d < 10)
include ha hb hc hd
theorem rows22_mat : MatF (rows22 A0 A1 c0 c1 a b c d) 2 2 (fun i k => (two22 a b c d i k : Rat)) := by
 refine ⟨rfl, fun r hr => ?_, fun i k hi hk => ?_, fun i k hi hk => ?_⟩
 ·simp [rows22] at hr
  rcases hr with rfl | rfl <;> rfl
 ·have hi' : i < 2 := hi
  have h2 : i = 0 ∨ i = 1 := by omega
  rcases h2 with rfl | rfl
  ·have hk' : k < 2 := hk
   have h3 : k = 0 ∨ k = 1 := by omega
   rcases h3 with rfl | rfl
   ·exact (t_d ha).symm
   ·exact (t_d hb).symm
  ·have hk' : k < 2 := hk
   have h3 : k = 0 ∨ k = 1 := by omega
   rcases h3 with rfl | rfl
   ·exact (t_d hc).symm
   ·exact (t_d hd).symm
 ·refine small_fits ?_
  unfold two22
  split <;> split <;> (try split) <;> (try split) <;> omega
theorem rows22_L : matL (rows22 A0 A1 c0 c1 a b c d) = [[((a : Int) : Rat), ((b : Int) : Rat)], [((c : Int) : Rat), ((d : Int) : Rat)]] := by
 unfold matL rows22
 simp only [List.map_cons, List.map_nil]
 rw [val_d ha, val_d hb, val_d hc, val_d hd]
theorem rows22_D : matD (rows22 A0 A1 c0 c1 a b c d) = 1 := by
 unfold matD
 rw [rows22_L ha hb hc hd]
 simp only [denM, denL, Rat.den_intCast]
 rfl
theorem rows22_P : matP (rows22 A0 A1 c0 c1 a b c d) = two22 a b c d := by
 funext i k
 unfold matP
 rw [rows22_D ha hb hc hd]
 unfold matQ
 rw [rows22_L ha hb hc hd]
 have h1 : ∀ z : Int, celN 1 (z : Rat) = z := fun z => by
  unfold celN
  rw [Rat.num_intCast, Rat.den_intCast]
  show z * (1 / 1) = z
  omega
 have h0 : celN 1 (0 : Rat) = 0 := h1 0
 match i, k with
 | 0, 0 => exact h1 _
 | 0, 1 => exact h1 _
 | 0, k + 2 => exact h0
 | 1, 0 => exact h1 _
 | 1, 1 => exact h1 _
 | 1, k + 2 => exact h0
 | i + 2, k =>
  have e : two22 a b c d (i + 2) k = 0 := by unfold two22; rw [if_neg (by omega), if_neg (by omega)]
  rw [e]
  exact h0
theorem rows22_fine : FineM (rows22 A0 A1 c0 c1 a b c d) 2 := (rows22_mat ha hb hc hd).fine (by decide) (by decide) (fun h => by omega)
theorem rows22_light : ¬ 600 < heft (rows22 A0 A1 c0 c1 a b c d) 2 := (rows22_mat ha hb hc hd).light (k0 := 1) (by decide) (by decide) (by decide) (by decide) fun i k _ _ => by
 refine DigR.ofInt ?_ (by decide)
 unfold Dig two22
 split <;> split <;> (try split) <;> (try split) <;> omega
theorem rows22_det : detS (rows22 A0 A1 c0 c1 a b c d) = rstr (((a : Int) * d - c * b : Int) : Rat) ∧ detE (rows22 A0 A1 c0 c1 a b c d) = 0 := by
 refine (rows22_mat ha hb hc hd).det_eq (rows22_light ha hb hc hd) ?_ (small_fits ?_)
 ·simp only [det, sumR, mnr, skp, sgD, two22]
  simp only [Rat.intCast_sub, Rat.intCast_mul]
  simp
  grind
 ·have h1 : a * d ≤ 9 * 9 := Nat.mul_le_mul (by omega) (by omega)
  have h2 : c * b ≤ 9 * 9 := Nat.mul_le_mul (by omega) (by omega)
  have e1 : ((a : Int) * d) = ((a * d : Nat) : Int) := by simp
  have e2 : ((c : Int) * b) = ((c * b : Nat) : Int) := by simp
  rw [e1, e2]
  omega
end
theorem ker_ex : (eli 2 (two22 1 2 2 4) 2).ps = [0] ∧ (eli 2 (two22 1 2 2 4) 2).v = 1 ∧ (eli 2 (two22 1 2 2 4) 2).P 0 1 = 2 := ⟨by decide +kernel, by decide +kernel, by decide +kernel⟩
theorem ker_free {a : Nat} (h : FirstFree [0] a) : a = 1 := by
 obtain ⟨h1, h2, h3⟩ := h
 simp only [List.length_singleton] at h1 h3
 rcases Nat.lt_or_ge a 1 with h4 | h4
 ·obtain rfl : a = 0 := by omega
  exact absurd ⟨by omega, rfl⟩ h3
 ·omega
theorem ker_q {s : EliS} (hv : s.v = 1) (hP : s.P 0 1 = 2) : (List.range 2).map (kerQ s 1) = [-2, 1] := by
 show [kerQ s 1 0, kerQ s 1 1] = [-2, 1]
 unfold kerQ
 rw [if_neg (by decide), if_pos (by decide), if_pos rfl, hv, hP]
 rfl
def solE (i k : Nat) : Int := if k = 2 then (if i < 2 then 1 else 0) else two22 2 0 0 4 i k
theorem sol_ex : (eli 2 solE 2).ps.length = 2 ∧ (eli 2 solE 2).v = 8 ∧ (eli 2 solE 2).P 0 2 = 4 ∧ (eli 2 solE 2).P 1 2 = 2 := ⟨by decide +kernel, by decide +kernel, by decide +kernel, by decide +kernel⟩
end Go.Proofs.YtajlojhklhlljaaGreatDoor
namespace Go.Proofs.YtajlojhklhlljaaGreatDoor
open Go.RowKit
theorem lit3_bel (W : World) (A B C D E F : Value) : Below W.heap.size W (((W.alloc (.cells #[A, B] 29)).alloc (.cells #[C, D] 29)).alloc (.cells #[E, F] 33)) := (((Below.refl _ _).alloc (Nat.le_refl _) _).alloc (by simp) _).alloc (by simp; omega) _
theorem lit3_in (W : World) (a b c d : Nat) : MatIn (((W.alloc (.cells #[.string ⟨#[UInt8.ofNat (48 + a)]⟩, .string ⟨#[UInt8.ofNat (48 + b)]⟩] 29)).alloc (.cells #[.string ⟨#[UInt8.ofNat (48 + c)]⟩, .string ⟨#[UInt8.ofNat (48 + d)]⟩] 29)).alloc (.cells #[.slice (some ⟨W.heap.size, 0, none⟩) 2 2, .slice (some ⟨W.heap.size + 1, 0, none⟩) 2 2] 33)) (some ⟨W.heap.size + 1 + 1, 0, none⟩) (rows22 (some ⟨W.heap.size, 0, none⟩) (some ⟨W.heap.size + 1, 0, none⟩) 2 2 a b c d) := by
 obtain ⟨sa, hsa⟩ : ∃ s : ByteArray, ⟨#[UInt8.ofNat (48 + a)]⟩ = s := ⟨_, rfl⟩
 obtain ⟨sb, hsb⟩ : ∃ s : ByteArray, ⟨#[UInt8.ofNat (48 + b)]⟩ = s := ⟨_, rfl⟩
 obtain ⟨sc, hsc⟩ : ∃ s : ByteArray, ⟨#[UInt8.ofNat (48 + c)]⟩ = s := ⟨_, rfl⟩
 obtain ⟨sd, hsd⟩ : ∃ s : ByteArray, ⟨#[UInt8.ofNat (48 + d)]⟩ = s := ⟨_, rfl⟩
 unfold rows22
 rw [hsa, hsb, hsc, hsd]
 have h0 := ((Blk.new W 29 [.string sa, .string sb]).alloc (.cells #[.string sc, .string sd] 29)).alloc (.cells #[.slice (some ⟨W.heap.size, 0, none⟩) 2 2, .slice (some ⟨W.heap.size + 1, 0, none⟩) 2 2] 33)
 have h1 := (Blk.new' (w := W.alloc (.cells #[.string sa, .string sb] 29)) (g := W.heap.size + 1) (by simp) 29 [.string sc, .string sd]).alloc (.cells #[.slice (some ⟨W.heap.size, 0, none⟩) 2 2, .slice (some ⟨W.heap.size + 1, 0, none⟩) 2 2] 33)
 have h2 := Blk.new' (w := (W.alloc (.cells #[.string sa, .string sb] 29)).alloc (.cells #[.string sc, .string sd] 29)) (g := W.heap.size + 1 + 1) (by simp) 33 [.slice (some ⟨W.heap.size, 0, none⟩) 2 2, .slice (some ⟨W.heap.size + 1, 0, none⟩) 2 2]
 refine ⟨fun _ => ⟨W.heap.size + 1 + 1, 0, rfl, h2.lt, fun i hi => ?_⟩, fun r hr => ?_⟩
 ·rw [Nat.zero_add]
  refine h2.at_ ?_
  have h9 : i < 2 := hi
  have h8 : i = 0 ∨ i = 1 := by omega
  rcases h8 with rfl | rfl <;> rfl
 ·have h9 : r = ⟨some ⟨W.heap.size, 0, none⟩, 2, [sa, sb]⟩ ∨ r = ⟨some ⟨W.heap.size + 1, 0, none⟩, 2, [sc, sd]⟩ := by simpa using hr
  rcases h9 with rfl | rfl
  ·exact Strs.two h0
  ·exact Strs.two h1
theorem det_ex (W : World) (henv : Env W) : Calls Tryz.prog 18 #[.slice (some ⟨W.heap.size + 1 + 1, 0, none⟩) 2 2] (((W.alloc (.cells #[.string ⟨#[49]⟩, .string ⟨#[50]⟩] 29)).alloc (.cells #[.string ⟨#[51]⟩, .string ⟨#[52]⟩] 29)).alloc (.cells #[.slice (some ⟨W.heap.size, 0, none⟩) 2 2, .slice (some ⟨W.heap.size + 1, 0, none⟩) 2 2] 33)) fun e w' => e = .returned (.tuple #[.string ⟨#[45, 50]⟩, .int .i64 0]) ∧ Below W.heap.size W w' := by
 have hb := lit3_bel W (.string ⟨#[49]⟩) (.string ⟨#[50]⟩) (.string ⟨#[51]⟩) (.string ⟨#[52]⟩) (.slice (some ⟨W.heap.size, 0, none⟩) 2 2) (.slice (some ⟨W.heap.size + 1, 0, none⟩) 2 2)
 have hi : MatIn (((W.alloc (.cells #[.string ⟨#[49]⟩, .string ⟨#[50]⟩] 29)).alloc (.cells #[.string ⟨#[51]⟩, .string ⟨#[52]⟩] 29)).alloc (.cells #[.slice (some ⟨W.heap.size, 0, none⟩) 2 2, .slice (some ⟨W.heap.size + 1, 0, none⟩) 2 2] 33)) _ _ := lit3_in W 1 2 3 4
 have h := Determinant_any _ 2 _ _ hi (rows22_fine (by decide) (by decide) (by decide) (by decide)) (show 1 ≤ 2 by decide) (henv.below hb)
 obtain ⟨e1, e2⟩ := rows22_det (A0 := some ⟨W.heap.size, 0, none⟩) (A1 := some ⟨W.heap.size + 1, 0, none⟩) (c0 := 2) (c1 := 2) (a := 1) (b := 2) (c := 3) (d := 4) (by decide) (by decide) (by decide) (by decide)
 rw [e1, e2, show ((((1 : Nat) : Int) * ((4 : Nat) : Int) - ((3 : Nat) : Int) * ((2 : Nat) : Int) : Int) : Rat) = -2 from rfl, t_m2] at h
 exact h.mono fun e w' ⟨h1, h2⟩ => ⟨h1, hb.trans (h2.mono hb.size)⟩
theorem ker_ex2 (W : World) (henv : Env W) : Calls Tryz.prog 28 #[.slice (some ⟨W.heap.size + 1 + 1, 0, none⟩) 2 2] (((W.alloc (.cells #[.string ⟨#[49]⟩, .string ⟨#[50]⟩] 29)).alloc (.cells #[.string ⟨#[50]⟩, .string ⟨#[52]⟩] 29)).alloc (.cells #[.slice (some ⟨W.heap.size, 0, none⟩) 2 2, .slice (some ⟨W.heap.size + 1, 0, none⟩) 2 2] 33)) fun e w' => ∃ A c, e = .returned (.tuple #[.slice A 2 c, .int .i64 0]) ∧ Strs w' A [⟨#[45, 50]⟩, ⟨#[49]⟩] ∧ Below W.heap.size W w' := by
 have hb := lit3_bel W (.string ⟨#[49]⟩) (.string ⟨#[50]⟩) (.string ⟨#[50]⟩) (.string ⟨#[52]⟩) (.slice (some ⟨W.heap.size, 0, none⟩) 2 2) (.slice (some ⟨W.heap.size + 1, 0, none⟩) 2 2)
 have hi : MatIn (((W.alloc (.cells #[.string ⟨#[49]⟩, .string ⟨#[50]⟩] 29)).alloc (.cells #[.string ⟨#[50]⟩, .string ⟨#[52]⟩] 29)).alloc (.cells #[.slice (some ⟨W.heap.size, 0, none⟩) 2 2, .slice (some ⟨W.heap.size + 1, 0, none⟩) 2 2] 33)) _ _ := lit3_in W 1 2 2 4
 have h := Kernel_any _ 2 2 _ _ hi (rows22_fine (by decide) (by decide) (by decide) (by decide)) (show 1 ≤ 2 by decide) (by decide) (henv.below hb)
 rw [decide_eq_false (rows22_light (by decide) (by decide) (by decide) (by decide)), rows22_P (by decide) (by decide) (by decide) (by decide)] at h
 refine h.mono fun e w' h => ?_
 obtain ⟨k1, k2, k3⟩ := ker_ex
 rcases h with ⟨h1, -⟩ | ⟨-, a, hf, h1⟩
 ·exact absurd (show (eli 2 (two22 1 2 2 4) 2).ps.length = 2 from h1) (by rw [k1]; decide)
 ·have hf' : FirstFree (eli 2 (two22 1 2 2 4) 2).ps a := hf
  rw [k1] at hf'
  obtain rfl := ker_free hf'
  have e1 : (List.range 2).map (kerQ (eli (rows22 (some ⟨W.heap.size, 0, none⟩) (some ⟨W.heap.size + 1, 0, none⟩) 2 2 1 2 2 4).length (two22 1 2 2 4) 2) 1) = [-2, 1] := ker_q (s := eli 2 (two22 1 2 2 4) 2) k2 k3
  have h1' : RetTexts _ ((List.range 2).map (kerQ (eli (rows22 (some ⟨W.heap.size, 0, none⟩) (some ⟨W.heap.size + 1, 0, none⟩) 2 2 1 2 2 4).length (two22 1 2 2 4) 2) 1)) e w' := h1
  rw [e1] at h1'
  have f1 : FitsR (-2) := small_fits (z := -2) (by decide)
  have f2 : FitsR 1 := small_fits (z := 1) (by decide)
  rcases h1' with ⟨A, c, -, he, hs, hb2⟩ | ⟨⟨q, hq, hn⟩, -⟩
  ·refine ⟨A, c, he, ?_, hb.trans (hb2.mono hb.size)⟩
   have e2 : ([-2, 1] : List Rat).map rstr = [⟨#[45, 50]⟩, ⟨#[49]⟩] := by
    rw [List.map_cons, List.map_cons, List.map_nil, t_m2, show rstr 1 = ⟨#[49]⟩ from t_d (n := 1) (by decide)]
   rw [e2] at hs
   exact hs
  ·simp at hq
   rcases hq with rfl | rfl
   ·exact absurd f1 hn
   ·exact absurd f2 hn
theorem sol_P {A0 A1 : Option Addr} {c0 c1 : Nat} : solN (rows22 A0 A1 c0 c1 2 0 0 4) [⟨#[49]⟩, ⟨#[49]⟩] = solE := by
 funext i k
 unfold solN solE
 have hv : valS ⟨#[49]⟩ = ((1 : Int) : Rat) := val_d (n := 1) (by decide)
 have hL : matL (colT [⟨#[49]⟩, ⟨#[49]⟩]) = [[((1 : Int) : Rat)], [((1 : Int) : Rat)]] := by
  unfold matL colT
  simp only [List.map_cons, List.map_nil]
  rw [hv]
 have hD : matD (colT [⟨#[49]⟩, ⟨#[49]⟩]) = 1 := by
  unfold matD
  rw [hL]
  simp only [denM, denL, Rat.den_intCast]
  rfl
 show (if k = 2 then _ else _) = _
 by_cases hk : k = 2
 ·rw [if_pos hk, if_pos hk]
  unfold matP
  rw [hD]
  unfold matQ
  rw [hL]
  match i with
  | 0 => rfl
  | 1 => rfl
  | i + 2 =>
   rw [if_neg (by omega)]
   show celN 1 0 = 0
   rfl
 ·rw [if_neg hk, if_neg hk, rows22_P (by decide) (by decide) (by decide) (by decide)]
  rfl
theorem sol_D1 : matD (colT [⟨#[49]⟩, ⟨#[49]⟩]) = 1 := by
 have hv : valS ⟨#[49]⟩ = ((1 : Int) : Rat) := val_d (n := 1) (by decide)
 unfold matD
 rw [show matL (colT [⟨#[49]⟩, ⟨#[49]⟩]) = [[((1 : Int) : Rat)], [((1 : Int) : Rat)]] by
  unfold matL colT
  simp only [List.map_cons, List.map_nil]
  rw [hv]]
 simp only [denM, denL, Rat.den_intCast]
 rfl
theorem colT_mat : MatF (colT [⟨#[49]⟩, ⟨#[49]⟩]) 2 1 (fun _ _ => ((1 : Int) : Rat)) := by
 refine ⟨rfl, fun r hr => ?_, fun i k hi hk => ?_, fun i k _ _ => small_fits (by decide)⟩
 ·obtain ⟨s, -, rfl⟩ := List.mem_map.1 hr
  rfl
 ·have hi' : i < 2 := hi
  have h2 : i = 0 ∨ i = 1 := by omega
  rcases h2 with rfl | rfl
  ·have hk' : k < 1 := hk
   obtain rfl : k = 0 := by omega
   exact (t_d (n := 1) (by decide)).symm
  ·have hk' : k < 1 := hk
   obtain rfl : k = 0 := by omega
   exact (t_d (n := 1) (by decide)).symm
theorem sol_q {s : EliS} {D E : Int} (hD : D = 1) (hE : E = 1) (hv : s.v = 8) (h0 : s.P 0 2 = 4) (h1 : s.P 1 2 = 2) : [Rat.divInt (s.P 0 2 * D) (s.v * E), Rat.divInt (s.P 1 2 * D) (s.v * E)] = [Rat.divInt 1 2, Rat.divInt 1 4] := by
 subst hD hE
 rw [hv, h0, h1]
 decide +kernel
theorem sol_ex2 (W : World) (henv : Env W) : Calls Tryz.prog 33 #[.slice (some ⟨W.heap.size + 1 + 1, 0, none⟩) 2 2, .slice (some ⟨W.heap.size + 1 + 1 + 1, 0, none⟩) 2 2] ((((W.alloc (.cells #[.string ⟨#[50]⟩, .string ⟨#[48]⟩] 29)).alloc (.cells #[.string ⟨#[48]⟩, .string ⟨#[52]⟩] 29)).alloc (.cells #[.slice (some ⟨W.heap.size, 0, none⟩) 2 2, .slice (some ⟨W.heap.size + 1, 0, none⟩) 2 2] 33)).alloc (.cells #[.string ⟨#[49]⟩, .string ⟨#[49]⟩] 29)) fun e w' => ∃ A c, e = .returned (.tuple #[.slice A 2 c, .int .i64 0]) ∧ Strs w' A [⟨#[49, 47, 50]⟩, ⟨#[49, 47, 52]⟩] ∧ Below W.heap.size W w' := by
 have hb0 := lit3_bel W (.string ⟨#[50]⟩) (.string ⟨#[48]⟩) (.string ⟨#[48]⟩) (.string ⟨#[52]⟩) (.slice (some ⟨W.heap.size, 0, none⟩) 2 2) (.slice (some ⟨W.heap.size + 1, 0, none⟩) 2 2)
 have hi0 : MatIn (((W.alloc (.cells #[.string ⟨#[50]⟩, .string ⟨#[48]⟩] 29)).alloc (.cells #[.string ⟨#[48]⟩, .string ⟨#[52]⟩] 29)).alloc (.cells #[.slice (some ⟨W.heap.size, 0, none⟩) 2 2, .slice (some ⟨W.heap.size + 1, 0, none⟩) 2 2] 33)) _ _ := lit3_in W 2 0 0 4
 have hsz : (((W.alloc (.cells #[.string ⟨#[50]⟩, .string ⟨#[48]⟩] 29)).alloc (.cells #[.string ⟨#[48]⟩, .string ⟨#[52]⟩] 29)).alloc (.cells #[.slice (some ⟨W.heap.size, 0, none⟩) 2 2, .slice (some ⟨W.heap.size + 1, 0, none⟩) 2 2] 33)).heap.size = W.heap.size + 1 + 1 + 1 := by simp
 have hk := Blk.new (((W.alloc (.cells #[.string ⟨#[50]⟩, .string ⟨#[48]⟩] 29)).alloc (.cells #[.string ⟨#[48]⟩, .string ⟨#[52]⟩] 29)).alloc (.cells #[.slice (some ⟨W.heap.size, 0, none⟩) 2 2, .slice (some ⟨W.heap.size + 1, 0, none⟩) 2 2] 33)) 29 [.string ⟨#[49]⟩, .string ⟨#[49]⟩]
 rw [hsz] at hk
 have hb1 : Below (((W.alloc (.cells #[.string ⟨#[50]⟩, .string ⟨#[48]⟩] 29)).alloc (.cells #[.string ⟨#[48]⟩, .string ⟨#[52]⟩] 29)).alloc (.cells #[.slice (some ⟨W.heap.size, 0, none⟩) 2 2, .slice (some ⟨W.heap.size + 1, 0, none⟩) 2 2] 33)).heap.size (((W.alloc (.cells #[.string ⟨#[50]⟩, .string ⟨#[48]⟩] 29)).alloc (.cells #[.string ⟨#[48]⟩, .string ⟨#[52]⟩] 29)).alloc (.cells #[.slice (some ⟨W.heap.size, 0, none⟩) 2 2, .slice (some ⟨W.heap.size + 1, 0, none⟩) 2 2] 33)) ((((W.alloc (.cells #[.string ⟨#[50]⟩, .string ⟨#[48]⟩] 29)).alloc (.cells #[.string ⟨#[48]⟩, .string ⟨#[52]⟩] 29)).alloc (.cells #[.slice (some ⟨W.heap.size, 0, none⟩) 2 2, .slice (some ⟨W.heap.size + 1, 0, none⟩) 2 2] 33)).alloc (.cells #[.string ⟨#[49]⟩, .string ⟨#[49]⟩] 29)) := (Below.refl _ _).alloc (Nat.le_refl _) _
 have hb := hb0.trans (hb1.mono hb0.size)
 have hi := hi0.below hb1
 have h := Solve_any _ (some ⟨W.heap.size + 1 + 1 + 1, 0, none⟩) 2 2 _ [⟨#[49]⟩, ⟨#[49]⟩] _ hi (rows22_fine (by decide) (by decide) (by decide) (by decide)) (show 1 ≤ 2 by decide) (Strs.two hk) rfl (fun s hs => by
  have : s = ⟨#[49]⟩ := by simpa using hs
  subst this
  rw [show (⟨#[49]⟩ : ByteArray) = rstr ((1 : Int) : Rat) from (t_d (n := 1) (by decide)).symm]
  exact ⟨vR_rstr (small_fits (by decide)), by rw [rstr_size]; have := rtext_len (q := ((1 : Int) : Rat)) (small_fits (by decide)); omega⟩) (henv.below hb)
 have l1 : ¬ 600 < heft (rows22 (some ⟨W.heap.size, 0, none⟩) (some ⟨W.heap.size + 1, 0, none⟩) 2 2 2 0 0 4) (rows22 (some ⟨W.heap.size, 0, none⟩) (some ⟨W.heap.size + 1, 0, none⟩) 2 2 2 0 0 4).length := rows22_light (by decide) (by decide) (by decide) (by decide)
 have l2 : ¬ 600 < heft (colT [⟨#[49]⟩, ⟨#[49]⟩]) 1 := colT_mat.light (k0 := 1) (by decide) (by decide) (by decide) (by decide) fun _ _ _ _ => DigR.ofInt (by unfold Dig; decide) (by decide)
 rw [decide_eq_false l1, decide_eq_false l2, sol_P] at h
 refine h.mono fun e w' h => ?_
 obtain ⟨k0, k1, k2, k3⟩ := sol_ex
 rcases h with ⟨h1, -⟩ | ⟨-, h1⟩
 ·have h1' : (eli 2 solE 2).ps.length < 2 := h1
  omega
 ·have e1 : (List.range 2).map (solQ (rows22 (some ⟨W.heap.size, 0, none⟩) (some ⟨W.heap.size + 1, 0, none⟩) 2 2 2 0 0 4) [⟨#[49]⟩, ⟨#[49]⟩] (eli 2 solE 2)) = [Rat.divInt 1 2, Rat.divInt 1 4] := sol_q (s := eli 2 solE 2) (rows22_D (by decide) (by decide) (by decide) (by decide)) sol_D1 k1 k2 k3
  have h1' : RetTexts _ ((List.range 2).map (solQ (rows22 (some ⟨W.heap.size, 0, none⟩) (some ⟨W.heap.size + 1, 0, none⟩) 2 2 2 0 0 4) [⟨#[49]⟩, ⟨#[49]⟩] (eli 2 solE 2))) e w' := h1
  rw [e1] at h1'
  have f1 : FitsR (Rat.divInt 1 2) := fitsR_small (by decide +kernel) (by decide +kernel)
  have f2 : FitsR (Rat.divInt 1 4) := fitsR_small (by decide +kernel) (by decide +kernel)
  rcases h1' with ⟨A, c, -, he, hs, hb2⟩ | ⟨⟨q, hq, hn⟩, -⟩
  ·refine ⟨A, c, he, ?_, hb.trans (hb2.mono hb.size)⟩
   have e2 : ([Rat.divInt 1 2, Rat.divInt 1 4] : List Rat).map rstr = [⟨#[49, 47, 50]⟩, ⟨#[49, 47, 52]⟩] := by
    rw [List.map_cons, List.map_cons, List.map_nil, t_12, t_14]
   rw [e2] at hs
   exact hs
  ·rw [List.mem_cons, List.mem_singleton] at hq
   rcases hq with rfl | rfl
   ·exact absurd f1 hn
   ·exact absurd f2 hn
theorem Sane3 (w : World) (henv : Env w) : Calls Tryz.prog 23 #[] w fun e w' => e = .returned (.bool true) ∧ Below w.heap.size w w' := by
 have HE := Lib.hid henv
 clear henv
 go_enter Tryz.func23, Tryz.ntmps23
 go_wp2_with fail
 refine (det_ex w HE.out).mono ?_
 rintro e w1 ⟨rfl, hb⟩
 have HB1 := Lib.hid hb
 clear hb
 go_wp2_with fail
 refine (ker_ex2 w1 (HE.out.below HB1.out)).mono ?_
 rintro e w2 ⟨A2, c2, rfl, hs2, hb⟩
 have HS2 := Lib.hid hs2
 have HB2 := Lib.hid (HB1.out.trans (hb.mono HB1.out.size))
 clear hb hs2
 go_wp2_with fail
 refine (sol_ex2 w2 (HE.out.below HB2.out)).mono ?_
 rintro e w3 ⟨A3, c3, rfl, hs3, hb⟩
 have HS3 := Lib.hid hs3
 replace HS2 := Lib.hid (HS2.out.below hb)
 have HB3 := Lib.hid (HB2.out.trans (hb.mono HB2.out.size))
 clear hb hs3
 have HSA := Lib.hid (Same_of A2 (some ⟨w3.heap.size, 0, none⟩) [⟨#[45, 50]⟩, ⟨#[49]⟩] [⟨#[45, 50]⟩, ⟨#[49]⟩] c2 2 (w3.alloc (.cells #[.string ⟨#[45, 50]⟩, .string ⟨#[49]⟩] 29)) (HS2.out.below ((Below.refl _ _).alloc (Nat.le_refl _) _)) (Strs.two (Blk.new w3 _ _)) (by decide) (by decide))
 have HB4 := Lib.hid (HB3.out.alloc HB3.out.size (.cells #[.string ⟨#[45, 50]⟩, .string ⟨#[49]⟩] 29))
 have HS4 := Lib.hid (HS3.out.below ((Below.refl _ _).alloc (Nat.le_refl _) (.cells #[.string ⟨#[45, 50]⟩, .string ⟨#[49]⟩] 29)))
 rw [decide_eq_true (show ([⟨#[45, 50]⟩, ⟨#[49]⟩] : List ByteArray) = [⟨#[45, 50]⟩, ⟨#[49]⟩] from rfl)] at HSA
 go_wp2_with fail
 refine HSA.out.mono ?_
 rintro e w5 ⟨rfl, hb⟩
 have HB5 := Lib.hid (HB4.out.trans (hb.mono HB4.out.size))
 have HS5 := HS4.out.below hb
 have HSB := Lib.hid (Same_of A3 (some ⟨w5.heap.size, 0, none⟩) [⟨#[49, 47, 50]⟩, ⟨#[49, 47, 52]⟩] [⟨#[49, 47, 50]⟩, ⟨#[49, 47, 52]⟩] c3 2 (w5.alloc (.cells #[.string ⟨#[49, 47, 50]⟩, .string ⟨#[49, 47, 52]⟩] 29)) (HS5.below ((Below.refl _ _).alloc (Nat.le_refl _) _)) (Strs.two (Blk.new w5 _ _)) (by decide) (by decide))
 have HB6 := Lib.hid (HB5.out.alloc HB5.out.size (.cells #[.string ⟨#[49, 47, 50]⟩, .string ⟨#[49, 47, 52]⟩] 29))
 rw [decide_eq_true (show ([⟨#[49, 47, 50]⟩, ⟨#[49, 47, 52]⟩] : List ByteArray) = [⟨#[49, 47, 50]⟩, ⟨#[49, 47, 52]⟩] from rfl)] at HSB
 clear hb HS5
 go_wp2_with fail
 refine HSB.out.mono ?_
 rintro e w7 ⟨rfl, hb⟩
 have HB7 := Lib.hid (HB6.out.trans (hb.mono HB6.out.size))
 clear hb
 go_wp2_with fail
 go_ret
 exact ⟨rfl, HB7.out⟩
end Go.Proofs.YtajlojhklhlljaaGreatDoor
