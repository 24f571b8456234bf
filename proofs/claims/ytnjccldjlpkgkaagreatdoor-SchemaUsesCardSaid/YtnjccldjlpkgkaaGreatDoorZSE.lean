/-
  Plain facts for SchemaUses and SchemaOrder.
-/
import Derived.Test.YtnjccldjlpkgkaaGreatDoorZSD
namespace Go.Proofs.YtnjccldjlpkgkaaGreatDoor
open Go.RowKit

theorem hasAt_of {rs : List RelV} {a i : Nat} (hi : i < rs.length) : hasAt rs a i = rs[i].xs.contains a := by unfold hasAt; rw [List.getElem?_eq_getElem hi]
theorem mem_usesN {rs : List RelV} {a i : Nat} : i ∈ usesN rs a rs.length ↔ ∃ h : i < rs.length, rs[i].xs.contains a = true := by
  unfold usesN
  rw [List.mem_filter, List.mem_range]
  constructor
  · rintro ⟨h, e⟩
    rw [hasAt_of h] at e
    exact ⟨h, e⟩
  · rintro ⟨h, e⟩
    exact ⟨h, by rw [hasAt_of h]; exact e⟩
theorem uses_some {rs : List RelV} {a : Nat} (h : usedB rs a = true) : usesN rs a rs.length ≠ [] := by
  unfold usedB at h
  rw [List.any_eq_true] at h
  obtain ⟨r, hr, e⟩ := h
  obtain ⟨i, hi, rfl⟩ := List.getElem_of_mem hr
  intro h0
  have : i ∈ usesN rs a rs.length := mem_usesN.2 ⟨hi, e⟩
  rw [h0] at this
  cases this
theorem joined_has {rs : List RelV} {n a : Nat} (ha : a < n) : (joinedN rs n).contains a = decide (1 < (usesN rs a rs.length).length) := by
  show ((List.range n).filter (joinB rs)).contains a = joinB rs a
  rw [Bool.eq_iff_iff, List.contains_iff_mem, List.mem_filter, List.mem_range]
  exact ⟨fun h => h.2, fun h => ⟨ha, h⟩⟩
theorem both_uses (rs : List RelV) (a b : Nat) : (usesN rs b rs.length).any (fun i => (usesN rs a rs.length).contains i) = rs.any (bothB a b) := by
  rw [Bool.eq_iff_iff, List.any_eq_true, List.any_eq_true]
  constructor
  · rintro ⟨i, h1, h2⟩
    rw [List.contains_iff_mem] at h2
    obtain ⟨hi, e1⟩ := mem_usesN.1 h1
    obtain ⟨_, e2⟩ := mem_usesN.1 h2
    exact ⟨rs[i], List.getElem_mem hi, by unfold bothB; rw [e1, e2]; rfl⟩
  · rintro ⟨r, hr, e⟩
    obtain ⟨i, hi, rfl⟩ := List.getElem_of_mem hr
    unfold bothB at e
    rw [Bool.and_eq_true_iff] at e
    exact ⟨i, mem_usesN.2 ⟨hi, e.2⟩, List.contains_iff_mem.2 (mem_usesN.2 ⟨hi, e.1⟩)⟩
theorem both_comm (rs : List RelV) (a b : Nat) : rs.any (bothB a b) = rs.any (bothB b a) := by
  congr 1
  funext r
  unfold bothB
  rw [Bool.and_comm]
theorem find_at {at1 : List (ByteArray × Int)} (hd : (at1.map (·.1)).Nodup) {a : Nat} (ha : a < at1.length) : idxP (nmB at1[a].1) at1 = a := by
  refine idxP_at ha (by unfold nmB; simp) fun j hj hja => ?_
  unfold nmB
  rw [beq_eq_false_iff_ne, Lib.toList_data, Lib.toList_data]
  intro e
  have h2 := (List.pairwise_iff_getElem.1 hd) j a (by simpa using hj) (by simpa using ha) hja
  apply h2
  rw [List.getElem_map, List.getElem_map]
  exact ByteArray.ext (Array.toList_inj.1 e)
theorem uses_le (rs : List RelV) (a : Nat) : (usesN rs a rs.length).length ≤ rs.length := filter_range_le _ _
theorem uses_lt {rs : List RelV} {a i : Nat} (h : i ∈ usesN rs a rs.length) : i < rs.length := (mem_usesN.1 h).1

end Go.Proofs.YtnjccldjlpkgkaaGreatDoor
