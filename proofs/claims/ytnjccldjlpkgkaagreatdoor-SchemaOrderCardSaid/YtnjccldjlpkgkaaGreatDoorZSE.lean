/-
  Package joinlearnmake: Shuffle.
-/
import Derived.Test.YtnjccldjlpkgkaaGreatDoorZSG
namespace Go.Proofs.YtnjccldjlpkgkaaGreatDoor
open Go.RowKit

theorem hasAt_of {rs : List RelV} {a i : Nat} (hi : i < rs.length) : hasAt rs a i = rs[i].xs.contains a := by unfold hasAt; rw [List.getElem?_eq_getElem hi]
theorem mem_usesN {rs : List RelV} {a i : Nat} : i ∈ usesN rs a rs.length ↔ ∃ h : i < rs.length, rs[i].xs.contains a = true := by
  unfold usesN
  rw [List.mem_filter, List.mem_range]
  constructor
  · rintro ⟨h, e⟩
    rw [hasAt_of h] at e
    exact ⟨h, e⟩
  · rintro ⟨h, e⟩
    exact ⟨h, by rw [hasAt_of h]; exact e⟩
theorem uses_some {rs : List RelV} {a : Nat} (h : usedB rs a = true) : usesN rs a rs.length ≠ [] := by
  unfold usedB at h
  rw [List.any_eq_true] at h
  obtain ⟨r, hr, e⟩ := h
  obtain ⟨i, hi, rfl⟩ := List.getElem_of_mem hr
  intro h0
  have : i ∈ usesN rs a rs.length := mem_usesN.2 ⟨hi, e⟩
  rw [h0] at this
  cases this
theorem joined_has {rs : List RelV} {n a : Nat} (ha : a < n) : (joinedN rs n).contains a = decide (1 < (usesN rs a rs.length).length) := by
  show ((List.range n).filter (joinB rs)).contains a = joinB rs a
  rw [Bool.eq_iff_iff, List.contains_iff_mem, List.mem_filter, List.mem_range]
  exact ⟨fun h => h.2, fun h => ⟨ha, h⟩⟩
theorem both_uses (rs : List RelV) (a b : Nat) : (usesN rs b rs.length).any (fun i => (usesN rs a rs.length).contains i) = rs.any (bothB a b) := by
  rw [Bool.eq_iff_iff, List.any_eq_true, List.any_eq_true]
  constructor
  · rintro ⟨i, h1, h2⟩
    rw [List.contains_iff_mem] at h2
    obtain ⟨hi, e1⟩ := mem_usesN.1 h1
    obtain ⟨_, e2⟩ := mem_usesN.1 h2
    exact ⟨rs[i], List.getElem_mem hi, by unfold bothB; rw [e1, e2]; rfl⟩
  · rintro ⟨r, hr, e⟩
    obtain ⟨i, hi, rfl⟩ := List.getElem_of_mem hr
    unfold bothB at e
    rw [Bool.and_eq_true_iff] at e
    exact ⟨i, mem_usesN.2 ⟨hi, e.2⟩, List.contains_iff_mem.2 (mem_usesN.2 ⟨hi, e.1⟩)⟩
theorem both_comm (rs : List RelV) (a b : Nat) : rs.any (bothB a b) = rs.any (bothB b a) := by
  congr 1
  funext r
  unfold bothB
  rw [Bool.and_comm]
theorem find_at {at1 : List (ByteArray × Int)} (hd : (at1.map (·.1)).Nodup) {a : Nat} (ha : a < at1.length) : idxP (nmB at1[a].1) at1 = a := by
  refine idxP_at ha (by unfold nmB; simp) fun j hj hja => ?_
  unfold nmB
  rw [beq_eq_false_iff_ne, Lib.toList_data, Lib.toList_data]
  intro e
  have h2 := (List.pairwise_iff_getElem.1 hd) j a (by simpa using hj) (by simpa using ha) hja
  apply h2
  rw [List.getElem_map, List.getElem_map]
  exact ByteArray.ext (Array.toList_inj.1 e)
theorem uses_le (rs : List RelV) (a : Nat) : (usesN rs a rs.length).length ≤ rs.length := filter_range_le _ _
theorem uses_lt {rs : List RelV} {a i : Nat} (h : i ∈ usesN rs a rs.length) : i < rs.length := (mem_usesN.1 h).1

end Go.Proofs.YtnjccldjlpkgkaaGreatDoor

namespace Go.Proofs.YtnjccldjlpkgkaaGreatDoor
open Go.RowKit

/-- The relation with a number. -/
def relAt (rs : List RelV) (i : Nat) : RelV := rs.getD i ⟨⟨#[]⟩, none, 0, []⟩
theorem relAt_lt {rs : List RelV} {i : Nat} (h : i < rs.length) : relAt rs i = rs[i] := by simp [relAt, h]
theorem relAt_range (rs : List RelV) : (List.range rs.length).map (relAt rs) = rs := by
  refine List.ext_getElem (by simp) fun i h1 h2 => ?_
  rw [List.getElem_map, List.getElem_range, relAt_lt]
theorem rel_perm {rs : List RelV} {ps : List Nat} (h : ps.Perm (List.range rs.length)) : (ps.map (relAt rs)).Perm rs := by
  have := h.map (relAt rs)
  rw [relAt_range] at this
  exact this
theorem uses_count (rs : List RelV) (a : Nat) : (usesN rs a rs.length).length = rs.countP (fun r => r.xs.contains a) := by
  have : rs.countP (fun r => r.xs.contains a) = ((List.range rs.length).map (relAt rs)).countP (fun r => r.xs.contains a) := by rw [relAt_range]
  rw [this, List.countP_map, List.countP_eq_length_filter]
  unfold usesN
  congr 1
  refine List.filter_congr fun i hi => ?_
  rw [List.mem_range] at hi
  show hasAt rs a i = (relAt rs i).xs.contains a
  rw [hasAt_of hi, relAt_lt hi]
theorem uses_perm {rs rs' : List RelV} (h : rs'.Perm rs) (a : Nat) : (usesN rs' a rs'.length).length = (usesN rs a rs.length).length := by
  rw [uses_count, uses_count, h.countP_eq]
theorem joined_perm {rs rs' : List RelV} (h : rs'.Perm rs) (n : Nat) : joinedN rs' n = joinedN rs n := by
  unfold joinedN
  refine List.filter_congr fun i _ => ?_
  unfold joinB
  rw [uses_perm h]
theorem linked_perm {rs rs' : List RelV} (h : rs'.Perm rs) (a b : Nat) : rs'.any (bothB a b) = rs.any (bothB a b) := by
  rw [Bool.eq_iff_iff, List.any_eq_true, List.any_eq_true]
  exact ⟨fun ⟨r, hr, e⟩ => ⟨r, h.mem_iff.1 hr, e⟩, fun ⟨r, hr, e⟩ => ⟨r, h.mem_iff.2 hr, e⟩⟩
theorem ok_perm {at1 : List (ByteArray × Int)} {aa ar af ar' : Option Addr} {ca cr cf cr' : Nat} {rs rs' : List RelV} {fs : List FeatV} {lb : Int} (h : rs'.Perm rs) (hok : SchOK ⟨at1, aa, ca, rs, ar, cr, fs, af, cf, lb⟩) : SchOK ⟨at1, aa, ca, rs', ar', cr', fs, af, cf, lb⟩ := by
  obtain ⟨⟨a1, a2, r1, r2, f2, c, wd, rl, rd, ft, fd, l1, l2, l3⟩, nm, us⟩ := hok
  simp only at *
  refine ⟨⟨a1, a2, ?_, ?_, f2, c, wd, ?_, ?_, ft, fd, l1, l2, l3⟩, nm, ?_⟩
  · simp only; rw [h.length_eq]; exact r1
  · simp only; rw [h.length_eq]; exact r2
  · exact fun r hr => rl r (h.mem_iff.1 hr)
  · exact (h.map _).nodup_iff.2 rd
  · intro i hi
    rw [← us i hi]
    show rs'.any _ = rs.any _
    rw [Bool.eq_iff_iff, List.any_eq_true, List.any_eq_true]
    exact ⟨fun ⟨r, hr, e⟩ => ⟨r, h.mem_iff.1 hr, e⟩, fun ⟨r, hr, e⟩ => ⟨r, h.mem_iff.2 hr, e⟩⟩
theorem inm_perm {w : World} {at1 : List (ByteArray × Int)} {aa ar af ar' : Option Addr} {ca cr cf cr' : Nat} {rs rs' : List RelV} {fs : List FeatV} {lb : Int} (h : rs'.Perm rs) (hin : InMem w ⟨at1, aa, ca, rs, ar, cr, fs, af, cf, lb⟩) (hr : VRow w ar' (relv rs')) : InMem w ⟨at1, aa, ca, rs', ar', cr', fs, af, cf, lb⟩ :=
  ⟨hin.a, hr, fun r hr => hin.x r (h.mem_iff.1 hr), hin.f⟩

end Go.Proofs.YtnjccldjlpkgkaaGreatDoor

namespace Go.Proofs.YtnjccldjlpkgkaaGreatDoor
open Go.RowKit

/-- The result is a new list of the numbers below n in some order; the source goes on. -/
def RetPerm (w : World) (b n : Nat) (e : Ending) (w' : World) : Prop := ∃ (v : Value) (ps : List Nat), e = .returned v ∧ ps.Perm (List.range n) ∧ w'.ownsRow w.heap.size 3 1 v ps.length (vn ps) ∧ Src w' b ∧ w.grownBy w' (some b)

theorem swap_perm {ps : List Nat} {j r : Nat} (hj : j < ps.length) (hr : r < ps.length) : ((ps.set j (nth ps r)).set r (nth ps j)).Perm ps := by
  rw [nth_lt hj, nth_lt hr]
  exact List.set_set_perm hj hr
theorem vn_set (xs : List Nat) (i x : Nat) : vn (xs.set i x) = (vn xs).set i (.int .i64 (x : Int)) := by simp [vn, List.map_set]
section
variable {w w2 : World} {B g k cap b : Nat} {ps : List Nat} {j r : Nat} {u u' : Value}
theorem swap_own (h : w2.ownsRow B 3 1 (.slice (some ⟨g, 0, none⟩) k cap) k (vn ps)) (j r : Nat) : ((w2.setCell ⟨g, j, none⟩ (.int .i64 ((nth ps r : Nat) : Int))).setCell ⟨g, r, none⟩ (.int .i64 ((nth ps j : Nat) : Int))).ownsRow B 3 1 (.slice (some ⟨g, 0, none⟩) k cap) k (vn ((ps.set j (nth ps r)).set r (nth ps j))) := by
  rw [vn_set, vn_set]
  exact ((h.stored j _).1.stored r _).1
theorem swap_grown (hg : w.grownBy w2 (some b)) (h : w2.ownsRow w.heap.size 3 1 (.slice (some ⟨g, 0, none⟩) k cap) k (vn ps)) : w.grownBy ((w2.setCell ⟨g, j, none⟩ u).setCell ⟨g, r, none⟩ u') (some b) := by
  have hgt := (h.lt g rfl).1
  have h1 : w.grownBy (w2.setCell ⟨g, j, none⟩ u) (some b) := grown_new hg (grown_set g j u) (fun i e => by injection e with e; omega)
  exact grown_new h1 (grown_set g r u') (fun i e => by injection e with e; omega)
theorem swap_src (hs : Src w2 b) (h : w2.ownsRow w.heap.size 3 1 (.slice (some ⟨g, 0, none⟩) k cap) k (vn ps)) (hb : b < w.heap.size) : Src ((w2.setCell ⟨g, j, none⟩ u).setCell ⟨g, r, none⟩ u') b := by
  have hgt := (h.lt g rfl).1
  have h1 := grown_set (w := w2) g j u
  have h2 := grown_set (w := w2.setCell ⟨g, j, none⟩ u) g r u'
  have hlt := hs.lt
  have s1 := h1.size
  exact (hs.above h1.size (fun i hi => h1.block i (by omega) (fun e => by injection e with e; omega))).above h2.size (fun i hi => h2.block i (by omega) (fun e => by injection e with e; omega))
end

set_option maxRecDepth 100000 in
set_option maxHeartbeats 4000000 in
theorem Shuffle_any (b n : Nat) (w : World) (hs : Src w b) (hn : n ≤ 1000) : Calls Tryz.prog 15 #[.pointer (some ⟨b, 0, none⟩), .int .i64 (n : Int)] w (RetPerm w b n) := by
  obtain ⟨i0, hi, hz0, hz1, hz2⟩ := info_parts Tryz.infoInt
  have HS := Lib.hid hs
  have hbw := hs.lt
  clear hs
  go_enter Tryz.func15, Tryz.ntmps15
  go_wp2_with fail
  go_loopw [5, 6] (fun v iv wr => ∃ k : Nat, iv = .int .i64 (k : Int) ∧ k ≤ n ∧ wr.ownsRow w.heap.size 3 1 v k (vn (List.range k)) ∧ Below w.heap.size w wr) (fun _ iv _ => n - (intOf iv).toNat)
  case atStart => exact ⟨0, rfl, Nat.zero_le _, World.ownsRow_nil _ _ _ _, Below.refl _ _⟩
  case round =>
    obtain ⟨k, rfl, hk, hown, hbel⟩ := hrel
    have HOWN := Lib.hid hown
    have HBEL := Lib.hid hbel
    have hsz := hbel.size
    clear hown hbel
    by_cases hlt : k < n
    · go_wp2_with (at_builtin; refine wpList_append_own _ rfl _ _ 37 rfl w.heap.size 3 i0 (.int .i64 0) 1 8 Tryz.underlying37 hi hz0 hz1 hz2 rfl (by decide) _ _ _ rfl (HOWN.out.alloc _) ⟨wr.heap.size, 0, none⟩ 1 1 [_] rfl rfl one_new one_cell (by unfold maxLen; omega) (by omega) (by simp; omega) ?_)
      intro v' w3 hown3 hgrow3 _
      have HO3 := Lib.hid hown3
      have HB3 := Lib.hid (HBEL.out.trans (app1 HOWN.out hsz hgrow3))
      clear hown3 hgrow3
      go_wp2_with fail
      go_roundw
      case rel => exact ⟨k + 1, by go_num, by omega, by rw [List.range_succ, vn_snoc]; exact HO3.out, HB3.out⟩
      case measure => simp [intOf]; omega
    · obtain rfl : k = n := by omega
      have HSR := Lib.hid (HS.out.below HBEL.out)
      have HGR : Hid (w.grownBy wr (some b)) := Lib.hid ⟨HBEL.out.os, HBEL.out.tape, HBEL.out.output, HBEL.out.size, fun j hj _ => HBEL.out.block j hj⟩
      go_wp2_with fail
      go_loopw [7] (fun iv wq => ∃ (i : Int) (ps : List Nat), iv = .int .i64 i ∧ -1 ≤ i ∧ i < k ∧ ps.length = k ∧ ps.Perm (List.range k) ∧ wq.ownsRow w.heap.size 3 1 u5 k (vn ps) ∧ Src wq b ∧ w.grownBy wq (some b)) (fun iv _ => (intOf iv + 1).toNat)
      case atStart => exact ⟨(k : Int) - 1, List.range k, rfl, by omega, by omega, List.length_range, List.Perm.refl _, HOWN.out, HSR.out, HGR.out⟩
      case round =>
        obtain ⟨i, ps, rfl, hi1, hi2, hpl, hperm, hown, hsrc, hgr⟩ := hrel
        obtain ⟨wq, rfl⟩ : ∃ wq : World, wq = wr := ⟨_, rfl⟩
        have HPL := Lib.hid hpl
        have HPM := Lib.hid hperm
        have HO := Lib.hid hown
        have HSQ := Lib.hid hsrc
        have HGQ := Lib.hid hgr
        clear hpl hperm hown hsrc hgr
        by_cases hlt2 : 0 < i
        · obtain ⟨j, rfl⟩ : ∃ j : Nat, i = j := ⟨i.toNat, by omega⟩
          go_wp2_with fail
          refine (N_any b ((j : Int) + 1) wq HSQ.out (by omega) (by omega)).mono ?_
          rintro e w2 ⟨r, rfl, hr, hs2, hg2⟩
          have HS2 := Lib.hid hs2
          have HG2 := Lib.hid (grown_trans HGQ.out hg2)
          have HO2 := Lib.hid (own_grown' HO.out hg2 hbw)
          have hrk : r < k := by omega
          have hjk : j < k := by omega
          clear hs2 hg2
          obtain ⟨g, cap, hu5⟩ : ∃ g cap, u5 = .slice (some ⟨g, 0, none⟩) k cap := by
            rcases HO2.out.2 with ⟨_, h0⟩ | ⟨g, cap, cur, hv, _⟩
            · omega
            · exact ⟨g, cap, hv⟩
          subst hu5
          have cj : w2.cell? ⟨g, j, none⟩ = some (.int .i64 ((nth ps j : Nat) : Int)) := by rw [HO2.out.cellAt j (by omega), vn_get (by rw [HPL.out]; exact hjk)]
          have cr : w2.cell? ⟨g, r, none⟩ = some (.int .i64 ((nth ps r : Nat) : Int)) := by rw [HO2.out.cellAt r (by omega), vn_get (by rw [HPL.out]; exact hrk)]
          have fj := HO2.out.frozenAt j
          have fr := HO2.out.frozenAt r
          have x1 : (0 : Int) ≤ (j : Int) := by omega
          have x2 : (j : Int) < (k : Int) := by omega
          have x3 : (0 : Int) ≤ (r : Int) := by omega
          have x4 : (r : Int) < (k : Int) := by omega
          have HSW := Lib.hid (show ((ps.set j (nth ps r)).set r (nth ps j)).Perm ps from swap_perm (by rw [HPL.out]; exact hjk) (by rw [HPL.out]; exact hrk))
          have HO3 := Lib.hid (swap_own HO2.out j r)
          have HS3 := Lib.hid (swap_src (u := .int .i64 ((nth ps r : Nat) : Int)) (u' := .int .i64 ((nth ps j : Nat) : Int)) (j := j) (r := r) HS2.out HO2.out hbw)
          have HG3 := Lib.hid (swap_grown (u := .int .i64 ((nth ps r : Nat) : Int)) (u' := .int .i64 ((nth ps j : Nat) : Int)) (j := j) (r := r) HG2.out HO2.out)
          by_cases hjr : j = r
          · subst hjr
            go_wp2_with fail
            go_region
            all_goals go_wp2_with fail
            all_goals go_roundw
            case rel => exact ⟨(j : Int) - 1, _, by go_num, by omega, by omega, by rw [List.length_set, List.length_set]; exact HPL.out, HSW.out.trans HPM.out, HO3.out, HS3.out, grown_drew HG3.out⟩
            case measure => simp [intOf] <;> omega
          · go_wp2_with fail
            go_region
            all_goals go_wp2_with fail
            all_goals go_roundw
            case rel => exact ⟨(j : Int) - 1, _, by go_num, by omega, by omega, by rw [List.length_set, List.length_set]; exact HPL.out, HSW.out.trans HPM.out, HO3.out, HS3.out, grown_drew HG3.out⟩
            case measure => simp [intOf] <;> omega
        · have HPL2 := HPL.out
          go_wp2_with fail
          go_ret
          exact ⟨_, ps, rfl, HPM.out, by rw [HPL.out]; exact HO.out, HSQ.out, HGQ.out⟩

end Go.Proofs.YtnjccldjlpkgkaaGreatDoor
