/-
  Package joinlearnref01: Valid.
-/
import Derived.Test.YtmickdolpgjbhaaGreatDoorRefL
import Derived.Test.YtmickdolpgjbhaaGreatDoorIntB
namespace Go.Proofs.YtmickdolpgjbhaaGreatDoor
open Go.RowKit

theorem extract_tail {s : ByteArray} {c : UInt8} {r : List UInt8} (h : s.data.toList = c :: r) : (s.extract 1 s.size).data.toList = r := by
  rw [Lib.extract_data, h]
  have : s.size = r.length + 1 := by
    have := congrArg List.length h
    rw [Array.length_toList] at this
    exact this
  rw [this]
  simp
theorem trim_minus (r : List UInt8) : Lib.trimPrefix (45 :: r) [45] = r := by simp [Lib.trimPrefix, Lib.hasPrefix]
theorem trim_other {c : UInt8} (r : List UInt8) (h : c ≠ 45) : Lib.trimPrefix (c :: r) [45] = c :: r := by
  have h' : (45 == c) = false := by simpa using Ne.symm h
  have : Lib.hasPrefix (c :: r) [45] = false := by simp [Lib.hasPrefix, List.isPrefixOf, h']
  rw [Lib.trimPrefix, this]; simp
theorem byte_ne {c d : UInt8} (h : c ≠ d) : ((c.toNat : Int) == (d.toNat : Int)) = false := by
  rw [beq_eq_false_iff_ne]
  intro e
  exact h (UInt8.toNat_inj.1 (by omega))

set_option maxRecDepth 100000 in
set_option maxHeartbeats 2000000 in
theorem RValid_any (l : List UInt8) (w : World) (hl : l.length ≤ 140737488355328) :
    Calls Tryz.prog 26 #[.string ⟨l.toArray⟩] w fun e w' => e = .returned (.bool (validB l)) ∧ Below w.heap.size w w' := by
  by_cases h0 : l = [48]
  · subst h0
    go_enter Tryz.func26, Tryz.ntmps26
    go_wp2_with fail
    go_ret
    exact ⟨rfl, Below.refl _ _⟩
  · have hne : (l == [48]) = false := by simpa using h0
    have E := Lib.hid (show validB l = numB (Lib.trimPrefix l [45]) by rw [validB, hne, Bool.false_or])
    obtain ⟨s, hs⟩ : ∃ s : ByteArray, s = ⟨l.toArray⟩ := ⟨_, rfl⟩
    rw [← hs]
    have hsd : s.data.toList = l := by rw [hs]
    have hne' : (s.toList == [48]) = false := by rw [Lib.toList_data, hsd]; exact hne
    have hsz : s.size = l.length := by rw [hs]; simp [ByteArray.size]
    have HSD := Lib.hid hsd
    have hss : s.size ≤ 140737488355328 := by omega
    have HSZ := Lib.hid hsz
    clear hs hsd hsz hne h0
    go_enter Tryz.func26, Tryz.ntmps26
    go_upto_region 4 with (fail)
    obtain ⟨hb, hhb⟩ : ∃ hb : Bool, hb = (l.head? == some 45) := ⟨_, rfl⟩
    have HHB := Lib.hid hhb
    clear hhb
    go_cut [15] (fun v wc => v = .bool hb ∧ w = wc)
    case first =>
      cases l with
      | nil =>
        have hb0 : hb = false := HHB.out
        have hz : s.size = 0 := HSZ.out
        have hz' : ¬ 0 < s.size := by omega
        subst hb0
        clear hz
        go_wp2_with fail
        go_meet
        exact ⟨rfl, rfl⟩
      | cons c r =>
        have hz' : 0 < s.size := by rw [HSZ.out]; simp
        have hsc : s[0] = c := by
          have : s.data.toList[0]'(by rw [HSD.out]; simp) = c := by simp [HSD.out]
          have h2 : s.data[0]'hz' = c := by simpa using this
          exact h2
        by_cases hc : c = 45
        · have hq : ((s[0].toNat : Int) == 45) = true := by rw [hsc, hc]; rfl
          have hb1 : hb = true := by rw [HHB.out, hc]; rfl
          subst hb1
          clear hsc
          go_wp2_with fail
          go_meet
          exact ⟨rfl, rfl⟩
        · have hq : ((s[0].toNat : Int) == 45) = false := by rw [hsc]; exact byte_ne hc
          have hb1 : hb = false := by rw [HHB.out]; simpa using hc
          subst hb1
          clear hsc
          go_wp2_with fail
          go_meet
          exact ⟨rfl, rfl⟩
    case rest =>
      obtain ⟨rfl, rfl⟩ := hcut
      go_upto_if 15 with (fail)
      go_cut [3] (fun v wc => ∃ s' : ByteArray, v = .string s' ∧ s'.data.toList = Lib.trimPrefix l [45] ∧ s'.size ≤ 140737488355328 ∧ w = wc)
      case first =>
        cases hb
        · go_wp2_with fail
          go_meet
          refine ⟨s, rfl, ?_, hss, rfl⟩
          rw [HSD.out]
          cases l with
          | nil => rfl
          | cons c r =>
            have h1 := HHB.out
            rw [trim_other]
            rintro rfl
            simp at h1
        · cases l with
          | nil => have h1 := HHB.out; simp at h1
          | cons c r =>
            have h1 := HHB.out
            have hc : c = 45 := by simpa using h1.symm
            subst hc
            have hz' : 1 ≤ s.size := by rw [HSZ.out]; simp
            have hex := extract_tail HSD.out
            have hel : (s.extract 1 s.size).size ≤ 140737488355328 := by
              have := congrArg List.length hex
              rw [Array.length_toList] at this
              have h2 := HSZ.out
              show (s.extract 1 s.size).data.size ≤ _
              simp at h2
              omega
            have HEX := Lib.hid hex
            clear h1 hex
            go_wp2_with fail
            go_meet
            exact ⟨_, rfl, by rw [trim_minus]; exact HEX.out, hel, rfl⟩
      case rest =>
        obtain ⟨s', rfl, hm, hml, rfl⟩ := hcut
        have HM := Lib.hid hm
        clear hm HSD HSZ hne' hss
        generalize Lib.trimPrefix l [45] = m at *
        have hsz : s'.size = m.length := by
          have := congrArg List.length HM.out
          rw [Array.length_toList] at this
          exact this
        cases m with
        | nil =>
          have hz : ((s'.size : Int) == 0) = true := by rw [hsz]; rfl
          clear hsz
          go_wp2_with fail
          go_ret
          exact ⟨by rw [E.out]; rfl, Below.refl _ _⟩
        | cons c r =>
          have hz : ((s'.size : Int) == 0) = false := by rw [hsz, beq_eq_false_iff_ne]; simp; omega
          have hz0 : 0 < s'.size := by rw [hsz]; simp
          have hsc : s'[0] = c := by
            have : s'.data.toList[0]'(by rw [HM.out]; simp) = c := by simp [HM.out]
            have h2 : s'.data[0]'hz0 = c := by simpa using this
            exact h2
          by_cases hlen : (c :: r).length ≤ 400
          · have hs4 : ¬ 400 < s'.size := by rw [hsz]; omega
            have hs4' : decide (400 < (s'.size : Int)) = false := decide_eq_false (by omega)
            by_cases hc : c = 48
            · have hc' : ((s'[0].toNat : Int) == 48) = true := by rw [hsc, hc]; rfl
              have E2 := Lib.hid (show numB (c :: r) = false by simp [numB, hc])
              clear hsc hsz hc hlen
              go_wp2_with fail
              go_ret
              exact ⟨by rw [E.out, E2.out]; rfl, Below.refl _ _⟩
            · have hc' : ((s'[0].toNat : Int) == 48) = false := by rw [hsc]; exact byte_ne hc
              have E2 := Lib.hid (show numB (c :: r) = s'.data.toList.all digB by rw [HM.out, numB]; simp only [hlen]; simp [hc])
              have HL := Lib.hid (show s'.data.toList.length = s'.size from Array.length_toList)
              clear hsc hsz hc hlen
              go_wp2_with fail
              go_loop [4] (fun ix => ∃ k : Nat, k ≤ s'.size ∧ ix = .int .i64 (k : Int) ∧ (s'.data.toList.take k).all digB = true) (fun ix => s'.size - (intOf ix).toNat)
              case atStart => exact ⟨0, Nat.zero_le _, rfl, rfl⟩
              case round =>
                obtain ⟨k, hk, rfl, hall⟩ := hrel
                have HALL := Lib.hid hall
                clear hall hc'
                by_cases hlt : k < s'.size
                · have hts : s'.data.toList.take (k + 1) = s'.data.toList.take k ++ [s'[k]] := by
                    rw [List.take_succ_eq_append_getElem (by rw [HL.out]; exact hlt)]; rfl
                  have HTS := Lib.hid hts
                  have hd256 : s'[k].toNat < 256 := s'[k].toNat_lt
                  clear hts
                  by_cases hdig : digB s'[k] = true
                  · have hdd := (digB_iff s'[k]).1 hdig
                    unfold IsDig at hdd
                    obtain ⟨hd1, hd2⟩ := hdd
                    have HDG := Lib.hid hdig
                    clear hdig
                    go_wp2_with fail
                    go_round
                    case rel => exact ⟨k + 1, by omega, by go_num, by rw [HTS.out, List.all_append, HALL.out]; simp [HDG.out]⟩
                    case measure => simp [intOf]; omega
                  · have hnd : ¬ (48 ≤ s'[k].toNat ∧ s'[k].toNat ≤ 57) := fun h => hdig ((digB_iff _).2 h)
                    have E3 := Lib.hid (show s'.data.toList.all digB = false by
                      rw [← Bool.not_eq_true, all_digs]
                      intro hh
                      apply hdig
                      rw [digB_iff]
                      apply hh
                      have : s'[k] = s'.data.toList[k]'(by rw [HL.out]; exact hlt) := rfl
                      rw [this]
                      exact List.getElem_mem _)
                    clear hdig
                    by_cases hd1 : s'[k].toNat < 48
                    · go_wp2_with fail
                      go_ret
                      exact ⟨by rw [E.out, E2.out, E3.out]; rfl, Below.refl _ _⟩
                    · have hd2 : 57 < s'[k].toNat := by omega
                      go_wp2_with fail
                      go_ret
                      exact ⟨by rw [E.out, E2.out, E3.out]; rfl, Below.refl _ _⟩
                · obtain rfl : k = s'.size := by omega
                  have E3 := Lib.hid (show s'.data.toList.all digB = true by have := HALL.out; rwa [← HL.out, List.take_length] at this)
                  go_wp2_with fail
                  go_ret
                  exact ⟨by rw [E.out, E2.out, E3.out]; rfl, Below.refl _ _⟩
          · have hs4 : 400 < s'.size := by rw [hsz]; omega
            have hs4' : decide (400 < (s'.size : Int)) = true := decide_eq_true (by omega)
            have E2 := Lib.hid (show numB (c :: r) = false by rw [numB]; simp only [hlen]; simp)
            clear hsz hsc hlen
            go_wp2_with fail
            go_ret
            exact ⟨by rw [E.out, E2.out]; rfl, Below.refl _ _⟩

end Go.Proofs.YtmickdolpgjbhaaGreatDoor
