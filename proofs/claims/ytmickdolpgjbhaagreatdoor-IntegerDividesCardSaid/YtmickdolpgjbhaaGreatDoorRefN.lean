/-
  Package joinlearnref01: Read.
-/
import Derived.Test.YtmickdolpgjbhaaGreatDoorRefM
namespace Go.Proofs.YtmickdolpgjbhaaGreatDoor
open Go.RowKit

theorem take_drop_snoc {ds : List UInt8} {K i : Nat} (h : i < ds.length) (hK : K ≤ i) : (ds.take (i + 1)).drop K = (ds.take i).drop K ++ [ds[i]] := by
  rw [List.take_succ_eq_append_getElem h, List.drop_append_of_le_length (by rw [List.length_take]; omega)]
theorem decVal_lt9 {ds : List UInt8} (hd : Digs ds) {K i : Nat} (h : i ≤ K + 9) : decVal ((ds.take i).drop K) < 1000000000 := by
  have h1 := decVal_lt ((hd.take i).drop K)
  refine Nat.lt_of_lt_of_le h1 ?_
  have h2 : ((ds.take i).drop K).length ≤ 9 := by rw [List.length_drop, List.length_take]; omega
  exact Nat.le_trans (Nat.pow_le_pow_right (by omega) h2) (by omega)

set_option maxRecDepth 100000 in
set_option maxHeartbeats 4000000 in
theorem RRead_any (x : Int) (w : World) (hl : (Lib.decDigits x.natAbs).length ≤ 1000000) :
    Calls Tryz.prog 51 #[.string (str x)] w (RetBigN w x) := by
  have HSG := Lib.hid (sgnB_self x)
  obtain ⟨i0, hi, hz0, hz1, hz2⟩ := info_parts Tryz.infoInt
  have hsd : (str x).data.toList = Lib.itoa x := by unfold str; simp
  have hpe := itoa_prefix x
  generalize str x = s at *
  have hit : Lib.itoa x = if decide (x < 0) = true then 45 :: Lib.decDigits x.natAbs else Lib.decDigits x.natAbs := by
    unfold Lib.itoa
    by_cases h : x < 0
    · simp [h]
    · simp [h]; congr 1; omega
  rw [hit] at hsd
  generalize decide (x < 0) = na at *
  generalize hxn : x.natAbs = n at *
  have hdp := Lib.nDigits_pos n
  rw [← Lib.decDigits_length] at hdp
  have HDG := Lib.hid (decDigits_digs n)
  have hsz : s.size = (if na = true then 1 else 0) + (Lib.decDigits n).length := by
    have := congrArg List.length hsd
    rw [Array.length_toList] at this
    have h2 : s.size = s.data.size := rfl
    rw [h2, this]
    cases na <;> simp; omega
  have hs1 : 0 < s.size := by omega
  have hs2 : s.size ≤ 1000001 := by split at hsz <;> omega
  have hse : ¬ s.toList = [] := by
    rw [Lib.toList_data, hsd]
    cases na
    · exact decDigits_ne_nil n
    · simp
  have hse' : s.toList.isEmpty = false := by simpa using hse
  have HSD := Lib.hid hsd
  have HSZ := Lib.hid hsz
  clear hsd hsz hpe hit hxn
  go_enter Tryz.func51, Tryz.ntmps51
  go_upto_region 3 with (fail)
  have hb0 := Blk.new (w.alloc (.cells #[.bool false, .slice none 0 0] 51)) 51 [.bool false, .slice none 0 0]
  rw [World.size_alloc] at hb0
  have hr0 := (Blk.new w 51 [.bool false, .slice none 0 0]).alloc (.cells #[.bool false, .slice none 0 0] 51)
  have hbel : Below w.heap.size w ((w.alloc (.cells #[.bool false, .slice none 0 0] 51)).alloc (.cells #[.bool false, .slice none 0 0] 51)) := ((Below.refl _ _).alloc (Nat.le_refl _) _).alloc (by simp) _
  have hs0 : w.heap.size + 2 ≤ ((w.alloc (.cells #[.bool false, .slice none 0 0] 51)).alloc (.cells #[.bool false, .slice none 0 0] 51)).heap.size := by simp
  generalize (w.alloc (.cells #[.bool false, .slice none 0 0] 51)).alloc (.cells #[.bool false, .slice none 0 0] 51) = W at *
  have HB0 := Lib.hid hb0
  have HR0 := Lib.hid hr0
  have HBEL0 := Lib.hid hbel
  have c0 : W.cell? ⟨w.heap.size + 1, 0, none⟩ = some (.bool false) := hb0.at_ rfl
  have f0 := hb0.fr 0
  clear hb0 hr0 hbel
  go_cut [16] (fun v wc => v = .bool na ∧ W = wc)
  case first =>
    cases na
    · have hq : ((s[0].toNat : Int) == 45) = false := by
        have h1 : s[0] = (Lib.decDigits n)[0]'(by omega) := by
          have h2 : s.data.toList[0]'(by rw [HSD.out]; simp; omega) = (Lib.decDigits n)[0]'(by omega) := by simp [HSD.out]
          have h3 : s.data[0]'hs1 = (Lib.decDigits n)[0]'(by omega) := by simpa using h2
          exact h3
        have h4 : IsDig s[0] := by rw [h1]; exact HDG.out _ (List.getElem_mem _)
        unfold IsDig at h4
        rw [beq_eq_false_iff_ne]
        omega
      go_wp2_with fail
      go_meet
      exact ⟨rfl, rfl⟩
    · have hq : ((s[0].toNat : Int) == 45) = true := by
        have h1 : s[0] = 45 := by
          have h2 : s.data.toList[0]'(by rw [HSD.out]; simp) = 45 := by simp [HSD.out]
          have h3 : s.data[0]'hs1 = 45 := by simpa using h2
          exact h3
        rw [h1]; rfl
      go_wp2_with fail
      go_meet
      exact ⟨rfl, rfl⟩
  case rest =>
    obtain ⟨rfl, rfl⟩ := hcut
    go_upto_if 16 with (fail)
    go_cut [3] (fun v wc => ∃ s' : ByteArray, v = .string s' ∧ s'.data.toList = Lib.decDigits n ∧ Blk wc w.heap.size 51 [.bool false, .slice none 0 0] ∧ Blk wc (w.heap.size + 1) 51 [.bool na, .slice none 0 0] ∧ Below w.heap.size w wc ∧ w.heap.size + 2 ≤ wc.heap.size)
    case first =>
      cases na
      · go_wp2_with fail
        go_meet
        exact ⟨s, rfl, HSD.out, HR0.out, HB0.out, HBEL0.out, hs0⟩
      · have hz' : 1 ≤ s.size := by omega
        have hex := extract_tail (c := 45) (r := Lib.decDigits n) HSD.out
        have HEX := Lib.hid hex
        clear hex
        go_wp2_with fail
        go_region
        all_goals
          go_wp2_with fail
          go_meet
          exact ⟨_, rfl, HEX.out, HR0.out.far (p := ⟨w.heap.size + 1, 0, none⟩) (by show w.heap.size ≠ w.heap.size + 1; omega) _, HB0.out.set 0 _, (HBEL0.out.setCell (p := ⟨w.heap.size + 1, 0, none⟩) (Nat.le_succ _) _).drew, by simpa [World.setCell] using hs0⟩
    case rest =>
      obtain ⟨s', rfl, hm, hr, hk, hbel, hsc⟩ := hcut
      have HM := Lib.hid hm
      have HR := Lib.hid hr
      have HK := Lib.hid hk
      have HBEL := Lib.hid hbel
      clear hm hr hk hbel HB0 HR0 HBEL0 c0 f0 hs0 hse hse' HSD HSZ hs1 hs2
      go_wp2_with fail
      go_loopw [3] (fun sv wr => ∃ (k : Nat) (sk : ByteArray) (v : Value), sv = .string sk ∧ sk.data.toList = (Lib.decDigits n).take ((Lib.decDigits n).length - 9 * k) ∧ 9 * k < (Lib.decDigits n).length + 9 ∧ wr.ownsRow (w.heap.size + 2) 3 1 v (limbsTo n k).length (vn (limbsTo n k)) ∧ Blk wr w.heap.size 51 [.bool false, .slice none 0 0] ∧ Blk wr (w.heap.size + 1) 51 [.bool na, v] ∧ Below w.heap.size w wr ∧ w.heap.size + 2 ≤ wr.heap.size) (fun sv _ => match sv with | .string s => s.size | _ => 0)
      case atStart => exact ⟨0, s', .slice none 0 0, rfl, by rw [HM.out]; simp, by omega, World.ownsRow_nil _ _ _ _, HR.out, HK.out, HBEL.out, hsc⟩
      case round =>
        obtain ⟨k, sk, v, rfl, hsk, hk9, hown, hr, hkb, hbel, hsz⟩ := hrel
        clear HR HK HBEL HM hsc
        have HSK := Lib.hid hsk
        have HOWN := Lib.hid hown
        have HR := Lib.hid hr
        have HK := Lib.hid hkb
        have HBEL := Lib.hid hbel
        have hv1 : wr.cell? ⟨w.heap.size + 1, 1, none⟩ = some v := hkb.at_ rfl
        have hv0 : wr.cell? ⟨w.heap.size + 1, 0, none⟩ = some (.bool na) := hkb.at_ rfl
        have hvf := hkb.fr 1
        have hsks : sk.size = (Lib.decDigits n).length - 9 * k := by
          have := congrArg List.length hsk
          rw [Array.length_toList, List.length_take] at this
          have h2 : sk.size = sk.data.size := rfl
          omega
        have hskl : sk.size ≤ 1000000 := by omega
        have HSKS := Lib.hid hsks
        have HLL := Lib.hid (limbsTo_length n k)
        have hkl : (limbsTo n k).length ≤ 1000000 := by rw [limbsTo_length]; omega
        clear hsk hown hr hkb hbel hsks
        by_cases hpos : 0 < sk.size
        · obtain ⟨K, hK⟩ : ∃ K, K = sk.size - 9 := ⟨_, rfl⟩
          have HKK := Lib.hid hK
          have hKs : K ≤ sk.size := by omega
          clear hK
          go_upto_region 6 with (fail)
          go_cut [5] (fun v wc => v = .int .i64 (K : Int) ∧ wr = wc)
          case first =>
            have hK := HKK.out
            go_wp2_with fail
            all_goals
              go_meet
              exact ⟨congrArg (Value.int .i64) (by omega), rfl⟩
          case rest =>
            obtain ⟨rfl, rfl⟩ := hcut
            have HDS : Hid (Digs sk.data.toList) := by rw [HSK.out]; exact HDG.out.take _
            have HLS := Lib.hid (show sk.data.toList.length = sk.size from Array.length_toList)
            have hK9 : sk.size ≤ K + 9 := by have := HKK.out; omega
            go_wp2_with fail
            go_loop [6, 7] (fun nv iv => ∃ (m i : Nat), nv = .int .i64 (m : Int) ∧ iv = .int .i64 (i : Int) ∧ K ≤ i ∧ i ≤ sk.size ∧ m = decVal ((sk.data.toList.take i).drop K)) (fun _ iv => sk.size - (intOf iv).toNat)
            case atStart => exact ⟨0, K, rfl, rfl, Nat.le_refl _, hKs, by rw [List.drop_eq_nil_of_le (by rw [List.length_take]; omega)]; rfl⟩
            case round =>
              obtain ⟨m, i, rfl, rfl, hKi, his, hm⟩ := hrel
              have HMV := Lib.hid hm
              have hm9 : m < 1000000000 := by rw [hm]; exact decVal_lt9 HDS.out (by omega)
              clear hm
              by_cases hlt : i < sk.size
              · have hdig : IsDig sk[i] := HDS.out _ (by
                  have : sk[i] = sk.data.toList[i]'(by rw [HLS.out]; exact hlt) := rfl
                  rw [this]
                  exact List.getElem_mem _)
                unfold IsDig at hdig
                obtain ⟨hd1, hd2⟩ := hdig
                have HN2 : Hid (10 * m + (sk[i].toNat - 48) = decVal ((sk.data.toList.take (i + 1)).drop K)) := by
                  rw [take_drop_snoc (by rw [HLS.out]; exact hlt) hKi, decVal_snoc, HMV.out]
                  rfl
                go_wp2_with fail
                go_round
                case rel => exact ⟨10 * m + (sk[i].toNat - 48), i + 1, congrArg (Value.int .i64) (by omega), by go_num, by omega, by omega, HN2.out⟩
                case measure => simp [intOf]; omega
              · obtain rfl : i = sk.size := by omega
                have hmv : m = n / 1000000000 ^ k % 1000000000 := by
                  rw [HMV.out, List.take_of_length_le (by rw [HLS.out]; omega), HSK.out, HKK.out, HSKS.out]
                  exact chunk_val n k (by have := HSKS.out; omega)
                have HMM := Lib.hid hmv
                clear hmv
                go_wp2_with (at_builtin; refine wpList_append_own _ rfl _ _ 22 rfl (w.heap.size + 2) 3 i0 (.int .i64 0) 1 8 Tryz.underlying22 hi hz0 hz1 hz2 rfl (by decide) _ _ _ rfl (HOWN.out.alloc _) ⟨wr.heap.size, 0, none⟩ 1 1 [_] rfl rfl one_new one_cell (by unfold maxLen; omega) (by omega) (by simp; omega) ?_)
                intro v' w1 hown1 hgrow1 _
                obtain ⟨ho1, hb1, hs1, hk1⟩ := own_push2 HOWN.out hsz HBEL.out (by omega) hown1 hgrow1 (x := m) rfl
                rw [HMM.out, ← limbsTo_succ] at ho1
                obtain ⟨gn, capn, rfl, -, -⟩ := ho1.form (by rw [limbsTo_length]; omega)
                have HO1 := Lib.hid ho1
                have HB1 := Lib.hid hb1
                have HK1 := Lib.hid (hk1 _ _ _ (by omega) HK.out)
                have HR1 := Lib.hid (hk1 _ _ _ (by omega) HR.out)
                have hc1 : w1.cell? ⟨w.heap.size + 1, 1, none⟩ = some v := HK1.out.at_ rfl
                have hc1f := HK1.out.fr 1
                clear hown1 hgrow1 ho1 hb1 hk1
                have hed : (sk.extract 0 K).data.toList = sk.data.toList.take K := by rw [Lib.extract_data]; simp
                have hes : (sk.extract 0 K).size = K := by
                  have := congrArg List.length hed
                  rw [Array.length_toList, List.length_take, HLS.out] at this
                  have h2 : (sk.extract 0 K).size = (sk.extract 0 K).data.size := rfl
                  omega
                have HED := Lib.hid hed
                have HES := Lib.hid hes
                clear hed hes
                go_wp2_with fail
                go_roundw
                case rel =>
                  refine ⟨k + 1, _, _, rfl, ?_, by have := HSKS.out; omega, ownsRow_setCell_below HO1.out (a := ⟨w.heap.size + 1, 1, none⟩) (by show w.heap.size + 1 < w.heap.size + 2; omega) _, HR1.out.far (p := ⟨w.heap.size + 1, 1, none⟩) (by show w.heap.size ≠ w.heap.size + 1; omega) _, HK1.out.set 1 _, HB1.out.setCell (p := ⟨w.heap.size + 1, 1, none⟩) (Nat.le_succ _) _, by simpa [World.setCell] using hs1⟩
                  rw [HED.out, HSK.out, List.take_take]
                  congr 1
                  have := HKK.out
                  have := HSKS.out
                  omega
                case measure =>
                  show (sk.extract 0 K).size < sk.size
                  rw [HES.out]
                  have := HKK.out
                  omega
        · have hnk : n < 1000000000 ^ k := lt_pow_of_digits (by have := HSKS.out; omega)
          have hrow := own_row HOWN.out
          have hvv : val (limbsTo n k) = n := by rw [limbsTo_val, Nat.mod_eq_of_lt hnk]
          have HTR := Lib.hid (rtrim_num na v (limbsTo n k) n wr hrow (limbsTo_low n k) hvv (by omega))
          obtain ⟨A, c, rfl, hlc, hcc⟩ := hrow
          clear hnk hvv hcc
          go_wp2_with fail
          refine HTR.out.mono ?_
          rintro e w3 ⟨v3, rfl, ⟨A3, c3, rfl, hl3, hs3⟩, hb3⟩
          have HR3 := Lib.hid (HR.out.below hb3)
          have HB3 := Lib.hid (HBEL.out.trans (hb3.mono HBEL.out.size))
          have HS3 := Lib.hid hs3
          have hr0 : w3.cell? ⟨w.heap.size, 0, none⟩ = some (.bool false) := HR3.out.at_ rfl
          have hr1 : w3.cell? ⟨w.heap.size, 1, none⟩ = some (.slice none 0 0) := HR3.out.at_ rfl
          have hg0 := HR3.out.fr 0
          have hg1 := HR3.out.fr 1
          clear hb3 hs3 HTR
          go_wp2_with fail
          refine bodyPost_ret (v := .agg #[.bool (decide (sgnB na n < 0)), .slice A3 (limbs (sgnB na n).natAbs).length c3]) (by simp [results, Tryz.results51, go_sem, hr0, hr1]) rfl ?_
          exact big_end HR3.out HB3.out (Nat.le_refl _) HS3.out hl3 HSG.out

end Go.Proofs.YtmickdolpgjbhaaGreatDoor
