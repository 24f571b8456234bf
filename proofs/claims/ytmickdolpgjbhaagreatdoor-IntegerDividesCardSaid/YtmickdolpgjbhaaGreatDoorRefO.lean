/-
  Package joinlearnref01: Give, Make, Sign, Cmp, Compare.
-/
import Derived.Test.YtmickdolpgjbhaaGreatDoorRefN
namespace Go.Proofs.YtmickdolpgjbhaaGreatDoor
open Go.RowKit

theorem fits_iff (x : Int) : Fits x ↔ Lib.nDigits x.natAbs ≤ 400 := by unfold Fits; rw [Lib.decDigits_length]

set_option maxRecDepth 100000 in
set_option maxHeartbeats 1000000 in
theorem RGive_any (u : Value) (x : Int) (w : World) (hx : IsBig w u x) (hlx : (limbs x.natAbs).length ≤ 1000000) :
    Calls Tryz.prog 33 #[u] w fun e w' => e = .returned (.tuple #[.string (outS x), .int .i64 (outE x)]) ∧ Below w.heap.size w w' := by
  have HX := Lib.hid hx
  obtain ⟨A, c, rfl, hlc, hc⟩ := hx
  have HFIT := Lib.hid (fits_iff x)
  generalize decide (x < 0) = na at *
  have hbw : Hid (Below w.heap.size w (w.alloc (.cells #[.bool na, .slice A (limbs x.natAbs).length c] 51))) := (Below.refl _ _).alloc (Nat.le_refl _) _
  have HD := Lib.hid (RDigits_any _ x _ (HX.out.below hbw.out) (by omega))
  have HBOX := Lib.hid (Blk.new w 51 [.bool na, .slice A (limbs x.natAbs).length c])
  clear hc
  by_cases hf : Fits x
  · have hd := HFIT.out.1 hf
    have E1 := Lib.hid (outS_fits hf)
    have E2 := Lib.hid (outE_fits hf)
    clear hf
    go_enter Tryz.func33, Tryz.ntmps33
    go_wp2_with fail
    generalize w.alloc (.cells #[.bool na, .slice A (limbs x.natAbs).length c] 51) = W at *
    refine HD.out.mono ?_
    rintro e w2 ⟨rfl, hb2⟩
    have HB2 := Lib.hid (hbw.out.trans (hb2.mono hbw.out.size))
    have hk := HBOX.out.below hb2
    have h0 : w2.cell? ⟨w.heap.size, 0, none⟩ = some (.bool na) := hk.at_ rfl
    have h1 : w2.cell? ⟨w.heap.size, 1, none⟩ = some (.slice A (limbs x.natAbs).length c) := hk.at_ rfl
    have HS := Lib.hid (RText_any _ x w2 (HX.out.below HB2.out) hlx)
    clear hb2 hk HD
    go_wp2_with fail
    refine HS.out.mono ?_
    rintro e w3 ⟨rfl, hb3⟩
    have HB3 := Lib.hid (HB2.out.trans (hb3.mono HB2.out.size))
    clear hb3
    go_wp2_with fail
    go_ret2
    exact ⟨by rw [E1.out, E2.out]; rfl, HB3.out⟩
  · have hd : ¬ Lib.nDigits x.natAbs ≤ 400 := fun h => hf (HFIT.out.2 h)
    have E1 := Lib.hid (show outS x = ⟨#[]⟩ from if_neg hf)
    have E2 := Lib.hid (show outE x = 3 from if_neg hf)
    clear hf
    go_enter Tryz.func33, Tryz.ntmps33
    go_wp2_with fail
    refine HD.out.mono ?_
    rintro e w2 ⟨rfl, hb2⟩
    have HB2 := Lib.hid (hbw.out.trans (hb2.mono hbw.out.size))
    clear hb2 HD
    go_wp2_with fail
    go_ret2
    exact ⟨by rw [E1.out, E2.out]; rfl, HB2.out⟩

theorem limbs_word {n : Int} (h0 : -9223372036854775808 ≤ n) (h1 : n ≤ 9223372036854775807) : (limbs n.natAbs).length ≤ 3 := limbs_length_le (by omega)
set_option maxHeartbeats 1000000 in
theorem RMake_ok (n : Int) (w : World) (h0 : -9223372036854775808 ≤ n) (h1 : n ≤ 9223372036854775807) : Calls Tryz.prog 22 #[.int .i64 n] w fun e w' => e = .returned (.string (str n)) ∧ Below w.heap.size w w' := by
  have HO := Lib.hid (ROf_any n w h0 h1)
  have hl := limbs_word h0 h1
  clear h0 h1
  go_enter Tryz.func22, Tryz.ntmps22
  go_wp2_with fail
  refine HO.out.mono ?_
  rintro e w1 ⟨v1, rfl, hv1, hb1⟩
  have HT := Lib.hid (RText_any v1 n w1 hv1 (by omega))
  have HB1 := Lib.hid hb1
  clear hv1 hb1 HO
  go_wp2_with fail
  refine HT.out.mono ?_
  rintro e w2 ⟨rfl, hb2⟩
  have HB2 := Lib.hid (HB1.out.trans (hb2.mono HB1.out.size))
  clear hb2
  go_wp2_with fail
  go_ret
  exact ⟨rfl, HB2.out⟩

theorem RValid_ok (x : Int) (w : World) (hf : Fits x) : Calls Tryz.prog 26 #[.string (str x)] w fun e w' => e = .returned (.bool true) ∧ Below w.heap.size w w' := by
  have := RValid_any (Lib.itoa x) w (by have := itoa_length x; unfold Fits at hf; omega)
  rw [valid_itoa hf] at this
  exact this
theorem str_toList (x : Int) : (str x).toList = Lib.itoa x := by rw [Lib.toList_data]; unfold str; simp
theorem str_size (x : Int) : (str x).size = (Lib.itoa x).length := by unfold str; simp [ByteArray.size]

set_option maxRecDepth 100000 in
set_option maxHeartbeats 1000000 in
theorem RSign_ok (x : Int) (w : World) (hf : Fits x) : Calls Tryz.prog 15 #[.string (str x)] w fun e w' => e = .returned (.int .i64 (sg x)) ∧ Below w.heap.size w w' := by
  have HV := Lib.hid (RValid_ok x w hf)
  clear hf
  by_cases h0 : x = 0
  · have hq : ((str x).toList == [48]) = true := by rw [str_toList, h0, itoa_zero]; rfl
    have E := Lib.hid (show sg x = 0 by rw [h0]; rfl)
    clear h0
    go_enter Tryz.func15, Tryz.ntmps15
    go_wp2_with fail
    refine HV.out.mono ?_
    rintro e w1 ⟨rfl, hb1⟩
    have HB1 := Lib.hid hb1
    clear hb1
    go_wp2_with fail
    go_ret
    exact ⟨by rw [E.out]; rfl, HB1.out⟩
  · have hq : ((str x).toList == [48]) = false := by rw [str_toList, beq_eq_false_iff_ne]; exact fun e => h0 (itoa_eq_zero.1 e)
    have hsz : 0 < (str x).size := by
      rw [str_size]
      rcases Nat.eq_zero_or_pos (Lib.itoa x).length with h | h
      · exfalso
        have h1 := (itoa_prefix x).2
        rw [List.eq_nil_of_length_eq_zero h] at h1
        exact decDigits_ne_nil x.natAbs (by rw [← h1]; rfl)
      · exact h
    have hdata : (str x).data.toList = Lib.itoa x := by unfold str; simp
    have h0c : (str x)[0] = (Lib.itoa x)[0]'(by rw [← str_size]; exact hsz) := by
      have h2 : (str x).data.toList[0]'(by rw [hdata, ← str_size]; exact hsz) = (Lib.itoa x)[0]'(by rw [← str_size]; exact hsz) := by simp [hdata]
      have h3 : (str x).data[0]'hsz = (Lib.itoa x)[0]'(by rw [← str_size]; exact hsz) := by simpa using h2
      exact h3
    by_cases hx : x < 0
    · have hc : ((((str x)[0]).toNat : Int) == 45) = true := by
        have : (Lib.itoa x)[0]'(by rw [← str_size]; exact hsz) = 45 := by
          have : Lib.itoa x = 45 :: Lib.decDigits x.natAbs := by unfold Lib.itoa; rw [if_pos hx]
          simp [this]
        rw [h0c, this]; rfl
      have E := Lib.hid (show sg x = -1 by simp [sg, hx])
      clear h0c hdata h0 hx
      generalize str x = s at *
      go_enter Tryz.func15, Tryz.ntmps15
      go_wp2_with fail
      refine HV.out.mono ?_
      rintro e w1 ⟨rfl, hb1⟩
      have HB1 := Lib.hid hb1
      clear hb1
      go_wp2_with fail
      go_ret
      exact ⟨by rw [E.out]; rfl, HB1.out⟩
    · have hc : ((((str x)[0]).toNat : Int) == 45) = false := by
        have hI : Lib.itoa x = Lib.decDigits x.natAbs := by unfold Lib.itoa; rw [if_neg hx]; congr 1; omega
        have hd : IsDig ((Lib.itoa x)[0]'(by rw [← str_size]; exact hsz)) := decDigits_digs x.natAbs _ (by rw [← hI]; exact List.getElem_mem _)
        rw [h0c, beq_eq_false_iff_ne]
        unfold IsDig at hd
        omega
      have E := Lib.hid (show sg x = 1 by have : 0 < x := by omega
                                          simp [sg, hx, this])
      clear h0c hdata h0 hx
      generalize str x = s at *
      go_enter Tryz.func15, Tryz.ntmps15
      go_wp2_with fail
      refine HV.out.mono ?_
      rintro e w1 ⟨rfl, hb1⟩
      have HB1 := Lib.hid hb1
      clear hb1
      go_wp2_with fail
      go_ret
      exact ⟨by rw [E.out]; rfl, HB1.out⟩

set_option maxHeartbeats 1000000 in
theorem RSign_bad (l : List UInt8) (w : World) (hl : l.length ≤ 140737488355328) (h : validB l = false) : Calls Tryz.prog 15 #[.string ⟨l.toArray⟩] w fun e w' => e = .returned (.int .i64 0) ∧ Below w.heap.size w w' := by
  have HV := Lib.hid (RValid_any l w hl)
  rw [h] at HV
  clear h
  go_enter Tryz.func15, Tryz.ntmps15
  go_wp2_with fail
  refine HV.out.mono ?_
  rintro e w1 ⟨rfl, hb1⟩
  have HB1 := Lib.hid hb1
  clear hb1
  go_wp2_with fail
  go_ret
  exact ⟨rfl, HB1.out⟩

theorem cmpN_sg (a b : Nat) : cmpN a b = sg ((a : Int) - (b : Int)) := by
  unfold cmpN sg
  by_cases h1 : a < b
  · have : (a : Int) - (b : Int) < 0 := by omega
    simp [h1, this]
  · by_cases h2 : b < a
    · have h3 : ¬ (a : Int) - (b : Int) < 0 := by omega
      have h4 : 0 < (a : Int) - (b : Int) := by omega
      rw [if_neg h1, if_pos h2, if_neg h3, if_pos h4]
    · have h3 : ¬ (a : Int) - (b : Int) < 0 := by omega
      have h4 : ¬ 0 < (a : Int) - (b : Int) := by omega
      rw [if_neg h1, if_neg h2, if_neg h3, if_neg h4]
theorem sg_neg (z : Int) : sg (-z) = -sg z := by
  unfold sg
  rcases Int.lt_trichotomy z 0 with h | h | h
  · have h1 : ¬ -z < 0 := by omega
    have h2 : 0 < -z := by omega
    rw [if_neg h1, if_pos h2, if_pos h]; rfl
  · subst h; rfl
  · have h1 : -z < 0 := by omega
    have h2 : ¬ z < 0 := by omega
    rw [if_pos h1, if_neg h2, if_pos h]

set_option maxRecDepth 100000 in
set_option maxHeartbeats 1000000 in
theorem RCmp_any (u v : Value) (x y : Int) (w : World) (hx : IsBig w u x) (hy : IsBig w v y) (hlx : (limbs x.natAbs).length ≤ 100000000) (hly : (limbs y.natAbs).length ≤ 100000000) :
    Calls Tryz.prog 54 #[u, v] w fun e w' => e = .returned (.int .i64 (sg (x - y))) ∧ Below w.heap.size w w' := by
  obtain ⟨A, c, rfl, hlc, hc⟩ := hx
  obtain ⟨A', c', rfl, hlc', hc'⟩ := hy
  have HC := Lib.hid hc
  have HC' := Lib.hid hc'
  have HBW : Hid (∀ o1 o2 : Obj, Below w.heap.size w ((w.alloc o1).alloc o2)) := fun o1 o2 => ((Below.refl _ _).alloc (Nat.le_refl _) _).alloc (by simp) _
  clear hc hc'
  by_cases hq : decide (x < 0) = decide (y < 0)
  · have hqq : (x < 0 ↔ y < 0) := by simpa using hq
    have E : Hid (sg (x - y) = if decide (x < 0) = true then -(cmpN x.natAbs y.natAbs) else cmpN x.natAbs y.natAbs) := by
      by_cases h : x < 0
      · rw [if_pos (by simpa using h), cmpN_sg, ← sg_neg]
        show sg _ = sg _
        congr 1
        omega
      · rw [if_neg (by simpa using h), cmpN_sg]
        show sg _ = sg _
        congr 1
        omega
    have hcb : -1 ≤ cmpN x.natAbs y.natAbs ∧ cmpN x.natAbs y.natAbs ≤ 1 := by unfold cmpN; (repeat' split) <;> omega
    obtain ⟨hcb1, hcb2⟩ := hcb
    rw [← hq]
    clear hq hqq
    generalize hna : decide (x < 0) = na at *
    have HNA := Lib.hid hna
    clear hna
    have HS := Lib.hid (fun (V : World) (hV : Below w.heap.size w V) => rsize_any A A' x.natAbs y.natAbs c c' V (HC.out.below hV) (HC'.out.below hV) (by omega) (by omega))
    generalize cmpN x.natAbs y.natAbs = cm at *
    cases na
    all_goals
      go_enter Tryz.func54, Tryz.ntmps54
      go_wp2_with fail
      refine (HS.out _ (HBW.out _ _)).mono ?_
      rintro e w2 ⟨rfl, hb2⟩
      have HB2 := Lib.hid ((HBW.out _ _).trans (hb2.mono (HBW.out _ _).size))
      have hk := ((Blk.new w 51 [_, _]).alloc _).below hb2
      have h0 := hk.at_ (i := 0) rfl
      clear hb2 hk
      go_wp2_with fail
      go_ret
      exact ⟨by rw [E.out]; rfl, HB2.out⟩
  · have hq' : (decide (x < 0) == decide (y < 0)) = false := by simp only [beq_eq_false_iff_ne]; exact hq
    have hqb : (decide (x < 0) != decide (y < 0)) = true := by rw [bne_iff_ne]; exact hq
    by_cases h : x < 0
    · have e1 : decide (x < 0) = true := decide_eq_true h
      have e2 : decide (y < 0) = false := by
        rw [e1] at hq
        cases h2 : decide (y < 0)
        · rfl
        · exact absurd h2.symm hq
      have hy : ¬ y < 0 := by simpa using e2
      have E := Lib.hid (show sg (x - y) = -1 by have : x - y < 0 := by omega
                                                 simp [sg, this])
      rw [e1, e2]
      clear e1 e2 hq hq' hqb
      go_enter Tryz.func54, Tryz.ntmps54
      go_wp2_with fail
      go_ret
      exact ⟨by rw [E.out]; rfl, HBW.out _ _⟩
    · have e1 : decide (x < 0) = false := decide_eq_false h
      have e2 : decide (y < 0) = true := by
        rw [e1] at hq
        cases h2 : decide (y < 0)
        · exact absurd h2.symm hq
        · rfl
      have hy : y < 0 := by simpa using e2
      have E := Lib.hid (show sg (x - y) = 1 by have h3 : ¬ x - y < 0 := by omega
                                                have h4 : 0 < x - y := by omega
                                                rw [sg, if_neg h3, if_pos h4])
      rw [e1, e2]
      clear e1 e2 hq hq' hqb
      go_enter Tryz.func54, Tryz.ntmps54
      go_wp2_with fail
      go_ret
      exact ⟨by rw [E.out]; rfl, HBW.out _ _⟩

end Go.Proofs.YtmickdolpgjbhaaGreatDoor
