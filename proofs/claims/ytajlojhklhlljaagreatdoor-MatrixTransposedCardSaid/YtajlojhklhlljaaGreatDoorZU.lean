import Derived.Test.YtajlojhklhlljaaGreatDoorZT
import Derived.Test.YtajlojhklhlljaaGreatDoorZS
set_option maxHeartbeats 16000000
set_option maxRecDepth 100000
namespace Go.Proofs.YtajlojhklhlljaaGreatDoor
open Go.RowKit
def splitL (l : List UInt8) : List UInt8 × List UInt8 × Bool := if (cutS l).2.2 then cutS l else (l, [49], false)
theorem splitL_hit {l : List UInt8} {k : Nat} (hk : k < l.length) (h : 47 ∉ l.take k) (hc : l[k] = 47) : splitL l = (l.take k, l.drop (k + 1), true) := by
 have e : l = l.take k ++ 47 :: l.drop (k + 1) := by
  rw [← hc]; simp
 have := cutS_some (b := l.drop (k + 1)) h
 rw [← e] at this
 unfold splitL
 rw [this]
 rfl
theorem splitL_miss {l : List UInt8} (h : 47 ∉ l) : splitL l = (l, [49], false) := by
 unfold splitL
 rw [cutS_none h]
 rfl
theorem extract_take (s : ByteArray) (k : Nat) : s.extract 0 k = ⟨(s.data.toList.take k).toArray⟩ := by
 apply ByteArray.ext
 apply Array.toList_inj.1
 rw [Lib.extract_data]
 simp
theorem extract_drop (s : ByteArray) (k : Nat) : s.extract k s.size = ⟨(s.data.toList.drop k).toArray⟩ := by
 apply ByteArray.ext
 apply Array.toList_inj.1
 rw [Lib.extract_data]
 have : s.data.toList.length = s.size := Array.length_toList
 rw [← this, ← List.length_drop, List.take_length]
theorem take_no {s : ByteArray} {k : Nat} (hk : k < s.size) (h : 47 ∉ s.data.toList.take k) (hc : s[k] ≠ 47) : 47 ∉ s.data.toList.take (k + 1) := by
 have hl : k < s.data.toList.length := by rw [ba_size]; exact hk
 rw [List.take_succ_eq_append_getElem hl]
 intro hm
 rcases List.mem_append.1 hm with h1 | h1
 ·exact h h1
 ·simp at h1
  exact hc h1.symm
theorem split_any (s : ByteArray) (w : World) (hs : s.size ≤ 4000000000) :
  Calls Tryz.prog 168 #[.string s] w fun e w' => e = .returned (.tuple #[.string ⟨(splitL s.data.toList).1.toArray⟩, .string ⟨(splitL s.data.toList).2.1.toArray⟩, .bool (splitL s.data.toList).2.2]) ∧ Below w.heap.size w w' := by
 go_enter Tryz.func168, Tryz.ntmps168
 go_wp2
 go_loop [5] (fun iv => ∃ k : Nat, k ≤ s.size ∧ iv = .int .i64 (k : Int) ∧ 47 ∉ s.data.toList.take k) (fun iv => s.size - (intOf iv).toNat)
 case atStart => exact ⟨0, Nat.zero_le _, rfl, by simp⟩
 case round =>
  obtain ⟨k, hk, rfl, hno⟩ := hrel
  have HNO := Lib.hid hno
  clear hno
  by_cases hlt : k < s.size
  ·by_cases hc : s[k] = 47
   ·have hc' : (((s[k]).toNat : Int) == 47) = true := by rw [hc]; rfl
    have E := Lib.hid (splitL_hit (l := s.data.toList) (k := k) (by rw [ba_size]; exact hlt) HNO.out hc)
    have E1 := Lib.hid (extract_take s k)
    have E2 := Lib.hid (extract_drop s (k + 1))
    clear hc HNO
    have g1 : IntKind.i64.wrap ((k : Int) + 1) = (k : Int) + 1 := IntWalk.i64_in _ (by omega)
    have g2 : (0 : Int) ≤ (k : Int) + 1 := by omega
    have g3 : ((k : Int) + 1).toNat = k + 1 := by omega
    have g4 : (k : Int) + 1 ≤ (s.size : Int) := by omega
    have g5 : (k : Int) ≤ (s.size : Int) := by omega
    have g6 : (0 : Int) ≤ (k : Int) := by omega
    go_wp2
    go_quiet (fail)
    go_wp2
    go_ret3
    exact ⟨by rw [E.out, ← E1.out, ← E2.out]; rfl, below_drewN (Below.refl _ _) _⟩
   ·have hc' : (((s[k]).toNat : Int) == 47) = false := by
     rw [beq_eq_false_iff_ne]
     intro e
     apply hc
     apply UInt8.toNat_inj.1
     have : (47 : UInt8).toNat = 47 := rfl
     omega
    have E := Lib.hid (take_no hlt HNO.out hc)
    clear hc HNO
    go_wp2
    go_round
    case rel => exact ⟨k + 1, by omega, by go_num, E.out⟩
    case measure => simp [intOf]; omega
  ·have E := Lib.hid (splitL_miss (l := s.data.toList) (by have := HNO.out; rwa [List.take_of_length_le (by rw [ba_size]; omega)] at this))
   go_wp2
   go_ret3
   exact ⟨by rw [E.out]; simp only [ba_list]; rfl, Below.refl _ _⟩
theorem itoa_pos_len {x : Int} (h0 : 0 ≤ x) (h : Fits x) : (Lib.itoa x).length ≤ 400 := by
 obtain ⟨n, rfl⟩ : ∃ n : Nat, x = (n : Int) := ⟨x.toNat, by omega⟩
 rw [itoa_pos]
 unfold Fits at h
 rwa [Int.natAbs_natCast] at h
theorem rtext_len2 {q : Rat} (h : FitsR q) : (rtext q).length ≤ 802 := by
 have h1 := itoa_len h.1
 have h2 := itoa_pos_len (by omega) h.2
 unfold rtext
 split
 ·omega
 ·simp; omega
theorem split_whole {q : Rat} (h : q.den = 1) (hf : FitsR q) (w : World) :
  Calls Tryz.prog 168 #[.string (rstr q)] w fun e w' => e = .returned (.tuple #[.string (str q.num), .string ⟨#[49]⟩, .bool false]) ∧ Below w.heap.size w w' := by
 have := split_any (rstr q) w (by rw [rstr_size]; have := rtext_len hf; omega)
 rw [rstr_list, show splitL (rtext q) = (rtext q, [49], false) by unfold splitL; rw [cut_whole h]; rfl, rtext_whole h] at this
 exact this
theorem split_parts {q : Rat} (h : q.den ≠ 1) (hf : FitsR q) (w : World) :
  Calls Tryz.prog 168 #[.string (rstr q)] w fun e w' => e = .returned (.tuple #[.string (str q.num), .string (str (q.den : Int)), .bool true]) ∧ Below w.heap.size w w' := by
 have := split_any (rstr q) w (by rw [rstr_size]; have := rtext_len hf; omega)
 rw [rstr_list, show splitL (rtext q) = (Lib.itoa q.num, Lib.itoa (q.den : Int), true) by unfold splitL; rw [cut_parts h]; rfl] at this
 exact this
theorem str_pos_size (x : Int) : 0 < (str x).size := by
 rw [str_size]
 rcases Nat.eq_zero_or_pos (Lib.itoa x).length with h | h
 ·exfalso
  have h1 := (itoa_prefix x).2
  rw [List.eq_nil_of_length_eq_zero h] at h1
  exact decDigits_ne_nil x.natAbs (by rw [← h1]; rfl)
 ·exact h
theorem str_first (x : Int) (hsz : 0 < (str x).size) : ((((str x)[0]).toNat : Int) == 45) = decide (x < 0) := by
 have hdata : (str x).data.toList = Lib.itoa x := by unfold str; simp
 have h0c : (str x)[0] = (Lib.itoa x)[0]'(by rw [← str_size]; exact hsz) := by
  have h2 : (str x).data.toList[0]'(by rw [hdata, ← str_size]; exact hsz) = (Lib.itoa x)[0]'(by rw [← str_size]; exact hsz) := by simp [hdata]
  have h3 : (str x).data[0]'hsz = (Lib.itoa x)[0]'(by rw [← str_size]; exact hsz) := by simpa using h2
  exact h3
 by_cases hx : x < 0
 ·have : (Lib.itoa x)[0]'(by rw [← str_size]; exact hsz) = 45 := by
   have : Lib.itoa x = 45 :: Lib.decDigits x.natAbs := by unfold Lib.itoa; rw [if_pos hx]
   simp [this]
  rw [h0c, this, decide_eq_true hx]; rfl
 ·have hI : Lib.itoa x = Lib.decDigits x.natAbs := by unfold Lib.itoa; rw [if_neg hx]; congr 1; omega
  have hd : IsDig ((Lib.itoa x)[0]'(by rw [← str_size]; exact hsz)) := decDigits_digs x.natAbs _ (by rw [← hI]; exact List.getElem_mem _)
  rw [h0c, decide_eq_false hx, beq_eq_false_iff_ne]
  unfold IsDig at hd
  omega
theorem str_is {x : Int} {n : Int} : ((str x).toList == Lib.itoa n) = decide (x = n) := by
 rw [str_toList]
 by_cases h : x = n
 ·subst h; simp
 ·rw [decide_eq_false h, beq_eq_false_iff_ne]
  exact fun e => h (itoa_inj e)
theorem str_is0 (x : Int) : ((str x).toList == [48]) = decide (x = 0) := by rw [← itoa_zero]; exact str_is
theorem str_is1 (x : Int) : ((str x).toList == [49]) = decide (x = 1) := by rw [← str_1l]; exact str_is
theorem str_isn1 (x : Int) : ((str x).toList != [49]) = !decide (x = 1) := by rw [← str_is1]; rfl
theorem RTextS (u : Value) (x : Int) (w : World) (hx : IsBig w u x) (hlx : (limbs x.natAbs).length ≤ 1000000) :
  Calls Tryz.prog 206 #[u] w fun e w' => e = .returned (.string (str x)) ∧ Below w.heap.size w w' := RText_any u x w hx hlx
theorem RRead_fits (x : Int) (w : World) (hf : Fits x) : Calls Tryz.prog 169 #[.string (str x)] w (RetBigN w x) := RRead_any x w (by unfold Fits at hf; omega)
theorem RFParts_whole (q : Rat) (w : World) (h : q.den = 1) (hf : FitsR q) : Calls Tryz.prog 167 #[.string (rstr q)] w fun e w' => e = .returned (.tuple #[.string (str q.num), .string ⟨#[49]⟩, .bool true]) ∧ Below w.heap.size w w' := by
 have H1 := Lib.hid (split_whole h hf w)
 have H2 := Lib.hid (fun W => RValid_ok q.num W hf.1)
 have H3 := Lib.hid (fun W => RValid_ok 1 W one_fits)
 rw [str_1] at H3
 have hz : (rstr q).size ≤ 802 := by rw [rstr_size]; exact rtext_len2 hf
 generalize rstr q = s at *
 generalize str q.num = s1 at *
 clear h hf
 go_enter Tryz.func167, Tryz.ntmps167
 go_wp2_with fail
 refine (H1.out).mono ?_
 rintro e w1 ⟨rfl, hb⟩
 have HB := Lib.hid hb
 clear hb
 go_wp2_with fail
 refine (H2.out w1).mono ?_
 rintro e w2 ⟨rfl, hb⟩
 replace HB := Lib.hid (HB.out.trans (hb.mono HB.out.size))
 clear hb
 go_wp2_with fail
 refine (H3.out w2).mono ?_
 rintro e w3 ⟨rfl, hb⟩
 replace HB := Lib.hid (HB.out.trans (hb.mono HB.out.size))
 clear hb
 go_wp2_with fail
 go_ret3
 exact ⟨rfl, HB.out⟩
def partsB (n m : Int) : Bool := decide (n ≠ 0) && decide (1 < m) && decide (n.natAbs.gcd m.natAbs = 1)
def partsV (n m : Int) : Value := if partsB n m then .tuple #[.string (str n), .string (str m), .bool true] else .tuple #[.string ⟨#[]⟩, .string ⟨#[]⟩, .bool false]
theorem RFParts_slash (s : ByteArray) (n m : Int) (w : World) (hs : s.size ≤ 802) (fn : Fits n) (fm : Fits m) (hsp : ∀ W, Calls Tryz.prog 168 #[.string s] W fun e w' => e = .returned (.tuple #[.string (str n), .string (str m), .bool true]) ∧ Below W.heap.size W w') :
  Calls Tryz.prog 167 #[.string s] w fun e w' => e = .returned (partsV n m) ∧ Below w.heap.size w w' := by
 have HSP := Lib.hid (hsp w)
 have HV1 := Lib.hid (fun W => RValid_ok n W fn)
 have HV2 := Lib.hid (fun W => RValid_ok m W fm)
 have HRN := Lib.hid (fun W => RRead_fits n W fn)
 have HRM := Lib.hid (fun W => RRead_fits m W fm)
 have lnn := fn.len
 have lmm := fm.len
 have hms := str_pos_size m
 have t0 := str_first m hms
 have t1 := str_is0 n
 have t2 := str_is1 m
 have t3 := str_is0 m
 have t4 := str_isn1 ((n.natAbs.gcd m.natAbs : Nat) : Int)
 have t5 := str_is1 ((n.natAbs.gcd m.natAbs : Nat) : Int)
 have lg : (limbs (((n.natAbs.gcd m.natAbs : Nat) : Int)).natAbs).length ≤ 1000000 := by
  rw [Int.natAbs_natCast]
  rcases Nat.eq_zero_or_pos m.natAbs with e | e
  ·rw [e, Nat.gcd_zero_right]; omega
  ·exact Nat.le_trans (limbs_length_mono (Nat.gcd_le_right _ e)) (by omega)
 have HGC := Lib.hid (fun U V W (hU : IsBig W U n) (hV : IsBig W V m) => RGcd_any U V n m W hU hV (by omega) (by omega))
 have HTX := Lib.hid (fun U W (hU : IsBig W U ((n.natAbs.gcd m.natAbs : Nat) : Int)) => RTextS U _ W hU lg)
 clear hsp fn fm
 by_cases c1 : n = 0
 ·rw [decide_eq_true c1] at t1
  have E0 : partsB n m = false := by unfold partsB; simp [c1]
  have E := Lib.hid (show partsV n m = _ by unfold partsV; rw [E0])
  clear E0
  clear t2 t3 t4 t5 t0 hms c1 HRN HRM lg
  generalize str n = s1 at *
  generalize str m = s2 at *
  go_enter Tryz.func167, Tryz.ntmps167
  go_wp2_with fail
  refine (HSP.out).mono ?_
  rintro e w1 ⟨rfl, hb⟩
  have HB := Lib.hid hb
  clear hb
  go_wp2_with fail
  refine (HV1.out w1).mono ?_
  rintro e w2 ⟨rfl, hb⟩
  replace HB := Lib.hid (HB.out.trans (hb.mono HB.out.size))
  clear hb
  go_wp2_with fail
  refine (HV2.out w2).mono ?_
  rintro e w3 ⟨rfl, hb⟩
  replace HB := Lib.hid (HB.out.trans (hb.mono HB.out.size))
  clear hb
  go_wp2_with fail
  go_ret3
  exact ⟨by rw [E.out]; rfl, HB.out⟩
 ·rw [decide_eq_false c1] at t1
  by_cases c2 : m = 1
  ·rw [decide_eq_true c2] at t2
   have E0 : partsB n m = false := by unfold partsB; simp [c2]
   have E := Lib.hid (show partsV n m = _ by unfold partsV; rw [E0])
   clear E0
   clear t3 t4 t5 t0 hms c1 c2 HRN HRM lg
   generalize str n = s1 at *
   generalize str m = s2 at *
   go_enter Tryz.func167, Tryz.ntmps167
   go_wp2_with fail
   refine (HSP.out).mono ?_
   rintro e w1 ⟨rfl, hb⟩
   have HB := Lib.hid hb
   clear hb
   go_wp2_with fail
   refine (HV1.out w1).mono ?_
   rintro e w2 ⟨rfl, hb⟩
   replace HB := Lib.hid (HB.out.trans (hb.mono HB.out.size))
   clear hb
   go_wp2_with fail
   refine (HV2.out w2).mono ?_
   rintro e w3 ⟨rfl, hb⟩
   replace HB := Lib.hid (HB.out.trans (hb.mono HB.out.size))
   clear hb
   go_wp2_with fail
   go_ret3
   exact ⟨by rw [E.out]; rfl, HB.out⟩
  ·rw [decide_eq_false c2] at t2
   by_cases c3 : m = 0
   ·rw [decide_eq_true c3] at t3
    have E0 : partsB n m = false := by unfold partsB; simp [c3]
    have E := Lib.hid (show partsV n m = _ by unfold partsV; rw [E0])
    clear E0
    clear t4 t5 t0 hms c1 c2 c3 HRN HRM lg
    generalize str n = s1 at *
    generalize str m = s2 at *
    go_enter Tryz.func167, Tryz.ntmps167
    go_wp2_with fail
    refine (HSP.out).mono ?_
    rintro e w1 ⟨rfl, hb⟩
    have HB := Lib.hid hb
    clear hb
    go_wp2_with fail
    refine (HV1.out w1).mono ?_
    rintro e w2 ⟨rfl, hb⟩
    replace HB := Lib.hid (HB.out.trans (hb.mono HB.out.size))
    clear hb
    go_wp2_with fail
    refine (HV2.out w2).mono ?_
    rintro e w3 ⟨rfl, hb⟩
    replace HB := Lib.hid (HB.out.trans (hb.mono HB.out.size))
    clear hb
    go_wp2_with fail
    go_ret3
    exact ⟨by rw [E.out]; rfl, HB.out⟩
   ·rw [decide_eq_false c3] at t3
    by_cases c4 : m < 0
    ·rw [decide_eq_true c4] at t0
     have E0 : partsB n m = false := by unfold partsB; simp; omega
     have E := Lib.hid (show partsV n m = _ by unfold partsV; rw [E0])
     clear E0
     clear t4 t5 c1 c2 c3 c4 HRN HRM lg
     generalize str n = s1 at *
     generalize str m = s2 at *
     go_enter Tryz.func167, Tryz.ntmps167
     go_wp2_with fail
     refine (HSP.out).mono ?_
     rintro e w1 ⟨rfl, hb⟩
     have HB := Lib.hid hb
     clear hb
     go_wp2_with fail
     refine (HV1.out w1).mono ?_
     rintro e w2 ⟨rfl, hb⟩
     replace HB := Lib.hid (HB.out.trans (hb.mono HB.out.size))
     clear hb
     go_wp2_with fail
     refine (HV2.out w2).mono ?_
     rintro e w3 ⟨rfl, hb⟩
     replace HB := Lib.hid (HB.out.trans (hb.mono HB.out.size))
     clear hb
     go_wp2_with fail
     go_ret3
     exact ⟨by rw [E.out]; rfl, HB.out⟩
    ·rw [decide_eq_false c4] at t0
     have c5 : 1 < m := by omega
     by_cases c6 : n.natAbs.gcd m.natAbs = 1
     ·rw [decide_eq_true (show ((n.natAbs.gcd m.natAbs : Nat) : Int) = 1 by omega)] at t4 t5
      have E0 : partsB n m = true := by unfold partsB; simp [c1, c5, c6]
      have E := Lib.hid (show partsV n m = _ by unfold partsV; rw [E0])
      clear E0
      clear c1 c2 c3 c4 c5 c6
      generalize ((n.natAbs.gcd m.natAbs : Nat) : Int) = G at *
      generalize str n = s1 at *
      generalize str m = s2 at *
      generalize str G = s3 at *
      go_enter Tryz.func167, Tryz.ntmps167
      go_wp2_with fail
      refine (HSP.out).mono ?_
      rintro e w1 ⟨rfl, hb⟩
      have HB := Lib.hid hb
      clear hb
      go_wp2_with fail
      refine (HV1.out w1).mono ?_
      rintro e w2 ⟨rfl, hb⟩
      replace HB := Lib.hid (HB.out.trans (hb.mono HB.out.size))
      clear hb
      go_wp2_with fail
      refine (HV2.out w2).mono ?_
      rintro e w3 ⟨rfl, hb⟩
      replace HB := Lib.hid (HB.out.trans (hb.mono HB.out.size))
      clear hb
      go_wp2_with fail
      refine (HRN.out w3).mono ?_
      rintro e w4 ⟨v4, rfl, hv, hb⟩
      have HN := Lib.hid hv
      obtain ⟨x4, X4, y4, z4, rfl⟩ := hv.slice
      replace HB := Lib.hid (HB.out.trans (hb.mono HB.out.size))
      clear hb hv
      go_wp2_with fail
      refine (HRM.out w4).mono ?_
      rintro e w5 ⟨v5, rfl, hv, hb⟩
      replace HN := Lib.hid (HN.out.below hb)
      have HM := Lib.hid hv
      obtain ⟨x5, X5, y5, z5, rfl⟩ := hv.slice
      replace HB := Lib.hid (HB.out.trans (hb.mono HB.out.size))
      clear hb hv
      go_wp2_with fail
      refine (HGC.out _ _ w5 HN.out HM.out).mono ?_
      rintro e w6 ⟨v6, rfl, hv, hb⟩
      clear HN HM
      have HG := Lib.hid hv
      obtain ⟨x6, X6, y6, z6, rfl⟩ := hv.slice
      replace HB := Lib.hid (HB.out.trans (hb.mono HB.out.size))
      clear hb hv
      go_wp2_with fail
      refine (HTX.out _ w6 HG.out).mono ?_
      rintro e w7 ⟨rfl, hb⟩
      clear HG
      replace HB := Lib.hid (HB.out.trans (hb.mono HB.out.size))
      clear hb
      go_wp2_with fail
      go_ret3
      exact ⟨by rw [E.out]; rfl, HB.out⟩
     ·rw [decide_eq_false (show ¬ ((n.natAbs.gcd m.natAbs : Nat) : Int) = 1 by omega)] at t4 t5
      have E0 : partsB n m = false := by unfold partsB; simp [c6]
      have E := Lib.hid (show partsV n m = _ by unfold partsV; rw [E0])
      clear E0
      clear c1 c2 c3 c4 c5 c6
      generalize ((n.natAbs.gcd m.natAbs : Nat) : Int) = G at *
      generalize str n = s1 at *
      generalize str m = s2 at *
      generalize str G = s3 at *
      go_enter Tryz.func167, Tryz.ntmps167
      go_wp2_with fail
      refine (HSP.out).mono ?_
      rintro e w1 ⟨rfl, hb⟩
      have HB := Lib.hid hb
      clear hb
      go_wp2_with fail
      refine (HV1.out w1).mono ?_
      rintro e w2 ⟨rfl, hb⟩
      replace HB := Lib.hid (HB.out.trans (hb.mono HB.out.size))
      clear hb
      go_wp2_with fail
      refine (HV2.out w2).mono ?_
      rintro e w3 ⟨rfl, hb⟩
      replace HB := Lib.hid (HB.out.trans (hb.mono HB.out.size))
      clear hb
      go_wp2_with fail
      refine (HRN.out w3).mono ?_
      rintro e w4 ⟨v4, rfl, hv, hb⟩
      have HN := Lib.hid hv
      obtain ⟨x4, X4, y4, z4, rfl⟩ := hv.slice
      replace HB := Lib.hid (HB.out.trans (hb.mono HB.out.size))
      clear hb hv
      go_wp2_with fail
      refine (HRM.out w4).mono ?_
      rintro e w5 ⟨v5, rfl, hv, hb⟩
      replace HN := Lib.hid (HN.out.below hb)
      have HM := Lib.hid hv
      obtain ⟨x5, X5, y5, z5, rfl⟩ := hv.slice
      replace HB := Lib.hid (HB.out.trans (hb.mono HB.out.size))
      clear hb hv
      go_wp2_with fail
      refine (HGC.out _ _ w5 HN.out HM.out).mono ?_
      rintro e w6 ⟨v6, rfl, hv, hb⟩
      clear HN HM
      have HG := Lib.hid hv
      obtain ⟨x6, X6, y6, z6, rfl⟩ := hv.slice
      replace HB := Lib.hid (HB.out.trans (hb.mono HB.out.size))
      clear hb hv
      go_wp2_with fail
      refine (HTX.out _ w6 HG.out).mono ?_
      rintro e w7 ⟨rfl, hb⟩
      clear HG
      replace HB := Lib.hid (HB.out.trans (hb.mono HB.out.size))
      clear hb
      go_wp2_with fail
      go_ret3
      exact ⟨by rw [E.out]; rfl, HB.out⟩
theorem RFParts_parts (q : Rat) (w : World) (h : q.den ≠ 1) (hf : FitsR q) : Calls Tryz.prog 167 #[.string (rstr q)] w fun e w' => e = .returned (.tuple #[.string (str q.num), .string (str (q.den : Int)), .bool true]) ∧ Below w.heap.size w w' := by
 have := RFParts_slash (rstr q) q.num (q.den : Int) w (by rw [rstr_size]; exact rtext_len2 hf) hf.1 hf.2 (fun W => split_parts h hf W)
 have hv := validR_text hf
 rw [validR_gcd (l := rtext q) (n := q.num) (m := (q.den : Int)) (by rw [cut_parts h]) (by rw [cut_parts h]) (by rw [cut_parts h]) hf.1 hf.2 (by
  intro h0
  have := q.reduced
  rw [h0] at this
  simp [Nat.Coprime] at this
  exact h this) (by have := q.den_pos; omega)] at hv
 have hp : partsB q.num (q.den : Int) = true := by
  unfold partsB
  rw [hv]
  have h1 : q.num ≠ 0 := by
   intro h0
   have := q.reduced
   rw [h0] at this
   simp [Nat.Coprime] at this
   exact h this
  have h2 : 1 < (q.den : Int) := by have := q.den_pos; omega
  simp [h1, h2]
 rw [show partsV q.num (q.den : Int) = _ by unfold partsV; rw [hp]] at this
 exact this
theorem RFParts_ok (q : Rat) (w : World) (hf : FitsR q) : Calls Tryz.prog 167 #[.string (rstr q)] w fun e w' => e = .returned (.tuple #[.string (str q.num), .string (str (q.den : Int)), .bool true]) ∧ Below w.heap.size w w' := by
 by_cases h : q.den = 1
 ·have := RFParts_whole q w h hf
  rw [← str_1] at this
  rw [h]
  exact this
 ·exact RFParts_parts q w h hf
theorem RFParts_bad (s : ByteArray) (w : World) (hs : s.size ≤ 4000000000) (h : vR s = false) : Calls Tryz.prog 167 #[.string s] w fun e w' => e = .returned (.tuple #[.string ⟨#[]⟩, .string ⟨#[]⟩, .bool false]) ∧ Below w.heap.size w w' := by
 by_cases hz : s.size ≤ 802
 ·have HSP := Lib.hid (fun W => split_any s W hs)
  cases hk : (cutS s.data.toList).2.2
  ·rw [show splitL s.data.toList = (s.data.toList, [49], false) by unfold splitL; rw [hk]; rfl, ba_list] at HSP
   have hv : validB s.data.toList = false := by rw [← validR_plain hk]; exact h
   have HV := Lib.hid (fun W => RValid_any s.data.toList W (by rw [ba_size]; omega))
   rw [hv, ba_list] at HV
   clear hv hk h
   go_enter Tryz.func167, Tryz.ntmps167
   go_wp2_with fail
   refine (HSP.out w).mono ?_
   rintro e w1 ⟨rfl, hb⟩
   have HB := Lib.hid hb
   clear hb
   go_wp2_with fail
   refine (HV.out w1).mono ?_
   rintro e w2 ⟨rfl, hb⟩
   replace HB := Lib.hid (HB.out.trans (hb.mono HB.out.size))
   clear hb
   go_wp2_with fail
   go_ret3
   exact ⟨rfl, HB.out⟩
  ·rw [show splitL s.data.toList = cutS s.data.toList by unfold splitL; rw [hk]; rfl, hk] at HSP
   have hl := cutS_len s.data.toList
   rw [ba_size] at hl
   have HV1 := Lib.hid (fun W => RValid_any (cutS s.data.toList).1 W (by omega))
   cases hv1 : validB (cutS s.data.toList).1
   ·rw [hv1] at HV1
    clear hv1 hk h hl
    generalize (cutS s.data.toList).1 = p at *
    generalize (cutS s.data.toList).2.1 = q at *
    go_enter Tryz.func167, Tryz.ntmps167
    go_wp2_with fail
    refine (HSP.out w).mono ?_
    rintro e w1 ⟨rfl, hb⟩
    have HB := Lib.hid hb
    clear hb
    go_wp2_with fail
    refine (HV1.out w1).mono ?_
    rintro e w2 ⟨rfl, hb⟩
    replace HB := Lib.hid (HB.out.trans (hb.mono HB.out.size))
    clear hb
    go_wp2_with fail
    go_ret3
    exact ⟨rfl, HB.out⟩
   ·have HV2 := Lib.hid (fun W => RValid_any (cutS s.data.toList).2.1 W (by omega))
    cases hv2 : validB (cutS s.data.toList).2.1
    ·rw [hv1] at HV1
     rw [hv2] at HV2
     clear hv1 hv2 hk h hl
     generalize (cutS s.data.toList).1 = p at *
     generalize (cutS s.data.toList).2.1 = q at *
     go_enter Tryz.func167, Tryz.ntmps167
     go_wp2_with fail
     refine (HSP.out w).mono ?_
     rintro e w1 ⟨rfl, hb⟩
     have HB := Lib.hid hb
     clear hb
     go_wp2_with fail
     refine (HV1.out w1).mono ?_
     rintro e w2 ⟨rfl, hb⟩
     replace HB := Lib.hid (HB.out.trans (hb.mono HB.out.size))
     clear hb
     go_wp2_with fail
     refine (HV2.out w2).mono ?_
     rintro e w3 ⟨rfl, hb⟩
     replace HB := Lib.hid (HB.out.trans (hb.mono HB.out.size))
     clear hb
     go_wp2_with fail
     go_ret3
     exact ⟨rfl, HB.out⟩
    ·obtain ⟨n, hn, fn⟩ := valid_ex hv1
     obtain ⟨m, hm, fm⟩ := valid_ex hv2
     rw [hn, hm] at HSP
     have := RFParts_slash s n m w hz fn fm (fun W => HSP.out W)
     have hp : partsB n m = false := by
      cases hp : partsB n m
      ·rfl
      ·exfalso
       unfold partsB at hp
       simp only [Bool.and_eq_true, decide_eq_true_eq] at hp
       have := validR_gcd hk hn hm fn fm hp.1.1 hp.1.2
       rw [decide_eq_true hp.2] at this
       unfold vR at h
       rw [this] at h
       cases h
     rw [show partsV n m = _ by unfold partsV; rw [hp]] at this
     exact this
 ·clear h
  go_enter Tryz.func167, Tryz.ntmps167
  go_wp2_with fail
  go_ret3
  exact ⟨rfl, Below.refl _ _⟩
theorem RFValid (s : ByteArray) (w : World) (hs : s.size ≤ 4000000000) : Calls Tryz.prog 86 #[.string s] w fun e w' => e = .returned (.bool (vR s)) ∧ Below w.heap.size w w' := by
 cases h : vR s
 ·have H := Lib.hid (RFParts_bad s w hs h)
  clear h
  go_enter Tryz.func86, Tryz.ntmps86
  go_wp2_with fail
  refine (H.out).mono ?_
  rintro e w1 ⟨rfl, hb⟩
  have HB := Lib.hid hb
  clear hb
  go_wp2_with fail
  go_ret
  exact ⟨rfl, HB.out⟩
 ·obtain ⟨q, rfl, hf⟩ := vR_ex h
  have H := Lib.hid (RFParts_ok q w hf)
  clear h hf
  go_enter Tryz.func86, Tryz.ntmps86
  go_wp2_with fail
  refine (H.out).mono ?_
  rintro e w1 ⟨rfl, hb⟩
  have HB := Lib.hid hb
  clear hb
  go_wp2_with fail
  go_ret
  exact ⟨rfl, HB.out⟩
theorem RFValid_ok (q : Rat) (w : World) (hf : FitsR q) : Calls Tryz.prog 86 #[.string (rstr q)] w fun e w' => e = .returned (.bool true) ∧ Below w.heap.size w w' := by
 have := RFValid (rstr q) w (by rw [rstr_size]; have := rtext_len hf; omega)
 rw [vR_rstr hf] at this
 exact this
theorem RFRead_ok (q : Rat) (w : World) (hf : FitsR q) : Calls Tryz.prog 87 #[.string (rstr q)] w (RetRF w q) := by
 have H1 : Hid (∀ W, Calls Tryz.prog 168 #[.string (rstr q)] W fun e w' => ∃ b, e = .returned (.tuple #[.string (str q.num), .string (str (q.den : Int)), .bool b]) ∧ Below W.heap.size W w') := Lib.hid (fun W => by
  by_cases h : q.den = 1
  ·refine (split_whole h hf W).mono ?_
   rintro e w' ⟨rfl, hb⟩
   rw [h]
   exact ⟨false, by rw [show str ((1 : Nat) : Int) = _ from str_1], hb⟩
  ·refine (split_parts h hf W).mono ?_
   rintro e w' ⟨rfl, hb⟩
   exact ⟨true, rfl, hb⟩)
 have H2 := Lib.hid (fun W => RRead_fits q.num W hf.1)
 have H3 := Lib.hid (fun W => RRead_fits (q.den : Int) W hf.2)
 clear hf
 go_enter Tryz.func87, Tryz.ntmps87
 go_wp2_with fail
 have hHR := (Blk.new w 99 [.bool false, .slice none 0 0, .bool false, .slice none 0 0])
 have hB0 : Below w.heap.size w (w.alloc (.cells #[.bool false, .slice none 0 0, .bool false, .slice none 0 0] 99)) := (Below.refl _ _).alloc (Nat.le_refl _) _
 generalize w.alloc (.cells #[.bool false, .slice none 0 0, .bool false, .slice none 0 0] 99) = W at *
 have HR := Lib.hid hHR
 have HB := Lib.hid hB0
 clear hB0 hHR
 refine (H1.out W).mono ?_
 rintro e w1 ⟨b1, rfl, hb⟩
 replace HR := Lib.hid (HR.out.below hb)
 replace HB := Lib.hid (HB.out.trans (hb.mono HB.out.size))
 clear hb
 go_wp2_with fail
 refine (H2.out w1).mono ?_
 rintro e w2 ⟨v2, rfl, hv, hb⟩
 replace HR := Lib.hid (HR.out.below hb)
 have HN := Lib.hid hv
 obtain ⟨x2, X2, y2, z2, rfl⟩ := hv.slice
 replace HB := Lib.hid (HB.out.trans (hb.mono HB.out.size))
 clear hb hv
 go_wp2_with fail
 refine (H3.out w2).mono ?_
 rintro e w3 ⟨v3, rfl, hv, hb⟩
 replace HR := Lib.hid (HR.out.below hb)
 replace HN := Lib.hid (HN.out.below hb)
 have HD := Lib.hid hv
 obtain ⟨x3, X3, y3, z3, rfl⟩ := hv.slice
 replace HB := Lib.hid (HB.out.trans (hb.mono HB.out.size))
 clear hb hv
 have r0 := HR.out.at_ (i := 0) rfl
 have r1 := HR.out.at_ (i := 1) rfl
 have r2 := HR.out.at_ (i := 2) rfl
 have r3 := HR.out.at_ (i := 3) rfl
 have fr0 := HR.out.fr 0
 have fr1 := HR.out.fr 1
 have fr2 := HR.out.fr 2
 have fr3 := HR.out.fr 3
 go_wp2_with fail
 refine bodyPost_ret (v := .agg #[.bool x2, .slice X2 y2 z2, .bool x3, .slice X3 y3 z3]) (by simp [results, Tryz.results87, go_sem, *]) rfl ?_
 exact rf_end HR.out no_i4 HB.out (Nat.le_refl _) (IsRF.mk (q := q) HN.out HD.out rfl rfl) rfl
end Go.Proofs.YtajlojhklhlljaaGreatDoor
namespace Go.Proofs.YtajlojhklhlljaaGreatDoor
open Go.RowKit
theorem RFWhole_ok (n : Int) (w : World) (h0 : -9223372036854775808 ≤ n) (h1 : n ≤ 9223372036854775807) : Calls Tryz.prog 91 #[.int .i64 n] w fun e w' => e = .returned (.string (str n)) ∧ Below w.heap.size w w' := by
 have H := Lib.hid (RMake_ok n w h0 h1)
 go_enter Tryz.func91, Tryz.ntmps91
 go_wp2_with fail
 refine (H.out).mono ?_
 rintro e w1 ⟨rfl, hb⟩
 have HB := Lib.hid hb
 clear hb
 go_wp2_with fail
 go_ret
 exact ⟨rfl, HB.out⟩
theorem RFMulT_ok (a b : Rat) (w : World) (fa : FitsR a) (fb : FitsR b) : Calls Tryz.prog 20 #[.string (rstr a), .string (rstr b)] w fun e w' => e = .returned (.tuple #[.string (outR (a * b)), .int .i64 (outRE (a * b))]) ∧ Below w.heap.size w w' := by
 have HV1 := Lib.hid (RFValid_ok a w fa)
 have HV2 := Lib.hid (fun W => RFValid_ok b W fb)
 have HRA := Lib.hid (fun W => RFRead_ok a W fa)
 have HRB := Lib.hid (fun W => RFRead_ok b W fb)
 have sa := fa.sz
 have sb := fb.sz
 have sz := sa.mul sb
 generalize rstr a = s1 at *
 generalize rstr b = s2 at *
 clear fa fb
 go_enter Tryz.func20, Tryz.ntmps20
 go_wp2_with fail
 refine (HV1.out).mono ?_
 rintro e w1 ⟨rfl, hb⟩
 have HB := Lib.hid hb
 clear hb
 go_wp2_with fail
 refine (HV2.out w1).mono ?_
 rintro e w2 ⟨rfl, hb⟩
 replace HB := Lib.hid (HB.out.trans (hb.mono HB.out.size))
 clear hb
 go_wp2_with fail
 refine (HRA.out w2).mono ?_
 rintro e w3 ⟨v3, rfl, hv, hb⟩
 have HFA := Lib.hid hv
 obtain ⟨x3, x3', X3, X3', y3, z3, y3', z3', rfl⟩ := hv.slice
 replace HB := Lib.hid (HB.out.trans (hb.mono HB.out.size))
 clear hb hv
 go_wp2_with fail
 refine (HRB.out w3).mono ?_
 rintro e w4 ⟨v4, rfl, hv, hb⟩
 replace HFA := Lib.hid (HFA.out.below hb)
 have HFB := Lib.hid hv
 obtain ⟨x4, x4', X4, X4', y4, z4, y4', z4', rfl⟩ := hv.slice
 replace HB := Lib.hid (HB.out.trans (hb.mono HB.out.size))
 clear hb hv
 go_wp2_with fail
 refine (RFMul_any _ _ a b w4 HFA.out HFB.out (sa.mono (by omega)) (sb.mono (by omega))).mono ?_
 rintro e w5 ⟨v5, rfl, hv, hb⟩
 clear HFA HFB
 have HF := Lib.hid hv
 obtain ⟨x5, x5', X5, X5', y5, z5, y5', z5', rfl⟩ := hv.slice
 replace HB := Lib.hid (HB.out.trans (hb.mono HB.out.size))
 clear hb hv
 go_wp2_with fail
 refine (RFGive_any _ _ w5 HF.out (sz.mono (by omega))).mono ?_
 rintro e w6 ⟨rfl, hb⟩
 replace HF := Lib.hid (HF.out.below hb)
 replace HB := Lib.hid (HB.out.trans (hb.mono HB.out.size))
 clear hb
 go_wp2_with fail
 go_ret2
 exact ⟨rfl, HB.out⟩
end Go.Proofs.YtajlojhklhlljaaGreatDoor
