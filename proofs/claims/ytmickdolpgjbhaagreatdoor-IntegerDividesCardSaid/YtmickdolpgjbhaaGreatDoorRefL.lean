/-
  Package joinlearnref01: Text.
-/
import Derived.Test.YtmickdolpgjbhaaGreatDoorRefK
import Derived.Test.YtmickdolpgjbhaaGreatDoorLimQ
namespace Go.Proofs.YtmickdolpgjbhaaGreatDoor
open Go.RowKit

/-- The number whose digits a list of bytes holds, the least significant one first. -/
def rv (l : List UInt8) : Nat := decVal l.reverse
theorem rv_snoc (l : List UInt8) (c : UInt8) : rv (l ++ [c]) = (c.toNat - 48) * 10 ^ l.length + rv l := by
  unfold rv
  rw [List.reverse_append, List.reverse_singleton, List.singleton_append, decVal_cons, List.length_reverse]
theorem pow_nine (i : Nat) : 10 ^ (9 * i) = 1000000000 ^ i := by rw [Nat.pow_mul]
theorem text_step (xs : List Nat) (i k : Nat) (l : List UInt8) (hl : l.length = 9 * i + k) (h : rv l = val (xs.take i) + nth xs i % 10 ^ k * 1000000000 ^ i) :
    rv (l ++ [UInt8.ofNat (48 + nth xs i / 10 ^ k % 10)]) = val (xs.take i) + nth xs i % 10 ^ (k + 1) * 1000000000 ^ i := by
  rw [rv_snoc, h, hl, dig_toNat (Nat.mod_lt _ (by omega)), Nat.pow_add, pow_nine, Nat.mod_pow_succ]
  generalize nth xs i / 10 ^ k % 10 = d
  generalize nth xs i % 10 ^ k = r
  generalize 10 ^ k = K
  generalize 1000000000 ^ i = P
  rw [Nat.add_sub_cancel_left]
  grind
theorem text_limb {xs : List Nat} {i : Nat} {l : List UInt8} (hx : nth xs i < 1000000000) (h : rv l = val (xs.take i) + nth xs i % 10 ^ 9 * 1000000000 ^ i) : rv l = val (xs.take (i + 1)) := by
  rw [h, val_take_succ, Nat.mod_eq_of_lt (by simpa using hx), Nat.mul_comm]
theorem Tryz.infoU8 : (Tryz.prog.info? 5).map (fun i => (i.zero, i.size, i.bytes)) = some (some (.int .u8 0), 1, 1) := by kernel_rfl
/-- A part from the beginning of an own row. -/
theorem own_take {w : World} {B e g n cap m : Nat} {xs : List Value} (h : w.ownsRow B e 1 (.slice (some ⟨g, 0, none⟩) n cap) n xs) (hm : m ≤ n) : w.ownsRow B e 1 (.slice (some ⟨g, 0, none⟩) m cap) m (xs.take m) := by
  have hl := h.1
  rcases h.2 with ⟨h', _⟩ | ⟨g', cap', cur, h', hb, hg, hnc, hcm, hcs, htake⟩
  · simp at h'
  · simp only [Value.slice.injEq, Option.some.injEq, Addr.mk.injEq, and_true, true_and] at h'
    obtain ⟨rfl, rfl⟩ := h'
    refine ⟨by rw [List.length_take, hl]; omega, .inr ⟨g, cap, cur, rfl, hb, hg, by omega, hcm, hcs, ?_⟩⟩
    rw [← htake, List.take_take]
    congr 1
    omega
/-- A list whose ends are exchanged, i bytes on either side. -/
def revs (l : List UInt8) (i : Nat) : List UInt8 := (List.range l.length).map fun j => if j < i ∨ l.length - 1 - i < j then l.getD (l.length - 1 - j) 0 else l.getD j 0
theorem revs_length (l : List UInt8) (i : Nat) : (revs l i).length = l.length := by simp [revs]
theorem revs_zero (l : List UInt8) : revs l 0 = l := by
  apply List.ext_getElem
  · simp [revs]
  · intro j h1 h2
    simp only [revs, List.getElem_map, List.getElem_range]
    rw [if_neg (by rw [revs_length] at h1; omega)]
    simp [List.getD_eq_getElem?_getD, h2]
theorem revs_get {l : List UInt8} {i j : Nat} (h : j < l.length) : (revs l i)[j]? = some (if j < i ∨ l.length - 1 - i < j then l.getD (l.length - 1 - j) 0 else l.getD j 0) := by
  simp [revs, h]
theorem revs_end (l : List UInt8) (i : Nat) (h : l.length - 1 - i ≤ i) : revs l i = l.reverse := by
  apply List.ext_getElem
  · simp [revs]
  · intro j h1 h2
    rw [revs_length] at h1
    have hg := revs_get (i := i) h1
    rw [List.getElem?_eq_getElem (by rw [revs_length]; exact h1)] at hg
    injection hg with hg
    rw [hg, List.getElem_reverse]
    by_cases hc : j < i ∨ l.length - 1 - i < j
    · rw [if_pos hc]; simp [List.getD_eq_getElem?_getD, show l.length - 1 - j < l.length by omega]
    · rw [if_neg hc]
      have : j = l.length - 1 - j := by omega
      have e2 : l[l.length - 1 - j]'(by omega) = l.getD (l.length - 1 - j) 0 := by simp [List.getD_eq_getElem?_getD, show l.length - 1 - j < l.length by omega]
      rw [e2, ← this]
theorem revs_step (l : List UInt8) (i : Nat) (h : i < l.length - 1 - i) : ((revs l i).set i (l.getD (l.length - 1 - i) 0)).set (l.length - 1 - i) (l.getD i 0) = revs l (i + 1) := by
  apply List.ext_getElem?
  intro j
  by_cases hj : j < l.length
  · rw [revs_get hj, List.getElem?_set, List.getElem?_set]
    simp only [List.length_set, revs_length]
    by_cases h1 : l.length - 1 - i = j
    · rw [if_pos h1, if_pos (by omega), if_pos (by omega), ← h1]
      congr 2
      omega
    · rw [if_neg h1]
      by_cases h2 : i = j
      · rw [if_pos h2, if_pos (by omega), if_pos (by omega), ← h2]
      · rw [if_neg h2, revs_get hj]
        congr 1
        by_cases h3 : j < i ∨ l.length - 1 - i < j
        · rw [if_pos h3, if_pos (by omega)]
        · rw [if_neg h3, if_neg (by omega)]
  · rw [List.getElem?_eq_none (by simp [revs_length]; omega), List.getElem?_eq_none (by rw [revs_length]; omega)]

theorem bytes_get {l : List UInt8} {j : Nat} (h : j < l.length) : (Lib.byteCells l)[j]? = some (.int .u8 ((l.getD j 0).toNat : Int)) := by simp [Lib.byteCells, h, List.getD_eq_getElem?_getD]
theorem bytes_take (l : List UInt8) (m : Nat) : (Lib.byteCells l).take m = Lib.byteCells (l.take m) := by simp [Lib.byteCells, List.map_take]
theorem bytes_set (l : List UInt8) (i : Nat) (c : UInt8) : (Lib.byteCells l).set i (.int .u8 (c.toNat : Int)) = Lib.byteCells (l.set i c) := by simp [Lib.byteCells, List.map_set]
theorem bytes_snoc (l : List UInt8) (c : UInt8) : Lib.byteCells (l ++ [c]) = Lib.byteCells l ++ [.int .u8 (c.toNat : Int)] := by simp [Lib.byteCells]
theorem bown_push {B : Nat} {w wr w1 : World} {t e : TypeId} {v v' u : Value} {l : List UInt8} {c : UInt8} {X : Int} (h : wr.ownsRow B e 1 v l.length (Lib.byteCells l)) (hB : B ≤ wr.heap.size) (hb : Below w.heap.size w wr) (hwB : w.heap.size ≤ B)
    (hown : w1.ownsRow B e 1 v' (l.length + 1) (Lib.byteCells l ++ [.int .u8 X])) (hg : (wr.alloc (.cells #[u] t)).grownBy w1 v.ownBlock) (hX : X = (c.toNat : Int)) :
    w1.ownsRow B e 1 v' (l ++ [c]).length (Lib.byteCells (l ++ [c])) ∧ Below w.heap.size w w1 ∧ B ≤ w1.heap.size ∧ ∀ g t' cs, g < B → Blk wr g t' cs → Blk w1 g t' cs := by
  subst hX
  have hs := hg.size
  rw [World.size_alloc] at hs
  refine ⟨?_, (hb.alloc hb.size _).grown hg (by have := hb.size; simp; omega) (fun g hg' => Nat.le_trans hwB (h.lt g hg').1), by omega, fun g t' cs hgB hk => ?_⟩
  · rw [bytes_snoc, List.length_append]
    exact hown
  · exact (hk.alloc _).grown hg (fun e => by have := (h.lt g e.symm).1; omega)
theorem Digs.snoc {l : List UInt8} {c : UInt8} (h : Digs l) (k : IsDig c) : Digs (l ++ [c]) := h.append (fun x hx => by simp at hx; subst hx; exact k)
theorem take_snocD {l : List UInt8} {j : Nat} (h : j < l.length) : l.take (j + 1) = l.take j ++ [l.getD j 0] := by
  rw [List.take_succ_eq_append_getElem h]; simp [List.getD_eq_getElem?_getD, h]
theorem rv_zero_end {l : List UInt8} {j : Nat} (h : j < l.length) (h0 : l.getD j 0 = 48) : rv (l.take (j + 1)) = rv (l.take j) := by
  rw [take_snocD h, rv_snoc, h0]; simp
/-- The digits, the most significant one first. -/
theorem rv_digits {l : List UInt8} {j : Nat} (hd : Digs l) (h : j < l.length) (h0 : l.getD j 0 ≠ 48) : (l.take (j + 1)).reverse = Lib.decDigits (rv (l.take (j + 1))) := by
  symm
  apply decDigits_of
  · intro c hc
    exact hd c (List.mem_of_mem_take (List.mem_reverse.1 hc))
  · rw [take_snocD h]; simp
  · rw [take_snocD h]; simpa using h0

set_option maxRecDepth 100000 in
set_option maxHeartbeats 4000000 in
theorem RText_any (u : Value) (x : Int) (w : World) (hx : IsBig w u x) (hlx : (limbs x.natAbs).length ≤ 1000000) :
    Calls Tryz.prog 49 #[u] w fun e w' => e = .returned (.string ⟨(Lib.itoa x).toArray⟩) ∧ Below w.heap.size w w' := by
  obtain ⟨A, c, rfl, hlc, hc⟩ := hx
  by_cases hx0 : x = 0
  · subst hx0
    have hz : (limbs (0 : Int).natAbs).length = 0 := by rw [show (0 : Int).natAbs = 0 from rfl, limbs_zero]; rfl
    rw [hz]
    generalize decide ((0 : Int) < 0) = na at *
    clear hc hz hlc hlx
    go_enter Tryz.func49, Tryz.ntmps49
    go_wp2_with fail
    go_ret
    exact ⟨by rw [show Lib.itoa 0 = [48] by unfold Lib.itoa; rw [if_neg (by omega)]; exact Lib.decDigits_one (by decide)]; rfl, (Below.refl _ _).alloc (Nat.le_refl _) _⟩
  · have HPARTS := Lib.hid (itoa_parts x hx0)
    generalize decide (x < 0) = na at *
    have ha0 : 0 < x.natAbs := by omega
    generalize x.natAbs = a at *
    have hlp := limbs_length_pos.2 (show a ≠ 0 by omega)
    have HA0 := Lib.hid ha0
    have hz : (((limbs a).length : Int) == 0) = false := beq_eq_false_iff_ne.2 (by omega)
    have HLA := Lib.hid (show ∀ i, nth (limbs a) i < 1000000000 from (Low.limbs a).nth)
    obtain ⟨i0, hi, hz0, hz1, hz2⟩ := info_parts Tryz.infoU8
    have hbw : Below w.heap.size w (w.alloc (.cells #[.bool na, .slice A (limbs a).length c] 51)) := (Below.refl _ _).alloc (Nat.le_refl _) _
    have HBW := Lib.hid hbw
    have HC := Lib.hid hc
    have hkb := Blk.new w 51 [.bool na, .slice A (limbs a).length c]
    have hsb : (w.alloc (.cells #[.bool na, .slice A (limbs a).length c] 51)).heap.size = w.heap.size + 1 := by simp
    have HKB := Lib.hid hkb
    have HSB := Lib.hid hsb
    clear hc hbw hx0 hkb hsb ha0
    go_enter Tryz.func49, Tryz.ntmps49
    go_wp2_with fail
    generalize w.alloc (.cells #[.bool na, .slice A (limbs a).length c] 51) = W at *
    go_loopw [3, 4] (fun v ix wr => ∃ (i : Nat) (l : List UInt8), i ≤ (limbs a).length ∧ ix = .int .i64 (i : Int) ∧ l.length = 9 * i ∧ Digs l ∧ rv l = val ((limbs a).take i) ∧ wr.ownsRow (w.heap.size + 1) 5 1 v l.length (Lib.byteCells l) ∧ Blk wr w.heap.size 51 [.bool na, .slice A (limbs a).length c] ∧ w.heap.size + 1 ≤ wr.heap.size ∧ Below w.heap.size w wr) (fun _ ix _ => (limbs a).length - (intOf ix).toNat)
    case atStart => exact ⟨0, [], Nat.zero_le _, rfl, rfl, Digs.nil, rfl, World.ownsRow_nil _ _ _ _, HKB.out, by rw [HSB.out]; omega, HBW.out⟩
    case round =>
      obtain ⟨i, l, hil, rfl, hll, hdg, hrv, hown, hk, hsz, hbel⟩ := hrel
      have HDG := Lib.hid hdg
      have HRV := Lib.hid hrv
      have HOWN := Lib.hid hown
      have HK := Lib.hid hk
      have HBEL := Lib.hid hbel
      have HLL := Lib.hid hll
      have hk1 : wr.cell? ⟨w.heap.size, 1, none⟩ = some (.slice A (limbs a).length c) := hk.at_ rfl
      have hk0 : wr.cell? ⟨w.heap.size, 0, none⟩ = some (.bool na) := hk.at_ rfl
      have hlen : l.length ≤ 9000000 := by omega
      clear hll hdg hrv hown hk hbel HKB HSB HBW
      by_cases hlt : i < (limbs a).length
      · obtain ⟨g, off, eg, hg, hcl⟩ := HC.out (by intro e; rw [e] at hlt; simp at hlt)
        subst eg
        have hcell : wr.cell? ⟨g, off + i, none⟩ = some (.int .i64 ((nth (limbs a) i : Nat) : Int)) := (HBEL.out.cell (p := ⟨g, off + i, none⟩) hg).trans (hcl i hlt)
        have hxi := HLA.out i
        clear hcl
        go_wp2_with fail
        obtain ⟨wo, rfl⟩ : ∃ wo : World, wo = wr := ⟨_, rfl⟩
        go_loopw [3, 5, 6] (fun v nv kv wr => ∃ (k m : Nat) (l : List UInt8), k ≤ 9 ∧ kv = .int .i64 (k : Int) ∧ nv = .int .i64 (m : Int) ∧ m = nth (limbs a) i / 10 ^ k ∧ m < 1000000000 ∧ l.length = 9 * i + k ∧ Digs l ∧ rv l = val ((limbs a).take i) + nth (limbs a) i % 10 ^ k * 1000000000 ^ i ∧ wr.ownsRow (w.heap.size + 1) 5 1 v l.length (Lib.byteCells l) ∧ Blk wr w.heap.size 51 [.bool na, .slice (some ⟨g, off, none⟩) (limbs a).length c] ∧ w.heap.size + 1 ≤ wr.heap.size ∧ Below w.heap.size w wr) (fun _ _ kv _ => 9 - (intOf kv).toNat)
        case atStart => exact ⟨0, nth (limbs a) i, l, by omega, rfl, rfl, by simp, hxi, by rw [HLL.out]; rfl, HDG.out, by rw [HRV.out, Nat.pow_zero, Nat.mod_one, Nat.zero_mul, Nat.add_zero], HOWN.out, HK.out, hsz, HBEL.out⟩
        case round =>
          obtain ⟨k, m, l, hk9, rfl, rfl, hm, hm9, hll, hdg, hrv, hown, hk, hsz, hbel⟩ := hrel
          clear HDG HRV HOWN HK HBEL HLL hlen
          have HDG := Lib.hid hdg
          have HRV := Lib.hid hrv
          have HOWN := Lib.hid hown
          have HK := Lib.hid hk
          have HBEL := Lib.hid hbel
          have HLL := Lib.hid hll
          have HM := Lib.hid hm
          have hlen : l.length ≤ 9000009 := by omega
          clear hll hdg hrv hown hk hbel hm
          by_cases hk : k < 9
          · have hd : m % 10 < 10 := Nat.mod_lt _ (by omega)
            go_wp2_with (at_builtin; refine wpList_append_own _ rfl _ _ 49 rfl (w.heap.size + 1) 5 i0 (.int .u8 0) 1 1 Tryz.underlying49 hi hz0 hz1 hz2 rfl (by decide) _ _ _ rfl (HOWN.out.alloc _) ⟨wr.heap.size, 0, none⟩ 1 1 [_] rfl rfl one_new one_cell (by unfold maxLen; omega) (by omega) (by simp; omega) ?_)
            intro v' w1 hown1 hgrow1 _
            obtain ⟨ho1, hb1, hs1, hk1⟩ := bown_push HOWN.out hsz HBEL.out (by omega) hown1 hgrow1 (c := UInt8.ofNat (48 + m % 10)) (by rw [dig_toNat hd]; omega)
            have HO1 := Lib.hid ho1
            have HB1 := Lib.hid hb1
            have HK1 := Lib.hid (hk1 _ _ _ (by omega) HK.out)
            clear hown1 hgrow1 ho1 hb1 hk1
            go_wp2_with fail
            go_roundw
            case rel =>
              refine ⟨k + 1, m / 10, l ++ [UInt8.ofNat (48 + m % 10)], by omega, by go_num, by go_num, by rw [HM.out, Nat.div_div_eq_div_mul, Nat.pow_succ], by omega, by rw [List.length_append, HLL.out]; rfl, HDG.out.snoc (dig_is hd), ?_, HO1.out, HK1.out, hs1, HB1.out⟩
              have h1 := text_step (limbs a) i k l HLL.out HRV.out
              rw [← HM.out] at h1
              exact h1
            case measure => simp [intOf]; omega
          · obtain rfl : k = 9 := by omega
            go_wp2_with fail
            go_roundw
            case rel => exact ⟨i + 1, l, by omega, by go_num, by rw [HLL.out]; omega, HDG.out, text_limb hxi HRV.out, HOWN.out, HK.out, hsz, HBEL.out⟩
            case measure => simp [intOf]; omega
      · have hE : rv l = a := by rw [HRV.out, List.take_of_length_le (by omega), val_limbs]
        have hl0 : 0 < l.length := by rw [HLL.out]; omega
        have HE := Lib.hid hE
        obtain ⟨g2, cap, rfl, hBg, hltg⟩ := HOWN.out.form hl0
        clear hE HRV
        go_wp2_with fail
        go_loop [3] (fun v => ∃ m : Nat, v = .slice (some ⟨g2, 0, none⟩) m cap ∧ 0 < m ∧ m ≤ l.length ∧ rv (l.take m) = a) (fun v => match v with | .slice _ m _ => m | _ => 0)
        case atStart => exact ⟨l.length, rfl, hl0, Nat.le_refl _, by rw [List.take_length]; exact HE.out⟩
        case round =>
          obtain ⟨m, rfl, hm0, hml, hrm⟩ := hrel
          have HRM := Lib.hid hrm
          clear hrm
          obtain ⟨j, rfl⟩ : ∃ j, m = j + 1 := ⟨m - 1, by omega⟩
          have hcell : wr.cell? ⟨g2, j, none⟩ = some (.int .u8 ((l.getD j 0).toNat : Int)) := (HOWN.out.cellAt j (by omega)).trans (bytes_get (by omega))
          have hcap : l.length ≤ cap := by
            rcases HOWN.out.2 with ⟨h', _⟩ | ⟨g', cap', cur, h', _, _, hnc, _⟩
            · simp at h'
            · simp only [Value.slice.injEq, Option.some.injEq, Addr.mk.injEq, and_true, true_and] at h'
              omega
          obtain ⟨ch, hch⟩ : ∃ ch, ch = l.getD j 0 := ⟨_, rfl⟩
          rw [← hch] at hcell
          have HCH := Lib.hid hch
          clear hch
          by_cases hc48 : ch = 48
          · have hq : ((ch.toNat : Int) == 48) = true := by rw [hc48]; rfl
            have hr1 : rv (l.take j) = a := by rw [← rv_zero_end (by omega) (by rw [← HCH.out]; exact hc48)]; exact HRM.out
            have hj0 : 0 < j := by
              rcases Nat.eq_zero_or_pos j with h | h
              · exfalso
                rw [h] at hr1
                have : a = 0 := by rw [← hr1]; rfl
                have := HA0.out
                omega
              · exact h
            have HR1 := Lib.hid hr1
            clear hc48 hr1
            go_wp2_with fail
            go_round
            case rel => exact ⟨j, rfl, hj0, by omega, HR1.out⟩
            case measure => simp
          · have hq : ((ch.toNat : Int) == 48) = false := by
              rw [beq_eq_false_iff_ne]
              intro h
              exact hc48 (UInt8.toNat_inj.1 (by simpa using (by omega : ch.toNat = 48)))
            have hdig := rv_digits HDG.out (show j < l.length by omega) (by rw [← HCH.out]; exact hc48)
            rw [HRM.out] at hdig
            have hown' := own_take HOWN.out (show j + 1 ≤ l.length by omega)
            rw [bytes_take] at hown'
            have hlt' : (l.take (j + 1)).length = j + 1 := by rw [List.length_take]; omega
            have HDIG := Lib.hid hdig
            have HOWN2 : Hid (wr.ownsRow (w.heap.size + 1) 5 1 (.slice (some ⟨g2, 0, none⟩) (j + 1) cap) (l.take (j + 1)).length (Lib.byteCells (l.take (j + 1)))) := by
              rw [hlt']; exact hown'
            have HLT := Lib.hid hlt'
            clear hdig hown' hlt' hc48 HRM
            go_upto_if 51 with (fail)
            go_cut [3] (fun v wc => ∃ fl : List UInt8, fl.reverse = Lib.itoa x ∧ 0 < fl.length ∧ fl.length ≤ 9000010 ∧ wc.ownsRow (w.heap.size + 1) 5 1 v fl.length (Lib.byteCells fl) ∧ w.heap.size + 1 ≤ wc.heap.size ∧ Below w.heap.size w wc)
            case first =>
              have hpa : strD a 0 = Lib.decDigits a := by rw [strD, if_neg (by omega), List.drop_zero, val_limbs]
              have HPA := Lib.hid hpa
              clear hpa
              cases na
              · go_wp2_with fail
                go_meet
                exact ⟨l.take (j + 1), by rw [HDIG.out, HPARTS.out, HPA.out]; rfl, by rw [HLT.out]; omega, by rw [HLT.out]; omega, HOWN2.out, hsz, HBEL.out⟩
              · have hlx2 : (l.take (j + 1)).length ≤ 9000009 := by rw [HLT.out]; omega
                go_wp2_with (at_builtin; refine wpList_append_own _ rfl _ _ 49 rfl (w.heap.size + 1) 5 i0 (.int .u8 0) 1 1 Tryz.underlying49 hi hz0 hz1 hz2 rfl (by decide) _ _ _ rfl (HOWN2.out.alloc _) ⟨wr.heap.size, 0, none⟩ 1 1 [_] rfl rfl one_new one_cell (by unfold maxLen; omega) (by omega) (by simp; omega) ?_)
                intro v' w1 hown1 hgrow1 _
                obtain ⟨ho1, hb1, hs1, -⟩ := bown_push HOWN2.out hsz HBEL.out (by omega) (by rw [HLT.out]; exact hown1) hgrow1 (c := 45) rfl
                have HO1 := Lib.hid ho1
                have HB1 := Lib.hid hb1
                clear hown1 hgrow1 ho1 hb1
                go_wp2_with fail
                go_meet
                exact ⟨l.take (j + 1) ++ [45], by rw [List.reverse_append, HDIG.out, HPARTS.out, HPA.out]; rfl, by simp, by rw [List.length_append, HLT.out]; simp; omega, HO1.out, hs1, HB1.out⟩
            case rest =>
              obtain ⟨fl, hfr, hfl0, hfl1, hownf, hszf, hbelf⟩ := hcut
              obtain ⟨g3, cap3, rfl, hBg3, hltg3⟩ := hownf.form hfl0
              have HFR := Lib.hid hfr
              have HOWNF := Lib.hid hownf
              have HBELF := Lib.hid hbelf
              obtain ⟨n, hn⟩ : ∃ n, n = fl.length := ⟨_, rfl⟩
              rw [← hn] at HOWNF hfl0 hfl1 ⊢
              have HN := Lib.hid hn
              clear hfr hownf hbelf hn HOWN HOWN2 HDIG HLT HE HK HBEL hk0 hk1 hcell hq
              go_wp2_with fail
              go_loopw [7, 8] (fun iv kv wr => ∃ i k : Nat, iv = .int .i64 (i : Int) ∧ kv = .int .i64 (k : Int) ∧ i + k + 1 = n ∧ i ≤ k + 1 ∧ wr.ownsRow (w.heap.size + 1) 5 1 (.slice (some ⟨g3, 0, none⟩) n cap3) n (Lib.byteCells (revs fl i)) ∧ Below w.heap.size w wr) (fun iv kv _ => (intOf kv - intOf iv + 1).toNat)
              case atStart => exact ⟨0, n - 1, rfl, congrArg (Value.int .i64) (by omega), by omega, by omega, by rw [revs_zero]; exact HOWNF.out, HBELF.out⟩
              case round =>
                obtain ⟨i, k, rfl, rfl, hik, hik1, hownr, hbelr⟩ := hrel
                have HOWNR := Lib.hid hownr
                have HBELR := Lib.hid hbelr
                have HIK := Lib.hid hik
                have hil : i < n := by omega
                have hkl : k < n := by omega
                clear hownr hbelr hik HOWNF HBELF
                by_cases hlt2 : i < k
                · have hci : wr.cell? ⟨g3, i, none⟩ = some (.int .u8 ((fl.getD i 0).toNat : Int)) := (HOWNR.out.cellAt i (by omega)).trans (by
                    rw [bytes_get (by rw [revs_length, ← HN.out]; exact hil)]
                    rw [List.getD_eq_getElem?_getD, revs_get (by rw [← HN.out]; exact hil), if_neg (by have := HN.out; have := HIK.out; omega)]; rfl)
                  have hck : wr.cell? ⟨g3, k, none⟩ = some (.int .u8 ((fl.getD k 0).toNat : Int)) := (HOWNR.out.cellAt k (by omega)).trans (by
                    rw [bytes_get (by rw [revs_length, ← HN.out]; exact hkl)]
                    rw [List.getD_eq_getElem?_getD, revs_get (by rw [← HN.out]; exact hkl), if_neg (by have := HN.out; have := HIK.out; omega)]; rfl)
                  have hfi := HOWNR.out.frozenAt i
                  have hfk := HOWNR.out.frozenAt k
                  have HST := Lib.hid (revs_step fl i (by have := HN.out; have := HIK.out; omega))
                  rw [show fl.length - 1 - i = k by have := HN.out; have := HIK.out; omega] at HST
                  generalize fl.getD i 0 = ci at *
                  generalize fl.getD k 0 = ck at *
                  have hi0' : (0 : Int) ≤ (i : Int) := by omega
                  have hk0' : (0 : Int) ≤ (k : Int) := by omega
                  have hi1' : (i : Int) < (n : Int) := by omega
                  have hk1' : (k : Int) < (n : Int) := by omega
                  go_wp2_with fail
                  go_region
                  all_goals
                    go_wp2_with fail
                    go_roundw
                    case rel =>
                      refine ⟨i + 1, k - 1, by go_num, congrArg (Value.int .i64) (by omega), by have := HIK.out; omega, by omega, ?_, ((HBELR.out.setCell (p := ⟨g3, i, none⟩) (by show w.heap.size ≤ g3; omega) _).setCell (p := ⟨g3, k, none⟩) (by show w.heap.size ≤ g3; omega) _).drew⟩
                      have h1 := ((HOWNR.out.stored i (.int .u8 (ck.toNat : Int))).1.stored k (.int .u8 (ci.toNat : Int))).1
                      rw [bytes_set, bytes_set, HST.out] at h1
                      exact h1
                    case measure => simp [intOf]; omega
                · have hrev : revs fl i = fl.reverse := revs_end fl i (by have := HN.out; have := HIK.out; omega)
                  have hlr : fl.reverse.length = n := by rw [List.length_reverse]; exact HN.out.symm
                  have hconv := run_convert_bytes_back (P := Tryz.prog) wr 49 9 5 ⟨g3, 0, none⟩ cap3 fl.reverse Tryz.underlying49 Tryz.underlying5 Tryz.underlying9 (fun j hj => by
                    rw [show (⟨g3, 0, none⟩ : Addr).add j = ⟨g3, 0 + j, none⟩ by unfold Addr.add; split <;> simp_all, Nat.zero_add, HOWNR.out.cellAt j (by omega), hrev, bytes_get hj]
                    rw [List.getD_eq_getElem?_getD, List.getElem?_eq_getElem hj]; rfl)
                  rw [hlr, HFR.out] at hconv
                  clear hrev hlr
                  go_wp2_with fail
                  go_ret
                  exact ⟨rfl, HBELR.out⟩

end Go.Proofs.YtmickdolpgjbhaaGreatDoor
