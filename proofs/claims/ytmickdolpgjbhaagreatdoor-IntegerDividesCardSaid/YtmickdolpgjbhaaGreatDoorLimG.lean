/-
  Package limbs: divide, the long way.
-/
import Derived.Test.YtmickdolpgjbhaaGreatDoorLimF
import Derived.Laws.CopyOwn
import Derived.StillTailTactics
import Derived.Deep.RegionWith
namespace Go.Proofs.YtmickdolpgjbhaaGreatDoor
open Go.RowKit

theorem goInt_nat (n : Nat) : goInt n = .int .i64 (n : Int) := rfl
/-- copy into a row that is known whole. -/
theorem wpList_copy_row {P : Program} {w : World} {ops : Array Oper} {rest : List Oper} {o : Oper} {a : Act} {Q : Exit → Act → World → Prop} (hgd : o.guard = none) (d s : Operand) (dT sT : TypeId)
    (ho : o.op = .call { callee := .builtin .copy, args := #[d, s], argTypes := #[dT, sT] }) (elem : TypeId) (hu : P.underlying dT = some (.slice elem)) (hsz : (P.info? elem).map (·.size) = some 1)
    (k : IntKind) (g dLen dCap : Nat) (A : Option Addr) (sLen sCap : Nat) (hd : a.eval d = .slice (some ⟨g, 0, none⟩) dLen dCap) (hs : a.eval s = .slice A sLen sCap)
    (cur xs : List Nat) (t : TypeId) (hg : Row k w g t cur) (hc : Cells k w A xs) (hx : xs.length = sLen) (hle : sLen ≤ dLen) (hcur : cur.length = dLen) (hne : xs ≠ [])
    (h : ∀ w', Row k w' g t (xs ++ cur.drop xs.length) → w.grownBy w' (some g) → wpList P ops Q rest (a.put o.dst (goInt xs.length)) w') : wpList P ops Q (o :: rest) a w := by
  obtain ⟨b, off, rfl, hb, hcl⟩ := hc hne
  refine wpList_copy_own hgd d s dT sT ho elem hu hsz g 0 dLen dCap ⟨b, off, none⟩ sLen sCap hd hs (rowOf k cur) t hg ((rowOf k xs).toList) ?_ ?_ ?_ ?_ ?_
  · have : (rowOf k xs).toList.length = xs.length := by simp [rowOf]
    rw [this, hx]; exact (Nat.min_eq_left hle).symm
  · intro j v hj
    have hjl : j < xs.length := by
      rcases Nat.lt_or_ge j xs.length with h1 | h1
      · exact h1
      · rw [List.getElem?_eq_none (by simp [rowOf]; omega)] at hj; cases hj
    have e : (rowOf k xs).toList[j]? = some (.int k ((nth xs j : Nat) : Int)) := by
      rw [Array.getElem?_toList]; exact rowOf_get hjl
    rw [e] at hj
    injection hj with hj
    subst hj
    have h2 := hcl j hjl
    have e2 : (⟨b, off, none⟩ : Addr).add j = ⟨b, off + j, none⟩ := by
      unfold Addr.add; by_cases h0 : j = 0 <;> simp [h0]
    rw [e2]; exact h2
  · simp [rowOf]; omega
  · intro v hv
    simp [rowOf] at hv
    obtain ⟨x, _, rfl⟩ := hv
    rfl
  · have e1 : (rowOf k xs).toList.length = xs.length := by simp [rowOf]
    rw [e1]
    refine h _ ?_ ?_
    · have h3 := setRow_heap w g _ ((rowOf k cur).toList.take 0 ++ ((rowOf k xs).toList ++ (rowOf k cur).toList.drop (0 + xs.length))).toArray t _ hg
      unfold Row
      rw [h3]
      simp [rowOf, List.map_drop]
    · exact ⟨rfl, rfl, rfl, by simp, fun j _ hj => setRow_other w g j _ (fun e => hj (by rw [e]))⟩
theorem sizeU64 : (Tryz.prog.info? 88).map (·.size) = some 1 := by kernel_rfl

theorem IsNat.cells {w : World} {A : Option Addr} {l c n : Nat} (h : IsNat w (.slice A l c) n) : Cells .u64 w A (limbs n) := by
  obtain ⟨A', c', e, _, hc⟩ := h
  injection e with e _ _
  subst e
  exact hc

/-- The state of a long division: us in row g, the quotient's limbs qs in row h. -/
structure DivSt (w wr : World) (g h : Nat) (A2 : Option Addr) (a b f n K k : Nat) (us qs : List Nat) : Prop where
  row : Row .u64 wr g 88 us
  len : us.length = K + (n + 2)
  low : Low us
  qrow : Row .u64 wr h 88 qs
  qlen : qs.length = K
  qlow : Low qs
  div : Div a b f k us qs
  vs : Cells .u64 wr A2 (limbs (b * f))
  fr : Row .u64 wr w.heap.size 88 [f]
  bel : Below w.heap.size w wr
theorem below_only {B : Nat} {a w w' : World} {g : Nat} (h : Below B a w) (hg : w.grownBy w' (some g)) (hB : B ≤ w.heap.size) (hr : B ≤ g) : Below B a w' :=
  h.grown hg hB (fun k e => by injection e with e; omega)
theorem Row.only {k : IntKind} {w w' : World} {g h : Nat} {t : TypeId} {xs : List Nat} (hr : Row k w h t xs) (hg : w.grownBy w' (some g)) (hne : h ≠ g) : Row k w' h t xs :=
  (hg.block h hr.lt (fun e => hne (by injection e))).trans hr
theorem Row.only_set {k : IntKind} {w : World} {g h i : Nat} {t : TypeId} {xs : List Nat} (hr : Row k w h t xs) (u : Value) (hne : h ≠ g) : Row k (w.setCell ⟨g, i, none⟩ u) h t xs := hr.far (p := ⟨g, i, none⟩) hne u

theorem split3 (us : List Nat) (j m : Nat) : us = us.take j ++ ((us.drop j).take m ++ us.drop (j + m)) := by
  rw [← List.drop_drop, List.take_append_drop, List.take_append_drop]
theorem DivSt.step {w wr w2 : World} {g h : Nat} {A2 : Option Addr} {a b f n K j : Nat} {us qs ws : List Nat} (d : DivSt w wr g h A2 a b f n K (j + 1) us qs) (hj : j < K) (hf : Fac b n f) (hg : wr.grownBy w2 (some g)) (hrow : Row .u64 w2 g 88 (us.take j ++ (ws ++ us.drop (j + (n + 3)))))
    (hwl : ws.length = n + 3) (hlow : Low ws) (hv : val ws = val ((us.drop j).take (n + 3)) % (b * f)) (hoff : Off g A2) (hoff2 : Off h A2) (hgh : g ≠ h) (hwg : w.heap.size < g) (hwh : w.heap.size < h) (hq : val ((us.drop j).take (n + 3)) / (b * f) < 1000000000) :
    DivSt w (w2.setCell ⟨h, j, none⟩ (.int .u64 ((val ((us.drop j).take (n + 3)) / (b * f) : Nat) : Int))) g h A2 a b f n K j (us.take j ++ (ws ++ us.drop (j + (n + 3)))) (qs.set j (val ((us.drop j).take (n + 3)) / (b * f))) := by
  have hs := hg.size
  have hbs := d.bel.size
  have hul := d.len
  refine ⟨hrow.only_set _ hgh, ?_, (d.low.take j).append (hlow.append (d.low.drop _)), ((d.qrow.only hg (Ne.symm hgh)).set j _), by simp [d.qlen], d.qlow.set j hq, d.div.step hf d.low (by omega) (by rw [d.qlen]; exact hj) hwl hv, ?_, (d.fr.only hg (by omega)).only_set _ (by omega), (below_only d.bel hg (by omega) (by omega)).setCell (by show w.heap.size ≤ h; omega) _⟩
  · rw [List.length_append, List.length_append, List.length_take, List.length_drop, hwl]; omega
  · exact (d.vs.only hg hoff).only (only_setCell (g := h) (World.grownBy.refl _ _) (.inl rfl) _) hoff2

set_option maxRecDepth 100000 in
set_option maxHeartbeats 4000000 in
theorem divide_long (A A' : Option Addr) (a b c c' n : Nat) (w : World) (ha : Cells .u64 w A (limbs a)) (hb : Cells .u64 w A' (limbs b)) (hla : (limbs a).length ≤ 100000000) (hlb : (limbs b).length = n + 2) (hab : b ≤ a) :
    Calls Tryz.prog 63 #[.slice A (limbs a).length c, .slice A' (limbs b).length c'] w (RetNat2 w (a / b) (a % b)) := by
  have hlab := limbs_length_mono hab
  have HC := Lib.hid (compare_any A A' a b c c' w ha hb (by omega) (by omega))
  obtain ⟨x, hx, hx0⟩ : ∃ x : Int, x = cmpN a b ∧ 0 ≤ x := ⟨_, rfl, by rcases Nat.lt_or_eq_of_le hab with h | h; (rw [cmpN_gt h]; omega); (rw [cmpN_eq h.symm]; omega)⟩
  rw [← hx] at HC
  clear hx
  obtain ⟨f, hf⟩ : ∃ f, f = 1000000000 / (nth (limbs b) (n + 1) + 1) := ⟨_, rfl⟩
  have hF : Fac b n f := by rw [hf]; exact Fac.mk' hlb
  have HF := Lib.hid hF
  have HFE := Lib.hid hf
  have hf0 := hF.pos
  have hf1 := hF.low
  clear hF hf
  have hn : n + 2 ≤ (limbs a).length := by omega
  obtain ⟨gb, ob, rfl, hgb, hcb⟩ := hb (by intro e; rw [e] at hlb; simp at hlb)
  have hbt := hcb (n + 1) (by omega)
  have hbl := (Low.limbs b).nth (n + 1)
  have HB := Lib.hid hb
  have HCB := Lib.hid hcb
  clear hb hcb
  rw [hlb] at HC ⊢
  have HLB := Lib.hid hlb
  clear hlb hlab
  go_enter Tryz.func63, Tryz.ntmps63
  go_wp2_with fail
  refine HC.out.mono ?_
  rintro e w' ⟨rfl, m, rfl⟩
  go_upto_region 7 with (fail)
  have ef : (1000000000 / (↑(nth (limbs b) (n + 1)) + 1) : Int) = (f : Int) := by rw [HFE.out]; simp
  rw [ef]
  have hrf : Row .u64 ((w.drewN m).alloc (.cells #[.int .u64 (f : Int)] 88)) w.heap.size 88 [f] := row_one (w.drewN m) f
  have hbw : Below w.heap.size w ((w.drewN m).alloc (.cells #[.int .u64 (f : Int)] 88)) := (below_drewN (Below.refl _ _) _).alloc (Nat.le_refl _) _
  have hs1 : ((w.drewN m).alloc (.cells #[.int .u64 (f : Int)] 88)).heap.size = w.heap.size + 1 := by simp
  generalize ((w.drewN m).alloc (.cells #[.int .u64 (f : Int)] 88)) = w1 at *
  have hs1' : w.heap.size + 1 ≤ w1.heap.size := by omega
  have HRF := Lib.hid hrf
  have HA1 := Lib.hid (ha.below hbw)
  have HB1 := Lib.hid (HB.out.below hbw)
  have HBW := Lib.hid hbw
  clear ef hrf hbw hs1 ha HC hbt
  go_cut [9, 10] (fun u v wc => ∃ (g cv : Nat) (A2 : Option Addr), u = .slice (some ⟨g, 0, none⟩) ((limbs a).length + 1) ((limbs a).length + 1) ∧ v = .slice A2 (n + 2) cv ∧ Row .u64 wc g 88 (zeros ((limbs a).length + 1)) ∧ Cells .u64 wc A2 (limbs (b * f)) ∧ Off g A2 ∧ w1.heap.size ≤ g ∧ Below w1.heap.size w1 wc)
  case first =>
    obtain ⟨i0, hi, hz0, hz1, hz2⟩ := info_parts Tryz.infoU64
    have hmk := fun W => run_make_ints (P := Tryz.prog) 60 88 i0 .u64 8 Tryz.underlying60 hi hz0 hz1 hz2 ((limbs a).length + 1) (by omega) (by omega) W
    rw [Int.natCast_succ] at hmk
    clear hi hz0 hz1 hz2
    have HMUL := Lib.hid (fun (W : World) (hW : Cells .u64 W (some ⟨gb, ob, none⟩) (limbs b)) (hW2 : Cells .u64 W (some ⟨w.heap.size, 0, none⟩) (limbs f)) => mul_new (some ⟨gb, ob, none⟩) (some ⟨w.heap.size, 0, none⟩) b f c' 1 W hW hW2 (by rw [HLB.out]; omega) (by rw [limbs_one hf0 hf1]; simp))
    rw [HLB.out, HF.out.len2, limbs_one hf0 hf1, show [f].length = 1 from rfl] at HMUL
    have HRC : Hid (Cells .u64 w1 (some ⟨w.heap.size, 0, none⟩) [f]) := HRF.out.cells
    have HB1' : Hid (∀ o, Cells .u64 (w1.drew.alloc o) (some ⟨gb, ob, none⟩) (limbs b)) := fun o => (HB1.out.drew).alloc o
    have HRC' : Hid (∀ o, Cells .u64 (w1.drew.alloc o) (some ⟨w.heap.size, 0, none⟩) [f]) := fun o => (HRC.out.drew).alloc o
    have hwr : IntKind.i64.wrap (↑(limbs a).length + 1) = ↑(limbs a).length + 1 := IntWalk.i64_in _ (by omega)
    go_region_with (first | (go_at_call 61; refine (HMUL.out _ (by first | exact HB1.out | exact HB1'.out _) (by first | exact HRC.out | exact HRC'.out _)).mono ?_; rintro e w4 ⟨⟨v4, hv4, hn4, hb4⟩, rfl⟩))
    all_goals (try go_wp2_with fail)
    all_goals go_meet
    · injection hv4 with hv4
      subst hv4
      have h1 : Row .u64 (w1.alloc (.cells (rowOf .u64 (zeros ((limbs a).length + 1))) 88)).drew w1.heap.size 88 (zeros ((limbs a).length + 1)) := Row.new _ _ _ _
      have h2 : Below w1.heap.size w1 (w1.alloc (.cells (rowOf .u64 (zeros ((limbs a).length + 1))) 88)).drew := ((Below.refl _ _).alloc (Nat.le_refl _) _).drew
      refine ⟨w1.heap.size, _, _, rfl, rfl, h1.below hb4 h1.lt, ?_, ?_, Nat.le_refl _, h2.trans (hb4.mono h2.size)⟩
      · have h3 := hn4.cells
        simpa using h3
      · intro b' o' e'
        injection e' with e'
        injection e' with e'
        omega
    · injection hv4 with hv4
      subst hv4
      have h2 : Below w1.heap.size w1 w4 := ⟨hb4.os, hb4.tape, hb4.output, hb4.size, hb4.block⟩
      have hlt : w1.heap.size < w4.heap.size := by
        obtain ⟨b', o', e', hlt', _⟩ := hn4.cells (by intro e; have := HF.out.len2; rw [e] at this; simp at this)
        injection e' with e'
        injection e' with e'
        have e2 : w1.heap.size = b' := e'
        omega
      refine ⟨w4.heap.size, _, _, rfl, rfl, Row.new _ _ _ _, (Cells.alloc hn4.cells _), ?_, h2.size, h2.alloc h2.size _⟩
      intro b' o' e'
      injection e' with e'
      injection e' with e'
      omega
  case rest =>
    obtain ⟨g, cv, A2, rfl, rfl, hrow, hcv, hoff, hg1, hbc⟩ := hcut
    have HROW := Lib.hid hrow
    have HCV := Lib.hid hcv
    have HBC := Lib.hid hbc
    have HAC := Lib.hid (HA1.out.below hbc)
    have HRFC := Lib.hid (HRF.out.below hbc (by omega))
    have hbs := hbc.size
    clear hrow hcv hbc
    have HM := Lib.hid (mul_new A (some ⟨w.heap.size, 0, none⟩) a f c 1 wc HAC.out (by rw [limbs_one hf0 hf1]; exact HRFC.out.cells) hla (by rw [limbs_one hf0 hf1]; simp))
    rw [limbs_one hf0 hf1, show [f].length = 1 from rfl] at HM
    go_wp2_with fail
    refine HM.out.mono ?_
    rintro e w2 ⟨⟨v2, hv2, hn2, hb2⟩, rfl⟩
    injection hv2 with hv2
    subst hv2
    obtain ⟨A3, c3, he3, hl3, hc3⟩ := hn2
    injection he3 with he3a _ he3c
    subst he3a he3c
    have HC3 := Lib.hid hc3
    have HB2 := Lib.hid hb2
    have HRW2 := Lib.hid (HROW.out.below hb2 (HROW.out.lt))
    have haf : 0 < a * f := Nat.mul_pos (by have := HF.out.ne; omega) hf0
    have hne : limbs (a * f) ≠ [] := by intro e; have := limbs_eq_nil.1 e; omega
    have hle3 : (limbs (a * f)).length ≤ (limbs a).length + 1 := limbs_length_le (by
      have h1 := limbs_lt a
      have h2 : a * f < 1000000000 ^ (limbs a).length * 1000000000 := Nat.mul_lt_mul'' h1 hf1
      rw [Nat.pow_succ]; exact h2)
    clear hc3 hb2 hl3
    go_wp2_with (with_reducible refine wpList_copy_row rfl (.tmp 49) (.tmp 52) 60 60 rfl 88 Tryz.underlying60 sizeU64 .u64 g _ _ _ _ _ rfl rfl (zeros ((limbs a).length + 1)) (limbs (a * f)) 88 HRW2.out HC3.out rfl hle3 (zeros_length _) hne ?_)
    intro w3 hrow3 hgr3
    obtain ⟨K, hK⟩ : ∃ K, (limbs a).length + 1 = K + (n + 2) := ⟨(limbs a).length + 1 - (n + 2), by omega⟩
    have hK1 : (limbs a).length + 1 ≤ K + (n + 2) := by omega
    have hK2 : K + (n + 2) ≤ (limbs a).length + 1 := by omega
    have hs3 := hgr3.size
    have hs2 := HB2.out.size
    have hzl : (limbs (a * f) ++ List.drop (limbs (a * f)).length (zeros ((limbs a).length + 1))).length = K + (n + 2) := by rw [List.length_append, List.length_drop, zeros_length]; omega
    have hdz : List.drop (limbs (a * f)).length (zeros ((limbs a).length + 1)) = zeros ((limbs a).length + 1 - (limbs (a * f)).length) := by simp [zeros]
    have hlz : Low (limbs (a * f) ++ List.drop (limbs (a * f)).length (zeros ((limbs a).length + 1))) := (Low.limbs _).append ((low_zeros _).drop _)
    have hvz : val (limbs (a * f) ++ List.drop (limbs (a * f)).length (zeros ((limbs a).length + 1))) = a * f := by rw [val_append, hdz, val_zeros, val_limbs]; simp
    have hdiv := Div.start HF.out _ (zeros K) (by rw [hzl, hK]) hvz (by rw [zeros_length]; omega) hn hlz
    rw [show (limbs a).length + 1 - (n + 2) = K by omega] at hdiv
    have hgw2 : g < w2.heap.size := HRW2.out.lt
    have hc2 := (HCV.out.below HB2.out).only hgr3 hoff
    have hf2 := (HRFC.out.below HB2.out HRFC.out.lt).only hgr3 (show w.heap.size ≠ g by omega)
    have hb1c : Below w.heap.size w wc := HBW.out.trans (HBC.out.mono (by omega))
    have hb3 : Below w.heap.size w w3 := below_only (hb1c.trans (HB2.out.mono (by omega))) hgr3 (by omega) (by omega)
    have hoff2 : Off w3.heap.size A2 := fun b' off' e' => by
      obtain ⟨b2, o2, e2, hlt2, _⟩ := hc2 (by intro e; have := HF.out.len2; rw [e] at this; simp at this)
      rw [e'] at e2; injection e2 with e2; injection e2 with e2; omega
    have hst : DivSt w (w3.alloc (.cells (rowOf .u64 (zeros K)) 88)) g w3.heap.size A2 a b f n K K (limbs (a * f) ++ List.drop (limbs (a * f)).length (zeros ((limbs a).length + 1))) (zeros K) :=
      ⟨hrow3.alloc _, hzl, hlz, Row.new _ _ _ _, zeros_length _, low_zeros _, hdiv, hc2.alloc _, hf2.alloc _, hb3.alloc (by omega) _⟩
    have HST := Lib.hid hst
    have hg3 : g < w3.heap.size := by omega
    have hgw : w.heap.size < g := by omega
    clear hrow3 hgr3 hzl hdz hlz hvz hdiv hc2 hf2 hb1c hb3 hst hne hK haf hle3 HB2 HRW2 HC3 HM HROW HCV HBC HAC HRFC HRF HA1 HB1 HBW HB HCB
    obtain ⟨i0, hi, hz0, hz1, hz2⟩ := info_parts Tryz.infoU64
    have hmk := fun W => run_make_ints (P := Tryz.prog) 60 88 i0 .u64 8 Tryz.underlying60 hi hz0 hz1 hz2 K (by omega) (by omega) W
    rw [show ((K : Nat) : Int) = ((limbs a).length : Int) + 1 - ((n : Int) + 2) by omega] at hmk
    clear hi hz0 hz1 hz2
    go_wp2_with fail
    clear hmk
    obtain ⟨h4, hh4⟩ : ∃ h4, h4 = w3.heap.size := ⟨_, rfl⟩
    go_loopw [12] (fun ix wr => ∃ (k : Nat) (us qs : List Nat), k ≤ K ∧ ix = .int .i64 ((k : Int) - 1) ∧ DivSt w wr g w3.heap.size A2 a b f n K k us qs) (fun ix _ => (intOf ix + 1).toNat)
    case atStart => exact ⟨K, _, _, Nat.le_refl _, rfl, HST.out⟩
    case round =>
      obtain ⟨k, us, qs, hk, rfl, hst⟩ := hrel
      clear HST
      have HST := Lib.hid hst
      clear hst
      rcases Nat.eq_zero_or_pos k with h0 | h0
      · subst h0
        have hlen := HST.out.len
        have hxl : (us.take (n + 2)).length = n + 2 := by rw [List.length_take]; omega
        have hrest := HST.out.div.rest HF.out HST.out.low (by omega)
        have hdone := HST.out.div.done hf0 HF.out.ne
        have HT := Lib.hid (fun (W : World) (hW : Cells .u64 W (some ⟨g, 0, none⟩) (us.take (n + 2))) => trim_any (some ⟨g, 0, none⟩) (us.take (n + 2)) ((limbs a).length + 1) W hW (by omega) (by omega))
        rw [hxl, hrest] at HT
        have hmb : a % b * f < 1000000000 ^ (n + 2) := Nat.lt_of_le_of_lt (Nat.mul_le_mul_right f (Nat.le_of_lt (Nat.mod_lt a HF.out.ne))) HF.out.fit
        have hrl := limbs_length_le hmb
        have HS := Lib.hid (fun (W : World) (hW : Cells .u64 W (some ⟨g, 0, none⟩) (limbs (a % b * f))) => short_any (some ⟨g, 0, none⟩) (a % b * f) f ((limbs a).length + 1) W hW (by omega) hf0 hf1)
        rw [Nat.mul_div_cancel _ hf0] at HS
        have hcg := HST.out.row.cells.take (n + 2)
        have hcg2 := HST.out.row.cells.take (n + 2)
        have HCG := Lib.hid hcg
        have HTK : Hid (Cells .u64 wr (some ⟨g, 0, none⟩) (limbs (a % b * f))) := by
          have := hcg.take (trimL (us.take (n + 2))).length
          rw [← trimL_take, hrest] at this
          exact this
        have hfc := HST.out.fr.cell (i := 0) (by simp)
        rw [nth_cons_zero] at hfc
        have HQT := Lib.hid (fun (W : World) (hW : Row .u64 W w3.heap.size 88 qs) => trim_fill (w := W) (wr := W) (g := w3.heap.size) (n := K) (r := a / b) (os := qs) ⟨HST.out.qlen, HST.out.qlow, by rw [Nat.sub_self, show zeros 0 = [] from rfl, List.append_nil]; exact hW, Below.refl _ _⟩ (by omega) (by rw [← limbs_val HST.out.qlow, hdone.1]))
        clear hcg hcg2 hrest hdone hmb hrl hxl hlen
        go_wp2_with fail
        go_region_with (first | (go_at_call 79; refine (HT.out _ (by exact HCG.out)).mono ?_; rintro e w' ⟨rfl, rfl⟩) | (go_at_call 82; refine (HS.out _ (by exact HTK.out)).mono ?_; rintro e w6 ⟨v6, rfl, hv6, hb6⟩))
        all_goals (
          have HB6 : Hid (Below wr.heap.size wr w6) := ⟨hb6.os, hb6.tape, hb6.output, hb6.size, hb6.block⟩
          have HV6 := Lib.hid hv6
          clear hb6 hv6
          go_wp2_with fail
          refine (HQT.out _ (HST.out.qrow.below HB6.out HST.out.qrow.lt)).mono ?_
          rintro e w7 ⟨v7, rfl, hv7, rfl, -⟩
          go_wp2_with fail
          go_ret2
          exact ⟨v7, v6, rfl, hv7, HV6.out, HST.out.bel.trans (HB6.out.mono HST.out.bel.size)⟩)
      · obtain ⟨j, rfl⟩ : ∃ j, k = j + 1 := ⟨k - 1, by omega⟩
        have hjk : j < K := by omega
        have hcell := HST.out.qrow.cell (i := j) (by rw [HST.out.qlen]; omega)
        have hfro := HST.out.qrow.frozen j
        obtain ⟨hw1, hw2⟩ := HST.out.div.win HF.out HST.out.low (by have := HST.out.len; omega)
        have hwl : ((us.drop j).take (n + 3)).length = n + 3 := by have := HST.out.len; rw [List.length_take, List.length_drop]; omega
        have hvq : val ((us.drop j).take (n + 3)) / (b * f) < 1000000000 := Nat.div_lt_of_lt_mul (by rw [Nat.mul_comm]; exact hw1)
        have hrowj := HST.out.row
        rw [split3 us j (n + 3)] at hrowj
        have HSTEP := Lib.hid (step_any g j n ((limbs a).length + 1 - j) cv A2 (us.take j) ((us.drop j).take (n + 3)) (us.drop (j + (n + 3))) (limbs (b * f)) wr hrowj (by have := HST.out.len; rw [List.length_take]; omega) hwl HF.out.len2 ((HST.out.low.drop _).take _) (Low.limbs _) HST.out.vs hoff (by omega) (nth_last_pos HF.out.len2) (by rw [val_limbs]; exact hw1))
        rw [val_limbs] at HSTEP
        clear hrowj hw1 hw2 hwl hcell hfro
        have HVQ := Lib.hid hvq
        clear hvq
        go_wp2_with fail
        rw [show j + (n + 2) + 1 - j = n + 3 by omega]
        refine HSTEP.out.mono ?_
        rintro e w5 ⟨ws, rfl, hrw5, hl5, hlow5, hv5, hg5⟩
        have hcell := (HST.out.qrow.only hg5 (by omega)).cell (i := j) (by rw [HST.out.qlen]; omega)
        have hfro := (HST.out.qrow.only hg5 (by omega)).frozen j
        have hst2 := HST.out.step hjk HF.out hg5 hrw5 hl5 hlow5 hv5 hoff hoff2 (by omega) (by omega) (by omega) HVQ.out
        have HST2 := Lib.hid hst2
        clear hst2 hrw5 hl5 hlow5 hv5 hg5
        go_wp2_with fail
        go_roundw
        case rel => exact ⟨j, _, _, by omega, by go_num, HST2.out⟩
        case measure => simp [intOf]

theorem divide_any (A A' : Option Addr) (a b c c' : Nat) (w : World) (ha : Cells .u64 w A (limbs a)) (hb : Cells .u64 w A' (limbs b)) (hla : (limbs a).length ≤ 100000000) (hlb : (limbs b).length ≤ 100000000) (hc : (limbs a).length ≤ c) (hb0 : 0 < b) :
    Calls Tryz.prog 63 #[.slice A (limbs a).length c, .slice A' (limbs b).length c'] w (RetNat2 w (a / b) (a % b)) := by
  rcases Nat.lt_or_ge a b with h | h
  · exact divide_lt A A' a b c c' w ha hb hla hlb hc h
  · have h1 := limbs_length_pos.2 (show b ≠ 0 by omega)
    by_cases h2 : (limbs b).length = 1
    · exact divide_one A A' a b c c' w ha hb hla h2 h
    · exact divide_long A A' a b c c' ((limbs b).length - 2) w ha hb hla (by omega) h

end Go.Proofs.YtmickdolpgjbhaaGreatDoor
