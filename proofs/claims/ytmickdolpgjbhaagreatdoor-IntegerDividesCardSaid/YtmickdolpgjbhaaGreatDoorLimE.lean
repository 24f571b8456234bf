/-
  Package limbs: step.
-/
import Derived.Test.YtmickdolpgjbhaaGreatDoorLimD
import Derived.Test.YtmickdolpgjbhaaGreatDoorNatC
namespace Go.Proofs.YtmickdolpgjbhaaGreatDoor
open Go.RowKit

theorem only_drewN {a w : World} {row : Option Nat} (h : a.grownBy w row) (n : Nat) : a.grownBy (w.drewN n) row := ⟨h.os, h.tape, h.output, h.size, h.block⟩
theorem only_setCell {a w : World} {g : Nat} (h : a.grownBy w (some g)) {p : Addr} (hp : p.block = g ∨ a.heap.size ≤ p.block) (u : Value) : a.grownBy (w.setCell p u) (some g) :=
  ⟨h.os, h.tape, h.output, by simpa [World.setCell] using h.size, fun i hi hne => (Below.heap_setCell w p u i (by
    rintro rfl
    rcases hp with hp | hp
    · exact hne (by rw [hp])
    · omega)).trans (h.block i hi hne)⟩
/-- A slice does not lie in block g. -/
def Off (g : Nat) (A : Option Addr) : Prop := ∀ b off, A = some ⟨b, off, none⟩ → b ≠ g
theorem Cells.only {k : IntKind} {w w' : World} {A : Option Addr} {xs : List Nat} {g : Nat} (h : Cells k w A xs) (hb : w.grownBy w' (some g)) (ho : Off g A) : Cells k w' A xs := fun hn => by
  obtain ⟨b, off, e, hlt, hc⟩ := h hn
  have := hb.size
  exact ⟨b, off, e, by omega, fun i hi => (World.cell?_of_block (w := w) (a := ⟨b, off + i, none⟩) (hb.block b hlt (fun e' => ho b off e (by injection e')))).trans (hc i hi)⟩

theorem nth_append_right (xs ys : List Nat) (i : Nat) : nth (xs ++ ys) (xs.length + i) = nth ys i := by
  simp [nth, List.getD_eq_getElem?_getD, List.getElem?_append_right]
theorem nth_append_left {xs ys : List Nat} {i : Nat} (h : i < xs.length) : nth (xs ++ ys) i = nth xs i := by
  simp [nth, List.getD_eq_getElem?_getD, List.getElem?_append_left h]
/-- A part of a row: pre, then the part, then post. -/
theorem Row.mid {k : IntKind} {w : World} {g : Nat} {t : TypeId} {pre us post : List Nat} {o i : Nat} (h : Row k w g t (pre ++ (us ++ post))) (ho : pre.length = o) (hi : i < us.length) : w.cell? ⟨g, o + i, none⟩ = some (.int k ((nth us i : Nat) : Int)) := by
  have := h.cell (i := o + i) (by simp; omega)
  rw [this, ← ho, nth_append_right, nth_append_left hi]
theorem Row.mid_set {k : IntKind} {w : World} {g : Nat} {t : TypeId} {pre us post : List Nat} {o i : Nat} (h : Row k w g t (pre ++ (us ++ post))) (ho : pre.length = o) (hi : i < us.length) (x : Nat) :
    Row k (w.setCell ⟨g, o + i, none⟩ (.int k (x : Int))) g t (pre ++ (us.set i x ++ post)) := by
  have := h.set (o + i) x
  rw [← ho, List.set_append_right _ _ (by omega), Nat.add_sub_cancel_left, List.set_append_left _ _ hi] at this
  rw [← ho]; exact this

/-- q divisors are being taken away: k limbs are done, they are os. -/
def Away (w wr : World) (g : Nat) (pre us post vs : List Nat) (q k bo : Nat) (os : List Nat) : Prop :=
  os.length = k ∧ Low os ∧ Row .u64 wr g 88 (pre ++ ((os ++ us.drop k) ++ post)) ∧ w.grownBy wr (some g) ∧ val (us.take k) + bo * 1000000000 ^ k = val os + q * val (vs.take k)
theorem set_next (os us : List Nat) (k x : Nat) (hk : os.length = k) (hu : k < us.length) : (os ++ us.drop k).set k x = (os ++ [x]) ++ us.drop (k + 1) := by
  rw [List.drop_eq_getElem_cons hu, List.set_append_right _ _ (by omega), hk, Nat.sub_self, List.set_cons_zero]
  simp
theorem nth_next (os us : List Nat) (k : Nat) (hk : os.length = k) : nth (os ++ us.drop k) k = nth us k := by
  have := nth_append_right os (us.drop k) 0
  rw [hk, Nat.add_zero] at this
  rw [this]; simp [nth]
theorem Away.step {w wr w2 : World} {g q k bo : Nat} {pre us post vs os : List Nat} (h : Away w wr g pre us post vs q k bo os) (hk : k < us.length) (x bo' : Nat) (hx : x < 1000000000)
    (hrow : Row .u64 w2 g 88 (pre ++ (((os ++ us.drop k).set k x) ++ post))) (hg : w.grownBy w2 (some g)) (hb : nth us k + bo' * 1000000000 = x + q * nth vs k + bo) : Away w w2 g pre us post vs q (k + 1) bo' (os ++ [x]) := by
  obtain ⟨h1, h2, h3, h4, h5⟩ := h
  refine ⟨by simp [h1], h2.snoc hx, ?_, hg, take_away os us vs k q bo _ _ h1 rfl rfl h5 x bo' hb⟩
  rw [set_next os us k x h1 hk] at hrow
  exact hrow

theorem Away.lt {w wr : World} {g o q k bo : Nat} {pre us post vs os : List Nat} (h : Away w wr g pre us post vs q k bo os) (ho : pre.length = o) (hk : k < us.length) (hu : nth us k < 1000000000) (hc : nth us k < (q * nth vs k + bo) % 1000000000) :
    Away w ((wr.setCell ⟨g, o + k, none⟩ (.int .u64 ((nth us k : Int) + 1000000000))).setCell ⟨g, o + k, none⟩ (.int .u64 ((nth us k : Int) + 1000000000 - ((q : Int) * (nth vs k : Int) + (bo : Int)) % 1000000000)))
      g pre us post vs q (k + 1) ((q * nth vs k + bo) / 1000000000 + 1) (os ++ [nth us k + 1000000000 - (q * nth vs k + bo) % 1000000000]) := by
  have hl : k < (os ++ us.drop k).length := by have := h.1; simp; omega
  have e1 : (nth us k : Int) + 1000000000 = ((nth us k + 1000000000 : Nat) : Int) := by omega
  have e2 : ((nth us k + 1000000000 : Nat) : Int) - ((q : Int) * (nth vs k : Int) + (bo : Int)) % 1000000000 = ((nth us k + 1000000000 - (q * nth vs k + bo) % 1000000000 : Nat) : Int) := by
    rw [← Int.natCast_mul]; generalize q * nth vs k = p at *; omega
  rw [e1, e2]
  have h1 := h.2.2.1.mid_set ho hl (nth us k + 1000000000)
  have h2 := h1.mid_set (i := k) ho (by simpa using hl) (nth us k + 1000000000 - (q * nth vs k + bo) % 1000000000)
  rw [List.set_set] at h2
  exact h.step hk _ _ (by omega) h2 (only_setCell (only_setCell h.2.2.2.1 (.inl rfl) _) (.inl rfl) _) (by generalize q * nth vs k = p at *; omega)
theorem Away.ge {w wr : World} {g o q k bo : Nat} {pre us post vs os : List Nat} (h : Away w wr g pre us post vs q k bo os) (ho : pre.length = o) (hk : k < us.length) (hu : nth us k < 1000000000) (hc : ¬ nth us k < (q * nth vs k + bo) % 1000000000) :
    Away w (wr.setCell ⟨g, o + k, none⟩ (.int .u64 ((nth us k : Int) - ((q : Int) * (nth vs k : Int) + (bo : Int)) % 1000000000)))
      g pre us post vs q (k + 1) ((q * nth vs k + bo) / 1000000000) (os ++ [nth us k - (q * nth vs k + bo) % 1000000000]) := by
  have hl : k < (os ++ us.drop k).length := by have := h.1; simp; omega
  have e2 : (nth us k : Int) - ((q : Int) * (nth vs k : Int) + (bo : Int)) % 1000000000 = ((nth us k - (q * nth vs k + bo) % 1000000000 : Nat) : Int) := by
    rw [← Int.natCast_mul]; generalize q * nth vs k = p at *; omega
  rw [e2]
  exact h.step hk _ _ (by omega) (h.2.2.1.mid_set ho hl _) (only_setCell h.2.2.2.1 (.inl rfl) _) (by generalize q * nth vs k = p at *; omega)

/-- A divisor is being added back: k limbs are done, they are os. -/
def Back (w wr : World) (g : Nat) (pre xs post vs : List Nat) (k ca : Nat) (os : List Nat) : Prop :=
  os.length = k ∧ Low os ∧ Row .u64 wr g 88 (pre ++ ((os ++ xs.drop k) ++ post)) ∧ w.grownBy wr (some g) ∧ val os + ca * 1000000000 ^ k = val (xs.take k) + val (vs.take k)
theorem Back.step {w wr : World} {g o k ca : Nat} {pre xs post vs os : List Nat} (h : Back w wr g pre xs post vs k ca os) (ho : pre.length = o) (hk : k < xs.length) :
    Back w (wr.setCell ⟨g, o + k, none⟩ (.int .u64 (((nth xs k + nth vs k + ca) % 1000000000 : Nat) : Int))) g pre xs post vs (k + 1) ((nth xs k + nth vs k + ca) / 1000000000) (os ++ [(nth xs k + nth vs k + ca) % 1000000000]) := by
  have hl : k < (os ++ xs.drop k).length := by have := h.1; simp; omega
  have h1 := h.2.2.1.mid_set ho hl ((nth xs k + nth vs k + ca) % 1000000000)
  rw [set_next os xs k _ h.1 hk] at h1
  exact ⟨by simp [h.1], h.2.1.snoc (Nat.mod_lt _ (by omega)), h1, only_setCell h.2.2.2.1 (.inl rfl) _, add_step xs vs os k ca h.1 h.2.2.2.2⟩

theorem val_last (us : List Nat) (n : Nat) (h : us.length = n + 1) : val us = val (us.take n) + nth us n * 1000000000 ^ n := by
  have := val_split us n
  rw [h, Nat.min_eq_left (by omega), val_drop us n, List.drop_eq_nil_of_le (by omega), val_nil] at this
  rw [this]; grind

theorem drop_last (us : List Nat) (n : Nat) (h : us.length = n + 1) : us.drop n = [nth us n] := by
  rw [List.drop_eq_getElem_cons (by omega), List.drop_eq_nil_of_le (by omega), nth_lt (by omega)]
theorem last_set (os us : List Nat) (n x : Nat) (ho : os.length = n) (h : us.length = n + 1) : (os ++ us.drop n).set n x = os ++ [x] := by
  rw [set_next os us n x ho (by omega), List.drop_eq_nil_of_le (by omega), List.append_nil]
theorem ret_u64 {a b : Int} (h : a = b) : Ending.returned (.int .u64 a) = .returned (.int .u64 b) := by rw [h]
/-- How a step ends. -/
theorem step_end {w w2 : World} {g n U V x : Nat} {pre os us post : List Nat} (hrow : Row .u64 w2 g 88 (pre ++ ((os ++ us.drop n).set n x ++ post))) (hg : w.grownBy w2 (some g)) (ho : os.length = n) (hu : us.length = n + 1) (hlow : Low os) (hx : x < 1000000000) (hv : val os + x * 1000000000 ^ n = U % V) :
    ∃ us', Row .u64 w2 g 88 (pre ++ (us' ++ post)) ∧ us'.length = n + 1 ∧ Low us' ∧ val us' = U % V ∧ w.grownBy w2 (some g) := by
  rw [last_set os us n x ho hu] at hrow
  refine ⟨os ++ [x], hrow, by simp [ho], hlow.snoc hx, ?_, hg⟩
  rw [val_snoc, ho, Nat.mul_comm, hv]
theorem Low.of_val {os : List Nat} {k : Nat} (h : Low os) (hl : os.length = k) : val os < 1000000000 ^ k := by rw [← hl]; exact val_lt h

set_option maxRecDepth 100000 in
set_option maxHeartbeats 4000000 in
theorem step_any (g o n c c' : Nat) (A' : Option Addr) (pre us post vs : List Nat) (w : World) (hrow : Row .u64 w g 88 (pre ++ (us ++ post))) (ho : pre.length = o) (hul : us.length = n + 3) (hvl : vs.length = n + 2)
    (hu : Low us) (hv : Low vs) (hc : Cells .u64 w A' vs) (hoff : Off g A') (hn : n ≤ 1000000000) (htop : 0 < nth vs (n + 1)) (hlt : val us < 1000000000 * val vs) :
    Calls Tryz.prog 83 #[.slice (some ⟨g, o, none⟩) (n + 3) c, .slice A' (n + 2) c'] w fun e w' => ∃ us', e = .returned (.int .u64 ((val us / val vs : Nat) : Int)) ∧
      Row .u64 w' g 88 (pre ++ (us' ++ post)) ∧ us'.length = n + 3 ∧ Low us' ∧ val us' = val us % val vs ∧ w.grownBy w' (some g) := by
  have hT : Tops (val us) (val vs) (1000000000 ^ n) (nth vs (n + 1)) (nth vs n) (val (vs.take n)) (nth us (n + 2) * 1000000000 + nth us (n + 1)) (nth us n) (val (us.take n)) :=
    ⟨val_top2 vs n hvl, val_top3 us n hul, by have := val_lt (hv.take n); rwa [List.length_take, Nat.min_eq_left (by omega)] at this, by have := val_lt (hu.take n); rwa [List.length_take, Nat.min_eq_left (by omega)] at this, hv.nth _, hu.nth _, htop, hlt⟩
  obtain ⟨b, off, rfl, hb, hcv⟩ := hc (by intro e; rw [e] at hvl; simp at hvl)
  have hu0 := hrow.mid (i := n + 2) ho (by omega)
  have hu1 := hrow.mid (i := n + 1) ho (by omega)
  have hu2 := hrow.mid (i := n) ho (by omega)
  have hv1 := hcv (n + 1) (by omega)
  have hv2 := hcv n (by omega)
  have bu0 := hu.nth (n + 2)
  have bu1 := hu.nth (n + 1)
  have bu2 := hu.nth n
  have bv1 := hv.nth (n + 1)
  have bv2 := hv.nth n
  have HT := Lib.hid hT
  have HC := Lib.hid hcv
  have HO := Lib.hid ho
  have HUL := Lib.hid hul
  have HVL := Lib.hid hvl
  clear hT hcv hc ho hul hvl
  go_enter Tryz.func83, Tryz.ntmps83
  go_wp2_with fail
  go_quiet (fail)
  go_wp2_with fail
  go_quiet (fail)
  go_wp2_with fail
  go_loopw [7, 8] (fun qx rx wr => ∃ (q r m : Nat), qx = .int .u64 (q : Int) ∧ rx = .int .u64 (r : Int) ∧ q ≤ 1000000000000000000 ∧ r ≤ 2000000000 ∧ wr = w.drewN m ∧ val us < (q + 1) * val vs ∧ q * nth vs (n + 1) + r = nth us (n + 2) * 1000000000 + nth us (n + 1)) (fun q _ _ => (intOf q).toNat)
  case atStart =>
    refine ⟨(nth us (n + 2) * 1000000000 + nth us (n + 1)) / nth vs (n + 1), (nth us (n + 2) * 1000000000 + nth us (n + 1)) % nth vs (n + 1), _, by simp, by simp, ?_, ?_, by rw [World.drewN_drewN], HT.out.init ?_, ?_⟩
    · exact Nat.le_trans (Nat.div_le_self _ _) (by omega)
    · have := Nat.mod_lt (nth us (n + 2) * 1000000000 + nth us (n + 1)) htop; omega
    · have := Nat.lt_mul_div_succ (nth us (n + 2) * 1000000000 + nth us (n + 1)) htop; rwa [Nat.mul_comm (nth vs (n + 1))] at this
    · rw [Nat.mul_comm ((nth us (n + 2) * 1000000000 + nth us (n + 1)) / nth vs (n + 1))]; exact Nat.div_add_mod _ _
  case round =>
    obtain ⟨q, r, m, rfl, rfl, hq, hr, rfl, h1, h2⟩ := hrel
    have H1 := Lib.hid h1
    have H2 := Lib.hid h2
    clear h1 h2
    have hm : q < 1000000000 → (q : Int) * (nth vs n : Int) ≤ 999999998000000001 := fun h => by
      have h1 : q * nth vs n ≤ 999999999 * 999999999 := Nat.mul_le_mul (by omega) (by omega)
      rw [← Int.natCast_mul]; omega
    have hm0 : 0 ≤ (q : Int) * (nth vs n : Int) := by rw [← Int.natCast_mul]; omega
    have hcases : (r < 1000000000 ∧ 1000000000 ≤ q) ∨ (r < 1000000000 ∧ q < 1000000000 ∧ r * 1000000000 + nth us n < q * nth vs n) ∨
        ((q < 1000000000 ∧ q * val vs ≤ val us + val vs) ∧ (decide ((r : Int) < 1000000000) = false ∨ (decide ((r : Int) < 1000000000) = true ∧ decide ((1000000000 : Int) ≤ (q : Int)) = false ∧ decide ((r : Int) * 1000000000 + (nth us n : Int) < (q : Int) * (nth vs n : Int)) = false))) := by
      by_cases c1 : r < 1000000000
      · by_cases c2 : q < 1000000000
        · by_cases c3 : r * 1000000000 + nth us n < q * nth vs n
          · exact .inr (.inl ⟨c1, c2, c3⟩)
          · exact .inr (.inr ⟨⟨c2, HT.out.exit_small H2.out c2 (by omega)⟩, .inr ⟨by simp; omega, by simp; omega, by rw [← Int.natCast_mul]; simp; omega⟩⟩)
        · exact .inl ⟨c1, by omega⟩
      · exact .inr (.inr ⟨⟨HT.out.q_lt H2.out (by omega), HT.out.exit_big H2.out (by omega)⟩, .inl (by simp; omega)⟩)
    rcases hcases with ⟨c1, c2⟩ | ⟨c1, c2, c3⟩ | ⟨⟨hqB, hqV⟩, hcc⟩
    · have d1 : decide ((r : Int) < 1000000000) = true := by simp; omega
      have d2 : decide ((1000000000 : Int) ≤ (q : Int)) = true := by simp; omega
      go_wp2_with fail
      go_quiet (fail)
      go_wp2_with fail
      go_roundw
      case rel =>
        refine ⟨q - 1, r + nth vs (n + 1), _, ?_, by simp, by omega, by omega, rfl, ?_, ?_⟩
        · rw [Int.natCast_sub (by omega)]; rfl
        · have := HT.out.dec_big c2; rwa [Nat.sub_add_cancel (by omega)]
        · have := H2.out
          obtain ⟨p, rfl⟩ : ∃ p, q = p + 1 := ⟨q - 1, by omega⟩
          rw [Nat.add_sub_cancel]
          rw [Nat.add_mul] at this
          omega
      case measure => simp [intOf]; omega
    · have d1 : decide ((r : Int) < 1000000000) = true := by simp; omega
      have d2 : decide ((1000000000 : Int) ≤ (q : Int)) = false := by simp; omega
      have d3 : decide ((r : Int) * 1000000000 + (nth us n : Int) < (q : Int) * (nth vs n : Int)) = true := by rw [← Int.natCast_mul]; simp; omega
      have hm := hm c2
      have hq0 : 0 < q := by rcases Nat.eq_zero_or_pos q with e | e; (subst e; omega); exact e
      have C3 := Lib.hid c3
      clear c3
      go_wp2_with fail
      go_quiet (fail)
      go_wp2_with fail
      go_roundw
      case rel =>
        refine ⟨q - 1, r + nth vs (n + 1), _, ?_, by simp, by omega, by omega, rfl, ?_, ?_⟩
        · rw [Int.natCast_sub (by omega)]; rfl
        · have := HT.out.dec H2.out C3.out; rwa [Nat.sub_add_cancel (by omega)]
        · have := H2.out
          obtain ⟨p, rfl⟩ : ∃ p, q = p + 1 := ⟨q - 1, by omega⟩
          rw [Nat.add_sub_cancel]
          rw [Nat.add_mul] at this
          omega
      case measure => simp [intOf]; omega
    · have hm' := hm hqB
      clear hm
      have HQV := Lib.hid hqV
      have HLT := Lib.hid hlt
      clear hqV hlt
      rcases hcc with d1 | ⟨d1, d2, d3⟩
      all_goals (
        go_wp2_with fail
        go_quiet (fail)
        go_wp2_with fail)
      all_goals (
        clear hm' hm0 hu0 hu1 hu2 hv1 hv2 bu0 bu1 bu2 bv1 bv2 H2 HT d1
        try clear d2 d3
        go_loopw [9, 80] (fun bx ix wr => ∃ (k bo : Nat) (os : List Nat), k ≤ n + 2 ∧ ix = .int .i64 (k : Int) ∧ bo ≤ 1000000000 ∧ bx = .int .u64 (bo : Int) ∧ Away w wr g pre us post vs q k bo os) (fun _ i _ => n + 2 - (intOf i).toNat)
        case atStart => exact ⟨0, 0, [], Nat.zero_le _, rfl, by omega, rfl, rfl, Low.nil, by simpa using hrow.drewN _, only_drewN (World.grownBy.refl _ _) _, by simp [val]⟩
        case round =>
          obtain ⟨k, bo, os, hk, rfl, hbo, rfl, hA⟩ := hrel
          have HA := Lib.hid hA
          have hgs := hA.2.2.2.1.size
          clear hA
          by_cases hlk : k < n + 2
          · have hcv := (World.grownBy.cell HA.out.2.2.2.1 (HC.out k (by rw [HVL.out]; omega)) (fun e => hoff b off rfl (by injection e)))
            have hul : k < (os ++ us.drop k).length := by have := HUL.out; have := HA.out.1; simp; omega
            have hcu := HA.out.2.2.1.mid (i := k) HO.out hul
            rw [nth_next os us k HA.out.1] at hcu
            have hfr := HA.out.2.2.1.frozen (o + k)
            have bx := hu.nth k
            have by_ := hv.nth k
            have hm : (q : Int) * (nth vs k : Int) ≤ 999999998000000001 := by
              have h1 : q * nth vs k ≤ 999999999 * 999999999 := Nat.mul_le_mul (by omega) (by omega)
              rw [← Int.natCast_mul]; omega
            have hm0 : 0 ≤ (q : Int) * (nth vs k : Int) := by rw [← Int.natCast_mul]; omega
            have HUK := Lib.hid hul
            clear hul
            by_cases hlow : (nth us k : Int) < ((q : Int) * (nth vs k : Int) + (bo : Int)) % 1000000000
            · go_wp2_with fail
              go_roundw
              case rel =>
                refine ⟨k + 1, (q * nth vs k + bo) / 1000000000 + 1, _, by omega, by go_num, ?_, by simp, HA.out.lt HO.out (by have := HUL.out; omega) bx ?_⟩
                · rw [← Int.natCast_mul] at hm; generalize q * nth vs k = p at *; omega
                · rw [← Int.natCast_mul] at hlow; generalize q * nth vs k = p at *; omega
              case measure => simp [intOf]; omega
            · go_wp2_with fail
              go_roundw
              case rel =>
                refine ⟨k + 1, (q * nth vs k + bo) / 1000000000, _, by omega, by go_num, ?_, by simp, HA.out.ge HO.out (by have := HUL.out; omega) bx ?_⟩
                · rw [← Int.natCast_mul] at hm; generalize q * nth vs k = p at *; omega
                · rw [← Int.natCast_mul] at hlow; generalize q * nth vs k = p at *; omega
              case measure => simp [intOf]; omega
          · obtain rfl : k = n + 2 := by omega
            have hxl : (os ++ us.drop (n + 2)).length = n + 3 := by have := HUL.out; have := HA.out.1; simp; omega
            have hcu := HA.out.2.2.1.mid (i := n + 2) HO.out (by omega)
            rw [nth_next os us (n + 2) HA.out.1] at hcu
            have hfr := HA.out.2.2.1.frozen (o + (n + 2))
            have bx := hu.nth (n + 2)
            have HXL := Lib.hid hxl
            clear hxl hrow
            have hUv := val_last us (n + 2) HUL.out
            have hAv := HA.out.2.2.2.2
            rw [List.take_of_length_le (l := vs) (by rw [HVL.out]; omega)] at hAv
            have HUV := Lib.hid hUv
            have HAV := Lib.hid hAv
            clear hUv hAv
            by_cases hge : bo ≤ nth us (n + 2)
            · have hR := step_right H1.out HUV.out (val os) HAV.out hge
              have HR := Lib.hid hR
              clear hR
              go_wp2_with fail
              go_ret
              have e : (nth us (n + 2) : Int) - (bo : Int) = ((nth us (n + 2) - bo : Nat) : Int) := by omega
              rw [e]
              obtain ⟨us', h1, h2, h3, h4, h5⟩ := step_end (n := n + 2) (HA.out.2.2.1.mid_set HO.out (by rw [HXL.out]; omega) (nth us (n + 2) - bo)) (only_setCell HA.out.2.2.2.1 (.inl rfl) _) HA.out.1 HUL.out HA.out.2.1 (by omega) HR.out.2
              exact ⟨us', by rw [← HR.out.1]; rfl, h1, h2, h3, h4, h5⟩
            · go_wp2_with fail
              obtain ⟨wo, hwo⟩ : ∃ wo : World, wo = wr := ⟨_, rfl⟩
              go_loopw [14, 132] (fun cx ix wr => ∃ (k ca : Nat) (os2 : List Nat), k ≤ n + 2 ∧ ix = .int .i64 (k : Int) ∧ ca ≤ 1 ∧ cx = .int .u64 (ca : Int) ∧ Back w wr g pre (os ++ us.drop (n + 2)) post vs k ca os2) (fun _ i _ => n + 2 - (intOf i).toNat)
              case atStart => exact ⟨0, 0, [], Nat.zero_le _, rfl, by omega, rfl, rfl, Low.nil, by simpa using HA.out.2.2.1, HA.out.2.2.2.1, by simp [val]⟩
              case round =>
                obtain ⟨k, ca, os2, hk, rfl, hca, rfl, hB⟩ := hrel
                have HB := Lib.hid hB
                clear hB hcu hfr
                by_cases hlk : k < n + 2
                · have hcv := (World.grownBy.cell HB.out.2.2.2.1 (HC.out k (by rw [HVL.out]; omega)) (fun e => hoff b off rfl (by injection e)))
                  have hul : k < (os2 ++ (os ++ us.drop (n + 2)).drop k).length := by have := HXL.out; have := HB.out.1; rw [List.length_append, List.length_drop]; omega
                  have hcu := HB.out.2.2.1.mid (i := k) HO.out hul
                  rw [nth_next os2 _ k HB.out.1, nth_append_left (by rw [HA.out.1]; omega)] at hcu
                  have hfr := HB.out.2.2.1.frozen (o + k)
                  have bx := HA.out.2.1.nth k
                  have by_ := hv.nth k
                  clear hul
                  go_wp2_with fail
                  go_roundw
                  case rel =>
                    have hS := HB.out.step HO.out (by rw [HXL.out]; omega)
                    rw [nth_append_left (by rw [HA.out.1]; omega)] at hS
                    have e1 : ((nth os k : Int) + (nth vs k : Int) + (ca : Int)) / 1000000000 = (((nth os k + nth vs k + ca) / 1000000000 : Nat) : Int) := by omega
                    have e2 : ((nth os k : Int) + (nth vs k : Int) + (ca : Int)) % 1000000000 = (((nth os k + nth vs k + ca) % 1000000000 : Nat) : Int) := by omega
                    rw [e1, e2]
                    exact ⟨k + 1, _, _, by omega, by go_num, by omega, rfl, hS⟩
                  case measure => simp [intOf]; omega
                · obtain rfl : k = n + 2 := by omega
                  have hul : n + 2 < (os2 ++ (os ++ us.drop (n + 2)).drop (n + 2)).length := by have := HXL.out; have := HB.out.1; rw [List.length_append, List.length_drop]; omega
                  have hcu := HB.out.2.2.1.mid (i := n + 2) HO.out hul
                  rw [nth_next os2 _ (n + 2) HB.out.1, nth_next os us (n + 2) HA.out.1] at hcu
                  have hfr := HB.out.2.2.1.frozen (o + (n + 2))
                  have hbv := HB.out.2.2.2.2
                  rw [List.take_of_length_le (l := vs) (by rw [HVL.out]; omega), List.take_append_of_le_length (by rw [HA.out.1]; omega), List.take_of_length_le (by rw [HA.out.1]; omega)] at hbv
                  have hV0 : 0 < val vs := by rcases Nat.eq_zero_or_pos (val vs) with e | e; (have := HLT.out; rw [e] at this; omega); exact e
                  have hS := step_back HQV.out HUV.out (val os) (HA.out.2.1.of_val HA.out.1) HAV.out (by omega) (val os2) ca (HB.out.2.1.of_val HB.out.1) (hv.of_val HVL.out) hV0 hbv
                  obtain ⟨hq0, hS1, hS2, hS3⟩ := hS
                  have HS1 := Lib.hid hS1
                  have HS2 := Lib.hid hS2
                  have HS3 := Lib.hid hS3
                  have HUL2 := Lib.hid hul
                  clear hbv hV0 hS1 hS2 hS3 hul
                  have hst : IntKind.u64.wrap ((nth us (n + 2) : Int) + IntKind.u64.wrap ((ca : Int) - (bo : Int))) = 0 := by
                    have := HS3.out
                    rw [IntKind.wrap_u64, IntKind.wrap_u64]; omega
                  go_wp2_with fail
                  go_ret
                  obtain ⟨us', h1, h2, h3, h4, h5⟩ := step_end (n := n + 2) (HB.out.2.2.1.mid_set HO.out HUL2.out 0) (only_setCell HB.out.2.2.2.1 (.inl rfl) _) HB.out.1 HXL.out HB.out.2.1 (by omega) (by rw [Nat.zero_mul, Nat.add_zero]; exact HS2.out)
                  have e : (q : Int) - 1 = ((val us / val vs : Nat) : Int) := by rw [← HS1.out]; omega
                  exact ⟨us', ret_u64 e, h1, h2, h3, h4, h5⟩)

end Go.Proofs.YtmickdolpgjbhaaGreatDoor
