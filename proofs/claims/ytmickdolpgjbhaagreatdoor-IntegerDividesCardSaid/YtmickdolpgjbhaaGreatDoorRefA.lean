/-
  Package joinlearnref01: trim, size, Minus.
-/
import Derived.Test.YtmickdolpgjbhaaGreatDoorMem
import Derived.Test.YtmickdolpgjbhaaGreatDoorNatE
namespace Go.Proofs.YtmickdolpgjbhaaGreatDoor
open Go.RowKit

theorem field_L (w : World) (v0 : Bool) (A : Option Addr) (l c : Nat) : (Instr.field 51 (.agg #[.bool v0, .slice A l c]) 1).run Tryz.prog w = .ok (.slice A l c) w := by kernel_rfl
attribute [go_sem] field_L

set_option maxRecDepth 100000 in
set_option maxHeartbeats 1000000 in
theorem rtrim_any (ng : Bool) (A : Option Addr) (xs : List Nat) (c : Nat) (w : World) (hx : Cells .i64 w A xs) (hl : xs.length ≤ 1000000000) (hlc : xs.length ≤ c) :
    Calls Tryz.prog 58 #[.agg #[.bool ng, .slice A xs.length c]] w fun e w' => e = .returned (.agg #[.bool (ng && decide (0 < (trimL xs).length)), .slice A (trimL xs).length c]) ∧ Below w.heap.size w w' := by
  have HX := Lib.hid hx
  clear hx
  go_enter Tryz.func58, Tryz.ntmps58
  go_wp2_with fail
  have h1 := (Blk.new w 51 [.bool ng, .slice A xs.length c]).alloc (.cells #[.bool false, .slice none 0 0] 51)
  have h2 := Blk.new (w.alloc (.cells #[.bool ng, .slice A xs.length c] 51)) 51 [.bool false, .slice none 0 0]
  have h3 : Below w.heap.size w ((w.alloc (.cells #[.bool ng, .slice A xs.length c] 51)).alloc (.cells #[.bool false, .slice none 0 0] 51)) := ((Below.refl _ _).alloc (Nat.le_refl _) _).alloc (by simp) _
  rw [World.size_alloc] at h2
  generalize (w.alloc (.cells #[.bool ng, .slice A xs.length c] 51)).alloc (.cells #[.bool false, .slice none 0 0] 51) = W at *
  have H1 := Lib.hid h1
  have H2 := Lib.hid h2
  have H3 := Lib.hid h3
  clear h1 h2 h3
  go_loopg [] xs.length (fun k wr => k ≤ xs.length ∧ trimL (xs.take k) = trimL xs ∧ Blk wr w.heap.size 51 [.bool ng, .slice A k c] ∧ Blk wr (w.heap.size + 1) 51 [.bool false, .slice none 0 0] ∧ Below w.heap.size w wr)
  case atStart => exact ⟨Nat.le_refl _, by rw [List.take_length], H1.out, H2.out, H3.out⟩
  case round =>
    obtain ⟨hk, ht, b1, b2, hb⟩ := hrel
    have HT := Lib.hid ht
    have B1 := Lib.hid b1
    have B2 := Lib.hid b2
    have HB := Lib.hid hb
    have c0 : wr.cell? ⟨w.heap.size, 0, none⟩ = some (.bool ng) := b1.at_ rfl
    have c1 : wr.cell? ⟨w.heap.size, 1, none⟩ = some (.slice A gk c) := b1.at_ rfl
    have f0 := b1.fr 0
    have f1 := b1.fr 1
    have r0 : wr.cell? ⟨w.heap.size + 1, 0, none⟩ = some (.bool false) := b2.at_ rfl
    have r1 : wr.cell? ⟨w.heap.size + 1, 1, none⟩ = some (.slice none 0 0) := b2.at_ rfl
    have q0 := b2.fr 0
    have q1 := b2.fr 1
    clear ht b1 b2 hb H1 H2 H3
    rcases Nat.eq_zero_or_pos gk with h0 | h0
    · subst h0
      have E := Lib.hid (show trimL xs = [] by rw [← HT.out]; rfl)
      go_wp2_with fail
      refine bodyPost_ret (v := .agg #[.bool false, .slice A 0 c]) (by simp [results, Tryz.results58, go_sem, *]) rfl ?_
      exact ⟨by rw [E.out]; simp, ((HB.out.setCell (p := ⟨w.heap.size, 0, none⟩) (Nat.le_refl _) _).setCell (p := ⟨w.heap.size + 1, 0, none⟩) (Nat.le_succ _) _).setCell (p := ⟨w.heap.size + 1, 1, none⟩) (Nat.le_succ _) _⟩
    · obtain ⟨j, rfl⟩ : ∃ j, gk = j + 1 := ⟨gk - 1, by omega⟩
      obtain ⟨b, off, rfl, hbb, hc⟩ := HX.out (by intro e; subst e; simp at hk)
      have hci : wr.cell? ⟨b, off + j, none⟩ = some (.int .i64 ((nth xs j : Nat) : Int)) := (HB.out.cell (p := ⟨b, off + j, none⟩) hbb).trans (hc j (by omega))
      clear hc HX
      by_cases hz : nth xs j = 0
      · have hz' : (((nth xs j : Nat) : Int) == 0) = true := by simp [hz]
        have E := Lib.hid ((trimL_take_zero xs j (by omega) hz).symm.trans HT.out)
        clear hz HT
        go_wp2_with fail
        go_roundg j
        case rel => exact ⟨by omega, E.out, B1.out.set 1 _, B2.out.far (p := ⟨w.heap.size, 1, none⟩) (by show w.heap.size + 1 ≠ w.heap.size; omega) _, HB.out.setCell (p := ⟨w.heap.size, 1, none⟩) (Nat.le_refl _) _⟩
        case measure => omega
      · have hz' : (((nth xs j : Nat) : Int) == 0) = false := by simp [hz]
        have E := Lib.hid (HT.out.symm.trans (trimL_take_pos xs j (by omega) hz))
        clear hz HT
        go_wp2_with fail
        refine bodyPost_ret (v := .agg #[.bool ng, .slice (some ⟨b, off, none⟩) (j + 1) c]) (by simp [results, Tryz.results58, go_sem, *]) rfl ?_
        exact ⟨by rw [E.out, List.length_take, Nat.min_eq_left hk]; simp, (HB.out.setCell (p := ⟨w.heap.size + 1, 0, none⟩) (Nat.le_succ _) _).setCell (p := ⟨w.heap.size + 1, 1, none⟩) (Nat.le_succ _) _⟩

/-- A value of the type Big that means the integer z. -/
def IsBig (w : World) (v : Value) (z : Int) : Prop := ∃ A c, v = .agg #[.bool (decide (z < 0)), .slice A (limbs z.natAbs).length c] ∧ (limbs z.natAbs).length ≤ c ∧ Cells .i64 w A (limbs z.natAbs)
theorem IsBig.below {w w' : World} {v : Value} {z : Int} (h : IsBig w v z) (hb : Below w.heap.size w w') : IsBig w' v z := by
  obtain ⟨A, c, e, hl, hc⟩ := h
  exact ⟨A, c, e, hl, hc.below hb⟩
/-- The result means an integer; nothing that was there has changed. -/
def RetBigN (w : World) (z : Int) (e : Ending) (w' : World) : Prop := ∃ v, e = .returned v ∧ IsBig w' v z ∧ Below w.heap.size w w'
/-- n with a sign. -/
def sgnB (ng : Bool) (n : Nat) : Int := if ng then -(n : Int) else (n : Int)
theorem sgnB_neg (ng : Bool) (n : Nat) : decide (sgnB ng n < 0) = (ng && decide (0 < (limbs n).length)) := by
  have h : 0 < (limbs n).length ↔ n ≠ 0 := limbs_length_pos
  cases ng
  · simp [sgnB]
  · simp only [sgnB, if_true, Bool.true_and]
    rw [decide_eq_decide, h]; omega
theorem sgnB_natAbs (ng : Bool) (n : Nat) : (sgnB ng n).natAbs = n := by cases ng <;> simp [sgnB]
theorem sgnB_self (z : Int) : sgnB (decide (z < 0)) z.natAbs = z := by
  unfold sgnB
  by_cases h : z < 0 <;> simp [h] <;> omega
/-- trim makes a number of a row of limbs. -/
theorem rtrim_num (ng : Bool) (v : Value) (xs : List Nat) (n : Nat) (w : World) (h : IsRow w v xs) (hlow : Low xs) (hv : val xs = n) (hl : xs.length ≤ 1000000000) :
    Calls Tryz.prog 58 #[.agg #[.bool ng, v]] w (RetBigN w (sgnB ng n)) := by
  obtain ⟨A, c, rfl, hlc, hc⟩ := h
  refine (rtrim_any ng A xs c w hc hl hlc).mono ?_
  rintro e w' ⟨rfl, hb⟩
  have et : trimL xs = limbs n := by rw [← limbs_val hlow, hv]
  have h2 := hc.take (trimL xs).length
  rw [← trimL_take, et] at h2
  have h3 := trimL_length_le xs
  rw [et] at h3 ⊢
  exact ⟨_, rfl, ⟨A, c, by rw [sgnB_neg, sgnB_natAbs], by rw [sgnB_natAbs]; omega, by rw [sgnB_natAbs]; exact h2.below hb⟩, hb⟩

set_option maxHeartbeats 1000000 in
theorem rsize_any (A A' : Option Addr) (a b c c' : Nat) (w : World) (ha : Cells .i64 w A (limbs a)) (hb : Cells .i64 w A' (limbs b)) (hla : (limbs a).length ≤ 1000000000) (hlb : (limbs b).length ≤ 1000000000) :
    Calls Tryz.prog 52 #[.slice A (limbs a).length c, .slice A' (limbs b).length c'] w fun e w' => e = .returned (.int .i64 (cmpN a b)) ∧ Below w.heap.size w w' := by
  by_cases hne : (limbs a).length = (limbs b).length
  · have HE := Lib.hid hne
    have hq : (((limbs a).length : Int) != ((limbs b).length : Int)) = false := by simp [hne]
    clear hne
    go_enter Tryz.func52, Tryz.ntmps52
    go_wp2
    go_loopw [5] (fun n wr => ∃ (k : Nat) (m : Nat), k ≤ (limbs a).length ∧ n = .int .i64 ((k : Int) - 1) ∧ wr = w.drewN m ∧ val ((limbs a).drop k) = val ((limbs b).drop k)) (fun n _ => (intOf n + 1).toNat)
    case atStart => exact ⟨(limbs a).length, 0, Nat.le_refl _, rfl, rfl, by rw [List.drop_length, HE.out, List.drop_length]⟩
    case round =>
      obtain ⟨k, m, hk, rfl, rfl, hd⟩ := hrel
      have HD := Lib.hid hd
      clear hd
      rcases Nat.eq_zero_or_pos k with h0 | h0
      · subst h0
        have E := Lib.hid (show cmpN a b = 0 from cmpN_eq (by have := HD.out; simpa [val_limbs] using this))
        clear HD
        go_wp2
        go_ret
        exact ⟨by rw [E.out]; rfl, below_drewN (Below.refl _ _) _⟩
      · obtain ⟨j, rfl⟩ : ∃ j, k = j + 1 := ⟨k - 1, by omega⟩
        obtain ⟨g, off, rfl, hg, hc⟩ := ha (by intro e; rw [e] at hk; simp at hk)
        have hj : j < (limbs b).length := by have := HE.out; omega
        obtain ⟨g', off', rfl, hg', hc'⟩ := hb (by intro e; rw [e] at hj; simp at hj)
        have hci := hc j (by omega)
        have hci' := hc' j (by omega)
        clear hc hc' ha hb
        have el := val_lt_of (i := j) HE.out (by omega) (Low.limbs a) HD.out
        have eg := val_lt_of (i := j) HE.out.symm (by omega) (Low.limbs b) HD.out.symm
        rw [val_limbs, val_limbs] at el eg
        have HL := Lib.hid el
        have HG := Lib.hid eg
        clear el eg
        by_cases h1 : nth (limbs a) j < nth (limbs b) j
        · have E := Lib.hid (cmpN_lt (HL.out h1))
          go_wp2
          go_quiet (fail)
          go_wp2
          go_ret
          exact ⟨by rw [E.out]; rfl, by simp only [World.drewN_drewN]; exact below_drewN (Below.refl _ _) _⟩
        · by_cases h2 : nth (limbs b) j < nth (limbs a) j
          · have E := Lib.hid (cmpN_gt (HG.out h2))
            go_wp2
            go_quiet (fail)
            go_wp2
            go_quiet (fail)
            go_wp2
            go_ret
            exact ⟨by rw [E.out]; rfl, by simp only [World.drewN_drewN]; exact below_drewN (Below.refl _ _) _⟩
          · have E := Lib.hid (show val ((limbs a).drop j) = val ((limbs b).drop j) by rw [val_drop, val_drop (limbs b), HD.out]; omega)
            clear HD
            go_wp2
            go_quiet (fail)
            go_wp2
            go_quiet (fail)
            go_wp2
            go_roundw
            case rel => exact ⟨j, _, by omega, by go_num, rfl, E.out⟩
            case measure => simp [intOf]
  · have hq : (((limbs a).length : Int) != ((limbs b).length : Int)) = true := by simp [bne_iff_ne]; omega
    rcases Nat.lt_or_gt_of_ne hne with h | h
    · have E := Lib.hid (cmpN_lt (limbs_length_lt h))
      go_enter Tryz.func52, Tryz.ntmps52
      go_wp2
      go_ret
      exact ⟨by rw [E.out]; rfl, Below.refl _ _⟩
    · have E := Lib.hid (cmpN_gt (limbs_length_lt h))
      go_enter Tryz.func52, Tryz.ntmps52
      go_wp2
      go_ret
      exact ⟨by rw [E.out]; rfl, Below.refl _ _⟩

set_option maxRecDepth 100000 in
set_option maxHeartbeats 1000000 in
theorem rminus_any (u : Value) (x : Int) (w : World) (hx : IsBig w u x) (hlx : (limbs x.natAbs).length ≤ 1000000000) :
    Calls Tryz.prog 71 #[u] w (RetBigN w (-x)) := by
  obtain ⟨A, c, rfl, hlc, hc⟩ := hx
  have HC := Lib.hid hc
  have hp : 0 < (limbs x.natAbs).length ↔ x.natAbs ≠ 0 := limbs_length_pos
  obtain ⟨nb, hnb⟩ : ∃ nb : Bool, decide (-x < 0) = nb := ⟨_, rfl⟩
  have HNB := Lib.hid hnb
  have HEND : Hid (∀ W, Below w.heap.size w W → RetBigN w (-x) (.returned (.agg #[.bool nb, .slice A (limbs x.natAbs).length c])) W) := fun W hb => ⟨_, rfl, ⟨A, c, by rw [hnb, Int.natAbs_neg], by rw [Int.natAbs_neg]; exact hlc, by rw [Int.natAbs_neg]; exact HC.out.below hb⟩, hb⟩
  have HBW : Hid (∀ o1 o2 : Obj, Below w.heap.size w ((w.alloc o1).alloc o2)) := fun o1 o2 => ((Below.refl _ _).alloc (Nat.le_refl _) _).alloc (by simp) _
  by_cases h1 : x < 0
  · have e1 : decide (x < 0) = true := by simp [h1]
    have e2 : nb = false := by rw [← hnb]; simp; omega
    rw [e1]
    subst e2
    clear hc hp hnb e1
    go_enter Tryz.func71, Tryz.ntmps71
    go_wp2_with fail
    exact bodyPost_ret (v := .agg #[.bool false, .slice A (limbs x.natAbs).length c]) (by simp [results, Tryz.results71, go_sem]) rfl (HEND.out _ (HBW.out _ _))
  · have e1 : decide (x < 0) = false := by simp [h1]
    rw [e1]
    by_cases h2 : x = 0
    · have e2 : nb = false := by rw [← hnb, h2]; rfl
      have h3 : ¬ 0 < (limbs x.natAbs).length := fun h => hp.1 h (by omega)
      have h4 : decide (0 < ((limbs x.natAbs).length : Int)) = false := decide_eq_false (by omega)
      subst e2
      clear hc hp hnb e1 h2
      go_enter Tryz.func71, Tryz.ntmps71
      go_wp2_with fail
      exact bodyPost_ret (v := .agg #[.bool false, .slice A (limbs x.natAbs).length c]) (by simp [results, Tryz.results71, go_sem]) rfl (HEND.out _ (HBW.out _ _))
    · have e2 : nb = true := by rw [← hnb]; simp; omega
      have h3 : 0 < (limbs x.natAbs).length := hp.2 (by omega)
      have h4 : decide (0 < ((limbs x.natAbs).length : Int)) = true := decide_eq_true (by omega)
      subst e2
      clear hc hp hnb e1 h2
      go_enter Tryz.func71, Tryz.ntmps71
      go_wp2_with fail
      exact bodyPost_ret (v := .agg #[.bool true, .slice A (limbs x.natAbs).length c]) (by simp [results, Tryz.results71, go_sem]) rfl (HEND.out _ (HBW.out _ _))

end Go.Proofs.YtmickdolpgjbhaaGreatDoor
