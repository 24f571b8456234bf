/-
  Package limbs: small, gcd.
-/
import Derived.Test.YtmickdolpgjbhaaGreatDoorLimG
namespace Go.Proofs.YtmickdolpgjbhaaGreatDoor
open Go.RowKit

theorem limbs_two {n : Nat} (h : (limbs n).length ≤ 2) : nth (limbs n) 1 * 1000000000 + nth (limbs n) 0 = n ∧ n < 1000000000000000000 := by
  have h1 := limbs_lt n
  have h2 := pow_mono h
  have h3 := val_limbs n
  have e1 : val ((limbs n).drop 1) = nth (limbs n) 1 + 1000000000 * val ((limbs n).drop 2) := val_drop (limbs n) 1
  have e0 : val ((limbs n).drop 0) = nth (limbs n) 0 + 1000000000 * val ((limbs n).drop 1) := val_drop (limbs n) 0
  have e2 : (limbs n).drop 2 = [] := List.drop_eq_nil_of_le h
  rw [e2, val_nil] at e1
  rw [List.drop_zero, h3] at e0
  exact ⟨by omega, by rw [show (1000000000 : Nat) ^ 2 = 1000000000000000000 from rfl] at h2; omega⟩

set_option maxHeartbeats 1000000 in
theorem small_any (A : Option Addr) (n c : Nat) (w : World) (hx : Cells .u64 w A (limbs n)) (hl : (limbs n).length ≤ 2) :
    Calls Tryz.prog 76 #[.slice A (limbs n).length c] w fun e w' => e = .returned (.int .u64 (n : Int)) ∧ w = w' := by
  have h2 := limbs_two hl
  have b0 := (Low.limbs n).nth 0
  have b1 := (Low.limbs n).nth 1
  have H2 := Lib.hid h2.1
  have H0 := Lib.hid (at_any A (limbs n) c 0 w hx (by omega) (by omega))
  have H1 := Lib.hid (at_any A (limbs n) c 1 w hx (by omega) (by omega))
  clear h2
  go_enter Tryz.func76, Tryz.ntmps76
  go_wp2_with fail
  refine H1.out.mono ?_
  rintro e w' ⟨rfl, rfl⟩
  go_wp2_with fail
  refine H0.out.mono ?_
  rintro e w' ⟨rfl, rfl⟩
  go_wp2_with fail
  go_ret
  exact ⟨ret_u64 (by have := H2.out; omega), rfl⟩

/-- Two slices that mean the numbers p and q. -/
def Two (w wr : World) (s0 s1 : Value) (p q : Nat) : Prop := ∃ (A A' : Option Addr) (c c' : Nat), s0 = .slice A (limbs p).length c ∧ s1 = .slice A' (limbs q).length c' ∧ (limbs p).length ≤ c ∧ (limbs q).length ≤ c' ∧ Cells .u64 wr A (limbs p) ∧ Cells .u64 wr A' (limbs q) ∧ Below w.heap.size w wr
theorem two_limbs {x : Nat} (h : x < 1000000000000000000) : trimL [x % 1000000000, x / 1000000000] = limbs x := by
  have hl : Low [x % 1000000000, x / 1000000000] := Low.cons (by omega) (Low.cons (by omega) Low.nil)
  rw [← limbs_val hl]
  congr 1
  simp [val]
  omega
theorem row_two (w : World) (x y : Nat) : Row .u64 (w.alloc (.cells #[.int .u64 (x : Int), .int .u64 (y : Int)] 88)) w.heap.size 88 [x, y] := Row.new .u64 w 88 [x, y]

set_option maxRecDepth 100000 in
set_option maxHeartbeats 4000000 in
theorem gcd_any (A A' : Option Addr) (a b c c' : Nat) (w : World) (ha : Cells .u64 w A (limbs a)) (hb : Cells .u64 w A' (limbs b)) (hla : (limbs a).length ≤ 100000000) (hlb : (limbs b).length ≤ 100000000) (hc : (limbs a).length ≤ c) (hc' : (limbs b).length ≤ c') :
    Calls Tryz.prog 73 #[.slice A (limbs a).length c, .slice A' (limbs b).length c'] w (RetNat w (Nat.gcd a b)) := by
  have H0 : Hid (Two w w (.slice A (limbs a).length c) (.slice A' (limbs b).length c') a b) := ⟨_, _, _, _, rfl, rfl, hc, hc', ha, hb, Below.refl _ _⟩
  clear ha hb hc hc'
  go_enter Tryz.func73, Tryz.ntmps73
  go_wp2_with fail
  go_loopg [0, 1] b (fun k s0 s1 wr => ∃ x : Nat, Two w wr s0 s1 x k ∧ (limbs x).length ≤ 100000000 ∧ (limbs k).length ≤ 100000000 ∧ Nat.gcd x k = Nat.gcd a b)
  case atStart => exact ⟨a, H0.out, hla, hlb, rfl⟩
  case round =>
    obtain ⟨x, ⟨A1, A2, c1, c2, rfl, rfl, h1, h2, h3, h4, h5⟩, hlx, hlk, hg⟩ := hrel
    have HG := Lib.hid hg
    have H3 := Lib.hid h3
    have H4 := Lib.hid h4
    have H5 := Lib.hid h5
    clear hg h3 h4 h5 H0
    by_cases hk2 : 2 < (limbs gk).length
    · have hk0 : 0 < gk := by rcases Nat.eq_zero_or_pos gk with e | e; (subst e; rw [limbs_zero] at hk2; simp at hk2); exact e
      have HD := Lib.hid (divide_any A1 A2 x gk c1 c2 wr H3.out H4.out hlx hlk h1 hk0)
      go_wp2_with fail
      refine HD.out.mono ?_
      rintro e w2 ⟨v, u, rfl, hv, hu, hb2⟩
      obtain ⟨A3, c3, rfl, hl3, hc3⟩ := hu
      have hm := Nat.mod_lt x hk0
      have HC3 := Lib.hid hc3
      have HB2 := Lib.hid hb2
      clear hv hc3 hb2
      go_wp2_with fail
      go_roundg (x % gk)
      case measure => exact hm
      case rel => exact ⟨gk, ⟨_, _, _, _, rfl, rfl, h2, hl3, H4.out.below HB2.out, HC3.out, H5.out.trans (HB2.out.mono H5.out.size)⟩, hlk, Nat.le_trans (limbs_length_mono (Nat.le_of_lt hm)) hlk, by rw [← HG.out, Nat.gcd_comm gk, ← Nat.gcd_rec, Nat.gcd_comm]⟩
    · rcases Nat.eq_zero_or_pos gk with h0 | h0
      · subst h0
        have E := Lib.hid (show x = Nat.gcd a b by rw [← HG.out, Nat.gcd_zero_right])
        have hz : (limbs 0).length ≤ 0 := by rw [limbs_zero]; simp
        have hz' : (((limbs 0).length : Int) == 0) = true := by rw [limbs_zero]; simp
        go_wp2_with fail
        go_ret
        exact ⟨_, rfl, by rw [← E.out]; exact IsNat.mk h1 H3.out, H5.out⟩
      · have hp : 0 < (limbs gk).length := limbs_length_pos.2 (by omega)
        have hz' : (((limbs gk).length : Int) == 0) = false := by rw [beq_eq_false_iff_ne]; omega
        have HD := Lib.hid (divide_any A1 A2 x gk c1 c2 wr H3.out H4.out hlx hlk h1 h0)
        go_upto_if 28 with (fail)
        go_cut [0, 1] (fun s0 s1 wc => ∃ (p q : Nat), Two w wc s0 s1 p q ∧ (limbs p).length ≤ 2 ∧ (limbs q).length ≤ 2 ∧ Nat.gcd p q = Nat.gcd a b)
        case first =>
          by_cases hx2 : 2 < (limbs x).length
          · go_wp2_with fail
            refine HD.out.mono ?_
            rintro e w2 ⟨v, u, rfl, hv, hu, hb2⟩
            obtain ⟨A3, c3, rfl, hl3, hc3⟩ := hu
            have hm := Nat.mod_lt x h0
            have HC3 := Lib.hid hc3
            have HB2 := Lib.hid hb2
            clear hv hc3 hb2
            go_wp2_with fail
            go_meet
            case rel => exact ⟨gk, x % gk, ⟨_, _, _, _, rfl, rfl, h2, hl3, H4.out.below HB2.out, HC3.out, H5.out.trans (HB2.out.mono H5.out.size)⟩, by omega, Nat.le_trans (limbs_length_mono (Nat.le_of_lt hm)) (by omega), by rw [← HG.out, Nat.gcd_comm gk, ← Nat.gcd_rec, Nat.gcd_comm]⟩
          · go_wp2_with fail
            go_meet
            case rel => exact ⟨x, gk, ⟨_, _, _, _, rfl, rfl, h1, h2, H3.out, H4.out, H5.out⟩, by omega, by omega, HG.out⟩
        case rest =>
          clear H3 H4 H5 HG HD hk2 hz' hp h0
          obtain ⟨p, q, ⟨A3, A4, c3, c4, rfl, rfl, h3, h4, h5, h6, h7⟩, hp2, hq2, hg⟩ := hcut
          have HG := Lib.hid hg
          have H7 := Lib.hid h7
          have HS1 := Lib.hid (small_any A3 p c3 wc h5 hp2)
          have HS2 := Lib.hid (small_any A4 q c4 wc h6 hq2)
          have hpB := (limbs_two hp2).2
          have hqB := (limbs_two hq2).2
          clear hg h5 h6 h7
          go_wp2_with fail
          refine HS1.out.mono ?_
          rintro e w' ⟨rfl, rfl⟩
          go_wp2_with fail
          refine HS2.out.mono ?_
          rintro e w' ⟨rfl, rfl⟩
          go_wp2_with fail
          go_loopw [9, 10] (fun s t wr => ∃ (x y m : Nat), s = .int .u64 (x : Int) ∧ t = .int .u64 (y : Int) ∧ x < 1000000000000000000 ∧ y < 1000000000000000000 ∧ Nat.gcd x y = Nat.gcd a b ∧ wr = wc.drewN m) (fun _ t _ => (intOf t).toNat)
          case atStart => exact ⟨p, q, 0, rfl, rfl, hpB, hqB, HG.out, rfl⟩
          case round =>
            obtain ⟨x, y, m, rfl, rfl, hx, hy, hg, rfl⟩ := hrel
            clear HG
            have HG := Lib.hid hg
            clear hg
            rcases Nat.eq_zero_or_pos y with h0 | h0
            · subst h0
              have HE := Lib.hid (show x = Nat.gcd a b by rw [← HG.out, Nat.gcd_zero_right])
              have hr2 := row_two (wc.drewN m) (x % 1000000000) (x / 1000000000)
              have HTR := Lib.hid (trim_fill (w := wc.drewN m) (n := 2) (r := x) ⟨rfl, Low.cons (by omega) (Low.cons (by omega) Low.nil), by rw [Nat.sub_self, show zeros 0 = [] from rfl, List.append_nil]; exact hr2, (Below.refl _ _).alloc (Nat.le_refl _) _⟩ (by omega) (two_limbs hx))
              clear hr2
              go_wp2_with fail
              have e1 : (x : Int) % 1000000000 = ((x % 1000000000 : Nat) : Int) := by omega
              have e2 : (x : Int) / 1000000000 = ((x / 1000000000 : Nat) : Int) := by omega
              rw [e1, e2]
              refine HTR.out.mono ?_
              rintro e w9 ⟨v, rfl, hv, rfl, -⟩
              clear e1 e2
              go_wp2_with fail
              go_ret
              exact ⟨_, rfl, by rw [← HE.out]; exact hv, (below_drewN H7.out m).alloc H7.out.size _⟩
            · have hy' : ((y : Int) != 0) = true := by simp; omega
              have hmm := Nat.mod_lt x h0
              go_wp2_with fail
              go_quiet (fail)
              go_wp2_with fail
              go_roundw
              case rel => exact ⟨y, x % y, _, rfl, by simp, hy, by omega, by rw [← HG.out, Nat.gcd_comm y, ← Nat.gcd_rec, Nat.gcd_comm], by simp only [World.drewN_drewN]; rfl⟩
              case measure => simp [intOf]; omega

end Go.Proofs.YtmickdolpgjbhaaGreatDoor
