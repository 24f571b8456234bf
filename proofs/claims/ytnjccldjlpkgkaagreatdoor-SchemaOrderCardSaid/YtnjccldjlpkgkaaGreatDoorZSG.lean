/-
  Package joinlearnmake: Schema.
-/
import Derived.Test.YtnjccldjlpkgkaaGreatDoorZSD
namespace Go.Proofs.YtnjccldjlpkgkaaGreatDoor
open Go.RowKit

/-- The result is a new schema without faults; the source goes on. -/
def RetSch (w : World) (b most : Nat) (e : Ending) (w' : World) : Prop := ∃ S : SchV, e = .returned (.agg S.cells) ∧ SchOK S ∧ S.at1.length ≤ most ∧ S.rs.length ≤ 3 ∧ GoodA S.at1 ∧ GoodR S.at1.length S.rs ∧ InMem w' S ∧ Src w' b ∧ w.grownBy w' (some b) ∧ ∀ w'', w'.grownBy w'' (some b) → Src w'' b → InMem w'' S
attribute [local go_sem ↓] Go.wp_at_zero Go.wp_at_succ
set_option maxRecDepth 100000 in
set_option maxHeartbeats 8000000 in
theorem Schema_any (b most : Nat) (w : World) (hs : Src w b) (hm1 : 1 ≤ most) (hm2 : most ≤ 8) : Calls Tryz.prog 14 #[.pointer (some ⟨b, 0, none⟩), .int .i64 (most : Int)] w (RetSch w b most) := by
  obtain ⟨i0, hi, hz0, hz1, hz2⟩ := info_parts Tryz.infoInt
  obtain ⟨i1, hi1, hza0, hza1, hza2⟩ := info_parts Tryz.infoAttr
  obtain ⟨i2, hi2, hzr0, hzr1, hzr2⟩ := info_parts Tryz.infoRel
  obtain ⟨i3, hi3, hzf0, hzf1, hzf2⟩ := info_parts Tryz.infoFeat
  have HS := Lib.hid hs
  have hbw := hs.lt
  clear hs
  go_enter Tryz.func14, Tryz.ntmps14
  go_wp2_with fail
  have HB0 := Lib.hid ((((Below.refl w.heap.size w).alloc (Nat.le_refl _) (.cells #[.slice none 0 0, .slice none 0 0, .slice none 0 0, .int .i64 0] 44)).alloc (by simp) (.cells #[.slice none 0 0, .slice none 0 0, .slice none 0 0, .int .i64 (-1)] 44)))
  refine (Range_any b 1 3 _ (HS.out.below HB0.out) (by omega) (by omega) (by omega)).mono ?_
  rintro e w1 ⟨n, rfl, ⟨hn1, hn3⟩, hs1, hg1⟩
  obtain ⟨n, rfl⟩ : ∃ k : Nat, n = k := ⟨n.toNat, by omega⟩
  have HSB : Hid (SB w w1 b (w.heap.size + 1) (.slice none 0 0) (.slice none 0 0) (.slice none 0 0) [] [] [] (-1)) := by
    have h0 : SB w ((w.alloc (.cells #[.slice none 0 0, .slice none 0 0, .slice none 0 0, .int .i64 0] 44)).alloc (.cells #[.slice none 0 0, .slice none 0 0, .slice none 0 0, .int .i64 (-1)] 44)) b (w.heap.size + 1) (.slice none 0 0) (.slice none 0 0) (.slice none 0 0) [] [] [] (-1) :=
      ⟨Blk.new' (by simp) _ [.slice none 0 0, .slice none 0 0, .slice none 0 0, .int .i64 (-1)], ⟨_, _, _, _, (Blk.new' rfl _ [.slice none 0 0, .slice none 0 0, .slice none 0 0, .int .i64 0]).alloc _⟩, World.ownsRow_nil _ _ _ _, World.ownsRow_nil _ _ _ _, World.ownsRow_nil _ _ _ _, (fun r hr => by cases hr), HS.out.below HB0.out,
        ⟨HB0.out.os, HB0.out.tape, HB0.out.output, HB0.out.size, fun k hk _ => HB0.out.block k hk⟩, hbw, by omega⟩
    exact Lib.hid (h0.src_ hg1 hs1)
  clear hs1 hg1 HB0
  go_wp2_with fail
  go_loopw [7] (fun iv wr => ∃ (i : Nat) (va vr : Value) (at1 : List (ByteArray × Int)) (rs : List RelV), iv = .int .i64 (i : Int) ∧ i ≤ n ∧ i = rs.length ∧ at1.length ≤ most ∧ (1 ≤ i → 1 ≤ at1.length) ∧ GoodA at1 ∧ GoodR at1.length rs ∧ SB w wr b (w.heap.size + 1) va vr (.slice none 0 0) at1 rs [] (-1)) (fun iv _ => n - (intOf iv).toNat)
  case atStart => exact ⟨0, _, _, [], [], rfl, Nat.zero_le _, rfl, Nat.zero_le _, by omega, GoodA.nil, GoodR.nil, HSB.out⟩
  case round =>
    obtain ⟨i, va, vr, at1, rs, rfl, hin, hirs, hat, hat1, hga, hgr, hsb⟩ := hrel
    obtain ⟨wo, rfl⟩ : ∃ wo : World, wo = wr := ⟨_, rfl⟩
    have HGA := Lib.hid hga
    have HGR := Lib.hid hgr
    have HSBo := Lib.hid hsb
    have HIR := Lib.hid hirs
    have HAT1 := Lib.hid hat1
    have k0 := hsb.box.at_ (i := 0) rfl
    obtain ⟨Aa, ca, rfl, hca⟩ := own_form hsb.a
    clear hga hgr hsb HSB hirs hat1
    by_cases hlt : i < n
    · go_wp2_with fail
      go_loopw [8, 24] (fun lv iv wr => ∃ (a : Nat) (l : List Nat), iv = .int .i64 (a : Int) ∧ a ≤ at1.length ∧ AscN l a ∧ wr.ownsRow wo.heap.size 3 1 lv l.length (vn l) ∧ wo.heap.size ≤ wr.heap.size ∧ SB w wr b (w.heap.size + 1) (.slice Aa at1.length ca) vr (.slice none 0 0) at1 rs [] (-1)) (fun _ iv _ => at1.length - (intOf iv).toNat)
      case atStart => exact ⟨0, [], rfl, Nat.zero_le _, AscN.nil _, World.ownsRow_nil _ _ _ _, Nat.le_refl _, HSBo.out⟩
      case round =>
        obtain ⟨a, l, rfl, ha, hasc, hown, hsz, hsb⟩ := hrel
        obtain ⟨wa, rfl⟩ : ∃ wa : World, wa = wr := ⟨_, rfl⟩
        have HASC := Lib.hid hasc
        have HOWN := Lib.hid hown
        have HSB := Lib.hid hsb
        have hgo : w.heap.size + 1 < wo.heap.size := HSBo.out.box.lt
        have hll := hasc.len
        clear hasc hown hsb
        by_cases hla : a < at1.length
        · go_wp2_with fail
          refine (N_any b 3 wa HSB.out.src (by omega) (by omega)).mono ?_
          rintro e w2 ⟨r, rfl, hr, hs2, hg2⟩
          have HSB2 := Lib.hid (HSB.out.src_ hg2 hs2)
          have HO2 := Lib.hid (own_src HOWN.out hg2 (by omega))
          have hsz2 : wo.heap.size ≤ w2.heap.size := Nat.le_trans hsz hg2.size
          clear hs2 hg2
          by_cases hr0 : r = 0
          · subst hr0
            go_wp2_with (at_builtin; refine wpList_append_own _ rfl _ _ 37 rfl wo.heap.size 3 i0 (.int .i64 0) 1 8 Tryz.underlying37 hi hz0 hz1 hz2 rfl (by decide) _ _ _ rfl (HO2.out.alloc _) ⟨w2.heap.size, 0, none⟩ 1 1 [_] rfl rfl one_new one_cell (by unfold maxLen; omega) (by omega) (by simp; omega) ?_)
            intro v' w3 hown3 hgrow3 _
            have HO3 := Lib.hid hown3
            have HSB3 := Lib.hid ((HSB2.out.below ((Below.refl _ _).alloc (Nat.le_refl _) _)).ints (HO2.out.alloc _) (by omega) (fun r hr k hk => ((HSBo.out.x r hr).lt k hk).2) hgrow3)
            have hsz3 : wo.heap.size ≤ w3.heap.size := by have := hgrow3.size; rw [World.size_alloc] at this; omega
            clear hown3 hgrow3
            go_wp2_with fail
            go_roundw
            case rel => exact ⟨a + 1, l ++ [a], by go_num, by omega, HASC.out.push, by rw [vn_snoc, List.length_append]; exact HO3.out, hsz3, HSB3.out⟩
            case measure => simp [intOf]; omega
          · have hr0' : ((r : Int) == 0) = false := by rw [beq_eq_false_iff_ne]; omega
            clear hr0
            go_wp2_with fail
            go_roundw
            case rel => exact ⟨a + 1, l, by go_num, by omega, HASC.out.more, HO2.out, hsz2, HSB2.out⟩
            case measure => simp [intOf]; omega
        · obtain rfl : a = at1.length := by omega
          go_wp2_with fail
          refine (N_any b 3 wa HSB.out.src (by omega) (by omega)).mono ?_
          rintro e w2 ⟨kk, rfl, hkk, hs2, hg2⟩
          have HSB2 := Lib.hid (HSB.out.src_ hg2 hs2)
          have HO2 := Lib.hid (own_src HOWN.out hg2 (by omega))
          have hsz2 : wo.heap.size ≤ w2.heap.size := Nat.le_trans hsz hg2.size
          clear hs2 hg2
          have HST : Hid (St w wo w2 b (w.heap.size + 1) (.slice Aa at1.length ca) vr (.slice none 0 0) at1 rs [] (-1) u8 l) := Lib.hid ⟨HSB2.out, HO2.out, hsz2, hgo⟩
          clear HSB2 HO2 HSB HOWN hsz2 hsz
          go_wp2_with fail
          go_loopw [8, 10] (fun lv kv wr => ∃ (k : Int) (m : List Nat) (va2 : Value) (at2 : List (ByteArray × Int)), kv = .int .i64 k ∧ -1 ≤ k ∧ k ≤ 2 ∧ (0 ≤ k ∨ m ≠ []) ∧ at1.length ≤ at2.length ∧ at2.length ≤ most ∧ GoodA at2 ∧ AscN m at2.length ∧ (∀ j, at1.length ≤ j → j < at2.length → j ∈ m) ∧ St w wo wr b (w.heap.size + 1) va2 vr (.slice none 0 0) at2 rs [] (-1) lv m) (fun _ kv _ => (intOf kv + 1).toNat)
          case atStart => exact ⟨(kk : Int), l, _, at1, rfl, by omega, by omega, .inl (by omega), Nat.le_refl _, hat, HGA.out, HASC.out, fun j h1 h2 => absurd h2 (by omega), HST.out⟩
          case round =>
            obtain ⟨k, m, va2, at2, rfl, hk1, hk2, hkm, ha12, ha2, hga2, hasc2, hnew, hst⟩ := hrel
            obtain ⟨wb, rfl⟩ : ∃ wb : World, wb = wr := ⟨_, rfl⟩
            obtain ⟨A2, c2, rfl, hc2⟩ := own_form hst.sb.a
            obtain ⟨L2, d2, rfl, hd2⟩ := own_form hst.own
            have HKM := Lib.hid hkm
            have HGA2 := Lib.hid hga2
            have HAS2 := Lib.hid hasc2
            have HNEW := Lib.hid hnew
            have HSTB := Lib.hid hst
            have hml := hasc2.len
            have kb0 := hst.sb.box.at_ (i := 0) rfl
            clear hkm hga2 hasc2 hnew hst HST
            go_upto_region 14 with (fail)
            go_cut [50] (fun v wc => v = .bool (decide ((0 < k ∨ m.length = 0) ∧ at2.length < most)) ∧ wc = wb)
            case first =>
              by_cases c1 : 0 < k
              · have E := Lib.hid (show decide ((0 < k ∨ m.length = 0) ∧ at2.length < most) = decide (at2.length < most) from decide_eq_decide.2 ⟨fun h => h.2, fun h => ⟨.inl c1, h⟩⟩)
                generalize decide ((0 < k ∨ m.length = 0) ∧ at2.length < most) = cB at *
                go_wp2_with fail
                go_meet
                exact ⟨by rw [E.out], rfl⟩
              · by_cases c2 : m.length = 0
                · have E := Lib.hid (show decide ((0 < k ∨ m.length = 0) ∧ at2.length < most) = decide (at2.length < most) from decide_eq_decide.2 ⟨fun h => h.2, fun h => ⟨.inr c2, h⟩⟩)
                  generalize decide ((0 < k ∨ m.length = 0) ∧ at2.length < most) = cB at *
                  have c2' : ((m.length : Int) == 0) = true := by rw [c2]; rfl
                  have c1' : decide (0 < k) = false := decide_eq_false c1
                  clear c2
                  go_wp2_with fail
                  go_meet
                  exact ⟨by rw [E.out], rfl⟩
                · have E := Lib.hid (show decide ((0 < k ∨ m.length = 0) ∧ at2.length < most) = false from decide_eq_false fun h => h.1.elim c1 c2)
                  generalize decide ((0 < k ∨ m.length = 0) ∧ at2.length < most) = cB at *
                  have c2' : ((m.length : Int) == 0) = false := by rw [beq_eq_false_iff_ne]; omega
                  have c1' : decide (0 < k) = false := decide_eq_false c1
                  clear c2
                  go_wp2_with fail
                  go_meet
                  exact ⟨by rw [E.out], rfl⟩
            case rest =>
              obtain ⟨rfl, rfl⟩ := hcut
              by_cases hc : (0 < k ∨ m.length = 0) ∧ at2.length < most
              · rw [decide_eq_true hc]
                obtain ⟨hc0, hc1⟩ := hc
                have hk0 : 0 ≤ k := by
                  rcases HKM.out with h | h
                  · exact h
                  · rcases hc0 with h2 | h2
                    · omega
                    · exact absurd (List.eq_nil_of_length_eq_zero h2) h
                clear hc0
                go_wp2_with (at_builtin; refine wpList_append_own _ rfl _ _ 37 rfl wo.heap.size 3 i0 (.int .i64 0) 1 8 Tryz.underlying37 hi hz0 hz1 hz2 rfl (by decide) _ _ _ rfl (HSTB.out.own.alloc _) ⟨wc.heap.size, 0, none⟩ 1 1 [_] rfl rfl one_new one_cell (by unfold maxLen; omega) (by omega) (by have := HSTB.out.sz; simp; omega) ?_)
                intro v' w3 hown3 hgrow3 _
                have HST3 : Hid (St w wo w3 b (w.heap.size + 1) (.slice A2 at2.length c2) vr (.slice none 0 0) at2 rs [] (-1) v' (m ++ [at2.length])) := Lib.hid ⟨(HSTB.out.alloc _).sb.ints (HSTB.out.own.alloc _) HSTB.out.gw (fun r hr k hk => ((HSBo.out.x r hr).lt k hk).2) hgrow3, by rw [vn_snoc, List.length_append]; exact hown3, by have := hgrow3.size; have := HSTB.out.sz; rw [World.size_alloc] at *; omega, HSTB.out.gw⟩
                have kc0 := HST3.out.sb.box.at_ (i := 0) rfl
                have fc0 := HST3.out.sb.box.fr 0
                clear hown3 hgrow3
                go_wp2_with fail
                have hb4 : b < w3.heap.size := HST3.out.sb.src.lt
                have hgw3 : w.heap.size + 1 < w3.heap.size := HST3.out.sb.box.lt
                go_region_law
                  (first
                    | (first
                      | (refine step_append_lies _ (by rfl) _ _ _ (by rfl) (w.heap.size + 1 + 1) 25 i1 _ 2 24 Tryz.underlying40 hi1 hza0 hza1 hza2 rfl (by omega) (.slice A2 at2.length c2) at2.length (av at2) (by go_simp) (HSTP.out.alloc (.cells #[.string (lname 97 at2.length), .int .i64 z] 25)).drew.sb.a ⟨wP.heap.size, 0, none⟩ 1 1 [.string (lname 97 at2.length), .int .i64 z] (by go_simp) rfl (World.news_of_block (cs := #[.string (lname 97 at2.length), .int .i64 z]) (t := 25) (fr := (0, 0)) (heap_alloc_new wP _)) two_cell (by omega) (by unfold maxLen; omega) (by omega) (by have := HSTP.out.sb.box.lt; simp; omega) _ rfl ?_; intro gg cap w5 hown5 hgrow5 hat5 hlt5; (first | (have HB5 := Lib.hid ((HSTP.out.alloc (.cells #[.string (lname 97 at2.length), .int .i64 z] 25)).sb.box_a hgrow5); have k5 := HB5.out.at_ (i := 0) rfl; have f5 := HB5.out.fr 0; have HST6 := Lib.hid ((HSTP.out.alloc (.cells #[.string (lname 97 at2.length), .int .i64 z] 25)).pushA hgrow5 hown5); clear hown5 hgrow5 hat5 hlt5 HB5) | (have HB5 := Lib.hid ((HSTP.out.alloc (.cells #[.string (lname 97 at2.length), .int .i64 z] 25)).drew.sb.box_a hgrow5); have k5 := HB5.out.at_ (i := 0) rfl; have f5 := HB5.out.fr 0; have HST6 := Lib.hid ((HSTP.out.alloc (.cells #[.string (lname 97 at2.length), .int .i64 z] 25)).drew.pushA hgrow5 hown5); clear hown5 hgrow5 hat5 hlt5 HB5)))
                      | (refine step_append_lies _ (by rfl) _ _ _ (by rfl) (w.heap.size + 1 + 1) 25 i1 _ 2 24 Tryz.underlying40 hi1 hza0 hza1 hza2 rfl (by omega) (.slice A2 at2.length c2) at2.length (av at2) (by go_simp) (HSTL.out.alloc (.cells #[.string (lname 97 at2.length), .int .i64 z] 25)).drew.sb.a ⟨wL.heap.size, 0, none⟩ 1 1 [.string (lname 97 at2.length), .int .i64 z] (by go_simp) rfl (World.news_of_block (cs := #[.string (lname 97 at2.length), .int .i64 z]) (t := 25) (fr := (0, 0)) (heap_alloc_new wL _)) two_cell (by omega) (by unfold maxLen; omega) (by omega) (by have := HSTL.out.sb.box.lt; simp; omega) _ rfl ?_; intro gg cap w5 hown5 hgrow5 hat5 hlt5; (first | (have HB5 := Lib.hid ((HSTL.out.alloc (.cells #[.string (lname 97 at2.length), .int .i64 z] 25)).sb.box_a hgrow5); have k5 := HB5.out.at_ (i := 0) rfl; have f5 := HB5.out.fr 0; have HST6 := Lib.hid ((HSTL.out.alloc (.cells #[.string (lname 97 at2.length), .int .i64 z] 25)).pushA hgrow5 hown5); clear hown5 hgrow5 hat5 hlt5 HB5) | (have HB5 := Lib.hid ((HSTL.out.alloc (.cells #[.string (lname 97 at2.length), .int .i64 z] 25)).drew.sb.box_a hgrow5); have k5 := HB5.out.at_ (i := 0) rfl; have f5 := HB5.out.fr 0; have HST6 := Lib.hid ((HSTL.out.alloc (.cells #[.string (lname 97 at2.length), .int .i64 z] 25)).drew.pushA hgrow5 hown5); clear hown5 hgrow5 hat5 hlt5 HB5))))
                    | (go_simp; first
                    | (go_at_call 39; (with_reducible refine (letter_any 97 at2.length _ (by omega)).mono ?_); rintro e wL ⟨rfl, hbL⟩; (first | have HI4 := Lib.hid ((blk4 w3).below hbL) | have HI4 := Lib.hid ((blk4d w3).below hbL) | have HI4 := Lib.hid ((blk4e w3).below hbL) | skip); have HSTL : Hid (St w wo wL b (w.heap.size + 1) (.slice A2 at2.length c2) vr (.slice none 0 0) at2 rs [] (-1) v' (m ++ [at2.length])) := Lib.hid (by first | exact HST3.out.below hbL | exact HST3.out.drew.below hbL | exact (HST3.out.alloc _).below hbL | exact (HST3.out.alloc _).drew.below hbL | exact HSTP.out.below hbL | exact HSTP.out.drew.below hbL); have kL := HSTL.out.sb.box.at_ (i := 0) rfl; have sL : w.heap.size + 1 < wL.heap.size := HSTL.out.sb.box.lt; clear hbL)
                    | (go_at_call 40; (with_reducible refine (Pick4 b _ _ (by first | exact HSTL.out.sb.src | exact (HSTL.out.alloc _).sb.src | exact (HSTL.out.alloc _).drew.sb.src | exact (HST3.out.alloc _).sb.src | exact (HST3.out.alloc _).drew.sb.src) (by first | exact HI4.out | exact blk4 _ | exact blk4d _ | exact blk4e _) (by first | omega | (have := HSTL.out.sb.src.lt; omega))).mono ?_); rintro e wP ⟨z, ⟨hz1, hz3⟩, rfl, hsP, hgP⟩; have HSTP : Hid (St w wo wP b (w.heap.size + 1) (.slice A2 at2.length c2) vr (.slice none 0 0) at2 rs [] (-1) v' (m ++ [at2.length])) := Lib.hid (by first | exact HSTL.out.src_ hgP hsP | exact (HSTL.out.alloc _).src_ hgP hsP | exact (HSTL.out.alloc _).drew.src_ hgP hsP | exact (HST3.out.alloc _).src_ hgP hsP | exact (HST3.out.alloc _).drew.src_ hgP hsP); have kP := HSTP.out.sb.box.at_ (i := 0) rfl; have sP : w.heap.size + 1 < wP.heap.size := HSTP.out.sb.box.lt; clear hsP hgP)))
                all_goals
                  clear kb0 kc0 fc0
                  go_wp2_with fail
                  go_roundw
                  case rel => exact ⟨k - 1, m ++ [at2.length], _, at2 ++ [(lname 97 at2.length, z)], by go_num, by omega, by omega, .inr (by simp), by simp; omega, by simp; omega, HGA2.out.push hz1 hz3, by rw [List.length_append]; exact HAS2.out.push, fun j h1 h2 => by
                    rw [List.length_append, List.length_singleton] at h2
                    rw [List.mem_append, List.mem_singleton]
                    rcases Nat.lt_or_ge j at2.length with h3 | h3
                    · exact .inl (HNEW.out j h1 h3)
                    · exact .inr (by omega), HST6.out⟩
                  case measure => simp [intOf]; omega
              · have hex : 0 < k → ¬ at2.length < most := fun h1 h2 => hc ⟨.inl h1, h2⟩
                have hex2 : m = [] → most ≤ at2.length := fun h1 => by
                  rcases Nat.lt_or_ge at2.length most with h2 | h2
                  · exact absurd ⟨.inr (by rw [h1]; rfl), h2⟩ hc
                  · exact h2
                have HEX := Lib.hid hex2
                rw [decide_eq_false hc]
                clear hc hex hex2
                go_upto_if 74 with (fail)
                go_cut [8] (fun lv wc2 => ∃ (m2 : List Nat) (L3 : Option Addr) (d3 : Nat), lv = .slice L3 m2.length d3 ∧ m2 ≠ [] ∧ AscN m2 at2.length ∧ (∀ j, at1.length ≤ j → j < at2.length → j ∈ m2) ∧ m2.length ≤ d3 ∧ St w wo wc2 b (w.heap.size + 1) (.slice A2 at2.length c2) vr (.slice none 0 0) at2 rs [] (-1) (.slice L3 m2.length d3) m2)
                case first =>
                  by_cases hm0 : m = []
                  · have hm0' : ((m.length : Int) == 0) = true := by rw [hm0]; rfl
                    have HW := Lib.hid (HEX.out hm0)
                    have HN0 := Lib.hid (fun j h1 h2 => show j ∈ [0] by have := HNEW.out j h1 h2; rw [hm0] at this; cases this)
                    have HST4 : Hid (St w wo (wc.alloc (.cells #[.int .i64 0] 3)) b (w.heap.size + 1) (.slice A2 at2.length c2) vr (.slice none 0 0) at2 rs [] (-1) (.slice (some ⟨wc.heap.size, 0, none⟩) [0].length 1) [0]) := Lib.hid ⟨(HSTB.out.alloc _).sb, World.ownsRow_lit wc #[.int .i64 0] 1 HSTB.out.sz (by decide) rfl, (HSTB.out.alloc _).sz, HSTB.out.gw⟩
                    go_wp2_with fail
                    go_meet
                    exact ⟨[0], _, 1, rfl, by simp, ⟨fun i hi => by simp at hi, fun x hx => by rw [List.mem_singleton] at hx; have := HW.out; omega⟩, HN0.out, by simp, HST4.out⟩
                  · have hm0' : ((m.length : Int) == 0) = false := by
                      rw [beq_eq_false_iff_ne]
                      intro e
                      exact hm0 (List.eq_nil_of_length_eq_zero (by omega))
                    have HM0 := Lib.hid hm0
                    clear hm0
                    go_wp2_with fail
                    go_meet
                    exact ⟨m, _, _, rfl, HM0.out, HAS2.out, HNEW.out, hd2, HSTB.out⟩
                case rest =>
                  obtain ⟨m2, L3, d3, rfl, hm2n, hasc3, hnew3, hd3, hst3⟩ := hcut
                  obtain ⟨Ar, cr, rfl, hcr⟩ := own_form hst3.sb.r
                  have HM2 := Lib.hid hm2n
                  have HAS3 := Lib.hid hasc3
                  have HNW3 := Lib.hid hnew3
                  have HST3 := Lib.hid hst3
                  have hml2 := hasc3.len
                  have kr := hst3.sb.box.at_ (i := 1) rfl
                  have sr : w.heap.size + 1 < wc.heap.size := hst3.sb.box.lt
                  have hirs : i = rs.length := HIR.out
                  have hrl : rs.length ≤ 3 := by omega
                  clear hm2n hasc3 hnew3 hst3 HSTB HAS2 HNEW HKM hirs
                  go_wp2_with fail
                  go_region_law
                    (first
                      | (refine step_append_lies _ (by rfl) _ _ _ (by rfl) (w.heap.size + 1 + 1) 48 i2 _ 2 40 Tryz.underlying41 hi2 hzr0 hzr1 hzr2 rfl (by omega) (.slice Ar rs.length cr) rs.length (relv rs) (by go_simp) (HSTL.out.alloc (.cells #[.string (lname 114 i), .slice L3 m2.length d3] 48)).sb.r ⟨wL.heap.size, 0, none⟩ 1 1 [.string (lname 114 i), .slice L3 m2.length d3] (by go_simp) rfl (World.news_of_block (cs := #[.string (lname 114 i), .slice L3 m2.length d3]) (t := 48) (fr := (0, 0)) (heap_alloc_new wL _)) two_cell' (by omega) (by unfold maxLen; omega) (by omega) (by have := HSTL.out.sb.box.lt; simp; omega) _ rfl ?_; intro gg cap w5 hown5 hgrow5 hat5 hlt5; have HB5 := Lib.hid ((HSTL.out.alloc (.cells #[.string (lname 114 i), .slice L3 m2.length d3] 48)).sb.box_r hgrow5); have k5 := HB5.out.at_ (i := 1) rfl; have f5 := HB5.out.fr 1; have HST6 := Lib.hid ((HSTL.out.alloc (.cells #[.string (lname 114 i), .slice L3 m2.length d3] 48)).pushR hgrow5 hown5); clear hown5 hgrow5 hat5 hlt5 HB5)
                      | (go_simp; go_at_call 39; (with_reducible refine (letter_any 114 i _ (by omega)).mono ?_); rintro e wL ⟨rfl, hbL⟩; have HSTL : Hid (St w wo wL b (w.heap.size + 1) (.slice A2 at2.length c2) (.slice Ar rs.length cr) (.slice none 0 0) at2 rs [] (-1) (.slice L3 m2.length d3) m2) := Lib.hid (by first | exact HST3.out.below hbL | exact HST3.out.drew.below hbL); have kL := HSTL.out.sb.box.at_ (i := 1) rfl; have sL : w.heap.size + 1 < wL.heap.size := HSTL.out.sb.box.lt; clear hbL))
                  all_goals
                    go_wp2_with fail
                    go_roundw
                    case rel =>
                      obtain rfl := HIR.out
                      refine ⟨rs.length + 1, _, _, at2, rs ++ [⟨lname 114 rs.length, L3, d3, m2⟩], by go_num, by omega, by simp, ha2, fun _ => ?_, HGA2.out, HGR.out.push HM2.out HAS3.out hd3 ha12 HNW3.out, HST6.out⟩
                      rcases Nat.lt_or_ge 0 m2.length with h | h
                      · omega
                      · exact absurd (List.eq_nil_of_length_eq_zero (by omega)) HM2.out
                    case measure => simp [intOf]; omega
    · obtain rfl : i = n := by omega
      go_wp2_with fail
      go_loopw [88] (fun iv wr => ∃ (a : Nat) (vf : Value) (fs : List FeatV) (lb : Int), iv = .int .i64 (a : Int) ∧ a ≤ at1.length ∧ FeatGood at1 fs lb a ∧ SB w wr b (w.heap.size + 1) (.slice Aa at1.length ca) vr vf at1 rs fs lb) (fun iv _ => at1.length - (intOf iv).toNat)
      case atStart => exact ⟨0, _, [], -1, rfl, Nat.zero_le _, FeatGood.start _, HSBo.out⟩
      case round =>
        obtain ⟨a, vf, fs, lb, rfl, ha, hfg, hsb⟩ := hrel
        obtain ⟨wa, rfl⟩ : ∃ wa : World, wa = wr := ⟨_, rfl⟩
        obtain ⟨Af, cf, rfl, hcf⟩ := own_form hsb.f
        have HFG := Lib.hid hfg
        have HSB := Lib.hid hsb
        have hfl := hfg.len
        have q1 := hfg.lb1
        have q2 := hfg.lb2
        have sg : w.heap.size + 1 < wa.heap.size := hsb.box.lt
        have kf := hsb.box.at_ (i := 2) rfl
        have kl := hsb.box.at_ (i := 3) rfl
        have fl := hsb.box.fr 3
        clear hfg hsb HSBo k0
        by_cases hla : a < at1.length
        · obtain ⟨Ab, rfl⟩ : ∃ Ab : Nat, Aa = some ⟨Ab, 0, none⟩ := HSB.out.a_some (by omega)
          obtain ⟨hcl1, hcl2, hblt⟩ := HSB.out.attr hla
          have HKD := Lib.hid (HGA.out a hla)
          generalize hnm : at1[a].1 = nm at *
          generalize hkd : at1[a].2 = kd at *
          have HKE := Lib.hid hkd
          clear hnm hkd
          obtain ⟨hk1, hk3⟩ := HKD.out.2
          clear HKD
          have HXS := Lib.hid (XS.new HSB.out nm kd)
          clear HSB
          go_upto_region 24 with (fail)
          go_cut [93] (fun v wc => ∃ bb : Bool, v = .bool bb ∧ IsK bb kd 2 ∧ XS w wc b (w.heap.size + 1) wa.heap.size (.slice (some ⟨Ab, 0, none⟩) at1.length ca) vr (.slice Af fs.length cf) at1 rs fs lb nm kd)
          case first =>
            by_cases hkd : kd = 2
            · subst hkd
              by_cases hl0 : lb < 0
              · go_wp2_with fail
                refine (N_any b 2 _ HXS.out.sb.src (by omega) (by omega)).mono ?_
                rintro e w2 ⟨r, rfl, hr, hs2, hg2⟩
                have HX2 := Lib.hid (HXS.out.src_ hg2 hs2)
                clear hs2 hg2
                go_wp2_with fail
                go_meet
                exact ⟨_, rfl, IsK.yes _, HX2.out⟩
              · go_wp2_with fail
                go_meet
                exact ⟨false, rfl, IsK.no _ _, HXS.out⟩
            · have hkd' : (kd == 2) = false := by rw [beq_eq_false_iff_ne]; exact hkd
              have HND := Lib.hid hkd
              clear hkd
              go_wp2_with fail
              go_meet
              exact ⟨false, rfl, IsK.no _ _, HXS.out⟩
          case rest =>
            obtain ⟨bb, rfl, hbb, hx⟩ := hcut
            have HX := Lib.hid hx
            have HBB := Lib.hid hbb
            have kl := hx.sb.box.at_ (i := 3) rfl
            have fl := hx.sb.box.fr 3
            have kx := hx.box.at_ (i := 1) rfl
            clear hx hbb HXS kf
            cases bb
            · go_upto_region 26 with (fail)
              go_cut [109] (fun v wc => ∃ bb : Bool, v = .bool bb ∧ IsK bb kd 2 ∧ XS w wc b (w.heap.size + 1) wa.heap.size (.slice (some ⟨Ab, 0, none⟩) at1.length ca) vr (.slice Af fs.length cf) at1 rs fs lb nm kd)
              case first =>
                by_cases hkd : kd = 2
                · subst hkd
                  go_wp2_with fail
                  refine (N_any b 4 _ HX.out.sb.src (by omega) (by omega)).mono ?_
                  rintro e w2 ⟨r, rfl, hr, hs2, hg2⟩
                  have HX2 := Lib.hid (HX.out.src_ hg2 hs2)
                  clear hs2 hg2
                  go_wp2_with fail
                  go_meet
                  exact ⟨_, rfl, IsK.yes _, HX2.out⟩
                · have hkd' : (kd == 2) = false := by rw [beq_eq_false_iff_ne]; exact hkd
                  clear hkd
                  go_wp2_with fail
                  go_meet
                  exact ⟨false, rfl, IsK.no _ _, HX.out⟩
              case rest =>
                obtain ⟨bb, rfl, hbb, hx⟩ := hcut
                have HX3 := Lib.hid hx
                have HBB3 := Lib.hid hbb
                have kf := hx.sb.box.at_ (i := 2) rfl
                have ff := hx.sb.box.fr 2
                have kx := hx.box.at_ (i := 1) rfl
                have sx : w.heap.size + 1 < wc.heap.size := hx.sb.box.lt
                clear hx hbb HX HBB
                cases bb
                · go_upto_region 28 with (fail)
                  go_cut [127] (fun v wc => ∃ bb : Bool, v = .bool bb ∧ IsK bb kd 3 ∧ XS w wc b (w.heap.size + 1) wa.heap.size (.slice (some ⟨Ab, 0, none⟩) at1.length ca) vr (.slice Af fs.length cf) at1 rs fs lb nm kd)
                  case first =>
                    by_cases hkd : kd = 3
                    · subst hkd
                      go_wp2_with fail
                      refine (N_any b 4 _ HX3.out.sb.src (by omega) (by omega)).mono ?_
                      rintro e w2 ⟨r, rfl, hr, hs2, hg2⟩
                      have HX2 := Lib.hid (HX3.out.src_ hg2 hs2)
                      clear hs2 hg2
                      go_wp2_with fail
                      go_meet
                      exact ⟨_, rfl, IsK.yes _, HX2.out⟩
                    · have hkd' : (kd == 3) = false := by rw [beq_eq_false_iff_ne]; exact hkd
                      clear hkd
                      go_wp2_with fail
                      go_meet
                      exact ⟨false, rfl, IsK.no _ _, HX3.out⟩
                  case rest =>
                    obtain ⟨bb, rfl, hbb, hx⟩ := hcut
                    have HX4 := Lib.hid hx
                    have HBB4 := Lib.hid hbb
                    have kf := hx.sb.box.at_ (i := 2) rfl
                    have sx : w.heap.size + 1 < wc.heap.size := hx.sb.box.lt
                    clear hx hbb HX3 HBB3 kx
                    cases bb
                    · go_wp2_with fail
                      go_roundw
                      case rel => exact ⟨a + 1, _, fs, lb, by go_num, by omega, HFG.out.next hla, HX4.out.sb⟩
                      case measure => simp [intOf]; omega
                    · have HK3 := Lib.hid (HBB4.out rfl)
                      clear HBB4
                      go_wp2_with (at_builtin; refine wpList_append_own _ rfl _ _ 42 rfl (w.heap.size + 1 + 1) 73 i3 _ 3 24 Tryz.underlying42 hi3 hzf0 hzf1 hzf2 rfl (by decide) _ _ _ rfl (HX4.out.alloc _).sb.f ⟨wc.heap.size, 0, none⟩ 1 1 [_, _, _] rfl rfl (World.news_of_block (cs := #[.int .i64 (a : Int), .int .i64 2, .int .i64 0]) (t := 73) (fr := (0, 0)) (heap_alloc_new wc _)) three_cell (by unfold maxLen; omega) (by omega) (by simp; omega) ?_)
                      intro v' w3 hown3 hgrow3 _
                      obtain ⟨A5, c5, rfl, -⟩ := own_form hown3
                      have HB5 := Lib.hid ((HX4.out.alloc (.cells #[.int .i64 (a : Int), .int .i64 2, .int .i64 0] 73)).sb.box_f hgrow3)
                      have k5 := HB5.out.at_ (i := 2) rfl
                      have f5 := HB5.out.fr 2
                      have HS6 := Lib.hid ((HX4.out.alloc (.cells #[.int .i64 (a : Int), .int .i64 2, .int .i64 0] 73)).sb.pushF (f := ⟨a, 2, 0⟩) hgrow3 hown3)
                      clear hown3 hgrow3 HB5
                      go_wp2_with fail
                      go_roundw
                      case rel => exact ⟨a + 1, _, _, lb, by go_num, by omega, HFG.out.push hla (.inr ⟨rfl, by rw [HKE.out, HK3.out], rfl⟩), HS6.out⟩
                      case measure => simp [intOf]; omega
                · have HK2 := Lib.hid (HBB3.out rfl)
                  clear HBB3
                  go_wp2_with fail
                  go_region_law
                    (first
                      | (refine step_append_lies _ (by rfl) _ _ _ (by rfl) (w.heap.size + 1 + 1) 73 i3 _ 3 24 Tryz.underlying42 hi3 hzf0 hzf1 hzf2 rfl (by omega) (.slice Af fs.length cf) fs.length (fv fs) (by go_simp) (HXN.out.alloc (.cells #[.int .i64 (a : Int), .int .i64 1, .int .i64 (z : Int)] 73)).sb.f ⟨wN.heap.size, 0, none⟩ 1 1 [.int .i64 (a : Int), .int .i64 1, .int .i64 (z : Int)] (by go_simp) rfl (World.news_of_block (cs := #[.int .i64 (a : Int), .int .i64 1, .int .i64 (z : Int)]) (t := 73) (fr := (0, 0)) (heap_alloc_new wN _)) three_cell (by omega) (by unfold maxLen; omega) (by omega) (by have := HXN.out.sb.box.lt; simp; omega) _ rfl ?_; intro gg cap w5 hown5 hgrow5 hat5 hlt5; have HB5 := Lib.hid ((HXN.out.alloc (.cells #[.int .i64 (a : Int), .int .i64 1, .int .i64 (z : Int)] 73)).sb.box_f hgrow5); have k5 := HB5.out.at_ (i := 2) rfl; have f5 := HB5.out.fr 2; have HS6 := Lib.hid ((HXN.out.alloc (.cells #[.int .i64 (a : Int), .int .i64 1, .int .i64 (z : Int)] 73)).sb.pushF (f := ⟨a, 1, (z : Int)⟩) hgrow5 hown5); clear hown5 hgrow5 hat5 hlt5 HB5)
                      | (go_simp; go_at_call 38; (with_reducible refine (N_any b 2 _ (by first | exact HX3.out.sb.src | exact HX3.out.drew.sb.src) (by omega) (by omega)).mono ?_); rintro e wN ⟨z, rfl, hz, hs2, hg2⟩; have HXN : Hid (XS w wN b (w.heap.size + 1) wa.heap.size (.slice (some ⟨Ab, 0, none⟩) at1.length ca) vr (.slice Af fs.length cf) at1 rs fs lb nm kd) := Lib.hid (by first | exact HX3.out.src_ hg2 hs2 | exact HX3.out.drew.src_ hg2 hs2); have kN := HXN.out.sb.box.at_ (i := 2) rfl; have sN : w.heap.size + 1 < wN.heap.size := HXN.out.sb.box.lt; clear hs2 hg2))
                  all_goals
                    go_wp2_with fail
                    go_roundw
                    case rel => exact ⟨a + 1, _, _, lb, by go_num, by omega, HFG.out.push hla (.inl ⟨rfl, by rw [HKE.out, HK2.out], by omega⟩), HS6.out⟩
                    case measure => simp [intOf]; omega
            · have HK2 := Lib.hid (HBB.out rfl)
              have HL := Lib.hid (HX.out.sb.label (a : Int))
              clear HBB
              go_wp2_with fail
              go_roundw
              case rel => exact ⟨a + 1, _, fs, (a : Int), by go_num, by omega, HFG.out.label hla (by rw [HKE.out, HK2.out]), HL.out⟩
              case measure => simp [intOf]; omega
        · obtain rfl : a = at1.length := by omega
          obtain ⟨Ar, cr, rfl, hcr⟩ := own_form HSB.out.r
          obtain ⟨e0, e1, e2, e3, hres⟩ := HSB.out.res
          have r0 := hres.at_ (i := 0) rfl
          have r1 := hres.at_ (i := 1) rfl
          have r2 := hres.at_ (i := 2) rfl
          have r3 := hres.at_ (i := 3) rfl
          have y0 := hres.fr 0
          have y1 := hres.fr 1
          have y2 := hres.fr 2
          have y3 := hres.fr 3
          have ka := HSB.out.box.at_ (i := 0) rfl
          have kr := HSB.out.box.at_ (i := 1) rfl
          have HRES := Lib.hid hres
          clear hres
          have h8 : decide ((8 : Int) < (fs.length : Int)) = false := by simp; omega
          have sw : w.heap.size < wa.heap.size := by omega
          go_wp2_with fail
          have hR := (((HRES.out.set 0 (.slice Aa at1.length ca)).set 1 (.slice Ar rs.length cr)).set 2 (.slice Af fs.length cf)).set 3 (.int .i64 lb)
          have q0 := hR.at_ (i := 0) rfl
          have q1 := hR.at_ (i := 1) rfl
          have q2 := hR.at_ (i := 2) rfl
          have q3 := hR.at_ (i := 3) rfl
          have hS := ((((HSB.out.setres 0 (.slice Aa at1.length ca)).setres 1 (.slice Ar rs.length cr)).setres 2 (.slice Af fs.length cf)).setres 3 (.int .i64 lb))
          refine bodyPost_ret (v := .agg #[.slice Aa at1.length ca, .slice Ar rs.length cr, .slice Af fs.length cf, .int .i64 lb]) (by simp [results, Tryz.results14, go_sem, q0, q1, q2, q3]) rfl ⟨⟨at1, Aa, ca, rs, Ar, cr, fs, Af, cf, lb⟩, rfl, good_ok HGA.out HGR.out HFG.out (HAT1.out (by omega)) (show at1.length ≤ 8 by omega) (show 1 ≤ rs.length by have := HIR.out; omega) (show rs.length ≤ 3 by have := HIR.out; omega) hcf, hat, (show rs.length ≤ 3 by have := HIR.out; omega), HGA.out, HGR.out, hS.inmem, hS.src, hS.gr, fun w'' hg hs' => (hS.src_ hg hs').inmem⟩

end Go.Proofs.YtnjccldjlpkgkaaGreatDoor
