/-
  The walk of SchemaLimits.
-/
import Derived.Test.YtnjccldjlpkgkaaGreatDoorZSF
import Derived.Test.YtnjccldjlpkgkaaGreatDoorZM
namespace Go.Proofs.YtnjccldjlpkgkaaGreatDoor
open Go.RowKit

set_option maxRecDepth 100000 in
set_option maxHeartbeats 8000000 in
theorem SchemaLimits_any (n : Nat) (w : World) (hn : n < 256) (henv : Env w) : Calls Tryz.prog 6 #[.int .u8 (n : Int)] w fun e w' => e = .returned (.bool true) ∧ Below w.heap.size w w' := by
  have HE := Lib.hid henv
  clear henv
  obtain ⟨i0, hi, hz0, hz1, hz2⟩ := info_parts Tryz.infoInt
  obtain ⟨i1, hi1, hza0, hza1, hza2⟩ := info_parts Tryz.infoAttr
  obtain ⟨K, hK⟩ : ∃ K : Nat, 1 + (n : Int) % 14 = (K : Int) := ⟨1 + n % 14, by omega⟩
  have hk1 : 1 ≤ K := by omega
  have hk14 : K ≤ 14 := by omega
  go_enter Tryz.func6, Tryz.ntmps6
  go_wp2_with fail
  have HL0 : Hid (LS w ((w.alloc (.cells #[.string ⟨#[114]⟩, .slice none 0 0] 48)).alloc (.cells #[.slice none 0 0, .slice (some ⟨w.heap.size, 0, none⟩) 1 1, .slice none 0 0, .int .i64 (-1)] 44)) (.slice none 0 0) (.slice none 0 0) 0) := Lib.hid
    ⟨(Blk.new w _ [.string ⟨#[114]⟩, .slice none 0 0]).alloc _, Blk.new' (by simp) _ [.slice none 0 0, .slice (some ⟨w.heap.size, 0, none⟩) 1 1, .slice none 0 0, .int .i64 (-1)], World.ownsRow_nil _ _ _ _, World.ownsRow_nil _ _ _ _, ((Below.refl _ _).alloc (Nat.le_refl _) _).alloc (by simp) _⟩
  clear hK
  go_loopw [5] (fun iv wr => ∃ (k : Nat) (va xv : Value), iv = .int .i64 (k : Int) ∧ k ≤ K ∧ LS w wr va xv k) (fun iv _ => K - (intOf iv).toNat)
  case atStart => exact ⟨0, _, _, rfl, Nat.zero_le _, HL0.out⟩
  case round =>
    obtain ⟨k, va, xv, rfl, hk, hls⟩ := hrel
    obtain ⟨A1, c1, rfl, hc1⟩ := own_form hls.a
    obtain ⟨X1, d1, rfl, hd1⟩ := own_form hls.x
    have HLS := Lib.hid hls
    have k0 := hls.g.at_ (i := 0) rfl
    have f0 := hls.g.fr 0
    have s0 := hls.g.lt
    clear hls HL0
    by_cases hlt : k < K
    · have hcv := conv_one wr (97 + (k : Int)) (UInt8.ofNat (97 + k % 26)) (by simp; omega)
      have hw8 := wrap_u8 (97 + (k : Int)) (by omega) (by omega)
      have E : (⟨#[97]⟩ : ByteArray) ++ ⟨#[UInt8.ofNat (97 + k % 26)]⟩ = lname 97 k := ba_append [97] [UInt8.ofNat (97 + k % 26)]
      generalize UInt8.ofNat (97 + k % 26) = ch at *
      have HE2 := Lib.hid E
      clear E
      go_wp2_with (at_builtin; refine wpList_append_own _ rfl _ _ 40 rfl (w.heap.size + 1 + 1) 25 i1 _ 2 24 Tryz.underlying40 hi1 hza0 hza1 hza2 rfl (by decide) _ _ _ rfl ((HLS.out.alloc _).alloc _).a ⟨wr.heap.size + 1, 0, none⟩ 1 1 [.string (⟨#[97]⟩ ++ ⟨#[ch]⟩), .int .i64 (1 + (k : Int) % 3)] rfl rfl (World.news_of_block (cs := #[.string (⟨#[97]⟩ ++ ⟨#[ch]⟩), .int .i64 (1 + (k : Int) % 3)]) (t := 25) (fr := (0, 0)) (Blk.new' (by simp) _ [.string (⟨#[97]⟩ ++ ⟨#[ch]⟩), .int .i64 (1 + (k : Int) % 3)])) two_cell (by unfold maxLen; omega) (by omega) (by simp; omega) ?_)
      intro v' w3 hown3 hgrow3 _
      obtain ⟨A9, c9, rfl, hc9⟩ := own_form hown3
      rw [HE2.out, show (k : Int) % 3 = ((k % 3 : Nat) : Int) by omega] at hown3
      have HG3 := Lib.hid (((HLS.out.alloc _).alloc _).box_g hgrow3)
      have HLM := Lib.hid (((HLS.out.alloc _).alloc _).push hgrow3 hown3)
      have q0 := HG3.out.at_ (i := 0) rfl
      have r0 := HG3.out.fr 0
      clear hown3 hgrow3 k0 f0 hcv hw8 HE2
      go_wp2_with fail
      have k1 := HLM.out.g.at_ (i := 1) rfl
      have k2 := HLM.out.h.at_ (i := 1) rfl
      have f2 := HLM.out.h.fr 1
      have s2 : w.heap.size + 1 < w3.heap.size := by have := HLM.out.g.lt; simpa using this
      have s3 : w.heap.size < w3.heap.size := by omega
      clear q0 r0 HG3
      go_region_law
        (refine step_append_lies _ (by rfl) _ _ _ (by rfl) (w.heap.size + 1 + 1) 3 i0 _ 1 8 Tryz.underlying37 hi hz0 hz1 hz2 rfl (by omega) (.slice X1 k d1) k (vn (List.range k)) (by go_simp) (HLM.out.alloc (.cells #[.int .i64 (k : Int)] 3)).drew.x ⟨w3.heap.size, 0, none⟩ 1 1 [.int .i64 (k : Int)] (by go_simp) rfl (World.news_of_block (cs := #[.int .i64 (k : Int)]) (t := 3) (fr := (0, 0)) (Blk.new' (by simp) _ [.int .i64 (k : Int)])) one_cell (by omega) (by unfold maxLen; omega) (by omega) (by simp; omega) _ rfl ?_; intro gg cap w5 hown5 hgrow5 hat5 hlt5; (first | (have HB5 := Lib.hid ((HLM.out.alloc (.cells #[.int .i64 (k : Int)] 3)).box_h hgrow5); have HC5 := Lib.hid ((HLM.out.alloc (.cells #[.int .i64 (k : Int)] 3)).box_g hgrow5); have c5 := HC5.out.at_ (i := 1) rfl; have k5 := HB5.out.at_ (i := 1) rfl; have f5 := HB5.out.fr 1; have HL6 := Lib.hid ((HLM.out.alloc (.cells #[.int .i64 (k : Int)] 3)).push hgrow5 hown5); clear hown5 hgrow5 hat5 hlt5 HB5 HC5) | (have HB5 := Lib.hid ((HLM.out.alloc (.cells #[.int .i64 (k : Int)] 3)).drew.box_h hgrow5); have HC5 := Lib.hid ((HLM.out.alloc (.cells #[.int .i64 (k : Int)] 3)).drew.box_g hgrow5); have c5 := HC5.out.at_ (i := 1) rfl; have k5 := HB5.out.at_ (i := 1) rfl; have f5 := HB5.out.fr 1; have HL6 := Lib.hid ((HLM.out.alloc (.cells #[.int .i64 (k : Int)] 3)).drew.push hgrow5 hown5); clear hown5 hgrow5 hat5 hlt5 HB5 HC5)))
      all_goals
        go_wp2_with fail
        go_roundw
        case rel => exact ⟨k + 1, _, _, by go_num, by omega, HL6.out⟩
        case measure => simp [intOf]; omega
    · obtain rfl : k = K := by omega
      have hal : (atL k).length = k := atL_length k
      clear k0 f0
      have kg0 := HLS.out.g.at_ (i := 0) rfl
      have kg1 := HLS.out.g.at_ (i := 1) rfl
      have kg2 := HLS.out.g.at_ (i := 2) rfl
      have kg3 := HLS.out.g.at_ (i := 3) rfl
      by_cases h12 : 12 < k
      · have HCK := Lib.hid (show Calls Tryz.prog 16 #[.agg #[.slice A1 k c1, .slice (some ⟨w.heap.size, 0, none⟩) 1 1, .slice none 0 0, .int .i64 (-1)]] wr fun e w' => e = .returned (.int .i64 3) ∧ Below wr.heap.size wr w' by
          have := Check_many (slS (atL k) A1 c1 (List.range k) X1 d1 (some ⟨w.heap.size, 0, none⟩)) wr (by show 12 < (atL k).length; omega)
          unfold SchV.cells slS at this
          rw [hal] at this
          exact this)
        clear hal hk14 hk1
        go_wp2_with fail
        refine HCK.out.mono ?_
        rintro e w4 ⟨rfl, hb4⟩
        have HB4 := Lib.hid (HLS.out.bel.trans (hb4.mono HLS.out.bel.size))
        clear hb4 kg0 kg1 kg2 kg3
        go_wp2_with fail
        refine (SSane _ (HE.out.below HB4.out)).mono ?_
        rintro e w9 ⟨rfl, hb9⟩
        have HB9 := Lib.hid (HB4.out.trans (hb9.mono HB4.out.size))
        clear hb9
        go_wp2_with fail
        go_ret
        exact ⟨rfl, HB9.out⟩
      · have HIN := Lib.hid (sl_inm HLS.out)
        have HCK := Lib.hid (show ∀ W, Below wr.heap.size wr W → Calls Tryz.prog 16 #[.agg #[.slice A1 k c1, .slice (some ⟨w.heap.size, 0, none⟩) 1 1, .slice none 0 0, .int .i64 (-1)]] W fun e w' => e = .returned (.int .i64 0) ∧ Below W.heap.size W w' from fun W hW => by
          have := Check_ok (slS (atL k) A1 c1 (List.range k) X1 d1 (some ⟨w.heap.size, 0, none⟩)) W (HIN.out.below hW) (sl_ok hk1 (by omega) hd1)
          unfold SchV.cells slS at this
          rw [hal] at this
          exact this)
        clear hal hk14
        go_wp2_with fail
        refine (HCK.out wr (Below.refl _ _)).mono ?_
        rintro e w4 ⟨rfl, hb4⟩
        have HL4 := Lib.hid (HLS.out.below hb4)
        clear hb4 kg0 kg1 kg2 kg3
        by_cases hk1' : k = 1
        · subst hk1'
          go_wp2_with fail
          refine (SSane _ (HE.out.below HL4.out.bel)).mono ?_
          rintro e w9 ⟨rfl, hb9⟩
          have HB9 := Lib.hid (HL4.out.bel.trans (hb9.mono HL4.out.bel.size))
          clear hb9
          go_wp2_with fail
          go_ret
          exact ⟨rfl, HB9.out⟩
        · have hk1b : ((k : Int) == 1) = false := by rw [beq_eq_false_iff_ne]; omega
          obtain ⟨m, rfl⟩ : ∃ m : Nat, k = m + 1 := ⟨k - 1, by omega⟩
          have kg0 := HL4.out.g.at_ (i := 0) rfl
          have kg1 := HL4.out.g.at_ (i := 1) rfl
          have kg2 := HL4.out.g.at_ (i := 2) rfl
          have kg3 := HL4.out.g.at_ (i := 3) rfl
          have s4 := HL4.out.g.lt
          have s5 : w.heap.size < w4.heap.size := by omega
          go_upto_region 15 with (fail)
          clear hk1b
          go_cut [7, 8] (fun u v wc => ∃ gy gz : Nat, u = .pointer (some ⟨gy, 0, none⟩) ∧ v = .pointer (some ⟨gz, 0, none⟩) ∧ gy ≠ gz ∧ w4.heap.size ≤ gy ∧ w4.heap.size ≤ gz ∧ Blk wc gy 44 [.slice A1 (m + 1) c1, .slice (some ⟨w.heap.size, 0, none⟩) 1 1, .slice none 0 0, .int .i64 (-1)] ∧ Blk wc gz 44 [.slice A1 (m + 1) c1, .slice (some ⟨w.heap.size, 0, none⟩) 1 1, .slice none 0 0, .int .i64 (-1)] ∧ Below w4.heap.size w4 wc)
          case first =>
            go_region
            all_goals go_wp2_with fail
            all_goals go_meet
            all_goals first
              | exact ⟨_, _, rfl, rfl, by omega, by omega, by omega, (Blk.new w4 _ [.slice A1 (m + 1) c1, .slice (some ⟨w.heap.size, 0, none⟩) 1 1, .slice none 0 0, .int .i64 (-1)]).alloc _, Blk.new' (by simp) _ [.slice A1 (m + 1) c1, .slice (some ⟨w.heap.size, 0, none⟩) 1 1, .slice none 0 0, .int .i64 (-1)], ((Below.refl _ _).alloc (Nat.le_refl _) _).alloc (by simp) _⟩
              | exact ⟨_, _, rfl, rfl, by omega, by omega, by omega, Blk.new' (by simp) _ [.slice A1 (m + 1) c1, .slice (some ⟨w.heap.size, 0, none⟩) 1 1, .slice none 0 0, .int .i64 (-1)], (Blk.new w4 _ [.slice A1 (m + 1) c1, .slice (some ⟨w.heap.size, 0, none⟩) 1 1, .slice none 0 0, .int .i64 (-1)]).alloc _, ((Below.refl _ _).alloc (Nat.le_refl _) _).alloc (by simp) _⟩
              | exact ⟨_, _, rfl, rfl, by omega, by omega, by omega, ((Blk.new w4 _ [.slice A1 (m + 1) c1, .slice (some ⟨w.heap.size, 0, none⟩) 1 1, .slice none 0 0, .int .i64 (-1)]).alloc _).drew, (Blk.new' (by simp) _ [.slice A1 (m + 1) c1, .slice (some ⟨w.heap.size, 0, none⟩) 1 1, .slice none 0 0, .int .i64 (-1)]).drew, (((Below.refl _ _).alloc (Nat.le_refl _) _).alloc (by simp) _).drew⟩
              | exact ⟨_, _, rfl, rfl, by omega, by omega, by omega, (Blk.new' (by simp) _ [.slice A1 (m + 1) c1, .slice (some ⟨w.heap.size, 0, none⟩) 1 1, .slice none 0 0, .int .i64 (-1)]).drew, ((Blk.new w4 _ [.slice A1 (m + 1) c1, .slice (some ⟨w.heap.size, 0, none⟩) 1 1, .slice none 0 0, .int .i64 (-1)]).alloc _).drew, (((Below.refl _ _).alloc (Nat.le_refl _) _).alloc (by simp) _).drew⟩
          case rest =>
            obtain ⟨gy, gz, rfl, rfl, hyz, hy4, hz4, hby, hbz, hb5⟩ := hcut
            obtain ⟨w5, rfl⟩ : ∃ w5 : World, w5 = wc := ⟨_, rfl⟩
            have HBY := Lib.hid hby
            have HBZ := Lib.hid hbz
            have HB5 := Lib.hid hb5
            have hl5 := HL4.out.below hb5
            have HL4s := Lib.hid hb5.size
            obtain ⟨ga, hga⟩ := own_addr hl5.a (by omega)
            subst hga
            obtain ⟨gx, hgx⟩ := own_addr hl5.x (by omega)
            subst hgx
            have kg0 := hl5.g.at_ (i := 0) rfl
            have fy0 := hby.fr 0
            have ky0 := hby.at_ (i := 0) rfl
            have sy := hby.lt
            have sz := hbz.lt
            have NEWS := Lib.hid (row_news hl5.a)
            have AVL := Lib.hid (show (av (atL (m + 1))).length = (m + 1) * 2 by rw [av_length, atL_length])
            clear hby hbz hl5 hb5 HCK HIN HLS
            go_wp2_with (at_builtin; refine wpList_append_own _ rfl _ _ 40 rfl w5.heap.size 25 i1 _ 2 24 Tryz.underlying40 hi1 hza0 hza1 hza2 rfl (by decide) _ _ _ rfl (World.ownsRow_nil _ _ _ _) ⟨ga, 0, none⟩ (m + 1) c1 (av (atL (m + 1))) rfl AVL.out NEWS.out av_one (by unfold maxLen; omega) (by omega) (by omega) ?_)
            intro v' w6 hown6 hgrow6 _
            obtain ⟨A9, c9, rfl, hc9⟩ := own_form hown6
            obtain ⟨g9, hg9⟩ := own_addr hown6 (by omega)
            subst hg9
            have hge := (hown6.lt g9 rfl).1
            have hlt9 := (hown6.lt g9 rfl).2
            have hb6 : Below w5.heap.size w5 w6 := below_grown2 hgrow6 (Nat.le_refl _) (fun j hj => by cases hj)
            have s6 := hb6.size
            have HBY7 := Lib.hid ((HBY.out.below hb6).set 0 (.slice (some ⟨g9, 0, none⟩) (m + 1) c9))
            have HBZ7 := Lib.hid ((HBZ.out.below hb6).far (p := ⟨gy, 0, none⟩) (by show gz ≠ gy; omega) (.slice (some ⟨g9, 0, none⟩) (m + 1) c9))
            have HB7 := Lib.hid ((HB5.out.trans (hb6.mono HL4s.out)).trans (below_grown2 (grown_set (w := w6) gy 0 (.slice (some ⟨g9, 0, none⟩) (m + 1) c9)) (Nat.le_trans HL4s.out s6) (fun j hj => by injection hj with hj; omega)))
            have HO7 := Lib.hid (own_set (k := gy) (i := 0) (u := .slice (some ⟨g9, 0, none⟩) (m + 1) c9) hown6 sy)
            have HSZ7 := Lib.hid (show w5.heap.size ≤ (w6.setCell ⟨gy, 0, none⟩ (.slice (some ⟨g9, 0, none⟩) (m + 1) c9)).heap.size by simpa using s6)
            have fy6 := (HBY.out.below hb6).fr 0
            have ky6 := (HBY.out.below hb6).at_ (i := 0) rfl
            have sy6 : gy < w6.heap.size := by omega
            clear hown6 hgrow6 hb6 fy0 ky0 kg0 NEWS AVL hge hlt9
            go_upto_region 17 with (fail)
            generalize w6.setCell ⟨gy, 0, none⟩ (.slice (some ⟨g9, 0, none⟩) (m + 1) c9) = w7 at *
            have ky7 := HBY7.out.at_ (i := 0) rfl
            have c70 : w7.cell? ⟨g9, 0, none⟩ = some (.string (lname 97 0)) := by
              rw [HO7.out.cellAt 0 (by omega)]
              have := (av_get (at1 := atL (m + 1)) (i := 0) (by rw [atL_length]; omega)).1
              rw [atL_get] at this
              exact this
            have c7m : w7.cell? ⟨g9, m * 2, none⟩ = some (.string (lname 97 m)) := by
              rw [HO7.out.cellAt (m * 2) (by omega)]
              have := (av_get (at1 := atL (m + 1)) (i := m) (by rw [atL_length]; omega)).1
              rw [atL_get] at this
              exact this
            have f7m := HO7.out.frozenAt (m * 2)
            have hgl := HO7.out.lt g9 rfl
            have HO8 : Hid ((w7.setCell ⟨g9, m * 2, none⟩ (.string (lname 97 0))).ownsRow w5.heap.size 25 2 (.slice (some ⟨g9, 0, none⟩) (m + 1) c9) (m + 1) (av (atT (m + 1)))) := Lib.hid (by
              have h1 := (HO7.out.stored (m * 2) (.string (lname 97 0))).1
              rw [av_set (at1 := atL (m + 1)) (i := m) (by rw [atL_length]; omega)] at h1
              unfold atT
              rw [atL_get] at h1
              exact h1)
            have HBY8 := Lib.hid (HBY7.out.far (p := ⟨g9, m * 2, none⟩) (by show gy ≠ g9; omega) (.string (lname 97 0)))
            have HBZ8 := Lib.hid (HBZ7.out.far (p := ⟨g9, m * 2, none⟩) (by show gz ≠ g9; omega) (.string (lname 97 0)))
            have HB8 := Lib.hid (HB7.out.trans (below_grown2 (grown_set (w := w7) g9 (m * 2) (.string (lname 97 0))) (Nat.le_trans HL4s.out HSZ7.out) (fun j hj => by injection hj with hj; have := HL4s.out; omega)))
            have HSZ8 := Lib.hid (show w5.heap.size ≤ (w7.setCell ⟨g9, m * 2, none⟩ (.string (lname 97 0))).heap.size by simpa using HSZ7.out)
            generalize lname 97 0 = nm0 at *
            clear HBY7 HBZ7 HB7 HO7 HSZ7
            have HO8d := Lib.hid (own_below' HO8.out (Below.refl _ _).drew)
            have HBY8d := Lib.hid HBY8.out.drew
            have HBZ8d := Lib.hid HBZ8.out.drew
            have HB8d := Lib.hid (HB8.out.trans ((Below.refl w4.heap.size _).drew))
            have HSZ8d := Lib.hid (show w5.heap.size ≤ (w7.setCell ⟨g9, m * 2, none⟩ (.string nm0)).drew.heap.size from HSZ8.out)
            clear HO8 HBY8 HBZ8 HB8 HSZ8
            go_region
            generalize (w7.setCell ⟨g9, m * 2, none⟩ (.string nm0)).drew = w8 at *
            have HL8 := Lib.hid (HL4.out.below HB8d.out)
            have kx1 := HL8.out.g.at_ (i := 1) rfl
            have kh1 := HL8.out.h.at_ (i := 1) rfl
            have kz1 := HBZ8d.out.at_ (i := 1) rfl
            have fz1 := HBZ8d.out.fr 1
            have s8 := HBZ8d.out.lt
            have s8g := HL8.out.g.lt
            have s8h : w.heap.size < w8.heap.size := by omega
            have x1 : (m : Int) ≤ (d1 : Int) := by omega
            clear ky7 c70 c7m f7m
            go_upto_region 19 with (fail)
            have HR9 := Lib.hid (Blk.new' (w := w8.setCell ⟨gz, 1, none⟩ (.slice (some ⟨w8.heap.size, 0, none⟩) 1 1)) (g := w8.heap.size) (by simp) 48 [.string ⟨#[114]⟩, .slice (some ⟨gx, 0, none⟩) m d1])
            have HBY9 := Lib.hid ((HBY8d.out.far (p := ⟨gz, 1, none⟩) (by show gy ≠ gz; omega) (.slice (some ⟨w8.heap.size, 0, none⟩) 1 1)).alloc (.cells #[.string ⟨#[114]⟩, .slice (some ⟨gx, 0, none⟩) m d1] 48))
            have HBZ9 := Lib.hid ((HBZ8d.out.set 1 (.slice (some ⟨w8.heap.size, 0, none⟩) 1 1)).alloc (.cells #[.string ⟨#[114]⟩, .slice (some ⟨gx, 0, none⟩) m d1] 48))
            have HO9 := Lib.hid (own_below' (own_set (k := gz) (i := 1) (u := .slice (some ⟨w8.heap.size, 0, none⟩) 1 1) HO8d.out sz) ((Below.refl _ _).alloc (Nat.le_refl _) (.cells #[.string ⟨#[114]⟩, .slice (some ⟨gx, 0, none⟩) m d1] 48)))
            have HB9 := Lib.hid ((HB8d.out.trans (below_grown2 (grown_set (w := w8) gz 1 (.slice (some ⟨w8.heap.size, 0, none⟩) 1 1)) (by have := HL4s.out; have := HSZ8d.out; omega) (fun j hj => by injection hj with hj; omega))).alloc (by have := HL4s.out; have := HSZ8d.out; simp; omega) (.cells #[.string ⟨#[114]⟩, .slice (some ⟨gx, 0, none⟩) m d1] 48))
            have hm1 : 1 ≤ m := by omega
            have hm2 : m ≤ 11 := by omega
            generalize (w8.setCell ⟨gz, 1, none⟩ (.slice (some ⟨w8.heap.size, 0, none⟩) 1 1)).alloc (.cells #[.string ⟨#[114]⟩, .slice (some ⟨gx, 0, none⟩) m d1] 48) = w9 at *
            have HCY := Lib.hid (Check_y hm1 hm2 hd1 w9 (sl_y (HL4.out.below HB9.out) HO9.out))
            have HIZ := Lib.hid (sl_z (HL4.out.below HB9.out) HR9.out)
            have ky0 := HBY9.out.at_ (i := 0) rfl
            have ky1 := HBY9.out.at_ (i := 1) rfl
            have ky2 := HBY9.out.at_ (i := 2) rfl
            have ky3 := HBY9.out.at_ (i := 3) rfl
            clear kx1 kh1 kz1 fz1 HO8d HBY8d HBZ8d HB8d HL8 HSZ8d x1
            go_wp2_with fail
            refine HCY.out.mono ?_
            rintro e w10 ⟨rfl, hb10⟩
            have HIZ10 := Lib.hid (HIZ.out.below hb10)
            have HBZ10 := Lib.hid (HBZ9.out.below hb10)
            have HB10 := Lib.hid (HB9.out.trans (hb10.mono HB9.out.size))
            clear hb10 ky0 ky1 ky2 ky3
            have HCZ := Lib.hid (Check_z hm1 hm2 hd1 w10 HIZ10.out)
            have kz0 := HBZ10.out.at_ (i := 0) rfl
            have kz1 := HBZ10.out.at_ (i := 1) rfl
            have kz2 := HBZ10.out.at_ (i := 2) rfl
            have kz3 := HBZ10.out.at_ (i := 3) rfl
            go_wp2_with fail
            refine HCZ.out.mono ?_
            rintro e w11 ⟨rfl, hb11⟩
            have HB11 := Lib.hid ((HL4.out.below (HB10.out.trans (hb11.mono HB10.out.size))).bel)
            clear hb11 kz0 kz1 kz2 kz3
            go_wp2_with fail
            refine (SSane _ (HE.out.below HB11.out)).mono ?_
            rintro e w12 ⟨rfl, hb12⟩
            have HB12 := Lib.hid (HB11.out.trans (hb12.mono HB11.out.size))
            clear hb12
            go_wp2_with fail
            go_ret
            exact ⟨rfl, HB12.out⟩

theorem SchemaLimits_int (n : Int) (w : World) (h0 : 0 ≤ n) (h1 : n ≤ 255) (henv : Env w) : Calls Tryz.prog 6 #[.int .u8 n] w fun e w' => e = .returned (.bool true) ∧ Below w.heap.size w w' := by
  obtain ⟨m, rfl⟩ : ∃ m : Nat, n = m := ⟨n.toNat, by omega⟩
  exact SchemaLimits_any m w (by omega) henv

end Go.Proofs.YtnjccldjlpkgkaaGreatDoor
