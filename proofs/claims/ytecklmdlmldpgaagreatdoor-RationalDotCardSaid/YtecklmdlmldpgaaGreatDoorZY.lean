/-
  Package joinlearnref02: light, Sum, Dot.
-/
import Derived.Test.YtecklmdlmldpgaaGreatDoorZX
namespace Go.Proofs.YtecklmdlmldpgaaGreatDoor
open Go.RowKit

theorem IsRF.set4 {W : World} {v : Value} {q : Rat} {g : Nat} {t : TypeId} {na nb : Bool} {A A' : Option Addr} {l c l' c' : Nat} (h : IsRF W v q) (k : Blk W g t [.bool na, .slice A l c, .bool nb, .slice A' l' c']) (y0 y1 y2 y3 : Value) : IsRF ((((W.setCell ⟨g, 0, none⟩ y0).setCell ⟨g, 1, none⟩ y1).setCell ⟨g, 2, none⟩ y2).setCell ⟨g, 3, none⟩ y3) v q := h.box k no_i4 (grown_set' (grown_set' (grown_set' (grown_set g 0 _) 1 _) 2 _) 3 _)
set_option maxRecDepth 100000 in
set_option maxHeartbeats 8000000 in
theorem light_any (g : Nat) (L : List LT) (w : World) (hL : LTs w g L) (hn : L.length ≤ 10) (hl : ∀ x ∈ L, x.2.2.length ≤ 1000000) (hz : ∀ x ∈ L, ∀ s ∈ x.2.2, s.size ≤ 4000000000) :
    Calls Tryz.prog 133 #[.slice (some ⟨g, 0, none⟩) L.length L.length] w fun e w' => e = .returned (.int .i64 (lightV L)) ∧ Below w.heap.size w w' := by
  have HL := Lib.hid hL
  have HLN := Lib.hid hl
  have HZ := Lib.hid hz
  clear hL hl hz
  go_enter Tryz.func133, Tryz.ntmps133
  go_wp2_with fail
  go_loopw [3, 4, 11] (fun dv nv iv wr => ∃ k : Nat, iv = .int .i64 (k : Int) ∧ k ≤ L.length ∧ dv = .int .i64 ((ltD (L.take k) : Nat) : Int) ∧ nv = .int .i64 ((ltN (L.take k) : Nat) : Int) ∧ ltN (L.take k) ≤ 1000000 ∧ ltV (L.take k) = true ∧ Below w.heap.size w wr) (fun _ _ iv _ => L.length - (intOf iv).toNat)
  case atStart => exact ⟨0, rfl, Nat.zero_le _, rfl, rfl, Nat.zero_le _, rfl, Below.refl _ _⟩
  case round =>
    obtain ⟨k, rfl, hk, rfl, rfl, hnm, hval, hb⟩ := hrel
    have HB := Lib.hid hb
    have HVAL := Lib.hid hval
    have hdle := ltD_le (L.take k)
    clear hb hval
    by_cases hlt : k < L.length
    · have hci := (HL.out.below HB.out).2.1 k hlt
      have HSK := Lib.hid ((HL.out).2.2 L[k] (List.getElem_mem hlt))
      have hlk := HLN.out L[k] (List.getElem_mem hlt)
      have HZK := Lib.hid (HZ.out L[k] (List.getElem_mem hlt))
      have ED := Lib.hid (ltD_take hlt)
      have EN := Lib.hid (ltN_take hlt)
      have EV := Lib.hid (fun h => ltV_take hlt HVAL.out h)
      have EX := Lib.hid (fun h => ltV_not hlt h)
      obtain ⟨⟨A, c, ss⟩, hx⟩ : ∃ x : LT, L[k] = x := ⟨_, rfl⟩
      rw [hx] at hci HSK hlk HZK ED EN EV EX
      simp only at hci HSK hlk HZK ED EN EV EX
      clear hx
      generalize ltD (L.take k) = dk at *
      generalize ltN (L.take k) = nk at *
      go_wp2_with fail
      clear hci
      go_loopw [3, 21] (fun dv iv wr => ∃ j : Nat, iv = .int .i64 (j : Int) ∧ j ≤ ss.length ∧ dv = .int .i64 ((max dk (nmax ((ss.take j).map digS)) : Nat) : Int) ∧ (ss.take j).all vR = true ∧ Below w.heap.size w wr) (fun _ iv _ => ss.length - (intOf iv).toNat)
      case atStart => exact ⟨0, rfl, Nat.zero_le _, by show Value.int .i64 (dk : Int) = .int .i64 ((max dk 0 : Nat) : Int); rw [Nat.max_eq_left (Nat.zero_le _)], rfl, HB.out⟩
      case round =>
        clear HB
        obtain ⟨j, rfl, hj, rfl, hall, hb⟩ := hrel
        have HB := Lib.hid hb
        have HALL := Lib.hid hall
        have hdj := digs_le (ss.take j)
        clear hb hall
        by_cases hltj : j < ss.length
        · obtain ⟨b, off, rfl, hbb, hc⟩ := HSK.out (by intro e; subst e; simp at hltj)
          have hci := (HB.out.cell (p := ⟨b, off + j, none⟩) hbb).trans (hc j hltj)
          have hzi := HZK.out ss[j] (List.getElem_mem hltj)
          have HNX := Lib.hid (fun h => all_take hltj HALL.out h)
          have HNO := Lib.hid (fun h => all_not (ss := ss) hltj h)
          have EDJ := Lib.hid (digs_take hltj)
          obtain ⟨s, hse⟩ : ∃ s, ss[j] = s := ⟨_, rfl⟩
          rw [hse] at hci hzi HNX HNO EDJ
          clear hc hse
          have HV := Lib.hid (fun W => RFValid s W hzi)
          have HD := Lib.hid (fun W => RFDigitsS s W hzi)
          have hds := digS_le s
          generalize nmax ((ss.take j).map digS) = dj at *
          generalize digS s = ds at *
          cases hv : vR s
          · rw [hv] at HV
            have E := Lib.hid (show lightV L = 1 by unfold lightV; rw [if_pos (EX.out (HNO.out hv))])
            clear hv HNX HNO
            go_wp2_with fail
            refine (HV.out wr).mono ?_
            rintro e w51 ⟨rfl, hb⟩
            replace HB := Lib.hid (HB.out.trans (hb.mono HB.out.size))
            clear hb
            go_wp2_with fail
            go_ret
            exact ⟨by rw [E.out]; rfl, HB.out⟩
          · rw [hv] at HV
            have E := Lib.hid (HNX.out hv)
            clear hv HNX HNO
            go_wp2_with fail
            refine (HV.out wr).mono ?_
            rintro e w51 ⟨rfl, hb⟩
            replace HB := Lib.hid (HB.out.trans (hb.mono HB.out.size))
            clear hb
            go_wp2_with fail
            refine (HD.out w51).mono ?_
            rintro e w52 ⟨rfl, hb⟩
            replace HB := Lib.hid (HB.out.trans (hb.mono HB.out.size))
            clear hb
            go_wp2_with fail
            go_roundw
            case rel => exact ⟨j + 1, by go_num, by omega, congrArg (Value.int .i64) (by rw [EDJ.out]; omega), E.out, HB.out⟩
            case measure => simp [intOf]; omega
        · have HA : Hid (ss.all vR = true) := by have := HALL.out; rwa [List.take_of_length_le (by omega)] at this
          rw [List.take_of_length_le (show ss.length ≤ j by omega)]
          go_wp2_with fail
          go_roundw
          case rel => exact ⟨k + 1, by go_num, by omega, by rw [ED.out], congrArg (Value.int .i64) (by rw [EN.out]; omega), by rw [EN.out]; omega, EV.out HA.out, HB.out⟩
          case measure => simp [intOf]; omega
    · obtain rfl : k = L.length := by omega
      rw [List.take_length] at *
      have E0 : Hid (lightV L = if 6000 < ltN L * ltD L then 3 else 0) := Lib.hid (by unfold lightV; rw [if_neg (by rw [HVAL.out]; simp)])
      have hprod : ((ltN L : Nat) : Int) * ((ltD L : Nat) : Int) = ((ltN L * ltD L : Nat) : Int) := by rw [Int.natCast_mul]
      have hmul : ltN L * ltD L ≤ 1000000 * 400 := Nat.mul_le_mul hnm hdle
      have hw : IntKind.i64.wrap (((ltN L : Nat) : Int) * ((ltD L : Nat) : Int)) = ((ltN L * ltD L : Nat) : Int) := by rw [hprod]; exact IntWalk.i64_in _ (by omega)
      by_cases hbig : 6000 < ltN L * ltD L
      · have E := Lib.hid (E0.out.trans (if_pos hbig))
        clear E0
        generalize ltN L * ltD L = LM at *
        go_wp2_with fail
        go_ret
        exact ⟨by rw [E.out]; rfl, HB.out⟩
      · have E := Lib.hid (E0.out.trans (if_neg hbig))
        clear E0
        generalize ltN L * ltD L = LM at *
        go_wp2_with fail
        go_ret
        exact ⟨by rw [E.out]; rfl, HB.out⟩

attribute [local go_sem ↓] Go.wp_at_zero Go.wp_at_succ
set_option maxRecDepth 100000 in
set_option maxHeartbeats 8000000 in
theorem RFSum_any (A : Option Addr) (ss : List ByteArray) (c : Nat) (w : World) (hs : Strs w A ss) (hl : ss.length ≤ 1000000) (hz : ∀ s ∈ ss, s.size ≤ 4000000000) :
    Calls Tryz.prog 68 #[.slice A ss.length c] w fun e w' => e = .returned (sumV ss) ∧ Below w.heap.size w w' := by
  have HS := Lib.hid hs
  have HZ := Lib.hid hz
  have HLT := Lib.hid (fun W g (hk : Blk W g 71 [.slice A ss.length c]) (hW : Below w.heap.size w W) => light_any g [(A, c, ss)] W ⟨hk.lt, fun i hi => by rw [hk.cell]; match i, hi with | 0, _ => rfl, fun x hx => by simp at hx; subst hx; exact hs.below hW⟩ (by simp) (fun x hx => by simp at hx; subst hx; exact hl) (fun x hx => by simp at hx; subst hx; exact hz))
  clear hs hz
  have HLV := Lib.hid (light_one A c ss)
  by_cases h2 : ss.all vR = false
  · have E := Lib.hid (show sumV ss = .tuple #[.string ⟨#[]⟩, .int .i64 1] by unfold sumV; rw [if_pos h2])
    rw [HLV.out, if_pos h2] at HLT
    clear h2
    go_enter Tryz.func68, Tryz.ntmps68
    go_wp2_with fail
    have hHP := (Blk.new w 71 [.slice A ss.length c])
    have hB0 : Below w.heap.size w (w.alloc (.cells #[.slice A ss.length c] 71)) := (Below.refl _ _).alloc (Nat.le_refl _) _
    generalize w.alloc (.cells #[.slice A ss.length c] 71) = W at *
    have HP := Lib.hid hHP
    have HB := Lib.hid hB0
    clear hB0 hHP
    refine (HLT.out W _ HP.out HB.out).mono ?_
    rintro e w1 ⟨rfl, hb⟩
    replace HB := Lib.hid (HB.out.trans (hb.mono HB.out.size))
    clear hb
    clear HP HLT
    go_wp2_with fail
    go_ret2
    exact ⟨by rw [E.out]; rfl, HB.out⟩
  · by_cases h3 : 6000 < ss.length * nmax (ss.map digS)
    · have E := Lib.hid (show sumV ss = .tuple #[.string ⟨#[]⟩, .int .i64 3] by unfold sumV; rw [if_neg h2, if_pos h3])
      rw [HLV.out, if_neg h2, if_pos h3] at HLT
      clear h2 h3
      go_enter Tryz.func68, Tryz.ntmps68
      go_wp2_with fail
      have hHP := (Blk.new w 71 [.slice A ss.length c])
      have hB0 : Below w.heap.size w (w.alloc (.cells #[.slice A ss.length c] 71)) := (Below.refl _ _).alloc (Nat.le_refl _) _
      generalize w.alloc (.cells #[.slice A ss.length c] 71) = W at *
      have HP := Lib.hid hHP
      have HB := Lib.hid hB0
      clear hB0 hHP
      refine (HLT.out W _ HP.out HB.out).mono ?_
      rintro e w1 ⟨rfl, hb⟩
      replace HB := Lib.hid (HB.out.trans (hb.mono HB.out.size))
      clear hb
      clear HP HLT
      go_wp2_with fail
      go_ret2
      exact ⟨by rw [E.out]; rfl, HB.out⟩
    · have E := Lib.hid (show sumV ss = .tuple #[.string (outR (sumS ss)), .int .i64 (outRE (sumS ss))] by unfold sumV; rw [if_neg h2, if_neg h3])
      rw [HLV.out, if_neg h2, if_neg h3] at HLT
      have hv1 : ss.all vR = true := by cases h : ss.all vR <;> simp_all
      have HA1 := Lib.hid (List.all_eq_true.1 hv1)
      have hl6 : ss.length ≤ 6000 := by
        rcases Nat.eq_zero_or_pos ss.length with h | h
        · omega
        · have h5 : digS ss[0] ≤ nmax (ss.map digS) := nmax_ge (List.mem_map.2 ⟨ss[0], List.getElem_mem h, rfl⟩)
          have h6 := digS_pos (List.all_eq_true.1 hv1 ss[0] (List.getElem_mem h))
          have h4 := Nat.mul_le_mul (Nat.le_refl ss.length) (Nat.le_trans h6 h5)
          omega
      clear hv1 h2 h3
      go_enter Tryz.func68, Tryz.ntmps68
      go_wp2_with fail
      have hHP := (Blk.new w 71 [.slice A ss.length c])
      have hB0 : Below w.heap.size w (w.alloc (.cells #[.slice A ss.length c] 71)) := (Below.refl _ _).alloc (Nat.le_refl _) _
      generalize w.alloc (.cells #[.slice A ss.length c] 71) = W at *
      have HP := Lib.hid hHP
      have HB := Lib.hid hB0
      clear hB0 hHP
      refine (HLT.out W _ HP.out HB.out).mono ?_
      rintro e w1 ⟨rfl, hb⟩
      replace HB := Lib.hid (HB.out.trans (hb.mono HB.out.size))
      clear hb
      clear HP HLT
      go_wp2_with fail
      refine (RFOf_any 0 w1 (by decide) (by decide)).mono ?_
      rintro e w2 ⟨v2, rfl, hv, hb⟩
      have HF := Lib.hid hv
      obtain ⟨x2, x2', X2, X2', y2, z2, y2', z2', rfl⟩ := hv.slice
      replace HB := Lib.hid (HB.out.trans (hb.mono HB.out.size))
      clear hb hv
      have hsz := HB.out.size
      go_upto_region 5 with (fail)
      have hHK := (Blk.new w2 91 [.bool x2, .slice X2 y2 z2, .bool x2', .slice X2' y2' z2'])
      have hb : Below w2.heap.size w2 (w2.alloc (.cells #[.bool x2, .slice X2 y2 z2, .bool x2', .slice X2' y2' z2'] 91)) := (Below.refl _ _).alloc (Nat.le_refl _) _
      generalize w2.alloc (.cells #[.bool x2, .slice X2 y2 z2, .bool x2', .slice X2' y2' z2'] 91) = W2 at *
      have HK := Lib.hid hHK
      replace HF := Lib.hid (HF.out.below hb)
      replace HB := Lib.hid (HB.out.trans (hb.mono HB.out.size))
      clear hb hHK
      obtain ⟨gs, hgs⟩ : ∃ gs, w2.heap.size = gs := ⟨_, rfl⟩
      have hgw : w.heap.size ≤ gs := by rw [← hgs]; exact hsz
      rw [hgs] at HK ⊢
      clear hgs
      go_wp2_with fail
      go_loopw [17] (fun iv wr => ∃ (k : Nat) (na nb : Bool) (B B' : Option Addr) (l c1 l' c1' : Nat), iv = .int .i64 (k : Int) ∧ k ≤ ss.length ∧ Blk wr gs 91 [.bool na, .slice B l c1, .bool nb, .slice B' l' c1'] ∧ IsRF wr (.agg #[.bool na, .slice B l c1, .bool nb, .slice B' l' c1']) (sumS (ss.take k)) ∧ Below w.heap.size w wr) (fun iv _ => ss.length - (intOf iv).toNat)
      case atStart => exact ⟨0, _, _, _, _, _, _, _, _, rfl, Nat.zero_le _, HK.out, HF.out, HB.out⟩
      case round =>
        generalize Value.agg #[.bool x2, .slice X2 y2 z2, .bool x2', .slice X2' y2' z2'] = t48
        clear HK HF HB
        obtain ⟨k, na, nb, B, B', l, c1, l', c1', rfl, hk, hkb, hfr, hb⟩ := hrel
        have HK := Lib.hid hkb
        have HF := Lib.hid hfr
        have HB := Lib.hid hb
        clear hkb hfr hb
        by_cases hlt : k < ss.length
        · obtain ⟨b, off, rfl, hbb, hc⟩ := HS.out (by intro e; subst e; simp at hlt)
          have hci := (HB.out.cell (p := ⟨b, off + k, none⟩) hbb).trans (hc k hlt)
          have v1 := HA1.out ss[k] (List.getElem_mem hlt)
          have ED := Lib.hid (sum_take hlt)
          have sd := (sum_sz ss k (by omega)).mono (show 46 * k + 1 ≤ 1000000 by omega)
          have s1 := valS_sz ss[k]
          have R1 := Lib.hid (fun W => RFReadS ss[k] W v1)
          obtain ⟨s, hse⟩ : ∃ s, ss[k] = s := ⟨_, rfl⟩
          rw [hse] at hci s1 R1 ED
          generalize valS s = qa at *
          generalize sumS (ss.take k) = qs at *
          clear hc hse v1
          have k0 := HK.out.at_ (i := 0) rfl
          have k1 := HK.out.at_ (i := 1) rfl
          have k2 := HK.out.at_ (i := 2) rfl
          have k3 := HK.out.at_ (i := 3) rfl
          have fk0 := HK.out.fr 0
          have fk1 := HK.out.fr 1
          have fk2 := HK.out.fr 2
          have fk3 := HK.out.fr 3
          go_wp2_with fail
          go_region_with (first | (go_at_call 127; (with_reducible refine (RFAdd_any _ _ qs qa _ HF21.out HV21.out sd (s1.mono (by omega))).mono ?_); rintro e w24 ⟨v24, rfl, hv, hb⟩; have HB24 := Lib.hid (HB21.out.trans (hb.mono HB21.out.size)); have HL24 := Lib.hid (HL21.out.trans (hb.mono HL21.out.size)); have HK24 := Lib.hid (HK21.out.below hb); have HV24 := Lib.hid hv; obtain ⟨x24, x24', X24, X24', y24, z24, y24', z24', rfl⟩ := hv.slice; have kk240 := HK24.out.at_ (i := 0) rfl; have kk241 := HK24.out.at_ (i := 1) rfl; have kk242 := HK24.out.at_ (i := 2) rfl; have kk243 := HK24.out.at_ (i := 3) rfl; have fk240 := HK24.out.fr 0; have fk241 := HK24.out.fr 1; have fk242 := HK24.out.fr 2; have fk243 := HK24.out.fr 3; clear hv hb) | (go_at_call 123; (with_reducible refine (R1.out _).mono ?_); rintro e w21 ⟨v21, rfl, hv, hb⟩; have HB21 := Lib.hid (HB.out.drew.trans (hb.mono HB.out.size)); have HL21 := Lib.hid (show Below wr.heap.size wr w21 from ((Below.refl wr.heap.size wr).drew).trans hb); have HK21 := Lib.hid (HK.out.drew.below hb); have HF21 := Lib.hid (HF.out.drew.below hb); have HV21 := Lib.hid hv; obtain ⟨x21, x21', X21, X21', y21, z21, y21', z21', rfl⟩ := hv.slice; have kk210 := HK21.out.at_ (i := 0) rfl; have kk211 := HK21.out.at_ (i := 1) rfl; have kk212 := HK21.out.at_ (i := 2) rfl; have kk213 := HK21.out.at_ (i := 3) rfl; clear hv hb))
          all_goals
            go_wp2_with fail
            go_roundw
            case rel => exact ⟨k + 1, _, _, _, _, _, _, _, _, by go_num, by omega, HK24.out.set4 _ _ _ _, by rw [ED.out]; exact HV24.out.set4 HK24.out _ _ _ _, bel_set4 HB24.out hgw _ _ _ _⟩
            case measure => simp [intOf]; omega
        · obtain rfl : k = ss.length := by omega
          rw [List.take_length] at HF
          have sd := sum_sz ss ss.length (Nat.le_refl _)
          rw [List.take_length] at sd
          have sd2 := sd.mono (show 46 * ss.length + 1 ≤ 1000000 by omega)
          generalize sumS ss = qs at *
          have k0 := HK.out.at_ (i := 0) rfl
          have k1 := HK.out.at_ (i := 1) rfl
          have k2 := HK.out.at_ (i := 2) rfl
          have k3 := HK.out.at_ (i := 3) rfl
          go_wp2_with fail
          clear k0 k1 k2 k3
          refine (RFGive_any _ qs wr HF.out sd2).mono ?_
          rintro e w31 ⟨rfl, hb⟩
          replace HK := Lib.hid (HK.out.below hb)
          replace HF := Lib.hid (HF.out.below hb)
          replace HB := Lib.hid (HB.out.trans (hb.mono HB.out.size))
          clear hb
          go_wp2_with fail
          go_ret2
          exact ⟨by rw [E.out]; rfl, HB.out⟩

set_option maxRecDepth 100000 in
set_option maxHeartbeats 8000000 in
theorem RFDot_any (A A' : Option Addr) (ss ts : List ByteArray) (c c' : Nat) (w : World) (hs : Strs w A ss) (ht : Strs w A' ts) (hl : ss.length ≤ 1000000) (hl' : ts.length ≤ 1000000) (hz : ∀ s ∈ ss, s.size ≤ 4000000000) (hz' : ∀ s ∈ ts, s.size ≤ 4000000000) :
    Calls Tryz.prog 70 #[.slice A ss.length c, .slice A' ts.length c'] w fun e w' => e = .returned (dotV ss ts) ∧ Below w.heap.size w w' := by
  have HS := Lib.hid hs
  have HZ := Lib.hid hz
  have HT := Lib.hid ht
  have HZ' := Lib.hid hz'
  have HLT := Lib.hid (fun W g (hk : Blk W g 71 [.slice A ss.length c, .slice A' ts.length c']) (hW : Below w.heap.size w W) => light_any g [(A, c, ss), (A', c', ts)] W ⟨hk.lt, fun i hi => by rw [hk.cell]; match i, hi with | 0, _ => rfl | 1, _ => rfl, fun x hx => by simp at hx; rcases hx with rfl | rfl; exact hs.below hW; exact ht.below hW⟩ (by simp) (fun x hx => by simp at hx; rcases hx with rfl | rfl <;> assumption) (fun x hx => by simp at hx; rcases hx with rfl | rfl; exact hz; exact hz'))
  clear hs hz ht hz'
  by_cases h1 : ss.length = ts.length
  · have hq : ((ss.length : Int) != (ts.length : Int)) = false := by simp [h1]
    have HLE := Lib.hid h1
    have HLV := Lib.hid (light_two A A' c c' ss ts h1)
    by_cases h2 : ¬ (ss.all vR = true ∧ ts.all vR = true)
    · have E := Lib.hid (show dotV ss ts = .tuple #[.string ⟨#[]⟩, .int .i64 1] by unfold dotV; rw [if_neg (by simpa using h1), if_pos h2])
      rw [HLV.out, if_pos h2] at HLT
      clear h2 h1
      go_enter Tryz.func70, Tryz.ntmps70
      go_wp2_with fail
      have hHP := (Blk.new w 71 [.slice A ss.length c, .slice A' ts.length c'])
      have hB0 : Below w.heap.size w (w.alloc (.cells #[.slice A ss.length c, .slice A' ts.length c'] 71)) := (Below.refl _ _).alloc (Nat.le_refl _) _
      generalize w.alloc (.cells #[.slice A ss.length c, .slice A' ts.length c'] 71) = W at *
      have HP := Lib.hid hHP
      have HB := Lib.hid hB0
      clear hB0 hHP
      refine (HLT.out W _ HP.out HB.out).mono ?_
      rintro e w1 ⟨rfl, hb⟩
      replace HB := Lib.hid (HB.out.trans (hb.mono HB.out.size))
      clear hb
      clear HP HLT
      go_wp2_with fail
      go_ret2
      exact ⟨by rw [E.out]; rfl, HB.out⟩
    · by_cases h3 : 6000 < ss.length * mostS ss ts
      · have E := Lib.hid (show dotV ss ts = .tuple #[.string ⟨#[]⟩, .int .i64 3] by unfold dotV; rw [if_neg (by simpa using h1), if_neg h2, if_pos h3])
        rw [HLV.out, if_neg h2, if_pos h3] at HLT
        clear h2 h3 h1
        go_enter Tryz.func70, Tryz.ntmps70
        go_wp2_with fail
        have hHP := (Blk.new w 71 [.slice A ss.length c, .slice A' ts.length c'])
        have hB0 : Below w.heap.size w (w.alloc (.cells #[.slice A ss.length c, .slice A' ts.length c'] 71)) := (Below.refl _ _).alloc (Nat.le_refl _) _
        generalize w.alloc (.cells #[.slice A ss.length c, .slice A' ts.length c'] 71) = W at *
        have HP := Lib.hid hHP
        have HB := Lib.hid hB0
        clear hB0 hHP
        refine (HLT.out W _ HP.out HB.out).mono ?_
        rintro e w1 ⟨rfl, hb⟩
        replace HB := Lib.hid (HB.out.trans (hb.mono HB.out.size))
        clear hb
        clear HP HLT
        go_wp2_with fail
        go_ret2
        exact ⟨by rw [E.out]; rfl, HB.out⟩
      · have E := Lib.hid (show dotV ss ts = .tuple #[.string (outR (dotS ss ts)), .int .i64 (outRE (dotS ss ts))] by unfold dotV; rw [if_neg (by simpa using h1), if_neg h2, if_neg h3])
        rw [HLV.out, if_neg h2, if_neg h3] at HLT
        have hv : ss.all vR = true ∧ ts.all vR = true := by
          by_cases h : ss.all vR = true ∧ ts.all vR = true
          · exact h
          · exact absurd h h2
        have hv1 := hv.1
        have hv2 := hv.2
        have HA1 := Lib.hid (List.all_eq_true.1 hv1)
        have HA2 := Lib.hid (List.all_eq_true.1 hv2)
        have hl6 : ss.length ≤ 6000 := by
          rcases Nat.eq_zero_or_pos ss.length with h | h
          · omega
          · have h4 := Nat.mul_le_mul (Nat.le_refl ss.length) (most_pos (ss := ss) (ts := ts) h h1 hv1)
            omega
        clear hv hv1 hv2 h1 h2 h3
        go_enter Tryz.func70, Tryz.ntmps70
        go_wp2_with fail
        have hHP := (Blk.new w 71 [.slice A ss.length c, .slice A' ts.length c'])
        have hB0 : Below w.heap.size w (w.alloc (.cells #[.slice A ss.length c, .slice A' ts.length c'] 71)) := (Below.refl _ _).alloc (Nat.le_refl _) _
        generalize w.alloc (.cells #[.slice A ss.length c, .slice A' ts.length c'] 71) = W at *
        have HP := Lib.hid hHP
        have HB := Lib.hid hB0
        clear hB0 hHP
        refine (HLT.out W _ HP.out HB.out).mono ?_
        rintro e w1 ⟨rfl, hb⟩
        replace HB := Lib.hid (HB.out.trans (hb.mono HB.out.size))
        clear hb
        clear HP HLT
        go_wp2_with fail
        refine (RFOf_any 0 w1 (by decide) (by decide)).mono ?_
        rintro e w2 ⟨v2, rfl, hv, hb⟩
        have HF := Lib.hid hv
        obtain ⟨x2, x2', X2, X2', y2, z2, y2', z2', rfl⟩ := hv.slice
        replace HB := Lib.hid (HB.out.trans (hb.mono HB.out.size))
        clear hb hv
        have hsz := HB.out.size
        go_upto_region 7 with (fail)
        have hHK := (Blk.new w2 91 [.bool x2, .slice X2 y2 z2, .bool x2', .slice X2' y2' z2'])
        have hb : Below w2.heap.size w2 (w2.alloc (.cells #[.bool x2, .slice X2 y2 z2, .bool x2', .slice X2' y2' z2'] 91)) := (Below.refl _ _).alloc (Nat.le_refl _) _
        generalize w2.alloc (.cells #[.bool x2, .slice X2 y2 z2, .bool x2', .slice X2' y2' z2'] 91) = W2 at *
        have HK := Lib.hid hHK
        replace HF := Lib.hid (HF.out.below hb)
        replace HB := Lib.hid (HB.out.trans (hb.mono HB.out.size))
        clear hb hHK
        obtain ⟨gs, hgs⟩ : ∃ gs, w2.heap.size = gs := ⟨_, rfl⟩
        have hgw : w.heap.size ≤ gs := by rw [← hgs]; exact hsz
        rw [hgs] at HK ⊢
        clear hgs
        go_wp2_with fail
        go_loopw [24] (fun iv wr => ∃ (k : Nat) (na nb : Bool) (B B' : Option Addr) (l c1 l' c1' : Nat), iv = .int .i64 (k : Int) ∧ k ≤ ss.length ∧ Blk wr gs 91 [.bool na, .slice B l c1, .bool nb, .slice B' l' c1'] ∧ IsRF wr (.agg #[.bool na, .slice B l c1, .bool nb, .slice B' l' c1']) (dotS (ss.take k) (ts.take k)) ∧ Below w.heap.size w wr) (fun iv _ => ss.length - (intOf iv).toNat)
        case atStart => exact ⟨0, _, _, _, _, _, _, _, _, rfl, Nat.zero_le _, HK.out, HF.out, HB.out⟩
        case round =>
          generalize Value.agg #[.bool x2, .slice X2 y2 z2, .bool x2', .slice X2' y2' z2'] = t48
          clear HK HF HB
          obtain ⟨k, na, nb, B, B', l, c1, l', c1', rfl, hk, hkb, hfr, hb⟩ := hrel
          have HK := Lib.hid hkb
          have HF := Lib.hid hfr
          have HB := Lib.hid hb
          clear hkb hfr hb
          by_cases hlt : k < ss.length
          · have hlt' : k < ts.length := by have := HLE.out; omega
            obtain ⟨b, off, rfl, hbb, hc⟩ := HS.out (by intro e; subst e; simp at hlt)
            obtain ⟨b', off', rfl, hbb', hc'⟩ := HT.out (by intro e; subst e; simp at hlt')
            have hci := (HB.out.cell (p := ⟨b, off + k, none⟩) hbb).trans (hc k hlt)
            have hci' := (HB.out.cell (p := ⟨b', off' + k, none⟩) hbb').trans (hc' k hlt')
            have v1 := HA1.out ss[k] (List.getElem_mem hlt)
            have v2 := HA2.out ts[k] (List.getElem_mem hlt')
            have ED := Lib.hid (dot_take hlt hlt')
            have sd := (dot_sz ss ts k (by omega) (by omega)).mono (show 91 * k + 1 ≤ 1000000 by omega)
            have s1 := valS_sz ss[k]
            have s2 := valS_sz ts[k]
            have R1 := Lib.hid (fun W => RFReadS ss[k] W v1)
            have R2 := Lib.hid (fun W => RFReadS ts[k] W v2)
            have KB := Lib.hid (fun W (hW : Below wr.heap.size wr W) => (⟨(hW.cell (p := ⟨b, off + k, none⟩) (Nat.lt_of_lt_of_le hbb HB.out.size)).trans hci, (hW.cell (p := ⟨b', off' + k, none⟩) (Nat.lt_of_lt_of_le hbb' HB.out.size)).trans hci'⟩ : CS2 W b (off + k) b' (off' + k) ss[k] ts[k]))
            obtain ⟨s, hse⟩ : ∃ s, ss[k] = s := ⟨_, rfl⟩
            obtain ⟨t, hte⟩ : ∃ t, ts[k] = t := ⟨_, rfl⟩
            rw [hse] at hci s1 R1 ED KB
            rw [hte] at hci' s2 R2 ED KB
            generalize valS s = qa at *
            generalize valS t = qb at *
            generalize dotS (ss.take k) (ts.take k) = qs at *
            clear hc hc' hse hte v1 v2
            have sm := s1.mul s2
            have i1 : (0 : Int) ≤ (k : Int) := by omega
            have i2 : (k : Int) < (ss.length : Int) := by omega
            have i3 : (k : Int) < (ts.length : Int) := by omega
            have k0 := HK.out.at_ (i := 0) rfl
            have k1 := HK.out.at_ (i := 1) rfl
            have k2 := HK.out.at_ (i := 2) rfl
            have k3 := HK.out.at_ (i := 3) rfl
            have fk0 := HK.out.fr 0
            have fk1 := HK.out.fr 1
            have fk2 := HK.out.fr 2
            have fk3 := HK.out.fr 3
            go_wp2_with fail
            go_region_with (first | (go_at_call 127; (with_reducible refine (RFAdd_any _ _ qs (qa * qb) _ HF23.out HV23.out sd (sm.mono (by omega))).mono ?_); rintro e w24 ⟨v24, rfl, hv, hb⟩; have HB24 := Lib.hid (HB23.out.trans (hb.mono HB23.out.size)); have HL24 := Lib.hid (HL23.out.trans (hb.mono HL23.out.size)); have HK24 := Lib.hid (HK23.out.below hb); have HV24 := Lib.hid hv; obtain ⟨x24, x24', X24, X24', y24, z24, y24', z24', rfl⟩ := hv.slice; obtain ⟨ca24, cb24⟩ := KB.out _ HL24.out; have kk240 := HK24.out.at_ (i := 0) rfl; have kk241 := HK24.out.at_ (i := 1) rfl; have kk242 := HK24.out.at_ (i := 2) rfl; have kk243 := HK24.out.at_ (i := 3) rfl; have fk240 := HK24.out.fr 0; have fk241 := HK24.out.fr 1; have fk242 := HK24.out.fr 2; have fk243 := HK24.out.fr 3; clear hv hb) | (go_at_call 128; (with_reducible refine (RFMul_any _ _ qa qb _ HW22.out HV22.out (s1.mono (by omega)) (s2.mono (by omega))).mono ?_); rintro e w23 ⟨v23, rfl, hv, hb⟩; have HB23 := Lib.hid (HB22.out.trans (hb.mono HB22.out.size)); have HL23 := Lib.hid (HL22.out.trans (hb.mono HL22.out.size)); have HK23 := Lib.hid (HK22.out.below hb); have HF23 := Lib.hid (HF22.out.below hb); have HV23 := Lib.hid hv; obtain ⟨x23, x23', X23, X23', y23, z23, y23', z23', rfl⟩ := hv.slice; obtain ⟨ca23, cb23⟩ := KB.out _ HL23.out; have kk230 := HK23.out.at_ (i := 0) rfl; have kk231 := HK23.out.at_ (i := 1) rfl; have kk232 := HK23.out.at_ (i := 2) rfl; have kk233 := HK23.out.at_ (i := 3) rfl; clear hv hb) | (go_at_call 123; (with_reducible refine (R2.out _).mono ?_); rintro e w22 ⟨v22, rfl, hv, hb⟩; have HB22 := Lib.hid (HB21.out.trans (hb.mono HB21.out.size)); have HL22 := Lib.hid (HL21.out.trans (hb.mono HL21.out.size)); have HK22 := Lib.hid (HK21.out.below hb); have HF22 := Lib.hid (HF21.out.below hb); have HV22 := Lib.hid hv; have HW22 := Lib.hid (HV21.out.below hb); obtain ⟨x22, x22', X22, X22', y22, z22, y22', z22', rfl⟩ := hv.slice; obtain ⟨ca22, cb22⟩ := KB.out _ HL22.out; have kk220 := HK22.out.at_ (i := 0) rfl; have kk221 := HK22.out.at_ (i := 1) rfl; have kk222 := HK22.out.at_ (i := 2) rfl; have kk223 := HK22.out.at_ (i := 3) rfl; clear hv hb) | (go_at_call 123; (with_reducible refine (R1.out _).mono ?_); rintro e w21 ⟨v21, rfl, hv, hb⟩; have HB21 := Lib.hid (HB.out.drew.trans (hb.mono HB.out.size)); have HL21 := Lib.hid (show Below wr.heap.size wr w21 from ((Below.refl wr.heap.size wr).drew).trans hb); have HK21 := Lib.hid (HK.out.drew.below hb); have HF21 := Lib.hid (HF.out.drew.below hb); have HV21 := Lib.hid hv; obtain ⟨x21, x21', X21, X21', y21, z21, y21', z21', rfl⟩ := hv.slice; obtain ⟨ca21, cb21⟩ := KB.out _ HL21.out; have kk210 := HK21.out.at_ (i := 0) rfl; have kk211 := HK21.out.at_ (i := 1) rfl; have kk212 := HK21.out.at_ (i := 2) rfl; have kk213 := HK21.out.at_ (i := 3) rfl; clear hv hb))
            all_goals
              go_wp2_with fail
              go_roundw
              case rel => exact ⟨k + 1, _, _, _, _, _, _, _, _, by go_num, by omega, HK24.out.set4 _ _ _ _, by rw [ED.out]; exact HV24.out.set4 HK24.out _ _ _ _, bel_set4 HB24.out hgw _ _ _ _⟩
              case measure => simp [intOf]; omega
          · obtain rfl : k = ss.length := by omega
            rw [List.take_length, show ts.take ss.length = ts by rw [HLE.out, List.take_length]] at HF
            have sd := dot_sz ss ts ss.length (Nat.le_refl _) (by rw [HLE.out]; exact Nat.le_refl _)
            rw [List.take_length, show ts.take ss.length = ts by rw [HLE.out, List.take_length]] at sd
            have sd2 := sd.mono (show 91 * ss.length + 1 ≤ 1000000 by omega)
            generalize dotS ss ts = qs at *
            have k0 := HK.out.at_ (i := 0) rfl
            have k1 := HK.out.at_ (i := 1) rfl
            have k2 := HK.out.at_ (i := 2) rfl
            have k3 := HK.out.at_ (i := 3) rfl
            go_wp2_with fail
            clear k0 k1 k2 k3
            refine (RFGive_any _ qs wr HF.out sd2).mono ?_
            rintro e w31 ⟨rfl, hb⟩
            replace HK := Lib.hid (HK.out.below hb)
            replace HF := Lib.hid (HF.out.below hb)
            replace HB := Lib.hid (HB.out.trans (hb.mono HB.out.size))
            clear hb
            go_wp2_with fail
            go_ret2
            exact ⟨by rw [E.out]; rfl, HB.out⟩
  · have hq : ((ss.length : Int) != (ts.length : Int)) = true := by rw [bne_iff_ne]; omega
    have E := Lib.hid (show dotV ss ts = .tuple #[.string ⟨#[]⟩, .int .i64 5] by unfold dotV; rw [if_pos h1])
    clear h1 HLT HS HT HZ HZ'
    go_enter Tryz.func70, Tryz.ntmps70
    go_wp2_with fail
    go_ret2
    exact ⟨by rw [E.out]; rfl, Below.refl _ _⟩

end Go.Proofs.YtecklmdlmldpgaaGreatDoor
