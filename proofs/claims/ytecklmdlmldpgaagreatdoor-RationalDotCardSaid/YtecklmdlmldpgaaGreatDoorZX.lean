/-
  Lists of texts: what the reference's light, Sum and Dot give, and that it is what Dot gives.
-/
import Derived.Test.YtecklmdlmldpgaaGreatDoorZU
import Derived.Deep.DrawnRows
namespace Go.Proofs.YtecklmdlmldpgaaGreatDoor
open Go.RowKit

open Classical in
/-- The fraction that a text means (0 where it means none). -/
noncomputable def valS (s : ByteArray) : Rat := if h : ∃ q : Rat, s = rstr q ∧ FitsR q then h.choose else 0
theorem rstr_inj {p q : Rat} (h : rstr p = rstr q) : p = q := by
  apply rtext_inj
  rw [← rstr_list p, ← rstr_list q, h]
open Classical in
theorem valS_rstr {q : Rat} (h : FitsR q) : valS (rstr q) = q := by
  have hx : ∃ p : Rat, rstr q = rstr p ∧ FitsR p := ⟨q, rfl, h⟩
  unfold valS
  rw [dif_pos hx]
  exact (rstr_inj hx.choose_spec.1).symm
theorem vR_val {s : ByteArray} (h : vR s = true) : s = rstr (valS s) ∧ FitsR (valS s) := by
  obtain ⟨q, rfl, hf⟩ := vR_ex h
  rw [valS_rstr hf]
  exact ⟨rfl, hf⟩
/-- How many digits a text has (0 where it means no fraction). -/
noncomputable def digS (s : ByteArray) : Nat := if vR s then digR (valS s) else 0
theorem digS_val {s : ByteArray} (h : vR s = true) : digS s = digR (valS s) := if_pos h
theorem digR_pos (q : Rat) : 1 ≤ digR q := by unfold digR; have := Lib.nDigits_pos q.den; omega
theorem digR_le {q : Rat} (h : FitsR q) : digR q ≤ 400 := by
  unfold digR
  have h1 := (fits_iff _).1 h.1
  have h2 := (fits_iff _).1 h.2
  rw [Int.natAbs_natCast] at h2
  omega
theorem digS_le (s : ByteArray) : digS s ≤ 400 := by
  unfold digS
  cases h : vR s
  · simp
  · exact digR_le (vR_val h).2
theorem digS_pos {s : ByteArray} (h : vR s = true) : 1 ≤ digS s := by rw [digS_val h]; exact digR_pos _
theorem FReadS (s : ByteArray) (w : World) (h : vR s = true) (henv : Env w) : Calls Tryz.prog 103 #[.string s] w (RetFrac w (valS s)) := by
  obtain ⟨h1, h2⟩ := vR_val h
  have := FRead_ok (valS s) w h2 henv
  rw [← h1] at this
  exact this
theorem RFReadS (s : ByteArray) (w : World) (h : vR s = true) : Calls Tryz.prog 123 #[.string s] w (RetRF w (valS s)) := by
  obtain ⟨h1, h2⟩ := vR_val h
  have := RFRead_ok (valS s) w h2
  rw [← h1] at this
  exact this
theorem RatDigitsS (s : ByteArray) (w : World) (hs : s.size ≤ 4000000000) (henv : Env w) : Calls Tryz.prog 56 #[.string s] w fun e w' => e = .returned (.int .i64 (digS s : Int)) ∧ Below w.heap.size w w' := by
  cases h : vR s
  · have := RatDigits_bad s.data.toList w (by rw [ba_size]; exact hs) henv h
    rw [ba_list] at this
    unfold digS
    rw [h]
    exact this
  · obtain ⟨h1, h2⟩ := vR_val h
    have := RatDigits_ok (valS s) w h2 henv
    rw [← h1, ← digS_val h] at this
    exact this
theorem RFDigitsS (s : ByteArray) (w : World) (hs : s.size ≤ 4000000000) : Calls Tryz.prog 57 #[.string s] w fun e w' => e = .returned (.int .i64 (digS s : Int)) ∧ Below w.heap.size w w' := by
  cases h : vR s
  · have := RFDigits_bad s w hs h
    unfold digS
    rw [h]
    exact this
  · obtain ⟨h1, h2⟩ := vR_val h
    have := RFDigits_ok (valS s) w h2
    rw [← h1, ← digS_val h] at this
    exact this
theorem valS_sz (s : ByteArray) : Sz 45 (valS s) := by
  cases h : vR s
  · have : valS s = 0 := by
      unfold valS
      rw [dif_neg]
      rintro ⟨q, rfl, hf⟩
      rw [vR_rstr hf] at h
      cases h
    rw [this]
    exact Sz.zero.mono (by decide)
  · exact (vR_val h).2.sz

/-- The sum of a list. -/
def rsum (l : List Rat) : Rat := l.foldl (· + ·) 0
theorem rsum_nil : rsum [] = 0 := rfl
theorem rsum_snoc (l : List Rat) (x : Rat) : rsum (l ++ [x]) = rsum l + x := by unfold rsum; rw [List.foldl_append]; rfl
/-- The greatest of a list. -/
def nmax (l : List Nat) : Nat := l.foldl max 0
theorem nmax_snoc (l : List Nat) (x : Nat) : nmax (l ++ [x]) = max (nmax l) x := by unfold nmax; rw [List.foldl_append]; rfl
theorem foldl_max (l : List Nat) (a : Nat) : l.foldl max a = max a (nmax l) := by
  unfold nmax
  induction l generalizing a with
  | nil => simp
  | cons x l ih => rw [List.foldl_cons, ih, List.foldl_cons, ih (max 0 x)]; omega
theorem nmax_cons (x : Nat) (l : List Nat) : nmax (x :: l) = max x (nmax l) := by
  show (x :: l).foldl max 0 = _
  rw [List.foldl_cons, foldl_max]; omega
theorem nmax_le {l : List Nat} {b : Nat} (h : ∀ x ∈ l, x ≤ b) : nmax l ≤ b := by
  induction l with
  | nil => simp [nmax]
  | cons x l ih =>
    rw [nmax_cons]
    have h1 := h x (by simp)
    have h2 := ih (fun y hy => h y (by simp [hy]))
    omega
theorem nmax_ge {l : List Nat} {x : Nat} (h : x ∈ l) : x ≤ nmax l := by
  induction l with
  | nil => simp at h
  | cons y l ih =>
    rw [nmax_cons]
    rcases List.mem_cons.1 h with rfl | h
    · omega
    · have := ih h; omega
/-- The products of two lists, and the digits that count. -/
noncomputable def prods (ss ts : List ByteArray) : List Rat := List.zipWith (fun s t => valS s * valS t) ss ts
noncomputable def pdigs (ss ts : List ByteArray) : List Nat := List.zipWith (fun s t => max (digS s) (digS t)) ss ts
noncomputable def dotS (ss ts : List ByteArray) : Rat := rsum (prods ss ts)
noncomputable def mostS (ss ts : List ByteArray) : Nat := nmax (pdigs ss ts)
theorem zip_take {α β γ : Type} (f : α → β → γ) (l : List α) (m : List β) (k : Nat) (h1 : k < l.length) (h2 : k < m.length) : List.zipWith f (l.take (k + 1)) (m.take (k + 1)) = List.zipWith f (l.take k) (m.take k) ++ [f l[k] m[k]] := by
  rw [List.take_succ_eq_append_getElem h1, List.take_succ_eq_append_getElem h2, List.zipWith_append (by simp; omega)]
  rfl
theorem dot_take {ss ts : List ByteArray} {k : Nat} (h1 : k < ss.length) (h2 : k < ts.length) : dotS (ss.take (k + 1)) (ts.take (k + 1)) = dotS (ss.take k) (ts.take k) + valS ss[k] * valS ts[k] := by
  unfold dotS prods
  rw [zip_take _ _ _ _ h1 h2, rsum_snoc]
theorem most_take {ss ts : List ByteArray} {k : Nat} (h1 : k < ss.length) (h2 : k < ts.length) : mostS (ss.take (k + 1)) (ts.take (k + 1)) = max (mostS (ss.take k) (ts.take k)) (max (digS ss[k]) (digS ts[k])) := by
  unfold mostS pdigs
  rw [zip_take _ _ _ _ h1 h2, nmax_snoc]
theorem mostS_le (ss ts : List ByteArray) : mostS ss ts ≤ 400 := by
  apply nmax_le
  intro x hx
  unfold pdigs at hx
  rw [List.mem_iff_getElem] at hx
  obtain ⟨i, hi, rfl⟩ := hx
  rw [List.getElem_zipWith]
  have h1 := digS_le (ss[i]'(by simp at hi; omega))
  have h2 := digS_le (ts[i]'(by simp at hi; omega))
  omega
theorem dot_sz (ss ts : List ByteArray) (k : Nat) (h1 : k ≤ ss.length) (h2 : k ≤ ts.length) : Sz (91 * k + 1) (dotS (ss.take k) (ts.take k)) := by
  induction k with
  | zero => simpa [dotS, prods, rsum] using Sz.zero
  | succ k ih =>
    rw [dot_take (by omega) (by omega)]
    exact ((ih (by omega) (by omega)).add ((valS_sz _).mul (valS_sz _))).mono (by omega)
theorem most_pos {ss ts : List ByteArray} (h : 0 < ss.length) (hl : ss.length = ts.length) (hv : ss.all vR = true) : 1 ≤ mostS ss ts := by
  have h0 := digS_pos (List.all_eq_true.1 hv ss[0] (List.getElem_mem h))
  have : max (digS ss[0]) (digS (ts[0]'(by omega))) ∈ pdigs ss ts := by
    unfold pdigs
    rw [List.mem_iff_getElem]
    exact ⟨0, by simp; omega, by rw [List.getElem_zipWith]⟩
  have := nmax_ge this
  unfold mostS
  omega
/-- What Dot gives. -/
noncomputable def dotV (ss ts : List ByteArray) : Value :=
  if ss.length ≠ ts.length then .tuple #[.string ⟨#[]⟩, .int .i64 5]
  else if ¬ (ss.all vR = true ∧ ts.all vR = true) then .tuple #[.string ⟨#[]⟩, .int .i64 1]
  else if 6000 < ss.length * mostS ss ts then .tuple #[.string ⟨#[]⟩, .int .i64 3]
  else .tuple #[.string (outR (dotS ss ts)), .int .i64 (outRE (dotS ss ts))]

end Go.Proofs.YtecklmdlmldpgaaGreatDoor

namespace Go.Proofs.YtecklmdlmldpgaaGreatDoor
open Go.RowKit

abbrev CS2 (W : World) (b o b' o' : Nat) (s t : ByteArray) : Prop := W.cell? ⟨b, o, none⟩ = some (.string s) ∧ W.cell? ⟨b', o', none⟩ = some (.string t)
theorem Blk.set4 {W : World} {g : Nat} {t : TypeId} {x0 x1 x2 x3 : Value} (k : Blk W g t [x0, x1, x2, x3]) (y0 y1 y2 y3 : Value) : Blk ((((W.setCell ⟨g, 0, none⟩ y0).setCell ⟨g, 1, none⟩ y1).setCell ⟨g, 2, none⟩ y2).setCell ⟨g, 3, none⟩ y3) g t [y0, y1, y2, y3] := (((k.set 0 y0).set 1 y1).set 2 y2).set 3 y3
theorem bel_set4 {W w : World} {g : Nat} (h : Below w.heap.size w W) (hg : w.heap.size ≤ g) (y0 y1 y2 y3 : Value) : Below w.heap.size w ((((W.setCell ⟨g, 0, none⟩ y0).setCell ⟨g, 1, none⟩ y1).setCell ⟨g, 2, none⟩ y2).setCell ⟨g, 3, none⟩ y3) := (((h.setCell (p := ⟨g, 0, none⟩) hg y0).setCell (p := ⟨g, 1, none⟩) hg y1).setCell (p := ⟨g, 2, none⟩) hg y2).setCell (p := ⟨g, 3, none⟩) hg y3
theorem IsFrac.set4 {W : World} {v : Value} {q : Rat} {g : Nat} {t : TypeId} {na nb : Bool} {A A' : Option Addr} {l c l' c' : Nat} (h : IsFrac W v q) (k : Blk W g t [.bool na, .slice A l c, .bool nb, .slice A' l' c']) (y0 y1 y2 y3 : Value) : IsFrac ((((W.setCell ⟨g, 0, none⟩ y0).setCell ⟨g, 1, none⟩ y1).setCell ⟨g, 2, none⟩ y2).setCell ⟨g, 3, none⟩ y3) v q := h.box k no_int4 (grown_set' (grown_set' (grown_set' (grown_set g 0 _) 1 _) 2 _) 3 _)
attribute [local go_sem ↓] Go.wp_at_zero Go.wp_at_succ
set_option maxRecDepth 100000 in
set_option maxHeartbeats 8000000 in
theorem RatDot (A A' : Option Addr) (ss ts : List ByteArray) (c c' : Nat) (w : World) (hs : Strs w A ss) (ht : Strs w A' ts) (hl : ss.length ≤ 1000000) (hl' : ts.length ≤ 1000000) (hz : ∀ s ∈ ss, s.size ≤ 4000000000) (hz' : ∀ s ∈ ts, s.size ≤ 4000000000) (henv : Env w) :
    Calls Tryz.prog 69 #[.slice A ss.length c, .slice A' ts.length c'] w fun e w' => e = .returned (dotV ss ts) ∧ Below w.heap.size w w' := by
  have HV1 := Lib.hid (fun W (hW : Below w.heap.size w W) => Ratvalid A ss c W (hs.below hW) hl hz (henv.below hW))
  have HV2 := Lib.hid (fun W (hW : Below w.heap.size w W) => Ratvalid A' ts c' W (ht.below hW) hl' hz' (henv.below hW))
  have HE := Lib.hid henv
  have HS := Lib.hid hs
  have HT := Lib.hid ht
  have HZ := Lib.hid hz
  have HZ' := Lib.hid hz'
  clear hs ht hz hz' henv
  by_cases h1 : ss.length = ts.length
  · have hq : ((ss.length : Int) != (ts.length : Int)) = false := by simp [h1]
    cases h2 : ss.all vR
    · have E := Lib.hid (show dotV ss ts = .tuple #[.string ⟨#[]⟩, .int .i64 1] by unfold dotV; rw [if_neg (by simpa using h1), if_pos (by rw [h2]; simp)])
      rw [h2] at HV1
      clear h1 h2 HV2 HS HT HZ HZ' HE
      go_enter Tryz.func69, Tryz.ntmps69
      go_wp2_with fail
      refine (HV1.out w (Below.refl _ _)).mono ?_
      rintro e w1 ⟨rfl, hb⟩
      have HB := Lib.hid hb
      clear hb
      go_wp2_with fail
      go_ret2
      exact ⟨by rw [E.out]; rfl, HB.out⟩
    · cases h3 : ts.all vR
      · have E := Lib.hid (show dotV ss ts = .tuple #[.string ⟨#[]⟩, .int .i64 1] by unfold dotV; rw [if_neg (by simpa using h1), if_pos (by rw [h2, h3]; simp)])
        rw [h2] at HV1
        rw [h3] at HV2
        clear h1 h2 h3 HS HT HZ HZ' HE
        go_enter Tryz.func69, Tryz.ntmps69
        go_wp2_with fail
        refine (HV1.out w (Below.refl _ _)).mono ?_
        rintro e w1 ⟨rfl, hb⟩
        have HB := Lib.hid hb
        clear hb
        go_wp2_with fail
        refine (HV2.out w1 HB.out).mono ?_
        rintro e w2 ⟨rfl, hb⟩
        replace HB := Lib.hid (HB.out.trans (hb.mono HB.out.size))
        clear hb
        go_wp2_with fail
        go_ret2
        exact ⟨by rw [E.out]; rfl, HB.out⟩
      · rw [h2] at HV1
        rw [h3] at HV2
        have HA1 := Lib.hid (List.all_eq_true.1 h2)
        have HA2 := Lib.hid (List.all_eq_true.1 h3)
        have HLE := Lib.hid h1
        have HPOS := Lib.hid (fun h => most_pos (ss := ss) (ts := ts) h h1 h2)
        have EB := Lib.hid (show 6000 < ss.length * mostS ss ts → dotV ss ts = .tuple #[.string ⟨#[]⟩, .int .i64 3] from fun h => by unfold dotV; rw [if_neg (by simpa using h1), if_neg (by rw [h2, h3]; simp), if_pos h])
        have EG := Lib.hid (show ¬ 6000 < ss.length * mostS ss ts → dotV ss ts = .tuple #[.string (outR (dotS ss ts)), .int .i64 (outRE (dotS ss ts))] from fun h => by unfold dotV; rw [if_neg (by simpa using h1), if_neg (by rw [h2, h3]; simp), if_neg h])
        clear h1 h2 h3
        go_enter Tryz.func69, Tryz.ntmps69
        go_wp2_with fail
        refine (HV1.out w (Below.refl _ _)).mono ?_
        rintro e w1 ⟨rfl, hb⟩
        have HB := Lib.hid hb
        clear hb
        go_wp2_with fail
        refine (HV2.out w1 HB.out).mono ?_
        rintro e w2 ⟨rfl, hb⟩
        replace HB := Lib.hid (HB.out.trans (hb.mono HB.out.size))
        clear hb
        clear HV1 HV2
        go_wp2_with fail
        go_loopw [6, 27] (fun mv iv wr => ∃ k : Nat, iv = .int .i64 (k : Int) ∧ k ≤ ss.length ∧ mv = .int .i64 ((mostS (ss.take k) (ts.take k) : Nat) : Int) ∧ Below w.heap.size w wr) (fun _ iv _ => ss.length - (intOf iv).toNat)
        case atStart => exact ⟨0, rfl, Nat.zero_le _, rfl, HB.out⟩
        case round =>
          clear HB
          obtain ⟨k, rfl, hk, rfl, hb⟩ := hrel
          have HB := Lib.hid hb
          clear hb
          have hmle := mostS_le (ss.take k) (ts.take k)
          by_cases hlt : k < ss.length
          · have hlt' : k < ts.length := by have := HLE.out; omega
            obtain ⟨b, off, rfl, hbb, hc⟩ := HS.out (by intro e; subst e; simp at hlt)
            obtain ⟨b', off', rfl, hbb', hc'⟩ := HT.out (by intro e; subst e; simp at hlt')
            have hci := (HB.out.cell (p := ⟨b, off + k, none⟩) hbb).trans (hc k hlt)
            have hci' := (HB.out.cell (p := ⟨b', off' + k, none⟩) hbb').trans (hc' k hlt')
            have d1 := RatDigitsS ss[k]
            have d2 := RatDigitsS ts[k]
            have z1 := HZ.out ss[k] (List.getElem_mem hlt)
            have z2 := HZ'.out ts[k] (List.getElem_mem hlt')
            have EM := Lib.hid (most_take hlt hlt')
            have b1 := digS_le ss[k]
            have b2 := digS_le ts[k]
            have KB := Lib.hid (fun W (hW : Below wr.heap.size wr W) => (⟨(hW.cell (p := ⟨b, off + k, none⟩) (Nat.lt_of_lt_of_le hbb HB.out.size)).trans hci, (hW.cell (p := ⟨b', off' + k, none⟩) (Nat.lt_of_lt_of_le hbb' HB.out.size)).trans hci'⟩ : CS2 W b (off + k) b' (off' + k) ss[k] ts[k]))
            obtain ⟨s, hse⟩ : ∃ s, ss[k] = s := ⟨_, rfl⟩
            obtain ⟨t, hte⟩ : ∃ t, ts[k] = t := ⟨_, rfl⟩
            rw [hse] at hci d1 z1 EM b1 KB
            rw [hte] at hci' d2 z2 EM b2 KB
            have D1 := Lib.hid (fun W hE => d1 W z1 hE)
            have D2 := Lib.hid (fun W hE => d2 W z2 hE)
            have P0 : Hid (CS2 wr.drew b (off + k) b' (off' + k) s t) := ⟨hci, hci'⟩
            generalize mostS (ss.take k) (ts.take k) = mk at *
            generalize digS s = ds at *
            generalize digS t = dt at *
            clear hc hc' d1 d2 hse hte
            have i1 : (0 : Int) ≤ (k : Int) := by omega
            have i2 : (k : Int) < (ss.length : Int) := by omega
            have i3 : (k : Int) < (ts.length : Int) := by omega
            go_wp2_with fail
            go_region_held3 (fun w' => CS2 w' b (off + k) b' (off' + k) s t) (first | with_reducible exact P0.out | with_reducible exact P1.out | with_reducible exact P2.out | go_keep) (first | (go_at_call 56; (with_reducible refine (D2.out _ (HE.out.below HB1.out)).mono ?_); rintro e w2 ⟨rfl, hb⟩; have HB2 := Lib.hid (HB1.out.trans (hb.mono HB1.out.size)); have HL2 := Lib.hid (HL1.out.trans (hb.mono HL1.out.size)); have P2 := Lib.hid (KB.out _ HL2.out); clear hb) | (go_at_call 56; (with_reducible refine (D1.out _ (HE.out.below HB.out.drew)).mono ?_); rintro e w1 ⟨rfl, hb⟩; have HB1 := Lib.hid (HB.out.drew.trans (hb.mono HB.out.size)); have HL1 : Hid (Below wr.heap.size wr w1) := Lib.hid (show Below wr.heap.size wr w1 from ((Below.refl wr.heap.size wr).drew).trans hb); have P1 := Lib.hid (KB.out _ HL1.out); clear hb))
            go_wp2_with fail
            go_roundw
            case rel => exact ⟨k + 1, by go_num, by omega, congrArg (Value.int .i64) (by rw [EM.out]; omega), HB2.out⟩
            case measure => simp [intOf]; omega
          · obtain rfl : k = ss.length := by omega
            rw [List.take_length, show ts.take ss.length = ts by rw [HLE.out, List.take_length]] at hmle ⊢
            have hprod : (ss.length : Int) * ((mostS ss ts : Nat) : Int) = ((ss.length * mostS ss ts : Nat) : Int) := by rw [Int.natCast_mul]
            have hmul : ss.length * mostS ss ts ≤ 1000000 * 400 := Nat.mul_le_mul hl hmle
            have hw : IntKind.i64.wrap ((ss.length : Int) * ((mostS ss ts : Nat) : Int)) = ((ss.length * mostS ss ts : Nat) : Int) := by rw [hprod]; exact IntWalk.i64_in _ (by omega)
            clear hlt
            by_cases hbig : 6000 < ss.length * mostS ss ts
            · have E := Lib.hid (EB.out hbig)
              generalize mostS ss ts = M at *
              generalize ss.length * M = LM at *
              go_wp2_with fail
              go_ret2
              exact ⟨by rw [E.out]; rfl, HB.out⟩
            · have E := Lib.hid (EG.out hbig)
              have hl6 : ss.length ≤ 6000 := by
                rcases Nat.eq_zero_or_pos ss.length with h | h
                · omega
                · have h1 := HPOS.out h
                  have := Nat.mul_le_mul (Nat.le_refl ss.length) h1
                  omega
              generalize mostS ss ts = M at *
              generalize ss.length * M = LM at *
              clear EB EG HPOS
              go_wp2_with fail
              refine (FOf_any 0 wr (by decide)).mono ?_
              rintro e w11 ⟨v11, rfl, hv, hb⟩
              have HF := Lib.hid hv
              obtain ⟨x11, x11', X11, X11', y11, z11, y11', z11', rfl⟩ := hv.slice
              replace HB := Lib.hid (HB.out.trans (hb.mono HB.out.size))
              clear hb hv
              have hsz := HB.out.size
              go_upto_region 14 with (fail)
              have hHK := (Blk.new w11 118 [.bool x11, .slice X11 y11 z11, .bool x11', .slice X11' y11' z11'])
              have hb : Below w11.heap.size w11 (w11.alloc (.cells #[.bool x11, .slice X11 y11 z11, .bool x11', .slice X11' y11' z11'] 118)) := (Below.refl _ _).alloc (Nat.le_refl _) _
              generalize w11.alloc (.cells #[.bool x11, .slice X11 y11 z11, .bool x11', .slice X11' y11' z11'] 118) = W2 at *
              have HK := Lib.hid hHK
              replace HF := Lib.hid (HF.out.below hb)
              replace HB := Lib.hid (HB.out.trans (hb.mono HB.out.size))
              clear hb hHK
              obtain ⟨gs, hgs⟩ : ∃ gs, w11.heap.size = gs := ⟨_, rfl⟩
              have hgw : w.heap.size ≤ gs := by rw [← hgs]; exact hsz
              rw [hgs] at HK ⊢
              clear hgs
              go_wp2_with fail
              go_loopw [51] (fun iv wr => ∃ (k : Nat) (na nb : Bool) (B B' : Option Addr) (l c1 l' c1' : Nat), iv = .int .i64 (k : Int) ∧ k ≤ ss.length ∧ Blk wr gs 118 [.bool na, .slice B l c1, .bool nb, .slice B' l' c1'] ∧ IsFrac wr (.agg #[.bool na, .slice B l c1, .bool nb, .slice B' l' c1']) (dotS (ss.take k) (ts.take k)) ∧ Below w.heap.size w wr) (fun iv _ => ss.length - (intOf iv).toNat)
              case atStart => exact ⟨0, _, _, _, _, _, _, _, _, rfl, Nat.zero_le _, HK.out, HF.out, HB.out⟩
              case round =>
                generalize Value.agg #[.bool x11, .slice X11 y11 z11, .bool x11', .slice X11' y11' z11'] = t48
                clear HK HF HB
                obtain ⟨k, na, nb, B, B', l, c1, l', c1', rfl, hk, hkb, hfr, hb⟩ := hrel
                have HK := Lib.hid hkb
                have HF := Lib.hid hfr
                have HB := Lib.hid hb
                clear hkb hfr hb
                by_cases hlt : k < ss.length
                · have hlt' : k < ts.length := by have := HLE.out; omega
                  obtain ⟨b, off, rfl, hbb, hc⟩ := HS.out (by intro e; subst e; simp at hlt)
                  obtain ⟨b', off', rfl, hbb', hc'⟩ := HT.out (by intro e; subst e; simp at hlt')
                  have hci := (HB.out.cell (p := ⟨b, off + k, none⟩) hbb).trans (hc k hlt)
                  have hci' := (HB.out.cell (p := ⟨b', off' + k, none⟩) hbb').trans (hc' k hlt')
                  have v1 := HA1.out ss[k] (List.getElem_mem hlt)
                  have v2 := HA2.out ts[k] (List.getElem_mem hlt')
                  have ED := Lib.hid (dot_take hlt hlt')
                  have sd := (dot_sz ss ts k (by omega) (by omega)).mono (show 91 * k + 1 ≤ 1000000 by omega)
                  have s1 := valS_sz ss[k]
                  have s2 := valS_sz ts[k]
                  have R1 := Lib.hid (fun W hE => FReadS ss[k] W v1 hE)
                  have R2 := Lib.hid (fun W hE => FReadS ts[k] W v2 hE)
                  have KB := Lib.hid (fun W (hW : Below wr.heap.size wr W) => (⟨(hW.cell (p := ⟨b, off + k, none⟩) (Nat.lt_of_lt_of_le hbb HB.out.size)).trans hci, (hW.cell (p := ⟨b', off' + k, none⟩) (Nat.lt_of_lt_of_le hbb' HB.out.size)).trans hci'⟩ : CS2 W b (off + k) b' (off' + k) ss[k] ts[k]))
                  obtain ⟨s, hse⟩ : ∃ s, ss[k] = s := ⟨_, rfl⟩
                  obtain ⟨t, hte⟩ : ∃ t, ts[k] = t := ⟨_, rfl⟩
                  rw [hse] at hci s1 R1 ED KB
                  rw [hte] at hci' s2 R2 ED KB
                  generalize valS s = qa at *
                  generalize valS t = qb at *
                  generalize dotS (ss.take k) (ts.take k) = qs at *
                  clear hc hc' hse hte v1 v2
                  have sm := s1.mul s2
                  have i1 : (0 : Int) ≤ (k : Int) := by omega
                  have i2 : (k : Int) < (ss.length : Int) := by omega
                  have i3 : (k : Int) < (ts.length : Int) := by omega
                  have k0 := HK.out.at_ (i := 0) rfl
                  have k1 := HK.out.at_ (i := 1) rfl
                  have k2 := HK.out.at_ (i := 2) rfl
                  have k3 := HK.out.at_ (i := 3) rfl
                  have fk0 := HK.out.fr 0
                  have fk1 := HK.out.fr 1
                  have fk2 := HK.out.fr 2
                  have fk3 := HK.out.fr 3
                  go_wp2_with fail
                  go_region_with (first | (go_at_call 107; (with_reducible refine (FAdd_any _ _ qs (qa * qb) _ HF23.out HV23.out sd (sm.mono (by omega))).mono ?_); rintro e w24 ⟨v24, rfl, hv, hb⟩; have HB24 := Lib.hid (HB23.out.trans (hb.mono HB23.out.size)); have HL24 := Lib.hid (HL23.out.trans (hb.mono HL23.out.size)); have HK24 := Lib.hid (HK23.out.below hb); have HV24 := Lib.hid hv; obtain ⟨x24, x24', X24, X24', y24, z24, y24', z24', rfl⟩ := hv.slice; obtain ⟨ca24, cb24⟩ := KB.out _ HL24.out; have kk240 := HK24.out.at_ (i := 0) rfl; have kk241 := HK24.out.at_ (i := 1) rfl; have kk242 := HK24.out.at_ (i := 2) rfl; have kk243 := HK24.out.at_ (i := 3) rfl; have fk240 := HK24.out.fr 0; have fk241 := HK24.out.fr 1; have fk242 := HK24.out.fr 2; have fk243 := HK24.out.fr 3; clear hv hb) | (go_at_call 111; (with_reducible refine (FMul_any _ _ qa qb _ HW22.out HV22.out (s1.mono (by omega)) (s2.mono (by omega))).mono ?_); rintro e w23 ⟨v23, rfl, hv, hb⟩; have HB23 := Lib.hid (HB22.out.trans (hb.mono HB22.out.size)); have HL23 := Lib.hid (HL22.out.trans (hb.mono HL22.out.size)); have HK23 := Lib.hid (HK22.out.below hb); have HF23 := Lib.hid (HF22.out.below hb); have HV23 := Lib.hid hv; obtain ⟨x23, x23', X23, X23', y23, z23, y23', z23', rfl⟩ := hv.slice; obtain ⟨ca23, cb23⟩ := KB.out _ HL23.out; have kk230 := HK23.out.at_ (i := 0) rfl; have kk231 := HK23.out.at_ (i := 1) rfl; have kk232 := HK23.out.at_ (i := 2) rfl; have kk233 := HK23.out.at_ (i := 3) rfl; clear hv hb) | (go_at_call 103; (with_reducible refine (R2.out _ (HE.out.below HB21.out)).mono ?_); rintro e w22 ⟨v22, rfl, hv, hb⟩; have HB22 := Lib.hid (HB21.out.trans (hb.mono HB21.out.size)); have HL22 := Lib.hid (HL21.out.trans (hb.mono HL21.out.size)); have HK22 := Lib.hid (HK21.out.below hb); have HF22 := Lib.hid (HF21.out.below hb); have HV22 := Lib.hid hv; have HW22 := Lib.hid (HV21.out.below hb); obtain ⟨x22, x22', X22, X22', y22, z22, y22', z22', rfl⟩ := hv.slice; obtain ⟨ca22, cb22⟩ := KB.out _ HL22.out; have kk220 := HK22.out.at_ (i := 0) rfl; have kk221 := HK22.out.at_ (i := 1) rfl; have kk222 := HK22.out.at_ (i := 2) rfl; have kk223 := HK22.out.at_ (i := 3) rfl; clear hv hb) | (go_at_call 103; (with_reducible refine (R1.out _ (HE.out.below HB.out.drew)).mono ?_); rintro e w21 ⟨v21, rfl, hv, hb⟩; have HB21 := Lib.hid (HB.out.drew.trans (hb.mono HB.out.size)); have HL21 := Lib.hid (show Below wr.heap.size wr w21 from ((Below.refl wr.heap.size wr).drew).trans hb); have HK21 := Lib.hid (HK.out.drew.below hb); have HF21 := Lib.hid (HF.out.drew.below hb); have HV21 := Lib.hid hv; obtain ⟨x21, x21', X21, X21', y21, z21, y21', z21', rfl⟩ := hv.slice; obtain ⟨ca21, cb21⟩ := KB.out _ HL21.out; have kk210 := HK21.out.at_ (i := 0) rfl; have kk211 := HK21.out.at_ (i := 1) rfl; have kk212 := HK21.out.at_ (i := 2) rfl; have kk213 := HK21.out.at_ (i := 3) rfl; clear hv hb))
                  all_goals
                    go_wp2_with fail
                    go_roundw
                    case rel => exact ⟨k + 1, _, _, _, _, _, _, _, _, by go_num, by omega, HK24.out.set4 _ _ _ _, by rw [ED.out]; exact HV24.out.set4 HK24.out _ _ _ _, bel_set4 HB24.out hgw _ _ _ _⟩
                    case measure => simp [intOf]; omega
                · obtain rfl : k = ss.length := by omega
                  rw [List.take_length, show ts.take ss.length = ts by rw [HLE.out, List.take_length]] at HF
                  have sd := dot_sz ss ts ss.length (Nat.le_refl _) (by rw [HLE.out]; exact Nat.le_refl _)
                  rw [List.take_length, show ts.take ss.length = ts by rw [HLE.out, List.take_length]] at sd
                  have sd2 := sd.mono (show 91 * ss.length + 1 ≤ 5000000 by omega)
                  generalize dotS ss ts = qs at *
                  have k0 := HK.out.at_ (i := 0) rfl
                  have k1 := HK.out.at_ (i := 1) rfl
                  have k2 := HK.out.at_ (i := 2) rfl
                  have k3 := HK.out.at_ (i := 3) rfl
                  go_wp2_with fail
                  clear k0 k1 k2 k3
                  refine (FFits_any _ qs wr HF.out sd2 (HE.out.below HB.out)).mono ?_
                  rintro e w31 ⟨rfl, hb⟩
                  replace HK := Lib.hid (HK.out.below hb)
                  replace HF := Lib.hid (HF.out.below hb)
                  replace HB := Lib.hid (HB.out.trans (hb.mono HB.out.size))
                  clear hb
                  go_wp2_with fail
                  go_ret2
                  exact ⟨by rw [E.out]; rfl, HB.out⟩
  · have hq : ((ss.length : Int) != (ts.length : Int)) = true := by rw [bne_iff_ne]; omega
    have E := Lib.hid (show dotV ss ts = .tuple #[.string ⟨#[]⟩, .int .i64 5] by unfold dotV; rw [if_pos h1])
    clear h1 HV1 HV2 HS HT HZ HZ' HE
    go_enter Tryz.func69, Tryz.ntmps69
    go_wp2_with fail
    go_ret2
    exact ⟨by rw [E.out]; rfl, Below.refl _ _⟩

end Go.Proofs.YtecklmdlmldpgaaGreatDoor

namespace Go.Proofs.YtecklmdlmldpgaaGreatDoor
open Go.RowKit

theorem nmax_zip {α β : Type} (f : α → Nat) (g : β → Nat) : ∀ (l : List α) (m : List β), l.length = m.length → nmax (List.zipWith (fun a b => max (f a) (g b)) l m) = max (nmax (l.map f)) (nmax (m.map g))
  | [], [], _ => rfl
  | a :: l, b :: m, h => by
    rw [List.zipWith_cons_cons, nmax_cons, nmax_zip f g l m (by simpa using h), List.map_cons, List.map_cons, nmax_cons, nmax_cons]
    omega
  | [], _ :: _, h => by simp at h
  | _ :: _, [], h => by simp at h
theorem mostS_eq {ss ts : List ByteArray} (h : ss.length = ts.length) : mostS ss ts = max (nmax (ss.map digS)) (nmax (ts.map digS)) := nmax_zip digS digS ss ts h
/-- A list of texts in memory: where it lies, its capacity, the texts. -/
abbrev LT := Option Addr × Nat × List ByteArray
/-- Block g holds lists of texts. -/
def LTs (w : World) (g : Nat) (L : List LT) : Prop := g < w.heap.size ∧ (∀ i, (h : i < L.length) → w.cell? ⟨g, i, none⟩ = some (.slice L[i].1 L[i].2.2.length L[i].2.1)) ∧ ∀ x ∈ L, Strs w x.1 x.2.2
theorem LTs.below {w w' : World} {g : Nat} {L : List LT} (h : LTs w g L) (hb : Below w.heap.size w w') : LTs w' g L := by
  obtain ⟨h1, h2, h3⟩ := h
  have := hb.size
  exact ⟨by omega, fun i hi => (hb.cell (p := ⟨g, i, none⟩) h1).trans (h2 i hi), fun x hx => (h3 x hx).below hb⟩
noncomputable def ltN (L : List LT) : Nat := nmax (L.map fun x => x.2.2.length)
noncomputable def ltD (L : List LT) : Nat := nmax (L.map fun x => nmax (x.2.2.map digS))
noncomputable def ltV (L : List LT) : Bool := L.all fun x => x.2.2.all vR
/-- What light gives. -/
noncomputable def lightV (L : List LT) : Int := if ltV L = false then 1 else if 6000 < ltN L * ltD L then 3 else 0
theorem ltN_take {L : List LT} {k : Nat} (h : k < L.length) : ltN (L.take (k + 1)) = max (ltN (L.take k)) L[k].2.2.length := by
  unfold ltN; rw [List.take_succ_eq_append_getElem h, List.map_append]; exact nmax_snoc _ _
theorem ltD_take {L : List LT} {k : Nat} (h : k < L.length) : ltD (L.take (k + 1)) = max (ltD (L.take k)) (nmax (L[k].2.2.map digS)) := by
  unfold ltD; rw [List.take_succ_eq_append_getElem h, List.map_append]; exact nmax_snoc _ _
theorem ltV_take {L : List LT} {k : Nat} (h : k < L.length) (h1 : ltV (L.take k) = true) (h2 : L[k].2.2.all vR = true) : ltV (L.take (k + 1)) = true := by
  unfold ltV at *
  rw [List.take_succ_eq_append_getElem h, List.all_append, h1]; simp only [List.all_cons, h2, List.all_nil]; rfl
theorem ltV_not {L : List LT} {k : Nat} (h : k < L.length) (h2 : L[k].2.2.all vR = false) : ltV L = false := by
  unfold ltV
  rw [← Bool.not_eq_true, List.all_eq_true]
  intro hh
  have := hh _ (List.getElem_mem h)
  rw [h2] at this
  cases this
theorem digs_take {ss : List ByteArray} {k : Nat} (h : k < ss.length) : nmax ((ss.take (k + 1)).map digS) = max (nmax ((ss.take k).map digS)) (digS ss[k]) := by
  rw [List.take_succ_eq_append_getElem h, List.map_append]; exact nmax_snoc _ _
theorem digs_le (ss : List ByteArray) : nmax (ss.map digS) ≤ 400 := nmax_le (by intro x hx; obtain ⟨s, _, rfl⟩ := List.mem_map.1 hx; exact digS_le s)
theorem ltD_le (L : List LT) : ltD L ≤ 400 := nmax_le (by intro x hx; obtain ⟨s, _, rfl⟩ := List.mem_map.1 hx; exact digs_le _)
/-- What Sum gives. -/
noncomputable def sumS (ss : List ByteArray) : Rat := rsum (ss.map valS)
noncomputable def sumV (ss : List ByteArray) : Value :=
  if ss.all vR = false then .tuple #[.string ⟨#[]⟩, .int .i64 1]
  else if 6000 < ss.length * nmax (ss.map digS) then .tuple #[.string ⟨#[]⟩, .int .i64 3]
  else .tuple #[.string (outR (sumS ss)), .int .i64 (outRE (sumS ss))]
theorem sum_take {ss : List ByteArray} {k : Nat} (h : k < ss.length) : sumS (ss.take (k + 1)) = sumS (ss.take k) + valS ss[k] := by
  unfold sumS; rw [List.take_succ_eq_append_getElem h, List.map_append]; exact rsum_snoc _ _
theorem sum_sz (ss : List ByteArray) (k : Nat) (h : k ≤ ss.length) : Sz (46 * k + 1) (sumS (ss.take k)) := by
  induction k with
  | zero => simpa [sumS, rsum] using Sz.zero
  | succ k ih =>
    rw [sum_take (by omega)]
    exact ((ih (by omega)).add (valS_sz _)).mono (by omega)
theorem light_one (A : Option Addr) (c : Nat) (ss : List ByteArray) : lightV [(A, c, ss)] = if ss.all vR = false then 1 else if 6000 < ss.length * nmax (ss.map digS) then 3 else 0 := by
  have h1 : ltN [(A, c, ss)] = ss.length := by
    unfold ltN
    simp only [List.map_cons, List.map_nil, nmax_cons]
    show max ss.length 0 = _
    omega
  have h2 : ltD [(A, c, ss)] = nmax (ss.map digS) := by
    unfold ltD
    simp only [List.map_cons, List.map_nil, nmax_cons]
    show max _ 0 = _
    omega
  have h3 : ltV [(A, c, ss)] = ss.all vR := by unfold ltV; simp only [List.all_cons, List.all_nil, Bool.and_true]
  unfold lightV
  rw [h1, h2, h3]
theorem light_two (A A' : Option Addr) (c c' : Nat) (ss ts : List ByteArray) (h : ss.length = ts.length) : lightV [(A, c, ss), (A', c', ts)] = if ¬ (ss.all vR = true ∧ ts.all vR = true) then 1 else if 6000 < ss.length * mostS ss ts then 3 else 0 := by
  have h1 : ltN [(A, c, ss), (A', c', ts)] = ss.length := by
    unfold ltN
    simp only [List.map_cons, List.map_nil, nmax_cons]
    show max ss.length (max ts.length 0) = _
    omega
  have h2 : ltD [(A, c, ss), (A', c', ts)] = mostS ss ts := by
    rw [mostS_eq h]
    unfold ltD
    simp only [List.map_cons, List.map_nil, nmax_cons]
    show max _ (max _ 0) = _
    omega
  unfold lightV
  rw [h1, h2]
  have h3 : ltV [(A, c, ss), (A', c', ts)] = (ss.all vR && ts.all vR) := by simp [ltV]
  rw [h3]
  by_cases hx : ss.all vR = true ∧ ts.all vR = true
  · rw [hx.1, hx.2]; simp
  · rw [if_pos hx, if_pos]
    cases e1 : ss.all vR <;> cases e2 : ts.all vR <;> simp_all
/-- The text 1. -/
def one1 : ByteArray := ⟨#[49]⟩
theorem one_rstr : one1 = rstr 1 := by rw [rstr_whole (show (1 : Rat).den = 1 from rfl)]; exact str_1.symm
theorem one_fitsQ : FitsR 1 := ⟨fits_small (by decide), fits_small (by decide)⟩
theorem one_vR : vR one1 = true := by rw [one_rstr]; exact vR_rstr one_fitsQ
theorem one_val : valS one1 = 1 := by rw [one_rstr]; exact valS_rstr one_fitsQ
theorem one_dig : digS one1 = 1 := by
  rw [digS_val one_vR, one_val]
  unfold digR
  show max (Lib.nDigits 1) (Lib.nDigits 1) = 1
  rw [Lib.nDigits_small (by decide)]
  rfl
theorem prods_ones (ss : List ByteArray) : prods ss (List.replicate ss.length one1) = ss.map valS := by
  unfold prods
  induction ss with
  | nil => rfl
  | cons s ss ih =>
    rw [List.length_cons, List.replicate_succ, List.zipWith_cons_cons, ih, List.map_cons, one_val, Rat.mul_one]
theorem nmax_ones (n : Nat) : nmax ((List.replicate n one1).map digS) ≤ 1 := nmax_le (by
  intro x hx
  obtain ⟨s, hs, rfl⟩ := List.mem_map.1 hx
  rw [(List.mem_replicate.1 hs).2, one_dig]
  exact Nat.le_refl _)
theorem most_ones {ss : List ByteArray} (hv : ss.all vR = true) : mostS ss (List.replicate ss.length one1) = nmax (ss.map digS) := by
  rw [mostS_eq (by simp)]
  have h1 := nmax_ones ss.length
  cases ss with
  | nil => rfl
  | cons s ss =>
    have h2 : 1 ≤ digS s := digS_pos (List.all_eq_true.1 hv s (by simp))
    rw [List.map_cons, nmax_cons] at *
    omega
theorem dot_ones (ss : List ByteArray) : dotV ss (List.replicate ss.length one1) = sumV ss := by
  unfold dotV sumV
  rw [if_neg (by simp)]
  have h1 : (List.replicate ss.length one1).all vR = true := by
    rw [List.all_eq_true]
    intro x hx
    rw [(List.mem_replicate.1 hx).2]
    exact one_vR
  cases hv : ss.all vR
  · simp
  · rw [h1, if_neg (show ¬ ¬ (true = true ∧ true = true) by simp), if_neg (show ¬ (true = false) by simp), most_ones hv]
    unfold dotS
    rw [prods_ones]
    rfl

end Go.Proofs.YtecklmdlmldpgaaGreatDoor
