import Derived.Test.YtajlojhklhlljaaGreatDoorZMG
import Derived.Test.YtajlojhklhlljaaGreatDoorZMF
import Derived.Test.YtajlojhklhlljaaGreatDoorZMA
import Derived.Test.YtajlojhklhlljaaGreatDoorZO
import Derived.Test.YtajlojhklhlljaaGreatDoorZMB
set_option maxHeartbeats 16000000
set_option maxRecDepth 100000
set_option linter.unusedVariables false
set_option linter.unusedSimpArgs false
set_option linter.unusedSectionVars false
namespace Go.Proofs.YtajlojhklhlljaaGreatDoor
open Go.RowKit
def nd (z : Int) : Nat := Lib.nDigits z.natAbs
def mxRow (f : Nat → Nat) (a : Nat) : Nat → Nat
 | 0 => a
 | k + 1 => max (mxRow f a k) (f k)
def mxTab (f : Nat → Nat → Nat) (n a : Nat) : Nat → Nat
 | 0 => a
 | i + 1 => mxRow (f i) (mxTab f n a i) n
def digT (D : Int) (P : Nat → Nat → Int) (m n : Nat) : Nat := mxTab (fun i k => nd (P i k)) n (nd D) m
theorem mxRow_le {f : Nat → Nat} {a b : Nat} (ha : a ≤ b) : ∀ {n}, (∀ k, k < n → f k ≤ b) → mxRow f a n ≤ b
 | 0, _ => ha
 | n + 1, h => Nat.max_le.2 ⟨mxRow_le ha fun k hk => h k (by omega), h n (by omega)⟩
theorem mxTab_le {f : Nat → Nat → Nat} {n a b : Nat} (ha : a ≤ b) : ∀ {m}, (∀ i k, i < m → k < n → f i k ≤ b) → mxTab f n a m ≤ b
 | 0, _ => ha
 | m + 1, h => mxRow_le (mxTab_le ha fun i k hi hk => h i k (by omega) hk) fun k hk => h m k (by omega) hk
theorem digits_any (dv : NumV) (A : Option Addr) (c n : Nat) (rows : List RowN) (P : Nat → Nat → Int) (D : Int) (w : World) (h : TabR w A rows n P) (hd : IsNum w dv.val D) (hLD : LL D ≤ 100000) (hL : ∀ i k, i < rows.length → LL (P i k) ≤ 100000) (hm1 : 1 ≤ rows.length) (hm : rows.length ≤ 1000) (hn1 : 1 ≤ n) (hn : n ≤ 1000) (henv : Env w) :
  Calls Tryz.prog 150 #[.agg #[.bool dv.nb, .slice dv.ad dv.l dv.c, .slice A rows.length c]] w fun e w' => e = .returned (.int .i64 (digT D P rows.length n : Nat)) ∧ Below w.heap.size w w' := by
 obtain ⟨b, off, rfl, -⟩ := h.o (by intro e; rw [List.map_eq_nil_iff] at e; subst e; simp at hm1)
 have HT := Lib.hid h
 have HL := Lib.hid hL
 have HE := Lib.hid henv
 have HDT := Lib.hid (show digT D P rows.length n = mxTab (fun i k => nd (P i k)) n (nd D) rows.length from rfl)
 obtain ⟨f, hf⟩ : ∃ f, (fun i k => nd (P i k)) = f := ⟨_, rfl⟩
 rw [hf] at HDT
 have HF := Lib.hid (fun i k => (show nd (P i k) = f i k by rw [← hf]))
 obtain ⟨dT, hdT⟩ : ∃ dT, digT D P rows.length n = dT := ⟨_, rfl⟩
 rw [hdT] at HDT ⊢
 clear hdT hf
 have HB1 := Lib.hid ((Below.refl w.heap.size w).alloc (Nat.le_refl _) (.cells #[.bool dv.nb, .slice dv.ad dv.l dv.c, .slice (some ⟨b, off, none⟩) rows.length c] 84))
 have HD := Lib.hid (Digits_any (.agg #[.bool dv.nb, .slice dv.ad dv.l dv.c]) D _ (show IsNum _ _ D from hd.below HB1.out) (by unfold LL at hLD; omega) (henv.below HB1.out).tab)
 have hbk := Blk.new w 84 [.bool dv.nb, .slice dv.ad dv.l dv.c, .slice (some ⟨b, off, none⟩) rows.length c]
 clear h hL hd henv
 go_enter Tryz.func150, Tryz.ntmps150
 go_wp2_with fail
 refine HD.out.mono ?_
 rintro e w2 ⟨rfl, hb2⟩
 have k2 := (hbk.below hb2).at_ (i := 2) rfl
 have HB2 := Lib.hid (HB1.out.trans (hb2.mono HB1.out.size))
 have E0 := Lib.hid (show (Lib.nDigits D.natAbs : Nat) = mxTab f n (nd D) 0 from rfl)
 generalize Lib.nDigits D.natAbs = a0 at *
 clear hbk hb2
 go_wp2_with fail
 clear k2
 go_loopw [3, 14] (fun v iv wr => ∃ i x : Nat, iv = .int .i64 (i : Int) ∧ i ≤ rows.length ∧ v = .int .i64 (x : Int) ∧ x = mxTab f n (nd D) i ∧ Below w.heap.size w wr) (fun _ iv _ => rows.length - (intOf iv).toNat)
 case atStart => exact ⟨0, a0, rfl, Nat.zero_le _, rfl, E0.out, HB2.out⟩
 case round =>
  obtain ⟨i, x, rfl, hi, rfl, hx, hb⟩ := hrel
  obtain ⟨wi, rfl⟩ : ∃ wi : World, wi = wr := ⟨_, rfl⟩
  have HX := Lib.hid hx
  have HB := Lib.hid hb
  clear hx hb
  by_cases hlt : i < rows.length
  ·have ht := HT.out.below HB.out
   have hci := ht.o.at_ (i := i) (List.getElem?_eq_getElem (by simpa using hlt))
   simp only [List.getElem_map, RowN.val] at hci
   have HRR := Lib.hid (HT.out.r _ (List.getElem_mem hlt))
   have HRL := Lib.hid (HT.out.l _ (List.getElem_mem hlt))
   have HRN := Lib.hid (HT.out.num i hlt)
   have HLI := Lib.hid (fun k => HL.out i k hlt)
   generalize rows[i] = r at *
   obtain ⟨g, cg, us⟩ := r
   have hx1 : (0 : Int) ≤ (i : Int) := by omega
   have hx2 : (i : Int) < (rows.length : Int) := by omega
   clear ht
   simp only at hci
   go_wp2_with fail
   clear hci
   go_loopw [3, 20] (fun v jv wr => ∃ k y : Nat, jv = .int .i64 (k : Int) ∧ k ≤ n ∧ v = .int .i64 (y : Int) ∧ y = mxRow (f i) (mxTab f n (nd D) i) k ∧ Below w.heap.size w wr) (fun _ jv _ => n - (intOf jv).toNat)
   case atStart => exact ⟨0, x, rfl, Nat.zero_le _, rfl, HX.out, HB.out⟩
   case round =>
    obtain ⟨k, y, rfl, hk, rfl, hy, hb⟩ := hrel
    obtain ⟨wq, rfl⟩ : ∃ wq : World, wq = wr := ⟨_, rfl⟩
    have HY := Lib.hid hy
    have HBq := Lib.hid hb
    clear hy
    by_cases hlt2 : k < n
    ·have hku : k < us.length := by have h9 : us.length = n := HRL.out; omega
     have hrr := HRR.out.below HBq.out
     have e0 := hrr.at_ (numc_get hku).1
     have e1 := hrr.at_ (numc_get hku).2
     rw [Nat.zero_add] at e0 e1
     have hnu : IsNum w us[k].val (P i k) := HRN.out k hku
     have HPK := Lib.hid (HF.out i k)
     have hlk := HLI.out k
     generalize us[k] = u at *
     generalize P i k = z at *
     have HBa := Lib.hid (HBq.out.alloc HBq.out.size (.cells #[.bool u.nb, .slice u.ad u.l u.c] 81))
     have HDK := Lib.hid (Digits_any (.agg #[.bool u.nb, .slice u.ad u.l u.c]) z _ (show IsNum _ _ z from hnu.below HBa.out) (by unfold LL at hlk; omega) (HE.out.below HBa.out).tab)
     have hx3 : (0 : Int) ≤ (k : Int) := by omega
     have hx4 : (k : Int) < (n : Int) := by omega
     clear hrr hnu hku hb
     go_wp2_with fail
     refine HDK.out.mono ?_
     rintro e w5 ⟨rfl, hb5⟩
     have HB5 := Lib.hid (HBa.out.trans (hb5.mono HBa.out.size))
     have HM := Lib.hid (show max y (Lib.nDigits z.natAbs) = mxRow (f i) (mxTab f n (nd D) i) (k + 1) by
      show _ = max (mxRow (f i) (mxTab f n (nd D) i) k) (f i k)
      rw [← HY.out, ← HPK.out]
      rfl)
     generalize Lib.nDigits z.natAbs = dz at *
     clear hb5
     go_wp2_with fail
     go_roundw
     case rel => exact ⟨k + 1, max y dz, by go_num, by omega, by rw [show ((max y dz : Nat) : Int) = max (y : Int) (dz : Int) by omega], HM.out, HB5.out⟩
     case measure => simp [intOf]; omega
    ·obtain rfl : n = k := by omega
     go_wp2_with fail
     go_roundw
     case rel => exact ⟨i + 1, y, by go_num, by omega, rfl, HY.out, HBq.out⟩
     case measure => simp [intOf]; omega
  ·obtain rfl : i = rows.length := by omega
   have E := Lib.hid (HX.out.trans HDT.out.symm)
   go_wp2_with fail
   go_ret
   exact ⟨by first | rfl | (rw [E.out]; rfl), HB.out⟩
end Go.Proofs.YtajlojhklhlljaaGreatDoor
namespace Go.Proofs.YtajlojhklhlljaaGreatDoor
open Go.RowKit
theorem nDigits_lt : ∀ (k n : Nat), n < 10 ^ (k + 1) → Lib.nDigits n ≤ k + 1
 | 0, n, h => by rw [Lib.nDigits_small (by simpa using h)]; exact Nat.le_refl _
 | k + 1, n, h => by
  by_cases h1 : n < 10
  ·rw [Lib.nDigits_small h1]; omega
  ·rw [Lib.nDigits_big h1]
   have := nDigits_lt k (n / 10) (by rw [Nat.div_lt_iff_lt_mul (by decide)]; rw [Nat.pow_succ] at h; exact h)
   omega
theorem lt_nDigits : ∀ (k n : Nat), n < 10 ^ k → n < 10 ^ Lib.nDigits n
 | 0, n, h => by
  have : n = 0 := by simpa using h
  subst this
  exact Nat.pow_pos (by decide)
 | k + 1, n, h => by
  by_cases h1 : n < 10
  ·rw [Lib.nDigits_small h1]; simpa using h1
  ·rw [Lib.nDigits_big h1, Nat.pow_succ]
   have := lt_nDigits k (n / 10) (by rw [Nat.div_lt_iff_lt_mul (by decide)]; rw [Nat.pow_succ] at h; exact h)
   rw [Nat.div_lt_iff_lt_mul (by decide)] at this
   exact this
theorem lt_pow_self (n : Nat) : n < 10 ^ n := Nat.lt_pow_self (by decide)
theorem nd_LL (z : Int) : nd z ≤ 9 * LL z + 1 := by
 unfold nd
 refine nDigits_lt (9 * LL z) z.natAbs ?_
 have h := limbs_lt z.natAbs
 have e : (1000000000 : Nat) ^ (limbs z.natAbs).length = 10 ^ (9 * LL z) := by rw [Nat.pow_mul]; rfl
 rw [e] at h
 exact Nat.lt_of_lt_of_le h (Nat.pow_le_pow_right (by decide) (by omega))
theorem LL_nd {z : Int} {k : Nat} (h : nd z ≤ 9 * k) : LL z ≤ k := by
 unfold LL
 refine limbs_length_le ?_
 have h1 := lt_nDigits z.natAbs z.natAbs (lt_pow_self _)
 have h2 : (1000000000 : Nat) ^ k = 10 ^ (9 * k) := by rw [Nat.pow_mul]
 rw [h2]
 exact Nat.lt_of_lt_of_le h1 (Nat.pow_le_pow_right (by decide) h)
theorem dig_nd {z : Int} {k : Nat} (h : Dig (k + 1) z) : nd z ≤ k + 1 := nDigits_lt k z.natAbs h
theorem matP_LL {rs : List RowT} {n : Nat} (hf : FineM rs n) (i k : Nat) : LL (matP rs i k) ≤ 7145 := by
 have h1 := matD_LL hf
 have h2 := (matQ_sz rs i k).1
 have h3 := LL_mul (matQ rs i k).num (matD rs / ((matQ rs i k).den : Int))
 have h4 := LL_ediv (matD rs) ((matQ rs i k).den : Int)
 have h5 : LL (matQ rs i k).num ≤ 45 := h2
 show LL ((matQ rs i k).num * (matD rs / ((matQ rs i k).den : Int))) ≤ 7145
 omega
noncomputable def heft (rs : List RowT) (n : Nat) : Nat := max rs.length n * digT (matD rs) (matP rs) rs.length n
theorem digT_LL {D : Int} {P : Nat → Nat → Int} {m n k : Nat} (hD : LL D ≤ k) (hP : ∀ i j, i < m → j < n → LL (P i j) ≤ k) : digT D P m n ≤ 9 * k + 1 := by
 refine mxTab_le ?_ fun i j hi hj => ?_
 ·have := nd_LL D; omega
 ·have := nd_LL (P i j)
  have := hP i j hi hj
  show nd (P i j) ≤ _
  omega
theorem Heavy_any (A : Option Addr) (c n : Nat) (rs : List RowT) (w : World) (h : MatIn w A rs) (hf : FineM rs n) (hm1 : 1 ≤ rs.length) (hn1 : 1 ≤ n) (henv : Env w) :
  Calls Tryz.prog 73 #[.slice A rs.length c] w fun e w' => e = .returned (.bool (decide (600 < heft rs n))) ∧ Below w.heap.size w w' := by
 obtain ⟨b, off, rfl, -⟩ := h.o (by intro e; have := rowt_length rs; rw [e] at this; simp at this; omega)
 have hc0 := h.o.at_ (rowt_get (i := 0) (by omega))
 rw [Nat.add_zero, hf.row _ (List.getElem_mem (by omega))] at hc0
 have HO := Lib.hid (Of_any _ c n rs w h hf hm1 hn1 henv)
 have HDT := Lib.hid (digT_LL (k := 7145) (Nat.le_trans (matD_LL hf) (by decide)) (fun i j (_ : i < rs.length) (_ : j < n) => matP_LL hf i j))
 have hmx := hf.m
 have hnx := hf.n12
 have HH := Lib.hid (show heft rs n = max rs.length n * digT (matD rs) (matP rs) rs.length n from rfl)
 have HE := Lib.hid henv
 have HL1 := Lib.hid (matD_LL hf)
 have HL2 := Lib.hid (fun i k (_ : i < rs.length) => matP_LL hf i k)
 generalize heft rs n = hh at *
 generalize matD rs = D at *
 generalize matP rs = P at *
 generalize rs[0].ad = a0 at *
 generalize rs[0].cp = c0 at *
 clear h hf henv
 have hd : decide ((rs.length : Int) > 0) = true := by simp; omega
 have hmax : max (rs.length : Int) (n : Int) = ((max rs.length n : Nat) : Int) := by omega
 go_enter Tryz.func73, Tryz.ntmps73
 go_wp2_with fail
 refine HO.out.mono ?_
 rintro e w2 ⟨R, cR, rows, dv, rfl, hl, ht, -, -, hd2, hb⟩
 have HB := Lib.hid hb
 rw [← hl] at ht
 have HDG := Lib.hid (digits_any dv _ cR n rows P D w2 ht.read hd2 (Nat.le_trans HL1.out (by decide)) (fun i k hi => Nat.le_trans (HL2.out i k (by omega)) (by decide)) (by omega) (by omega) hn1 (by omega) (HE.out.below hb))
 have HLN := Lib.hid hl
 rw [hl] at HDG
 clear ht hd2 hb hl
 go_wp2_with fail
 refine HDG.out.mono ?_
 rintro e w3 ⟨rfl, hb3⟩
 have HB3 := Lib.hid (HB.out.trans (hb3.mono HB.out.size))
 have hdt := HDT.out
 generalize digT D P rs.length n = dt at *
 clear hb3
 have hmul : max rs.length n * dt ≤ 12 * (9 * 7145 + 1) := Nat.mul_le_mul (by omega) hdt
 have hmul2 : ((max rs.length n : Nat) : Int) * (dt : Int) = (hh : Int) := by rw [HH.out, Int.natCast_mul]
 have hh2 : hh ≤ 12 * (9 * 7145 + 1) := by rw [HH.out]; exact hmul
 have hw : wrap64 (((max rs.length n : Nat) : Int) * (dt : Int)) = (hh : Int) := by rw [hmul2]; unfold wrap64; omega
 clear hmul hmul2
 go_wp2_with fail
 go_ret
 refine ⟨?_, HB3.out⟩
 congr 2
 simp
 omega
end Go.Proofs.YtajlojhklhlljaaGreatDoor
namespace Go.Proofs.YtajlojhklhlljaaGreatDoor
open Go.RowKit
theorem mxRow_ge {f : Nat → Nat} {a : Nat} : ∀ {n}, a ≤ mxRow f a n ∧ ∀ k, k < n → f k ≤ mxRow f a n
 | 0 => ⟨Nat.le_refl _, fun k hk => by omega⟩
 | n + 1 => by
  obtain ⟨h1, h2⟩ := mxRow_ge (f := f) (a := a) (n := n)
  refine ⟨Nat.le_trans h1 (Nat.le_max_left _ _), fun k hk => ?_⟩
  rcases Nat.lt_or_ge k n with h | h
  ·exact Nat.le_trans (h2 k h) (Nat.le_max_left _ _)
  ·obtain rfl : k = n := by omega
   exact Nat.le_max_right _ _
theorem mxTab_ge {f : Nat → Nat → Nat} {n a : Nat} : ∀ {m}, a ≤ mxTab f n a m ∧ ∀ i k, i < m → k < n → f i k ≤ mxTab f n a m
 | 0 => ⟨Nat.le_refl _, fun i k hi => by omega⟩
 | m + 1 => by
  obtain ⟨h1, h2⟩ := mxTab_ge (f := f) (n := n) (a := a) (m := m)
  obtain ⟨h3, h4⟩ := mxRow_ge (f := f m) (a := mxTab f n a m) (n := n)
  refine ⟨Nat.le_trans h1 h3, fun i k hi hk => ?_⟩
  rcases Nat.lt_or_ge i m with h | h
  ·exact Nat.le_trans (h2 i k h hk) h3
  ·obtain rfl : i = m := by omega
   exact h4 k hk
theorem matQ_out {rs : List RowT} {n : Nat} (hf : FineM rs n) {i k : Nat} (hk : n ≤ k) : matQ rs i k = 0 := by
 unfold matQ
 rw [List.getD_eq_getElem?_getD]
 have : ((matL rs).getD i []).length ≤ n := by
  rw [List.getD_eq_getElem?_getD]
  rcases h2 : (matL rs)[i]? with _ | l
  ·simp
  ·obtain ⟨r, hr, rfl⟩ := List.mem_map.1 (List.mem_of_getElem? h2)
   have := hf.row r hr
   simp
   omega
 rw [List.getElem?_eq_none (by omega)]
 rfl
theorem light_LL {rs : List RowT} {n : Nat} (hf : FineM rs n) (hm1 : 1 ≤ rs.length) (h : heft rs n ≤ 600) : ∀ i k, i < rs.length → LL (matP rs i k) ≤ 70 := fun i k hi => by
 rcases Nat.lt_or_ge k n with hk | hk
 ·have h1 := (mxTab_ge (f := fun i k => nd (matP rs i k)) (n := n) (a := nd (matD rs)) (m := rs.length)).2 i k hi hk
  have h2 : digT (matD rs) (matP rs) rs.length n ≤ heft rs n := by
   unfold heft
   have : 1 ≤ max rs.length n := by omega
   exact Nat.le_mul_of_pos_left _ this
  have h3 : nd (matP rs i k) ≤ 9 * 67 := Nat.le_trans h1 (Nat.le_trans h2 (by omega))
  exact Nat.le_trans (LL_nd h3) (by decide)
 ·have : matP rs i k = 0 := by
   show (matQ rs i k).num * _ = 0
   rw [matQ_out hf hk]
   exact Int.zero_mul _
  rw [this]
  show (limbs 0).length ≤ 70
  rw [limbs_zero]
  decide
theorem light_D {rs : List RowT} {n : Nat} (hm1 : 1 ≤ rs.length) (h : heft rs n ≤ 600) : LL (matD rs) ≤ 70 := by
 have h1 := (mxTab_ge (f := fun i k => nd (matP rs i k)) (n := n) (a := nd (matD rs)) (m := rs.length)).1
 have h2 : digT (matD rs) (matP rs) rs.length n ≤ heft rs n := by
  unfold heft
  have : 1 ≤ max rs.length n := by omega
  exact Nat.le_mul_of_pos_left _ this
 have h3 : nd (matD rs) ≤ 9 * 67 := Nat.le_trans h1 (Nat.le_trans h2 (by omega))
 exact Nat.le_trans (LL_nd h3) (by decide)
theorem mat_cell {rs : List RowT} {n : Nat} (hf : FineM rs n) {i k : Nat} (hi : i < rs.length) (hk : k < n) : ((matP rs i k : Int) : Rat) = matD rs * matQ rs i k := by
 have hr : rs[i].ss.length = n := hf.row _ (List.getElem_mem hi)
 refine celN_eq (denM_mem (matL rs) 1 (rs[i].ss.map valS) _ (List.mem_map.2 ⟨_, List.getElem_mem hi, rfl⟩) ?_)
 rw [matQ_at hi (by omega)]
 exact List.mem_map.2 ⟨_, List.getElem_mem _, rfl⟩
theorem det_eli {rs : List RowT} (hf : FineM rs rs.length) : det rs.length (matQ rs) = if (eli rs.length (matP rs) rs.length).ps.length = rs.length then ((if (eli rs.length (matP rs) rs.length).odd then -1 else 1) * ((eli rs.length (matP rs) rs.length).v : Rat)) / (matD rs : Rat) ^ rs.length else 0 := by
 obtain ⟨F, hg, -⟩ := eli_gau rs.length (matP rs) rs.length
 have h1 := hg.det_
 have h2 : det rs.length (fun i k => ((matP rs i k : Int) : Rat)) = (matD rs : Rat) ^ rs.length * det rs.length (matQ rs) := by
  rw [← det_scale]
  exact (det_alt rs.length).ext _ _ fun r c hr hc => mat_cell hf hr hc
 rw [h2] at h1
 have hD : (matD rs : Rat) ≠ 0 := fun e => by have := matD_pos rs; rw [Rat.intCast_eq_zero_iff] at e; omega
 have hDm : (matD rs : Rat) ^ rs.length ≠ 0 := by
  generalize rs.length = m
  induction m with
  | zero => rw [Rat.pow_zero]; decide
  | succ m ih => rw [Rat.pow_succ]; grind
 generalize (matD rs : Rat) ^ rs.length = x at *
 generalize det rs.length (matQ rs) = d at *
 split
 ·rename_i e
  rw [if_pos e] at h1
  rw [← h1]
  grind
 ·rename_i e
  rw [if_neg e] at h1
  grind
theorem IsNum.over {w : World} {v : Value} {z : Int} {p : Addr} {u : Value} (h : IsNum w v z) (hc : w.cell? p = some u) (hu : ∀ z, u ≠ .int .u64 z) (x : Value) : IsNum (w.setCell p x) v z := by
 obtain ⟨s, e, A, c, e2, hl, hx⟩ := h
 refine ⟨s, e, A, c, e2, hl, fun hne => ?_⟩
 obtain ⟨b, off, rfl, hb, hcell⟩ := hx hne
 refine ⟨b, off, rfl, by simpa using hb, fun i hi => ?_⟩
 rw [World.cell?_setCell_other]
 ·exact hcell i hi
 ·intro e3
  have h1 := hcell i hi
  rw [← e3, hc] at h1
  injection h1 with h1
  exact hu _ h1
structure TwoB (w : World) (g h : Nat) (v u : NumV) : Prop where
 a0 : w.cell? ⟨g, 0, none⟩ = some (.bool v.nb)
 a1 : w.cell? ⟨g, 1, none⟩ = some (.slice v.ad v.l v.c)
 b0 : w.cell? ⟨h, 0, none⟩ = some (.bool u.nb)
 b1 : w.cell? ⟨h, 1, none⟩ = some (.slice u.ad u.l u.c)
 fa0 : w.frozen? ⟨g, 0, none⟩ = false
 fa1 : w.frozen? ⟨g, 1, none⟩ = false
 fb0 : w.frozen? ⟨h, 0, none⟩ = false
 fb1 : w.frozen? ⟨h, 1, none⟩ = false
 ne : g ≠ h
theorem TwoB.below {w w' : World} {g h : Nat} {v u : NumV} (k : TwoB w g h v u) (hb : Below w.heap.size w w') : TwoB w' g h v u :=
 ⟨(hb.cell (World.block_lt_of_cell? _ _ k.a0)).trans k.a0, (hb.cell (World.block_lt_of_cell? _ _ k.a1)).trans k.a1, (hb.cell (World.block_lt_of_cell? _ _ k.b0)).trans k.b0, (hb.cell (World.block_lt_of_cell? _ _ k.b1)).trans k.b1,
  (hb.frozen (World.block_lt_of_cell? _ _ k.a0)).trans k.fa0, (hb.frozen (World.block_lt_of_cell? _ _ k.a1)).trans k.fa1, (hb.frozen (World.block_lt_of_cell? _ _ k.b0)).trans k.fb0, (hb.frozen (World.block_lt_of_cell? _ _ k.b1)).trans k.fb1, k.ne⟩
end Go.Proofs.YtajlojhklhlljaaGreatDoor
namespace Go.Proofs.YtajlojhklhlljaaGreatDoor
theorem dig_zero : DigR 1 0 := ⟨by unfold Dig; decide, by unfold Dig; decide⟩
theorem dig_one : DigR 1 1 := ⟨by unfold Dig; decide, by unfold Dig; decide⟩
theorem sgD_dig (i : Nat) : DigR 1 (sgD i) := by
 unfold sgD
 split
 ·exact dig_one
 ·exact ⟨by unfold Dig; decide, by unfold Dig; decide⟩
theorem sumR_dig {b : Nat} : ∀ {n : Nat} {f : Nat → Rat}, (∀ i, i < n → DigR b (f i)) → DigR (1 + n * (b + 1)) (sumR n f)
 | 0, _, _ => by rw [Nat.zero_mul]; exact dig_zero
 | n + 1, _, h => (sumR_dig (n := n) fun i hi => h i (by omega)).add (h n (by omega)) rfl (by rw [Nat.succ_mul]; omega)
def detDig (k : Nat) : Nat → Nat
 | 0 => 1
 | n + 1 => 1 + (n + 1) * (1 + k + detDig k n + 1)
theorem det_dig {k : Nat} : ∀ {n : Nat} {M : Nat → Nat → Rat}, (∀ r c, r < n → c < n → DigR k (M r c)) → DigR (detDig k n) (det n M)
 | 0, _, _ => dig_one
 | n + 1, M, h => sumR_dig fun i hi => ((sgD_dig i).mul (h i 0 hi (by omega)) rfl rfl).mul (det_dig (n := n) (M := mnr M i) fun r c hr hc => h _ _ (by unfold skp; split <;> omega) (by omega)) rfl rfl
theorem lcmI_dig {a b : Nat} {x y : Int} (h : Dig a x) (k : Dig b y) : Dig (a + b) (lcmI x y) := by
 have h1 : Dig a (x / ((x.gcd y : Nat) : Int)) := Nat.lt_of_le_of_lt (Int.natAbs_ediv_le_natAbs x _) h
 exact h1.mul k rfl rfl
theorem denL_dig {k : Nat} : ∀ {l : List Rat} {a : Nat} {d : Int}, Dig a d → (∀ q ∈ l, DigR k q) → Dig (a + l.length * k) (denL d l)
 | [], _, _, h, _ => by simpa [denL] using h
 | q :: l, a, d, h, hq => by
  have := denL_dig (l := l) (lcmI_dig h (hq q (by simp)).2) fun x hx => hq x (by simp [hx])
  rw [show a + (q :: l).length * k = a + k + l.length * k by rw [List.length_cons, Nat.succ_mul]; omega]
  exact this
theorem denM_dig {k n : Nat} : ∀ {m : List (List Rat)} {a : Nat} {d : Int}, Dig a d → (∀ l ∈ m, l.length ≤ n ∧ ∀ q ∈ l, DigR k q) → Dig (a + m.length * (n * k)) (denM d m)
 | [], _, _, h, _ => by simpa [denM] using h
 | l :: m, a, d, h, hl => by
  obtain ⟨h1, h2⟩ := hl l (by simp)
  have h3 := (denL_dig h h2).mono (b := a + n * k) (Nat.add_le_add_left (Nat.mul_le_mul_right k h1) a)
  have := denM_dig (m := m) h3 fun x hx => hl x (by simp [hx])
  rw [show a + (l :: m).length * (n * k) = a + n * k + m.length * (n * k) by rw [List.length_cons, Nat.succ_mul]; omega]
  exact this
theorem celN_dig {a k : Nat} {d : Int} {q : Rat} (h : Dig a d) (hq : DigR k q) : Dig (k + a) (celN d q) := by
 have h1 : Dig a (d / (q.den : Int)) := Nat.lt_of_le_of_lt (Int.natAbs_ediv_le_natAbs d _) h
 exact hq.1.mul h1 rfl rfl
end Go.Proofs.YtajlojhklhlljaaGreatDoor
namespace Go.Proofs.YtajlojhklhlljaaGreatDoor
open Go.RowKit
theorem two_rel {W0 w2 W : World} {a b : Nat} {v u : NumV} {q : Int} (KP : Kp W0.heap.size w2 W) (k : TwoB W a b v u) (hn : IsNum w2 u.val q) (hB : Below W0.heap.size W0 w2) (ha : W0.heap.size ≤ a) (hb : W0.heap.size ≤ b) :
  ∃ (g7 g8 : Nat) (u : NumV), (Value.pointer (some ⟨a, 0, none⟩)) = .pointer (some ⟨g7, 0, none⟩) ∧ (Value.pointer (some ⟨b, 0, none⟩)) = .pointer (some ⟨g8, 0, none⟩) ∧ TwoB W g7 g8 v u ∧ IsNum W u.val q ∧ W0.heap.size ≤ g7 ∧ W0.heap.size ≤ g8 ∧ Below W0.heap.size W0 W :=
 ⟨a, b, u, rfl, rfl, k, KP.num hn, ha, hb, hB.trans KP.bel⟩
theorem s2_alloc {W : World} {p1 p2 : Addr} {a b : Value} (h : W.cell? p1 = some a ∧ W.cell? p2 = some b) (o : Obj) : (W.alloc o).cell? p1 = some a ∧ (W.alloc o).cell? p2 = some b := by
 have hb : Below W.heap.size W (W.alloc o) := (Below.refl _ _).alloc (Nat.le_refl _) o
 exact ⟨(hb.cell (World.block_lt_of_cell? _ _ h.1)).trans h.1, (hb.cell (World.block_lt_of_cell? _ _ h.2)).trans h.2⟩
theorem LL_pow {D : Int} (h : LL D ≤ 70) : ∀ i, LL (D ^ i) ≤ 70 * (i + 1)
 | 0 => by rw [Int.pow_zero]; exact LL_one
 | i + 1 => by
  have := LL_pow h i
  have h2 := LL_mul (D ^ i) D
  rw [Int.pow_succ]
  omega
theorem pow_ne {D : Int} (h : 0 < D) : ∀ i : Nat, D ^ i ≠ 0
 | 0 => by rw [Int.pow_zero]; decide
 | i + 1 => by rw [Int.pow_succ]; exact Int.mul_ne_zero (pow_ne h i) (by omega)
theorem num_no' {u : NumV} : (∀ z, (Value.bool u.nb) ≠ .int .u64 z) ∧ ∀ z, (Value.slice u.ad u.l u.c) ≠ .int .u64 z := ⟨fun z e => (by cases e), fun z e => (by cases e)⟩
theorem TwoB.num8 {w : World} {g h : Nat} {v u : NumV} (k : TwoB w g h v u) (x : NumV) {y : Value} {z : Int} (hn : IsNum w y z) : IsNum ((w.setCell ⟨h, 0, none⟩ (.bool x.nb)).setCell ⟨h, 1, none⟩ (.slice x.ad x.l x.c)) y z :=
 (hn.over k.b0 num_no'.1 _).over (u := .slice u.ad u.l u.c) (by rw [World.cell?_setCell_other _ _ _ _ (by simp)]; exact k.b1) num_no'.2 _
theorem TwoB.num7 {w : World} {g h : Nat} {v u : NumV} (k : TwoB w g h v u) (x : NumV) {y : Value} {z : Int} (hn : IsNum w y z) : IsNum ((w.setCell ⟨g, 0, none⟩ (.bool x.nb)).setCell ⟨g, 1, none⟩ (.slice x.ad x.l x.c)) y z :=
 (hn.over k.a0 num_no'.1 _).over (u := .slice v.ad v.l v.c) (by rw [World.cell?_setCell_other _ _ _ _ (by simp)]; exact k.a1) num_no'.2 _
theorem TwoB.put8 {w : World} {g h : Nat} {v u : NumV} (k : TwoB w g h v u) (x : NumV) : TwoB ((w.setCell ⟨h, 0, none⟩ (.bool x.nb)).setCell ⟨h, 1, none⟩ (.slice x.ad x.l x.c)) g h v x := by
 obtain ⟨a0, a1, b0, b1, fa0, fa1, fb0, fb1, ne⟩ := k
 have ne2 := Ne.symm ne
 exact ⟨by go_simp, by go_simp, by go_simp, by go_simp, by go_simp, by go_simp, by go_simp, by go_simp, ne⟩
noncomputable def detS (rs : List RowT) : ByteArray := if 600 < heft rs rs.length then ⟨#[]⟩ else outR (det rs.length (matQ rs))
noncomputable def detE (rs : List RowT) : Int := if 600 < heft rs rs.length then 3 else outRE (det rs.length (matQ rs))
theorem fits0 : FitsR 0 := dig_zero.fits (by decide) (by decide)
theorem detS_zero {rs : List RowT} (hf : FineM rs rs.length) (hl : ¬ 600 < heft rs rs.length) (h : (eli rs.length (matP rs) rs.length).ps.length ≠ rs.length) : detS rs = ⟨#[48]⟩ ∧ detE rs = 0 := by
 unfold detS detE
 rw [if_neg hl, if_neg hl, det_eli hf, if_neg h, outR_fits fits0, outRE_fits fits0, rstr_zero]
 exact ⟨rfl, rfl⟩
theorem detS_some {rs : List RowT} (hf : FineM rs rs.length) (hl : ¬ 600 < heft rs rs.length) (h : (eli rs.length (matP rs) rs.length).ps.length = rs.length) {z : Int} (hz : z = if (eli rs.length (matP rs) rs.length).odd then -(eli rs.length (matP rs) rs.length).v else (eli rs.length (matP rs) rs.length).v) {d : Int} (hd : d = (matD rs) ^ rs.length) : detS rs = outR (Rat.divInt z d) ∧ detE rs = outRE (Rat.divInt z d) := by
 have e : det rs.length (matQ rs) = Rat.divInt z d := by
  rw [det_eli hf, if_pos h, Rat.divInt_eq_div, hd, hz]
  rw [Rat.intCast_pow]
  split <;> simp [Rat.neg_mul, Rat.one_mul]
 unfold detS detE
 rw [if_neg hl, if_neg hl, e]
 exact ⟨rfl, rfl⟩
theorem Determinant_any (A : Option Addr) (c : Nat) (rs : List RowT) (w : World) (h : MatIn w A rs) (hf : FineM rs rs.length) (hm1 : 1 ≤ rs.length) (henv : Env w) :
  Calls Tryz.prog 18 #[.slice A rs.length c] w fun e w' => e = .returned (.tuple #[.string (detS rs), .int .i64 (detE rs)]) ∧ Below w.heap.size w w' := by
 have HM := Lib.hid h
 have HF := Lib.hid hf
 have HE := Lib.hid henv
 have hm12 := hf.m
 have HSQ := Lib.hid (square_ok A rs c w h hf henv)
 obtain ⟨dS, hdS⟩ : ∃ dS, detS rs = dS := ⟨_, rfl⟩
 obtain ⟨dE, hdE⟩ : ∃ dE, detE rs = dE := ⟨_, rfl⟩
 rw [hdS, hdE]
 have HDS := Lib.hid hdS
 have HDE := Lib.hid hdE
 clear h hf henv hdS hdE
 go_enter Tryz.func18, Tryz.ntmps18
 go_wp2_with fail
 refine HSQ.out.mono ?_
 rintro e w1 ⟨rfl, hb1⟩
 have HB1 := Lib.hid hb1
 have HHV := Heavy_any A c rs.length rs w1 (HM.out.below hb1) HF.out hm1 hm1 (HE.out.below hb1)
 clear hb1
 by_cases hh : 600 < heft rs rs.length
 ·rw [show decide (600 < heft rs rs.length) = true from by simpa using hh] at HHV
  replace HHV := Lib.hid HHV
  have HH := Lib.hid hh
  clear hh
  go_wp2_with fail
  refine HHV.out.mono ?_
  rintro e w2 ⟨rfl, hb2⟩
  have HB2 := Lib.hid (HB1.out.trans (hb2.mono HB1.out.size))
  clear hb2
  go_wp2_with fail
  go_ret2
  exact ⟨by rw [← HDS.out, ← HDE.out]; unfold detS detE; rw [if_pos HH.out, if_pos HH.out]; rfl, HB2.out⟩
 ·rw [show decide (600 < heft rs rs.length) = false from by simpa using hh] at HHV
  replace HHV := Lib.hid HHV
  have HH := Lib.hid hh
  clear hh
  go_wp2_with fail
  refine HHV.out.mono ?_
  rintro e w2 ⟨rfl, hb2⟩
  have HB2 := Lib.hid (HB1.out.trans (hb2.mono HB1.out.size))
  have HOF := Lib.hid (Of_any A c rs.length rs w2 (HM.out.below HB2.out) HF.out hm1 hm1 (HE.out.below HB2.out))
  clear hb2
  go_wp2_with fail
  refine HOF.out.mono ?_
  rintro e w3 ⟨R, cR, rows, dv, rfl, hl, ht, -, -, hd3, hb3⟩
  have HB3 := Lib.hid (HB2.out.trans (hb3.mono HB2.out.size))
  have HB5 := Lib.hid (HB3.out.alloc HB3.out.size (.cells #[.bool dv.nb, .slice dv.ad dv.l dv.c, .slice (some ⟨R, 0, none⟩) rs.length cR] 84))
  have HT5 := Lib.hid (Blk.new w3 84 [.bool dv.nb, .slice dv.ad dv.l dv.c, .slice (some ⟨R, 0, none⟩) rs.length cR])
  have HD5 := Lib.hid (hd3.below ((Below.refl _ _).alloc (Nat.le_refl _) (.cells #[.bool dv.nb, .slice dv.ad dv.l dv.c, .slice (some ⟨R, 0, none⟩) rs.length cR] 84)))
  replace ht : TabN w2.heap.size w3 (.slice (some ⟨R, 0, none⟩) rows.length cR) rows rs.length (matP rs) := by rw [hl]; exact ht
  have HRD := Reduce_any _ cR rs.length rs.length rows (matP rs) _ (ht.read.below ((Below.refl _ _).alloc (Nat.le_refl _) (.cells #[.bool dv.nb, .slice dv.ad dv.l dv.c, .slice (some ⟨R, 0, none⟩) rs.length cR] 84))) (by omega) (by omega) hm1 (by omega) (Nat.le_refl _) (fun i k hi => light_LL HF.out hm1 (Nat.le_of_not_lt HH.out) i k (by omega))
  rw [hl] at HRD
  replace HRD := Lib.hid HRD
  clear ht hd3 hb3 hl
  go_wp2_with fail
  refine HRD.out.mono ?_
  rintro e w4 ⟨R4, cR4, rows4, pv, v, rfl, hl4, hrr, hb4⟩
  have HD4 := Lib.hid (HD5.out.below hb4)
  have HT4 := Lib.hid (HT5.out.below hb4)
  have HB4 := Lib.hid (HB5.out.trans (hb4.mono HB5.out.size))
  have HV4 := Lib.hid hrr.val
  obtain ⟨Ap, cp, rfl, -⟩ := ownForm hrr.pvt
  have HSZ := Lib.hid (fun hps z hz d hd => detS_some HF.out HH.out hps (z := z) hz (d := d) hd)
  have HSN := Lib.hid (fun hps => detS_zero HF.out HH.out hps)
  have HEL := Lib.hid (eli_len (m := rs.length) (fun i k hi => light_LL HF.out hm1 (Nat.le_of_not_lt HH.out) i k hi) LL_one rs.length)
  generalize eli rs.length (matP rs) rs.length = s at *
  clear hb4 hrr hl4 HD5 HT5 HRD
  obtain ⟨pl, hpl⟩ : ∃ pl, s.ps.length = pl := ⟨_, rfl⟩
  obtain ⟨od, hod⟩ : ∃ od, s.odd = od := ⟨_, rfl⟩
  rw [hpl] at HSN HSZ HEL
  rw [hod] at HSZ
  rw [hpl, hod]
  clear hpl hod
  have HB6 := Lib.hid (HB4.out.alloc HB4.out.size (.cells #[.slice (some ⟨R4, 0, none⟩) rs.length cR4, .slice Ap pl cp, .bool v.nb, .slice v.ad v.l v.c, .bool od] 87))
  have HT6 := Lib.hid (Blk.new w4 87 [.slice (some ⟨R4, 0, none⟩) rs.length cR4, .slice Ap pl cp, .bool v.nb, .slice v.ad v.l v.c, .bool od])
  have HT56 := Lib.hid (HT4.out.alloc (.cells #[.slice (some ⟨R4, 0, none⟩) rs.length cR4, .slice Ap pl cp, .bool v.nb, .slice v.ad v.l v.c, .bool od] 87))
  have HD6 := Lib.hid (HD4.out.below ((Below.refl _ _).alloc (Nat.le_refl _) (.cells #[.slice (some ⟨R4, 0, none⟩) rs.length cR4, .slice Ap pl cp, .bool v.nb, .slice v.ad v.l v.c, .bool od] 87)))
  have HV6 := Lib.hid (HV4.out.below ((Below.refl _ _).alloc (Nat.le_refl _) (.cells #[.slice (some ⟨R4, 0, none⟩) rs.length cR4, .slice Ap pl cp, .bool v.nb, .slice v.ad v.l v.c, .bool od] 87)))
  have hpm : pl ≤ rs.length := HEL.out.2.2
  by_cases hlt : pl < rs.length
  ·have HS0 := Lib.hid (HSN.out (by omega))
   have hx : (pl : Int) < (rs.length : Int) := by omega
   go_wp2_with fail
   go_ret2
   exact ⟨by rw [← HDS.out, ← HDE.out, HS0.out.1, HS0.out.2]; rfl, HB6.out⟩
  ·have hx : ¬ (pl : Int) < (rs.length : Int) := by omega
   go_upto_region 10 with (fail)
   generalize (w4.alloc (.cells #[.slice (some ⟨R4, 0, none⟩) rs.length cR4, .slice Ap pl cp, .bool v.nb, .slice v.ad v.l v.c, .bool od] 87)) = W at *
   generalize w4.heap.size = y at *
   generalize w3.heap.size = x at *
   have k2 := HT6.out.at_ (i := 2) rfl
   have k3 := HT6.out.at_ (i := 3) rfl
   have hyW := HT6.out.lt
   have KB := Lib.hid (fun W' (hW : Below W.heap.size W W') => (show W'.cell? ⟨y, 2, none⟩ = some (.bool v.nb) ∧ W'.cell? ⟨y, 3, none⟩ = some (.slice v.ad v.l v.c) from ⟨(hW.cell (World.block_lt_of_cell? _ _ k2)).trans k2, (hW.cell (World.block_lt_of_cell? _ _ k3)).trans k3⟩))
   go_cut [7, 8] (fun p7 p8 wc => ∃ (g7 g8 : Nat) (u : NumV), p7 = .pointer (some ⟨g7, 0, none⟩) ∧ p8 = .pointer (some ⟨g8, 0, none⟩) ∧ TwoB wc g7 g8 v u ∧ IsNum wc u.val 1 ∧ W.heap.size ≤ g7 ∧ W.heap.size ≤ g8 ∧ Below W.heap.size W wc)
   case first =>
    have KS0 : Hid (W.drew.cell? ⟨y, 2, none⟩ = some (.bool v.nb) ∧ W.drew.cell? ⟨y, 3, none⟩ = some (.slice v.ad v.l v.c)) := Lib.hid ⟨k2, k3⟩
    have nx00 : ¬ (y = W.heap.size) := (by omega); have nx01 : ¬ (W.heap.size = y) := (by omega); have nx02 : ¬ (y = W.heap.size + 1) := (by omega); have nx03 : ¬ (W.heap.size + 1 = y) := (by omega); skip
    have ng0 := World.new_ne W ⟨y, 2, none⟩ k2
    go_region_held3 (fun w' => w'.cell? ⟨y, 2, none⟩ = some (.bool v.nb) ∧ w'.cell? ⟨y, 3, none⟩ = some (.slice v.ad v.l v.c)) (first | with_reducible exact KS0.out | with_reducible exact KS5.out | (with_reducible refine s2_alloc ?_ _; assumption) | go_keep) (first | (go_at_call 76; (with_reducible refine (LOf_one _).mono ?_); rintro e w5 ⟨v5, rfl, hv, hb⟩; have HV5 := Lib.hid hv; have hbw : Below W.heap.size W w5 := Below.trans (by first | with_reducible exact Below.refl _ _ | with_reducible exact (Below.refl _ _).drew | with_reducible exact (Below.refl _ _).alloc (Nat.le_refl _) _ | with_reducible exact ((Below.refl _ _).alloc (Nat.le_refl _) _).alloc (by simp) _ | with_reducible exact ((Below.refl _ _).alloc (Nat.le_refl _) _).drew | with_reducible exact (((Below.refl _ _).alloc (Nat.le_refl _) _).alloc (by simp) _).drew) (hb.mono (by first | exact Nat.le_refl _ | (simp; done) | (simp; omega))); have HW5 := Lib.hid hbw; have KS5 := Lib.hid (KB.out w5 hbw); have sz5 := hbw.size; (first | (have za1 := ((Blk.new W 81 [.bool false, .slice none 0 0]).alloc (.cells #[.bool false, .slice none 0 0] 81)).below (Below.trans (by first | exact Below.refl _ _ | exact (Below.refl _ _).drew) (hb.mono (by first | exact Nat.le_refl _ | (simp; done) | (simp; omega)))); have zb1 := (Blk.new' (w := W.alloc (.cells #[.bool false, .slice none 0 0] 81)) (g := W.heap.size + 1) (by simp) 81 [.bool false, .slice none 0 0]).below (Below.trans (by first | exact Below.refl _ _ | exact (Below.refl _ _).drew) (hb.mono (by first | exact Nat.le_refl _ | (simp; done) | (simp; omega)))); have za10 := za1.at_ (i := 0) rfl; have za11 := za1.at_ (i := 1) rfl; have zb10 := zb1.at_ (i := 0) rfl; have zb11 := zb1.at_ (i := 1) rfl; have ya10 := za1.fr 0; have ya11 := za1.fr 1; have yb10 := zb1.fr 0; have yb11 := zb1.fr 1; have sa1 := za1.lt; have sb1 := zb1.lt; have ZA1 := Lib.hid za1; have ZB1 := Lib.hid zb1; clear za1 zb1) | (have za1 := (Blk.new W 81 [.bool false, .slice none 0 0]).below (Below.trans (by first | exact Below.refl _ _ | exact (Below.refl _ _).drew) (hb.mono (by first | exact Nat.le_refl _ | (simp; done) | (simp; omega)))); have za10 := za1.at_ (i := 0) rfl; have za11 := za1.at_ (i := 1) rfl; have ya10 := za1.fr 0; have ya11 := za1.fr 1; have sa1 := za1.lt; have ZA1 := Lib.hid za1; clear za1) | skip); obtain ⟨x2, X2, y2, z2, rfl⟩ := hv.slice; obtain ⟨q0, q1⟩ := KB.out w5 hbw; have nx50 : ¬ (y = w5.heap.size) := (by omega); have nx51 : ¬ (w5.heap.size = y) := (by omega); have nx52 : ¬ (y = w5.heap.size + 1) := (by omega); have nx53 : ¬ (w5.heap.size + 1 = y) := (by omega); clear hv hb hbw))
    all_goals go_wp2_with fail
    all_goals go_meet
    all_goals
     have hz5 := HW5.out.size
     refine two_rel (w2 := w5) (v := v) (u := ⟨x2, X2, y2, z2⟩) ?_ ⟨by go_simp, by go_simp, by go_simp, by go_simp, by go_simp, by go_simp, by go_simp, by go_simp, by omega⟩ HV5.out HW5.out (by omega) (by omega)
     repeat' first
      | with_reducible exact Kp.refl _ _
      | (with_reducible refine Kp.set ?_ (by omega) (by first | exact .inl (by omega) | with_reducible exact .inr ZA1.out | with_reducible exact .inr ZB1.out) _ _)
      | (with_reducible refine Kp.alloc ?_ (by omega) _)
      | (with_reducible refine Kp.drew ?_)
   case rest =>
    obtain ⟨g7, g8, u0, rfl, rfl, htb, hu, hg7, hg8, hbc⟩ := hcut
    have HTB := Lib.hid htb
    have HU := Lib.hid hu
    have HBC := Lib.hid hbc
    clear htb hu hbc k2 k3
    have HLD := Lib.hid (light_D hm1 (Nat.le_of_not_lt HH.out))
    go_wp2_with fail
    go_loopw [34] (fun iv wr => ∃ (i : Nat) (u : NumV), iv = .int .i64 (i : Int) ∧ i ≤ rs.length ∧ TwoB wr g7 g8 v u ∧ IsNum wr u.val (matD rs ^ i) ∧ Below W.heap.size W wr) (fun iv _ => rs.length - (intOf iv).toNat)
    case atStart => exact ⟨0, u0, rfl, Nat.zero_le _, HTB.out, by rw [Int.pow_zero]; exact HU.out, HBC.out⟩
    case round =>
     obtain ⟨i, u, rfl, hi, htb, hu, hbc⟩ := hrel
     have HTr := Lib.hid htb
     have HUr := Lib.hid (show IsNum wr (.agg #[.bool u.nb, .slice u.ad u.l u.c]) (matD rs ^ i) from hu)
     have HBr := Lib.hid hbc
     have b0 := htb.b0
     have b1 := htb.b1
     have hpl2 := LL_pow HLD.out i
     have ht5 := HT56.out.below hbc
     have x0 := ht5.at_ (i := 0) rfl
     have x1 := ht5.at_ (i := 1) rfl
     have HDr := Lib.hid (show IsNum wr (.agg #[.bool dv.nb, .slice dv.ad dv.l dv.c]) (matD rs) from HD6.out.below hbc)
     by_cases hlt2 : i < rs.length
     ·clear htb hu hbc ht5
      have hld := HLD.out
      unfold LL at hpl2 hld
      go_wp2_with fail
      refine (Mul_any _ _ (matD rs ^ i) (matD rs) _ HUr.out HDr.out (by omega) (by omega)).mono ?_
      rintro e w7 ⟨v7, rfl, hv, hb⟩
      have htw := HTr.out.below hb
      have HTw := Lib.hid htw
      have HVw := Lib.hid hv
      have HBw := Lib.hid (HBr.out.trans (hb.mono HBr.out.size))
      have c0 := htw.b0
      have c1 := htw.b1
      have f0 := htw.fb0
      have f1 := htw.fb1
      obtain ⟨xa, Xa, ya, za, rfl⟩ := hv.slice
      clear hv hb htw b0 b1 x0 x1
      go_wp2_with fail
      go_roundw
      case rel => exact ⟨i + 1, ⟨xa, Xa, ya, za⟩, by go_num, by omega, HTw.out.put8 ⟨xa, Xa, ya, za⟩, by rw [Int.pow_succ]; exact HTw.out.num8 ⟨xa, Xa, ya, za⟩ HVw.out, (HBw.out.setCell (p := ⟨g8, 0, none⟩) hg8 _).setCell (p := ⟨g8, 1, none⟩) hg8 _⟩
      case measure => simp [intOf]; omega
     ·obtain rfl : i = rs.length := by omega
      have hps : pl = rs.length := by omega
      have a0 := htb.a0
      have a1 := htb.a1
      have fa0 := htb.fa0
      have fa1 := htb.fa1
      have k4 := (HT6.out.below hbc).at_ (i := 4) rfl
      have HBf0 := Lib.hid (HB6.out.trans (hbc.mono HB6.out.size))
      have HVr := Lib.hid (show IsNum wr (.agg #[.bool v.nb, .slice v.ad v.l v.c]) s.v from HV6.out.below hbc)
      have hdl : (limbs (matD rs ^ rs.length).natAbs).length ≤ 910 := by have h9 := hpl2; unfold LL at h9; omega
      have hvl : (limbs s.v.natAbs).length ≤ 300000 := by
       have h9 := Nat.le_trans HEL.out.2.1 (grw_le (Nat.le_refl _) (by omega))
       exact h9
      have hdz := pow_ne (matD_pos rs) rs.length
      have HG7 := Lib.hid (show w.heap.size ≤ g7 by have := HB6.out.size; omega)
      have HPS := Lib.hid hps
      clear htb hu hbc ht5 x0 x1 hpl2 hps
      cases od
      ·have HRES := Lib.hid (HSZ.out HPS.out s.v rfl _ rfl)
       have hzl := hvl
       have HBf := HBf0
       have HUf := HUr
       go_wp2_with fail
       refine (New_num _ _ s.v (matD rs ^ rs.length) _ HVr.out (HUf.out) (by omega) (by omega) hdz).mono ?_
       rintro e wf ⟨vf, rfl, hvf, hbf⟩
       have HFF := Lib.hid (FFits_any vf _ wf hvf (Sz.divInt hdz (Nat.le_trans hzl (by decide)) (Nat.le_trans hdl (by decide))) (HE.out.below (HBf.out.trans (hbf.mono HBf.out.size))))
       have HBg := Lib.hid (HBf.out.trans (hbf.mono HBf.out.size))
       obtain ⟨fa, fb, FA, FA', fl, fc, fl', fc', rfl⟩ := hvf.slice
       clear hvf hbf
       go_wp2_with fail
       refine HFF.out.mono ?_
       rintro e wg ⟨rfl, hbg⟩
       have HBh := Lib.hid (HBg.out.trans (hbg.mono HBg.out.size))
       clear hbg
       go_wp2_with fail
       go_ret2
       exact ⟨by rw [← HDS.out, ← HDE.out, HRES.out.1, HRES.out.2]; rfl, HBh.out⟩
      ·have HRES := Lib.hid (HSZ.out HPS.out (-s.v) rfl _ rfl)
       have hzl : (limbs (-s.v).natAbs).length ≤ 300000 := by rw [Int.natAbs_neg]; exact hvl
       go_wp2_with fail
       refine (Neg_any _ s.v _ HVr.out (by omega)).mono ?_
       rintro e w7 ⟨v7, rfl, hv, hb⟩
       have htw := HTr.out.below hb
       have c0 := htw.a0
       have c1 := htw.a1
       have c2 := htw.b0
       have c3 := htw.b1
       have f0 := htw.fa0
       have f1 := htw.fa1
       have hne := htw.ne
       have hne2 := Ne.symm htw.ne
       obtain ⟨xa, Xa, ya, za, rfl⟩ := hv.slice
       have HVn := Lib.hid (htw.num7 ⟨xa, Xa, ya, za⟩ hv)
       have HUf := Lib.hid (htw.num7 ⟨xa, Xa, ya, za⟩ (HUr.out.below hb))
       have HBf := Lib.hid (((HBf0.out.trans (hb.mono HBf0.out.size)).setCell (p := ⟨g7, 0, none⟩) HG7.out (.bool xa)).setCell (p := ⟨g7, 1, none⟩) HG7.out (.slice Xa ya za))
       clear hv hb htw a0 a1 b0 b1 fa0 fa1
       go_wp2_with fail
       refine (New_num _ _ (-s.v) (matD rs ^ rs.length) _ HVn.out (HUf.out) (by omega) (by omega) hdz).mono ?_
       rintro e wf ⟨vf, rfl, hvf, hbf⟩
       have HFF := Lib.hid (FFits_any vf _ wf hvf (Sz.divInt hdz (Nat.le_trans hzl (by decide)) (Nat.le_trans hdl (by decide))) (HE.out.below (HBf.out.trans (hbf.mono HBf.out.size))))
       have HBg := Lib.hid (HBf.out.trans (hbf.mono HBf.out.size))
       obtain ⟨fa, fb, FA, FA', fl, fc, fl', fc', rfl⟩ := hvf.slice
       clear hvf hbf
       go_wp2_with fail
       refine HFF.out.mono ?_
       rintro e wg ⟨rfl, hbg⟩
       have HBh := Lib.hid (HBg.out.trans (hbg.mono HBg.out.size))
       clear hbg
       go_wp2_with fail
       go_ret2
       exact ⟨by rw [← HDS.out, ← HDE.out, HRES.out.1, HRES.out.2]; rfl, HBh.out⟩
end Go.Proofs.YtajlojhklhlljaaGreatDoor
namespace Go.Proofs.YtajlojhklhlljaaGreatDoor
open Go.RowKit
theorem sv_append (a b : List ByteArray) : sv (a ++ b) = sv a ++ sv b := by simp [sv]
def RetTexts (w : World) (qs : List Rat) (e : Ending) (w' : World) : Prop :=
 (∃ A c, (∀ q ∈ qs, FitsR q) ∧ e = .returned (.tuple #[.slice A qs.length c, .int .i64 0]) ∧ Strs w' A (qs.map rstr) ∧ Below w.heap.size w w') ∨
 ((∃ q ∈ qs, ¬ FitsR q) ∧ e = .returned (.tuple #[.slice none 0 0, .int .i64 3]) ∧ Below w.heap.size w w')
theorem Texts_any (A : Option Addr) (us : List FrV) (qs : List Rat) (c : Nat) (w : World) (hr : ∀ i, (h : i < us.length) → ∃ b off, A = some ⟨b, off, none⟩ ∧ b < w.heap.size ∧ w.cell? ⟨b, off + i * 4, none⟩ = some (.bool us[i].na) ∧ w.cell? ⟨b, off + i * 4 + 1, none⟩ = some (.slice us[i].A us[i].l us[i].c) ∧ w.cell? ⟨b, off + i * 4 + 2, none⟩ = some (.bool us[i].nb) ∧ w.cell? ⟨b, off + i * 4 + 3, none⟩ = some (.slice us[i].A' us[i].l' us[i].c'))
  (hq : IsFracs w us qs) (hl : us.length ≤ 1000) (hs : ∀ q ∈ qs, Sz 5000000 q) (henv : Env w) : Calls Tryz.prog 97 #[.slice A us.length c] w (RetTexts w qs) := by
 obtain ⟨i0, hi, hz0, hz1, hz2⟩ := info_parts Tryz.infoRat
 have HR := Lib.hid hr
 have HQ := Lib.hid hq
 have HS := Lib.hid hs
 have HE := Lib.hid henv
 have HLEN := Lib.hid hq.1
 clear hr hq hs henv
 go_enter Tryz.func97, Tryz.ntmps97
 go_wp2_with fail
 go_loopw [4, 11] (fun v iv wr => ∃ k : Nat, iv = .int .i64 (k : Int) ∧ k ≤ us.length ∧ (∀ q ∈ qs.take k, FitsR q) ∧ wr.ownsRow w.heap.size 29 1 v k (sv ((qs.take k).map rstr)) ∧ Below w.heap.size w wr) (fun _ iv _ => us.length - (intOf iv).toNat)
 case atStart => exact ⟨0, rfl, Nat.zero_le _, (fun q hq => by simp at hq), World.ownsRow_nil _ _ _ _, Below.refl _ _⟩
 case round =>
  obtain ⟨k, rfl, hk, hall, hown, hb⟩ := hrel
  have HALL := Lib.hid hall
  have HOWN := Lib.hid hown
  have HB := Lib.hid hb
  have hsz := hb.size
  clear hall hown hb
  by_cases hlt : k < us.length
  ·have hlq : k < qs.length := by have := HLEN.out; omega
   obtain ⟨b, off, rfl, hbb, h0, h1, h2, h3⟩ := HR.out k hlt
   have c0 := (HB.out.cell (p := ⟨b, off + k * 4, none⟩) hbb).trans h0
   have c1 := (HB.out.cell (p := ⟨b, off + k * 4 + 1, none⟩) hbb).trans h1
   have c2 := (HB.out.cell (p := ⟨b, off + k * 4 + 2, none⟩) hbb).trans h2
   have c3 := (HB.out.cell (p := ⟨b, off + k * 4 + 3, none⟩) hbb).trans h3
   have HF := Lib.hid ((HQ.out.2 k hlt hlq).below HB.out)
   have sz := HS.out _ (List.getElem_mem hlq)
   have ET := Lib.hid (show qs.take (k + 1) = qs.take k ++ [qs[k]] from List.take_succ_eq_append_getElem hlq)
   have HMEM := Lib.hid (List.getElem_mem hlq)
   generalize qs[k] = q at *
   generalize us[k] = u at *
   obtain ⟨na, A1, l1, c1', nb, A2, l2, c2'⟩ := u
   simp only [FrV.val] at c0 c1 c2 c3 HF
   clear h0 h1 h2 h3
   go_wp2_with fail
   have HW := Lib.hid (HF.out.below ((Below.refl _ _).alloc (Nat.le_refl _) (.cells #[.bool na, .slice A1 l1 c1', .bool nb, .slice A2 l2 c2'] 93)))
   by_cases hfit : FitsR q
   ·have HFT := Lib.hid (FFits_any _ q _ HW.out sz ((HE.out.below HB.out).below ((Below.refl _ _).alloc (Nat.le_refl _) _)))
    rw [outR_fits hfit, outRE_fits hfit] at HFT
    have HFI := Lib.hid hfit
    clear hfit sz
    refine HFT.out.mono ?_
    rintro e w2 ⟨rfl, hb2⟩
    have HO2 := Lib.hid (own_belowF (HOWN.out.alloc _) hb2)
    have HB2 := Lib.hid (HB.out.trans (((Below.refl w.heap.size wr).alloc hsz _).trans (hb2.mono (by simp; omega))))
    have hsz2 := HB2.out.size
    clear hb2 c0 c1 c2 c3
    go_wp2_with (at_builtin; refine wpList_append_own _ rfl _ _ 33 rfl w.heap.size 29 i0 (.string ⟨#[]⟩) 1 16 Tryz.underlying33 hi hz0 hz1 hz2 rfl (by decide) _ _ _ rfl (HO2.out.alloc _) ⟨w2.heap.size, 0, none⟩ 1 1 [_] rfl rfl one_new one_str (by unfold maxLen; omega) (by omega) (by simp; omega) ?_)
    intro v' w3 hown3 hgrow3 _
    have HO3 := Lib.hid hown3
    have HB3 := Lib.hid ((HB2.out.alloc hsz2 _).grown hgrow3 (by simp; omega) (fun g hg => (HO2.out.lt g hg).1))
    clear hown3 hgrow3
    go_wp2_with fail
    go_roundw
    case rel => exact ⟨k + 1, by go_num, by omega, (fun p hp => by
     rw [ET.out, List.mem_append, List.mem_singleton] at hp
     rcases hp with hp | rfl
     ·exact HALL.out p hp
     ·exact HFI.out), by rw [ET.out, List.map_append, sv_append]; first | exact HO3.out | (rw [List.map_take]; exact HO3.out), HB3.out⟩
    case measure => simp [intOf]; omega
   ·have HFT := Lib.hid (FFits_any _ q _ HW.out sz ((HE.out.below HB.out).below ((Below.refl _ _).alloc (Nat.le_refl _) _)))
    rw [outR_not hfit, outRE_not hfit] at HFT
    have HFI := Lib.hid hfit
    clear hfit sz
    refine HFT.out.mono ?_
    rintro e w2 ⟨rfl, hb2⟩
    have HB2 := Lib.hid (HB.out.trans (((Below.refl w.heap.size wr).alloc hsz _).trans (hb2.mono (by simp; omega))))
    clear hb2 c0 c1 c2 c3
    go_wp2_with fail
    go_ret2
    exact .inr ⟨⟨q, HMEM.out, HFI.out⟩, rfl, HB2.out⟩
  ·obtain rfl : k = us.length := by omega
   have ho := HOWN.out
   rw [List.take_of_length_le (by have := HLEN.out; omega)] at ho
   obtain ⟨A9, c9, rfl, -, hst, -⟩ := own_strs (show wr.ownsRow w.heap.size 29 1 u4 (qs.map rstr).length (sv (qs.map rstr)) by rw [List.length_map, ← HLEN.out]; exact ho)
   have HST := Lib.hid hst
   have HA := Lib.hid HALL.out
   rw [List.take_of_length_le (by have := HLEN.out; omega)] at HA
   clear hst ho
   rw [List.length_map]
   go_wp2_with fail
   go_ret2
   exact .inl ⟨A9, c9, HA.out, rfl, HST.out, HB.out⟩
end Go.Proofs.YtajlojhklhlljaaGreatDoor
