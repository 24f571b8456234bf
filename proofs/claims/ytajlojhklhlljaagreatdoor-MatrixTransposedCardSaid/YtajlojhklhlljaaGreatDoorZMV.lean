import Derived.Test.YtajlojhklhlljaaGreatDoorZMU
import Derived.Test.YtajlojhklhlljaaGreatDoorZMJ
import Derived.Test.YtajlojhklhlljaaGreatDoorZMS
set_option maxHeartbeats 16000000
set_option maxRecDepth 100000
set_option linter.unusedVariables false
set_option linter.unusedSimpArgs false
set_option linter.unusedSectionVars false
namespace Go.Proofs.YtajlojhklhlljaaGreatDoor
def besM (n : Nat) (A B : Nat → Nat → Rat) : Nat → Nat → Rat := fun i k => if k < n then A i k else B i (k - n)
theorem besM_l {n : Nat} {A B : Nat → Nat → Rat} {i k : Nat} (h : k < n) : besM n A B i k = A i k := if_pos h
theorem besM_r {n : Nat} {A B : Nat → Nat → Rat} {i k : Nat} : besM n A B i (n + k) = B i k := by
 unfold besM
 rw [if_neg (by omega), Nat.add_sub_cancel_left]
section
variable {n r : Nat} {A B F : Nat → Nat → Rat} {ps : Nat → Nat} {v : Rat} {odd : Bool}
theorem Gau.beside (h : Gau n (besM n A B) n F ps r v odd) (hr : r = n) : ∀ i k, i < n → mulM n A (fun j k => F j (n + k)) i k = B i k := fun i k hi => by
 have := h.solves hr (n + k) i hi
 rw [besM_r] at this
 rw [← this]
 exact sumR_congr fun j hj => by rw [besM_l hj]
end
theorem inv_only {n : Nat} {A X Y : Nat → Nat → Rat} (hX : ∀ i k, i < n → k < n → mulM n X A i k = idn i k) (hY : ∀ i k, i < n → k < n → mulM n A Y i k = idn i k) : ∀ i k, i < n → k < n → X i k = Y i k := fun i k hi hk => by
 rw [← mulM_idn_r n X i hk, mulM_congr (A' := X) (B' := mulM n A Y) (fun _ _ => rfl) (fun j hj => (hY j k hj hk).symm), ← mulM_assoc, mulM_congr (A' := idn) (B' := Y) (fun j hj => hX i j hi hj) (fun _ _ => rfl), mulM_idn n Y k hi]
def idnZ (i k : Nat) : Int := if i = k then 1 else 0
theorem idnZ_q (i k : Nat) : ((idnZ i k : Int) : Rat) = idn i k := by
 unfold idnZ idn
 split <;> rfl
theorem rinv_int {n : Nat} (A : Nat → Nat → Int) (hd : det n (fun i k => (A i k : Rat)) ≠ 0) : ∃ X : Nat → Nat → Rat, ∀ i k, i < n → k < n → mulM n (fun i k => (A i k : Rat)) X i k = idn i k := by
 obtain ⟨F, hg, -⟩ := eli_gau n (fun i k => if k < n then A i k else idnZ i (k - n)) n
 have e : (fun i k => (((if k < n then A i k else idnZ i (k - n)) : Int) : Rat)) = besM n (fun i k => (A i k : Rat)) idn := by
  funext i k
  unfold besM
  split
  ·rfl
  ·exact idnZ_q _ _
 rw [e] at hg
 have hr := hg.det_ne.2 (by
  rw [show det n (besM n (fun i k => (A i k : Rat)) idn) = det n (fun i k => (A i k : Rat)) from (det_alt n).ext _ _ fun i k _ hk => besM_l hk]
  exact hd)
 exact ⟨_, fun i k hi _ => hg.beside hr i k hi⟩
theorem linv_int {n : Nat} (A : Nat → Nat → Int) (hd : det n (fun i k => (A i k : Rat)) ≠ 0) : ∃ X : Nat → Nat → Rat, ∀ i k, i < n → k < n → mulM n X (fun i k => (A i k : Rat)) i k = idn i k := by
 obtain ⟨X, hX⟩ := rinv_int (n := n) (fun i k => A k i) (by
  have := det_trn n (fun i k => (A i k : Rat))
  unfold trn at this
  rw [this]
  exact hd)
 refine ⟨trn X, fun i k hi hk => ?_⟩
 have h := hX k i hk hi
 rw [← mulM_trn] at h
 have e : idn k i = idn i k := by
  unfold idn
  split <;> split <;> first | rfl | omega
 rw [e] at h
 exact h
end Go.Proofs.YtajlojhklhlljaaGreatDoor
namespace Go.Proofs.YtajlojhklhlljaaGreatDoor
open Go.RowKit
theorem cloIn (y ab x R4 cR4 rg rc i k n nn c : Nat) (A d1 v1 z1 : Option Addr) (d0 v0 z0 : Bool) (d2 d3 v2 v3 z2 z3 : Nat) (D sv z : Int) (w : World) (c0' : w.cell? ⟨y, 0, none⟩ = some (.slice (some ⟨R4, 0, none⟩) n cR4)) (c1' : w.cell? ⟨y, 2, none⟩ = some (.bool v0)) (c2' : w.cell? ⟨y, 3, none⟩ = some (.slice v1 v2 v3)) (c3' : w.cell? ⟨ab, 0, none⟩ = some (.slice A n c)) (c4' : w.cell? ⟨x, 0, none⟩ = some (.bool d0)) (c5' : w.cell? ⟨x, 1, none⟩ = some (.slice d1 d2 d3)) (c6' : w.cell? ⟨R4, i, none⟩ = some (.slice (some ⟨rg, 0, none⟩) nn rc)) (c7' : w.cell? ⟨rg, (n + k) * 2, none⟩ = some (.bool z0)) (c8' : w.cell? ⟨rg, (n + k) * 2 + 1, none⟩ = some (.slice z1 z2 z3)) (hv : IsNum w (.agg #[.bool v0, .slice v1 v2 v3]) sv) (hd : IsNum w (.agg #[.bool d0, .slice d1 d2 d3]) D) (hz : IsNum w (.agg #[.bool z0, .slice z1 z2 z3]) z) (hi : i < n) (hk : n + k < nn) (hnn : nn ≤ 1000) (hdz : sv ≠ 0) (hlz : LL z ≤ 300000) (hld : LL D ≤ 300000) (hlv : LL sv ≤ 300000) :
  Calls Tryz.prog 111 #[.int .i64 (i : Int), .int .i64 (k : Int), .pointer (some ⟨y, 0, none⟩), .pointer (some ⟨ab, 0, none⟩), .pointer (some ⟨x, 0, none⟩)] w (RetFrac w (Rat.divInt (z * D) sv)) := by
 have HZ := Lib.hid hz
 have HD := Lib.hid hd
 have HV := Lib.hid hv
 have hm1' := LL_mul z D
 unfold LL at hlz hld hlv hm1'
 have KB := Lib.hid (fun W' (hW : Below w.heap.size w W') => (show W'.cell? ⟨y, 0, none⟩ = some (.slice (some ⟨R4, 0, none⟩) n cR4) ∧ W'.cell? ⟨y, 2, none⟩ = some (.bool v0) ∧ W'.cell? ⟨y, 3, none⟩ = some (.slice v1 v2 v3) ∧ W'.cell? ⟨ab, 0, none⟩ = some (.slice A n c) ∧ W'.cell? ⟨x, 0, none⟩ = some (.bool d0) ∧ W'.cell? ⟨x, 1, none⟩ = some (.slice d1 d2 d3) ∧ W'.cell? ⟨R4, i, none⟩ = some (.slice (some ⟨rg, 0, none⟩) nn rc) ∧ W'.cell? ⟨rg, (n + k) * 2, none⟩ = some (.bool z0) ∧ W'.cell? ⟨rg, (n + k) * 2 + 1, none⟩ = some (.slice z1 z2 z3) from ⟨(hW.cell (World.block_lt_of_cell? _ _ c0')).trans c0', (hW.cell (World.block_lt_of_cell? _ _ c1')).trans c1', (hW.cell (World.block_lt_of_cell? _ _ c2')).trans c2', (hW.cell (World.block_lt_of_cell? _ _ c3')).trans c3', (hW.cell (World.block_lt_of_cell? _ _ c4')).trans c4', (hW.cell (World.block_lt_of_cell? _ _ c5')).trans c5', (hW.cell (World.block_lt_of_cell? _ _ c6')).trans c6', (hW.cell (World.block_lt_of_cell? _ _ c7')).trans c7', (hW.cell (World.block_lt_of_cell? _ _ c8')).trans c8'⟩))
 have hbl : Below w.heap.size w (w.alloc (.cells #[.bool false, .slice none 0 0, .bool false, .slice none 0 0] 93)).drew := ((Below.refl _ _).alloc (Nat.le_refl _) _).drew
 have HWz := Lib.hid hbl
 have HKz := Lib.hid (show Blk (w.alloc (.cells #[.bool false, .slice none 0 0, .bool false, .slice none 0 0] 93)).drew w.heap.size 93 (FrV.four ⟨false, none, 0, 0, false, none, 0, 0⟩) from (Blk.new w 93 (FrV.four ⟨false, none, 0, 0, false, none, 0, 0⟩)).below (Below.refl _ _).drew)
 have KSz := Lib.hid (KB.out _ hbl)
 have i1 : (0 : Int) ≤ (i : Int) := by omega
 have i2 : (i : Int) < (n : Int) := by omega
 have i3 : (0 : Int) ≤ (n : Int) + (k : Int) := by omega
 have i4 : (n : Int) + (k : Int) < (nn : Int) := by omega
 have i5 : ((n : Int) + (k : Int)).toNat = n + k := by omega
 have i6 : IntKind.i64.wrap ((n : Int) + (k : Int)) = (n : Int) + (k : Int) := IntWalk.i64_in _ (by omega)
 clear hz hd hv hbl c0' c1' c2' c3' c4' c5' c6' c7' c8'
 go_enter Tryz.func111, Tryz.ntmps111
 go_wp2_with fail
 refine wp_region_tail (S := (fun w' => w'.cell? ⟨y, 0, none⟩ = some (.slice (some ⟨R4, 0, none⟩) n cR4) ∧ w'.cell? ⟨y, 2, none⟩ = some (.bool v0) ∧ w'.cell? ⟨y, 3, none⟩ = some (.slice v1 v2 v3) ∧ w'.cell? ⟨ab, 0, none⟩ = some (.slice A n c) ∧ w'.cell? ⟨x, 0, none⟩ = some (.bool d0) ∧ w'.cell? ⟨x, 1, none⟩ = some (.slice d1 d2 d3) ∧ w'.cell? ⟨R4, i, none⟩ = some (.slice (some ⟨rg, 0, none⟩) nn rc) ∧ w'.cell? ⟨rg, (n + k) * 2, none⟩ = some (.bool z0) ∧ w'.cell? ⟨rg, (n + k) * 2 + 1, none⟩ = some (.slice z1 z2 z3))) 17 (by kernel_rfl) rfl (by kernel_rfl) (by kernel_rfl) rfl (by exact KSz.out) (fun hHeld => ?_)
 simp only [List.pop_toArray, List.dropLast_cons_cons, List.dropLast_singleton]
 refine tkH 0 hHeld ?_
 try simp only [Act.put, tkA, tkB, tkC]
 refine tkH 1 hHeld ?_
 try simp only [Act.put, tkA, tkB, tkC]
 refine tkH 2 hHeld ?_
 try simp only [Act.put, tkA, tkB, tkC]
 refine tkH 3 hHeld ?_
 try simp only [Act.put, tkA, tkB, tkC]
 refine tkH 4 hHeld ?_
 try simp only [Act.put, tkA, tkB, tkC]
 refine tkH 5 hHeld ?_
 try simp only [Act.put, tkA, tkB, tkC]
 refine tkH 6 hHeld ?_
 try simp only [Act.put, tkA, tkB, tkC]
 refine tkH 7 hHeld ?_
 try simp only [Act.put, tkA, tkB, tkC]
 refine tkH 8 hHeld ?_
 try simp only [Act.put, tkA, tkB, tkC]
 refine tkH 9 hHeld ?_
 try simp only [Act.put, tkA, tkB, tkC]
 refine tkH 10 hHeld ?_
 try simp only [Act.put, tkA, tkB, tkC]
 refine tkH 11 hHeld ?_
 try simp only [Act.put, tkA, tkB, tkC]
 refine tkH 12 hHeld ?_
 try simp only [Act.put, tkA, tkB, tkC]
 refine tkH 14 hHeld ?_
 try simp only [Act.put, tkA, tkB, tkC]
 refine tkH 15 hHeld ?_
 try simp only [Act.put, tkA, tkB, tkC]
 refine wpAnyH_ready (rs := [13]) (by kernel_rfl) (by simp) ?_
 refine AllReadyH.cons rfl (fun K hK => ?_) AllReadyH.nil
 go_simp
 (go_at_call 77; (with_reducible refine (Mul_any _ _ z D _ (HZ.out.below HWz.out) (HD.out.below HWz.out) (by omega) (by omega)).mono ?_); rintro e wa ⟨va, rfl, hv, hb⟩; have hw := HWz.out.trans (hb.mono HWz.out.size); have HWa := Lib.hid hw; have HKa := Lib.hid (HKz.out.below hb); have HVa := Lib.hid hv; obtain ⟨ma, Ma, la, ca, rfl⟩ := hv.slice; have KSa := Lib.hid (KB.out wa hw); clear hv hb hw)
 go_wp2_with fail
 refine hK.out _ _ ?_ (fun hHeld => ?_)
 ·first | exact KSa.out | exact KSb.out
 clear hK K
 try simp only [Act.put, tkA, tkB, tkC]
 refine wpAnyH_ready (rs := [16]) (by kernel_rfl) (by simp) ?_
 refine AllReadyH.cons rfl (fun K hK => ?_) AllReadyH.nil
 go_simp
 (go_at_call 79; (with_reducible refine (New_num _ _ (z * D) sv _ HVa.out (HV.out.below HWa.out) (by omega) (by omega) hdz).mono ?_); rintro e wb ⟨vb, rfl, hv, hb⟩; have hw := HWa.out.trans (hb.mono HWa.out.size); have HWb := Lib.hid hw; have HKb := Lib.hid (HKa.out.below hb); have HVb := Lib.hid hv; obtain ⟨rb0, rb4, rb1, rb5, rb2, rb3, rb6, rb7, rfl⟩ := hv.slice; have KSb := Lib.hid (KB.out wb hw); clear hv hb hw)
 go_wp2_with fail
 refine hK.out _ _ ?_ (fun hHeld => ?_)
 ·first | exact KSa.out | exact KSb.out
 clear hK K
 try simp only [Act.put, tkA, tkB, tkC]
 refine wpAnyH_done (by kernel_rfl) ?_ _
 simp only [tailQ, List.getElem_toArray, List.getElem_cons_succ, List.getElem_cons_zero]
 have hk2 := HKb.out
 have e0 := hk2.at_ (i := 0) rfl
 have e1 := hk2.at_ (i := 1) rfl
 have e2 := hk2.at_ (i := 2) rfl
 have e3 := hk2.at_ (i := 3) rfl
 have f0 := hk2.fr 0
 have f1 := hk2.fr 1
 have f2 := hk2.fr 2
 have f3 := hk2.fr 3
 clear hk2
 go_wp2_with fail
 clear e0 e1 e2 e3 f0 f1 f2 f3
 have hb4 := blk_set4 (v := ⟨rb0, rb1, rb2, rb3, rb4, rb5, rb6, rb7⟩) HKb.out
 have hf4 := frac_set4 HKb.out HVb.out ⟨rb0, rb1, rb2, rb3, rb4, rb5, rb6, rb7⟩
 have hB4 := bel_set4' HWb.out (Nat.le_refl _) (.bool rb0) (.slice rb1 rb2 rb3) (.bool rb4) (.slice rb5 rb6 rb7)
 simp only at hb4 hf4
 generalize ((((wb.setCell ⟨w.heap.size, 0, none⟩ (.bool rb0)).setCell ⟨w.heap.size, 1, none⟩ (.slice rb1 rb2 rb3)).setCell ⟨w.heap.size, 2, none⟩ (.bool rb4)).setCell ⟨w.heap.size, 3, none⟩ (.slice rb5 rb6 rb7)) = w9 at *
 have c0 := hb4.at_ (i := 0) rfl
 have c1 := hb4.at_ (i := 1) rfl
 have c2 := hb4.at_ (i := 2) rfl
 have c3 := hb4.at_ (i := 3) rfl
 refine bodyPost_ret (v := .agg #[.bool rb0, .slice rb1 rb2 rb3, .bool rb4, .slice rb5 rb6 rb7]) ?_ rfl ⟨_, rfl, hf4, hB4⟩
 simp [results, Tryz.results111, go_sem, c0, c1, c2, c3]
noncomputable def invN (rs : List RowT) (i k : Nat) : Int := if k < rs.length then matP rs i k else idnZ i (k - rs.length)
noncomputable def invQ (rs : List RowT) (s : EliS) (i k : Nat) : Rat := Rat.divInt (s.P i (rs.length + k) * matD rs) s.v
def InvPost (heavy : Bool) (s : EliS) (m : Nat) (q : Nat → Nat → Rat) (w : World) (e : Ending) (w' : World) : Prop :=
 match heavy with
 | true => e = .returned (.tuple #[.slice none 0 0, .int .i64 3]) ∧ Below w.heap.size w w'
 | false => (s.ps.length < m ∧ e = .returned (.tuple #[.slice none 0 0, .int .i64 6]) ∧ Below w.heap.size w w') ∨ (s.ps.length = m ∧ RetMx w m m q e w')
theorem inv_LL {rs : List RowT} (hf : FineM rs rs.length) (hm1 : 1 ≤ rs.length) (h1 : ¬ 600 < heft rs rs.length) : ∀ i k, i < rs.length → LL (invN rs i k) ≤ 70 := fun i k hi => by
 unfold invN
 split
 ·exact light_LL hf hm1 (by omega) i k hi
 ·unfold idnZ
  split
  ·exact Nat.le_trans LL_one (by decide)
  ·exact Nat.le_trans (show LL 0 ≤ 1 from by unfold LL; rw [Int.natAbs_zero, limbs_zero]; decide) (by decide)
theorem Inverse_any (A : Option Addr) (c : Nat) (rs : List RowT) (w : World) (h : MatIn w A rs) (hf : FineM rs rs.length) (hm1 : 1 ≤ rs.length) (henv : Env w) :
  Calls Tryz.prog 36 #[.slice A rs.length c] w (InvPost (decide (600 < heft rs rs.length)) (eli rs.length (invN rs) rs.length) rs.length (invQ rs (eli rs.length (invN rs) rs.length)) w) := by
 obtain ⟨i0, hi, hz0, hz1, hz2⟩ := info_parts Tryz.infoNum
 generalize hQ : InvPost (decide (600 < heft rs rs.length)) (eli rs.length (invN rs) rs.length) rs.length (invQ rs (eli rs.length (invN rs) rs.length)) w = Q
 replace hQ := Lib.hid hQ
 have hbl : Below w.heap.size w (w.alloc (.cells #[.slice A rs.length c] 27)) := (Below.refl _ _).alloc (Nat.le_refl _) _
 have HM := Lib.hid h
 have HF := Lib.hid hf
 have HE := Lib.hid henv
 have HB := Lib.hid hbl
 have HK := Lib.hid (Blk.new w 27 [.slice A rs.length c])
 have hm12 := hf.m
 have HSQ := Lib.hid (square_ok A rs c _ (h.below hbl) hf (henv.below hbl))
 clear h hf henv hbl
 go_enter Tryz.func36, Tryz.ntmps36
 go_wp2_with fail
 refine HSQ.out.mono ?_
 rintro e w1 ⟨rfl, hb1⟩
 have HB1 := Lib.hid (HB.out.trans (hb1.mono HB.out.size))
 have HK1 := Lib.hid (HK.out.below hb1)
 have k1 := HK1.out.at_ (i := 0) rfl
 have HHV := Heavy_any A c rs.length rs w1 (HM.out.below HB1.out) HF.out hm1 hm1 (HE.out.below HB1.out)
 clear hb1 HSQ HK
 by_cases hh : 600 < heft rs rs.length
 ·rw [show decide (600 < heft rs rs.length) = true from by simpa using hh] at HHV hQ
  replace HHV := Lib.hid HHV
  clear hh
  go_wp2_with fail
  refine HHV.out.mono ?_
  rintro e w2 ⟨rfl, hb2⟩
  have HB2 := Lib.hid (HB1.out.trans (hb2.mono HB1.out.size))
  clear hb2 k1
  go_wp2_with fail
  rw [← hQ.out]
  exact ⟨rfl, HB2.out⟩
 ·rw [show decide (600 < heft rs rs.length) = false from by simpa using hh] at HHV hQ
  replace HHV := Lib.hid HHV
  have HH := Lib.hid hh
  clear hh
  go_wp2_with fail
  refine HHV.out.mono ?_
  rintro e w2 ⟨rfl, hb2⟩
  have HB2 := Lib.hid (HB1.out.trans (hb2.mono HB1.out.size))
  have HK2 := Lib.hid (HK1.out.below hb2)
  have HGW := Lib.hid HK2.out.lt
  clear k1 HHV
  have k2 := HK2.out.at_ (i := 0) rfl
  have HOF := Lib.hid (Of_any A c rs.length rs w2 (HM.out.below HB2.out) HF.out hm1 hm1 (HE.out.below HB2.out))
  clear hb2 HK1
  go_wp2_with fail
  refine HOF.out.mono ?_
  rintro e w5 ⟨R, cR, rows, dv, rfl, hl, ht, hnV, hnr, hd, hb5⟩
  have HB5 := Lib.hid (HB2.out.trans (hb5.mono HB2.out.size))
  have HK5 := Lib.hid (HK2.out.below hb5)
  have HTW := Lib.hid ((show TabN w2.heap.size w5 (.slice (some ⟨R, 0, none⟩) rows.length cR) rows rs.length (matP rs) by rw [hl]; exact ht).toW hnr)
  have HL := Lib.hid hl
  have HLU := Lib.hid ht.l
  have HD := Lib.hid hd
  have HS25 := Lib.hid hb5.size
  clear hb5 ht hnV hnr hd hl k2 HOF
  go_wp2_with fail
  have HX7 := Lib.hid (Blk.new w5 84 [.bool dv.nb, .slice dv.ad dv.l dv.c, .slice (some ⟨R, 0, none⟩) rs.length cR])
  have hbW : Below w5.heap.size w5 (w5.alloc (.cells #[.bool dv.nb, .slice dv.ad dv.l dv.c, .slice (some ⟨R, 0, none⟩) rs.length cR] 84)) := (Below.refl _ _).alloc (Nat.le_refl _) _
  have HS0 := Lib.hid (show SolS w2.heap.size w5.heap.size (w5.heap.size + 1) (w5.alloc (.cells #[.bool dv.nb, .slice dv.ad dv.l dv.c, .slice (some ⟨R, 0, none⟩) rs.length cR] 84)) (w5.alloc (.cells #[.bool dv.nb, .slice dv.ad dv.l dv.c, .slice (some ⟨R, 0, none⟩) rs.length cR] 84)) R cR rows (invN rs) from
   ⟨(HTW.out.below hbW).congr (fun i hi k hk => by
    have h9 := HLU.out _ (List.getElem_mem hi)
    unfold invN
    rw [if_pos (by omega)]), fun k _ _ => rfl, fun v y hv => hv, fun r hr => .inl ((HTW.out.r r hr).lt _ rfl).2, .inl (HTW.out.o.lt R rfl).2, Below.refl _ _, by simp, by have := HS25.out; simp; omega⟩)
  have HLR := Lib.hid (fun j (hj : j < rows.length) => HLU.out _ (List.getElem_mem hj))
  have HKW := Lib.hid (HK5.out.below hbW)
  have HBW := Lib.hid (HB5.out.trans (hbW.mono HB5.out.size))
  have HDW := Lib.hid (HD.out.below hbW)
  clear hbW HK5 HK2
  generalize (w5.alloc (.cells #[.bool dv.nb, .slice dv.ad dv.l dv.c, .slice (some ⟨R, 0, none⟩) rs.length cR] 84)) = W0 at *
  generalize w5.heap.size = x at *
  go_loopw [22] (fun iv wr => ∃ (i : Nat) (rw : List RowN), iv = .int .i64 (i : Int) ∧ i ≤ rs.length ∧ rw.length = rs.length ∧ (∀ j, (h : j < rw.length) → rw[j].us.length = if j < i then rs.length + rs.length else rs.length) ∧ SolS w2.heap.size x (x + 1) W0 wr R cR rw (invN rs)) (fun iv _ => rs.length - (intOf iv).toNat)
  case atStart => exact ⟨0, rows, rfl, Nat.zero_le _, HL.out, fun j hj => by rw [if_neg (by omega)]; exact HLR.out j hj, HS0.out⟩
  case round =>
   obtain ⟨i, rw, rfl, hi2, hrl, hul, hts⟩ := hrel
   obtain ⟨wi, rfl⟩ : ∃ wi : World, wi = wr := ⟨_, rfl⟩
   by_cases hlt : i < rs.length
   ·have kA := ((show Blk wi w.heap.size 27 [.slice A rs.length c] from (hts.bel.block w.heap.size HGW.out).trans HKW.out)).at_ (i := 0) rfl
    have i1 : (0 : Int) ≤ (i : Int) := by omega
    have i2 : (i : Int) < (rs.length : Int) := by omega
    have HTS := Lib.hid hts
    have HRL0 := Lib.hid hrl
    have HUL0 := Lib.hid hul
    clear hts hrl hul HS0
    go_wp2_with fail
    go_loopw [27] (fun kv wk => ∃ (k : Nat) (rv : List RowN), kv = .int .i64 (k : Int) ∧ k ≤ rs.length ∧ rv.length = rs.length ∧ (∀ j, (h : j < rv.length) → rv[j].us.length = if j < i then rs.length + rs.length else if j = i then rs.length + k else rs.length) ∧ SolS w2.heap.size x (x + 1) W0 wk R cR rv (invN rs)) (fun kv _ => rs.length - (intOf kv).toNat)
    case atStart => exact ⟨0, rw, rfl, Nat.zero_le _, HRL0.out, fun j hj => by
     rw [HUL0.out j hj]
     by_cases e : j < i
     ·rw [if_pos e, if_pos e]
     ·rw [if_neg e, if_neg e]
      split <;> rfl, HTS.out⟩
    case round =>
     clear HTS kA
     obtain ⟨k, rv, rfl, hk2, hrl, hul, hts⟩ := hrel
     have HRL := Lib.hid hrl
     have HUL := Lib.hid hul
     have HTV := Lib.hid hts
     have hrl2 : rv.length ≤ rs.length ∧ rs.length ≤ rv.length := by omega
     by_cases hlt2 : k < rs.length
     ·have i3 : (0 : Int) ≤ (k : Int) := by omega
      have i4 : (k : Int) < (rs.length : Int) := by omega
      clear hts hrl hul
      go_wp2_with fail
      refine (LOf_any 0 _ (by decide)).mono ?_
      rintro e w6 ⟨v6, rfl, hv6, hb6⟩
      obtain ⟨n6, A6, l6, c6, rfl⟩ := hv6.slice
      have HV6 := Lib.hid hv6
      have HB6 := Lib.hid hb6
      clear hv6 hb6
      by_cases hik : i = k
      ·have hx1 : ((i : Int) == (k : Int)) = true := by simp; omega
       have HIK := Lib.hid hik
       clear hik
       go_wp2_with fail
       clear hx1
       refine (LOf_one _).mono ?_
       rintro e w7 ⟨v7, rfl, hv7, hb7⟩
       obtain ⟨nbz, Sz, lz, cz, rfl⟩ := hv7.slice
       have hk7 := (Blk.new w6 81 [.bool n6, .slice A6 l6 c6]).below hb7
       have q0 := hk7.at_ (i := 0) rfl
       have q1 := hk7.at_ (i := 1) rfl
       have q2 := hk7.fr 0
       have q3 := hk7.fr 1
       have hbA : Below wr.heap.size wr (w6.alloc (.cells #[.bool n6, .slice A6 l6 c6] 81)) := HB6.out.alloc HB6.out.size _
       have HZQ := Lib.hid (hk7.set2 (.bool nbz) (.slice Sz lz cz))
       have HBQ := Lib.hid (bel_set2 (hbA.trans (hb7.mono hbA.size)) HB6.out.size (.bool nbz) (.slice Sz lz cz))
       have HNQ := Lib.hid (show IsNum ((w7.setCell ⟨w6.heap.size, 0, none⟩ (.bool nbz)).setCell ⟨w6.heap.size, 1, none⟩ (.slice Sz lz cz)) (.agg #[.bool nbz, .slice Sz lz cz]) (idnZ i k) from by
        have e9 : idnZ i k = 1 := if_pos HIK.out
        rw [e9]
        have n0 : ∀ a ∈ [Value.bool n6, .slice A6 l6 c6], ∀ z, a ≠ .int .u64 z := fun a ha => by
         simp at ha
         rcases ha with rfl | rfl <;> intro z e <;> cases e
        exact (hv7.box hk7 n0 (grown_set _ _ _)).box (hk7.set 0 (.bool nbz)) (no_set n0 (fun z e => by cases e)) (grown_set _ _ _))
       have HZW := Lib.hid HB6.out.size
       clear hk7 hbA hv7 hb7 HV6
       go_wp2_with fail
       clear q0 q1 q2 q3
       generalize ((w7.setCell ⟨w6.heap.size, 0, none⟩ (.bool nbz)).setCell ⟨w6.heap.size, 1, none⟩ (.slice Sz lz cz)) = wq at *
       generalize w6.heap.size = z at *
       have hbq := HBQ.out
       have hts := HTV.out.below hbq
       have hi3 : i < rv.length := by omega
       have d0 := HX7.out.at_ (i := 2) rfl
       have huli := HUL.out i hi3
       rw [if_neg (by omega), if_pos rfl] at huli
       have hmem := List.getElem_mem hi3
       obtain ⟨r, hr⟩ : ∃ r, rv[i] = r := ⟨_, rfl⟩
       have HRE := Lib.hid hr
       rw [hr] at huli hmem
       obtain ⟨rg, rc, us⟩ := r
       replace huli : us.length = rs.length + k := huli
       obtain ⟨nk, hnk⟩ : ∃ nk, us.length = nk := ⟨_, rfl⟩
       have HNK := Lib.hid hnk
       have hk3 : nk ≤ rs.length + k := by omega
       have hk4 : rs.length + k ≤ nk := by omega
       have hself : RowN.self ⟨rg, rc, us⟩ = .slice (some ⟨rg, 0, none⟩) nk rc := self_val hnk
       have hta := (hts.alloc (.cells #[.bool nbz, .slice Sz lz cz] 81)).drew
       have HNZ := Lib.hid (show IsNum (wq.alloc (.cells #[.bool nbz, .slice Sz lz cz] 81)).drew (NumV.val ⟨nbz, Sz, lz, cz⟩) (idnZ i k) from HNQ.out.below ((Below.refl _ _).alloc (Nat.le_refl _) _).drew)
       have HOA := Lib.hid (show (wq.alloc (.cells #[.bool nbz, .slice Sz lz cz] 81)).drew.ownsRow w2.heap.size 81 2 (.slice (some ⟨rg, 0, none⟩) nk rc) nk (numc us) from by
        have h9 := hta.tab.r _ hmem
        rw [hself, hnk] at h9
        exact h9)
       have HNA := Lib.hid (show NoU (wq.alloc (.cells #[.bool nbz, .slice Sz lz cz] 81)).drew (.slice (some ⟨rg, 0, none⟩) nk rc) from by
        have h9 := hta.tab.nor _ hmem
        rw [hself] at h9
        exact h9)
       have HBA := Lib.hid (show w2.heap.size ≤ (wq.alloc (.cells #[.bool nbz, .slice Sz lz cz] 81)).drew.heap.size from Nat.le_trans hta.B0 hta.bel.size)
       have HGR := Lib.hid (fun (g2 cap2 : Nat) (w8 : World) (h1 : w8.ownsRow w2.heap.size 81 2 (.slice (some ⟨g2, 0, none⟩) (nk + 1) cap2) (nk + 1) (numc us ++ [.bool nbz, .slice Sz lz cz])) (h2 : (wq.alloc (.cells #[.bool nbz, .slice Sz lz cz] 81)).drew.grownBy w8 (Value.slice (some ⟨rg, 0, none⟩) nk rc).ownBlock) (h3 : NoU w8 (.slice (some ⟨g2, 0, none⟩) (nk + 1) cap2)) (h4 : (Value.slice (some ⟨rg, 0, none⟩) nk rc).ownBlock = some g2 ∨ g2 = (wq.alloc (.cells #[.bool nbz, .slice Sz lz cz] 81)).drew.heap.size) =>
        (show SolS w2.heap.size x (x + 1) W0 (w8.setCell ⟨R, i, none⟩ (.slice (some ⟨g2, 0, none⟩) (nk + 1) cap2)) R cR (rv.set i ⟨g2, cap2, us ++ [⟨nbz, Sz, lz, cz⟩]⟩) (invN rs) from by
         have e1 : RowN.self ⟨g2, cap2, us ++ [⟨nbz, Sz, lz, cz⟩]⟩ = .slice (some ⟨g2, 0, none⟩) (nk + 1) cap2 := self_val (by simp only [List.length_append, List.length_singleton]; omega)
         have h9 := hta.grow (w8 := w8) hi3 (r2 := ⟨g2, cap2, us ++ [⟨nbz, Sz, lz, cz⟩]⟩) (u := ⟨nbz, Sz, lz, cz⟩) (z := idnZ i k) (by rw [HRE.out]) HNZ.out (by rw [HRE.out]; show invN rs i us.length = _; rw [huli]; unfold invN; rw [if_neg (by omega), Nat.add_sub_cancel_left]) (by rw [e1, show (us ++ [(⟨nbz, Sz, lz, cz⟩ : NumV)]).length = nk + 1 by simp only [List.length_append, List.length_singleton]; omega, numc_snoc]; exact h1) (by rw [HRE.out, hself]; exact h2) (by rw [e1]; exact h3) (by rw [HRE.out]; exact h4.imp (fun h5 => by injection h5 with h6) id)
         rw [e1] at h9
         exact h9))
       have HRM := Lib.hid (fun (w8 : World) (h2 : (wq.alloc (.cells #[.bool nbz, .slice Sz lz cz] 81)).drew.grownBy w8 (Value.slice (some ⟨rg, 0, none⟩) nk rc).ownBlock) => (show w8.cell? ⟨R, i, none⟩ = some (.slice (some ⟨rg, 0, none⟩) nk rc) ∧ w8.frozen? ⟨R, i, none⟩ = false from by
        have h9 := hta.rowMid hi3 (w8 := w8) (by rw [HRE.out, hself]; exact h2)
        rw [HRE.out, hself] at h9
        exact h9))
       have hzlt := HZQ.out.lt
       have hrg := (hta.tab.r _ hmem)
       rw [hself] at hrg
       have hrgb : rg < wr.heap.size := by
        have h9 := (HTV.out.tab.r _ hmem)
        rw [hself] at h9
        exact (h9.lt rg rfl).2
       have zq0 := HZQ.out.at_ (i := 0) rfl
       have zq1 := HZQ.out.at_ (i := 1) rfl
       have zq2 := ((HZQ.out.alloc (.cells #[.bool nbz, .slice Sz lz cz] 81)).below (Below.refl _ _).drew)
       have HMD := Lib.hid (fun (w8 : World) (h2 : (wq.alloc (.cells #[.bool nbz, .slice Sz lz cz] 81)).drew.grownBy w8 (Value.slice (some ⟨rg, 0, none⟩) nk rc).ownBlock) => (show w8.cell? ⟨x, 2, none⟩ = some (.slice (some ⟨R, 0, none⟩) rs.length cR) ∧ w8.cell? ⟨z, 0, none⟩ = some (.bool nbz) ∧ w8.cell? ⟨z, 1, none⟩ = some (.slice Sz lz cz) from by
        have h3 : (wq.alloc (.cells #[.bool nbz, .slice Sz lz cz] 81)).drew.grownBy w8 rv[i].self.ownBlock := by rw [HRE.out, hself]; exact h2
        have h4 : Blk w8 z 81 [.bool nbz, .slice Sz lz cz] := (h2.block z (zq2.lt) (fun e => by
         have e2 : z = rg := by injection e
         have := HZW.out
         omega)).trans zq2
        exact ⟨(hta.mid hi3 h3 (by show x ≤ x; omega) (by show x < x + 1; omega)).trans d0, h4.at_ (i := 0) rfl, h4.at_ (i := 1) rfl⟩))
       have p0 := (hts.cell (p := ⟨x, 2, none⟩) (by show x ≤ x; omega) (by show x < x + 1; omega)).trans d0
       have p5 := (hts.rowAt hi3).1
       have p5a := (hta.rowAt hi3).1
       rw [HRE.out, hself] at p5 p5a
       have KS0 : Hid (wq.drew.cell? ⟨x, 2, none⟩ = some (.slice (some ⟨R, 0, none⟩) rs.length cR) ∧ wq.drew.cell? ⟨z, 0, none⟩ = some (.bool nbz) ∧ wq.drew.cell? ⟨z, 1, none⟩ = some (.slice Sz lz cz)) := Lib.hid ⟨p0, zq0, zq1⟩
       have KSA : Hid ((wq.alloc (.cells #[.bool nbz, .slice Sz lz cz] 81)).drew.cell? ⟨x, 2, none⟩ = some (.slice (some ⟨R, 0, none⟩) rs.length cR) ∧ (wq.alloc (.cells #[.bool nbz, .slice Sz lz cz] 81)).drew.cell? ⟨z, 0, none⟩ = some (.bool nbz) ∧ (wq.alloc (.cells #[.bool nbz, .slice Sz lz cz] 81)).drew.cell? ⟨z, 1, none⟩ = some (.slice Sz lz cz)) := Lib.hid ⟨(hta.cell (p := ⟨x, 2, none⟩) (by show x ≤ x; omega) (by show x < x + 1; omega)).trans d0, zq2.at_ (i := 0) rfl, zq2.at_ (i := 1) rfl⟩
       have nR0 : ¬ (R = x) := by rcases hts.Rout with h9 | h9 <;> omega
       have nR1 : ¬ (x = R) := by omega
       have hRw : R < wr.heap.size := (HTV.out.tab.o.lt R rfl).2
       have hzw := HZW.out
       have nR2 : ¬ (R = z) := by omega
       have nR3 : ¬ (z = R) := by omega
       clear hta hts huli hself hmem hr hnk d0 hzlt hrg hrgb zq0 zq1 zq2 hRw hzw hbq
       go_wp2_with fail
       refine wp_region_tail (S := (fun w' => w'.cell? ⟨R, i, none⟩ = some (.slice (some ⟨rg, 0, none⟩) nk rc) ∧ w'.cell? ⟨x, 2, none⟩ = some (.slice (some ⟨R, 0, none⟩) rs.length cR) ∧ w'.cell? ⟨z, 0, none⟩ = some (.bool nbz) ∧ w'.cell? ⟨z, 1, none⟩ = some (.slice Sz lz cz))) 12 (by kernel_rfl) rfl (by kernel_rfl) (by kernel_rfl) rfl (by exact ⟨p5, KS0.out⟩) (fun hHeld => ?_)
       simp only [List.pop_toArray, List.dropLast_cons_cons, List.dropLast_singleton]
       refine tkH 0 hHeld ?_
       try simp only [Act.put, tkA, tkB, tkC]
       refine tkH 1 hHeld ?_
       try simp only [Act.put, tkA, tkB, tkC]
       refine tkH 2 hHeld ?_
       try simp only [Act.put, tkA, tkB, tkC]
       refine tkH 3 hHeld ?_
       try simp only [Act.put, tkA, tkB, tkC]
       refine tkH 4 hHeld ?_
       try simp only [Act.put, tkA, tkB, tkC]
       refine tkH 5 hHeld ?_
       try simp only [Act.put, tkA, tkB, tkC]
       refine tkH 6 hHeld ?_
       try simp only [Act.put, tkA, tkB, tkC]
       refine tkH 7 hHeld ?_
       try simp only [Act.put, tkA, tkB, tkC]
       refine tkH 8 hHeld ?_
       try simp only [Act.put, tkA, tkB, tkC]
       refine wpAnyH_ready (rs := [9]) (by kernel_rfl) (by simp) ?_
       refine AllReadyH.cons rfl (fun K hK => ?_) AllReadyH.nil
       go_simp
       refine hK.out _ _ ?_ (fun hHeld => ?_)
       ·first | exact ⟨p5, KS0.out⟩ | exact ⟨p5a, KSA.out⟩ | exact ⟨u6, KS8.out⟩
       clear hK K
       try simp only [Act.put, tkA, tkB, tkC]
       refine wpAnyH_ready (rs := [10]) (by kernel_rfl) (by simp) ?_
       refine AllReadyH.cons rfl (fun K hK => ?_) AllReadyH.nil
       (refine step_append_both _ (by rfl) _ _ _ (by rfl) w2.heap.size 81 i0 _ 2 32 Tryz.underlying114 hi hz0 hz1 hz2 rfl (by decide) (.slice (some ⟨rg, 0, none⟩) nk rc) nk (numc us) (by go_simp) HOA.out ⟨wq.heap.size, 0, none⟩ 1 1 [.bool nbz, .slice Sz lz cz] (by go_simp) rfl (World.news_of_block (cs := #[.bool nbz, .slice Sz lz cz]) (t := 81) (fr := (0, 0)) (heap_alloc_new wq _)) two_one8 (by omega) (by unfold maxLen; omega) (by omega) HBA.out HNA.out numz_no nums_no ?_; intro g2 cap2 w8 hown8 hgrow8 hno8 hgg8; have HG := Lib.hid (HGR.out g2 cap2 w8 hown8 hgrow8 hno8 hgg8); have hrm := HRM.out w8 hgrow8; have u6 := hrm.1; have u7 := hrm.2; have KS8 := Lib.hid (HMD.out w8 hgrow8); obtain ⟨u0, u1, u2⟩ := KS8.out; clear hown8 hgrow8 hno8 hgg8 hrm)
       refine hK.out _ _ ?_ (fun hHeld => ?_)
       ·first | exact ⟨p5, KS0.out⟩ | exact ⟨p5a, KSA.out⟩ | exact ⟨u6, KS8.out⟩
       clear hK K
       try simp only [Act.put, tkA, tkB, tkC]
       refine tkH 11 hHeld ?_
       try simp only [Act.put, tkA, tkB, tkC]
       refine wpAnyH_done (by kernel_rfl) ?_ _
       simp only [tailQ, List.getElem_toArray, List.getElem_cons_succ, List.getElem_cons_zero]
       all_goals
        go_wp2_with fail
        go_roundw
        case rel => exact ⟨k + 1, rv.set i ⟨g2, cap2, us ++ [⟨nbz, Sz, lz, cz⟩]⟩, by go_num, by omega, by rw [List.length_set]; exact HRL.out, fun j hj => by
         have hj' : j < rv.length := by simpa using hj
         by_cases e : j = i
         ·subst e
          rw [List.getElem_set_self, if_neg (by omega), if_pos rfl]
          simp only [List.length_append, List.length_singleton]
          have h8 := HNK.out
          omega
         ·rw [List.getElem_set_ne (Ne.symm e), HUL.out j hj']
          by_cases e2 : j < i
          ·rw [if_pos e2, if_pos e2]
          ·rw [if_neg e2, if_neg e2, if_neg e, if_neg e], HG.out⟩
        case measure => simp [intOf]; omega
      ·have hx1 : ((i : Int) == (k : Int)) = false := by simp; omega
       have HIK := Lib.hid hik
       clear hik
       have HZQ := Lib.hid (Blk.new w6 81 [.bool n6, .slice A6 l6 c6])
       have HBQ := Lib.hid (show Below wr.heap.size wr (w6.alloc (.cells #[.bool n6, .slice A6 l6 c6] 81)) from HB6.out.alloc HB6.out.size _)
       have HNQ := Lib.hid (show IsNum (w6.alloc (.cells #[.bool n6, .slice A6 l6 c6] 81)) (.agg #[.bool n6, .slice A6 l6 c6]) (idnZ i k) from by
        have e9 : idnZ i k = 0 := if_neg HIK.out
        rw [e9]
        exact HV6.out.below ((Below.refl _ _).alloc (Nat.le_refl _) _))
       have HZW := Lib.hid HB6.out.size
       clear HV6
       go_wp2_with fail
       clear hx1
       generalize (w6.alloc (.cells #[.bool n6, .slice A6 l6 c6] 81)) = wq at *
       generalize w6.heap.size = z at *
       generalize n6 = nbz at *
       generalize A6 = Sz at *
       generalize l6 = lz at *
       generalize c6 = cz at *
       have hbq := HBQ.out
       have hts := HTV.out.below hbq
       have hi3 : i < rv.length := by omega
       have d0 := HX7.out.at_ (i := 2) rfl
       have huli := HUL.out i hi3
       rw [if_neg (by omega), if_pos rfl] at huli
       have hmem := List.getElem_mem hi3
       obtain ⟨r, hr⟩ : ∃ r, rv[i] = r := ⟨_, rfl⟩
       have HRE := Lib.hid hr
       rw [hr] at huli hmem
       obtain ⟨rg, rc, us⟩ := r
       replace huli : us.length = rs.length + k := huli
       obtain ⟨nk, hnk⟩ : ∃ nk, us.length = nk := ⟨_, rfl⟩
       have HNK := Lib.hid hnk
       have hk3 : nk ≤ rs.length + k := by omega
       have hk4 : rs.length + k ≤ nk := by omega
       have hself : RowN.self ⟨rg, rc, us⟩ = .slice (some ⟨rg, 0, none⟩) nk rc := self_val hnk
       have hta := (hts.alloc (.cells #[.bool nbz, .slice Sz lz cz] 81)).drew
       have HNZ := Lib.hid (show IsNum (wq.alloc (.cells #[.bool nbz, .slice Sz lz cz] 81)).drew (NumV.val ⟨nbz, Sz, lz, cz⟩) (idnZ i k) from HNQ.out.below ((Below.refl _ _).alloc (Nat.le_refl _) _).drew)
       have HOA := Lib.hid (show (wq.alloc (.cells #[.bool nbz, .slice Sz lz cz] 81)).drew.ownsRow w2.heap.size 81 2 (.slice (some ⟨rg, 0, none⟩) nk rc) nk (numc us) from by
        have h9 := hta.tab.r _ hmem
        rw [hself, hnk] at h9
        exact h9)
       have HNA := Lib.hid (show NoU (wq.alloc (.cells #[.bool nbz, .slice Sz lz cz] 81)).drew (.slice (some ⟨rg, 0, none⟩) nk rc) from by
        have h9 := hta.tab.nor _ hmem
        rw [hself] at h9
        exact h9)
       have HBA := Lib.hid (show w2.heap.size ≤ (wq.alloc (.cells #[.bool nbz, .slice Sz lz cz] 81)).drew.heap.size from Nat.le_trans hta.B0 hta.bel.size)
       have HGR := Lib.hid (fun (g2 cap2 : Nat) (w8 : World) (h1 : w8.ownsRow w2.heap.size 81 2 (.slice (some ⟨g2, 0, none⟩) (nk + 1) cap2) (nk + 1) (numc us ++ [.bool nbz, .slice Sz lz cz])) (h2 : (wq.alloc (.cells #[.bool nbz, .slice Sz lz cz] 81)).drew.grownBy w8 (Value.slice (some ⟨rg, 0, none⟩) nk rc).ownBlock) (h3 : NoU w8 (.slice (some ⟨g2, 0, none⟩) (nk + 1) cap2)) (h4 : (Value.slice (some ⟨rg, 0, none⟩) nk rc).ownBlock = some g2 ∨ g2 = (wq.alloc (.cells #[.bool nbz, .slice Sz lz cz] 81)).drew.heap.size) =>
        (show SolS w2.heap.size x (x + 1) W0 (w8.setCell ⟨R, i, none⟩ (.slice (some ⟨g2, 0, none⟩) (nk + 1) cap2)) R cR (rv.set i ⟨g2, cap2, us ++ [⟨nbz, Sz, lz, cz⟩]⟩) (invN rs) from by
         have e1 : RowN.self ⟨g2, cap2, us ++ [⟨nbz, Sz, lz, cz⟩]⟩ = .slice (some ⟨g2, 0, none⟩) (nk + 1) cap2 := self_val (by simp only [List.length_append, List.length_singleton]; omega)
         have h9 := hta.grow (w8 := w8) hi3 (r2 := ⟨g2, cap2, us ++ [⟨nbz, Sz, lz, cz⟩]⟩) (u := ⟨nbz, Sz, lz, cz⟩) (z := idnZ i k) (by rw [HRE.out]) HNZ.out (by rw [HRE.out]; show invN rs i us.length = _; rw [huli]; unfold invN; rw [if_neg (by omega), Nat.add_sub_cancel_left]) (by rw [e1, show (us ++ [(⟨nbz, Sz, lz, cz⟩ : NumV)]).length = nk + 1 by simp only [List.length_append, List.length_singleton]; omega, numc_snoc]; exact h1) (by rw [HRE.out, hself]; exact h2) (by rw [e1]; exact h3) (by rw [HRE.out]; exact h4.imp (fun h5 => by injection h5 with h6) id)
         rw [e1] at h9
         exact h9))
       have HRM := Lib.hid (fun (w8 : World) (h2 : (wq.alloc (.cells #[.bool nbz, .slice Sz lz cz] 81)).drew.grownBy w8 (Value.slice (some ⟨rg, 0, none⟩) nk rc).ownBlock) => (show w8.cell? ⟨R, i, none⟩ = some (.slice (some ⟨rg, 0, none⟩) nk rc) ∧ w8.frozen? ⟨R, i, none⟩ = false from by
        have h9 := hta.rowMid hi3 (w8 := w8) (by rw [HRE.out, hself]; exact h2)
        rw [HRE.out, hself] at h9
        exact h9))
       have hzlt := HZQ.out.lt
       have hrg := (hta.tab.r _ hmem)
       rw [hself] at hrg
       have hrgb : rg < wr.heap.size := by
        have h9 := (HTV.out.tab.r _ hmem)
        rw [hself] at h9
        exact (h9.lt rg rfl).2
       have zq0 := HZQ.out.at_ (i := 0) rfl
       have zq1 := HZQ.out.at_ (i := 1) rfl
       have zq2 := ((HZQ.out.alloc (.cells #[.bool nbz, .slice Sz lz cz] 81)).below (Below.refl _ _).drew)
       have HMD := Lib.hid (fun (w8 : World) (h2 : (wq.alloc (.cells #[.bool nbz, .slice Sz lz cz] 81)).drew.grownBy w8 (Value.slice (some ⟨rg, 0, none⟩) nk rc).ownBlock) => (show w8.cell? ⟨x, 2, none⟩ = some (.slice (some ⟨R, 0, none⟩) rs.length cR) ∧ w8.cell? ⟨z, 0, none⟩ = some (.bool nbz) ∧ w8.cell? ⟨z, 1, none⟩ = some (.slice Sz lz cz) from by
        have h3 : (wq.alloc (.cells #[.bool nbz, .slice Sz lz cz] 81)).drew.grownBy w8 rv[i].self.ownBlock := by rw [HRE.out, hself]; exact h2
        have h4 : Blk w8 z 81 [.bool nbz, .slice Sz lz cz] := (h2.block z (zq2.lt) (fun e => by
         have e2 : z = rg := by injection e
         have := HZW.out
         omega)).trans zq2
        exact ⟨(hta.mid hi3 h3 (by show x ≤ x; omega) (by show x < x + 1; omega)).trans d0, h4.at_ (i := 0) rfl, h4.at_ (i := 1) rfl⟩))
       have p0 := (hts.cell (p := ⟨x, 2, none⟩) (by show x ≤ x; omega) (by show x < x + 1; omega)).trans d0
       have p5 := (hts.rowAt hi3).1
       have p5a := (hta.rowAt hi3).1
       rw [HRE.out, hself] at p5 p5a
       have KS0 : Hid (wq.drew.cell? ⟨x, 2, none⟩ = some (.slice (some ⟨R, 0, none⟩) rs.length cR) ∧ wq.drew.cell? ⟨z, 0, none⟩ = some (.bool nbz) ∧ wq.drew.cell? ⟨z, 1, none⟩ = some (.slice Sz lz cz)) := Lib.hid ⟨p0, zq0, zq1⟩
       have KSA : Hid ((wq.alloc (.cells #[.bool nbz, .slice Sz lz cz] 81)).drew.cell? ⟨x, 2, none⟩ = some (.slice (some ⟨R, 0, none⟩) rs.length cR) ∧ (wq.alloc (.cells #[.bool nbz, .slice Sz lz cz] 81)).drew.cell? ⟨z, 0, none⟩ = some (.bool nbz) ∧ (wq.alloc (.cells #[.bool nbz, .slice Sz lz cz] 81)).drew.cell? ⟨z, 1, none⟩ = some (.slice Sz lz cz)) := Lib.hid ⟨(hta.cell (p := ⟨x, 2, none⟩) (by show x ≤ x; omega) (by show x < x + 1; omega)).trans d0, zq2.at_ (i := 0) rfl, zq2.at_ (i := 1) rfl⟩
       have nR0 : ¬ (R = x) := by rcases hts.Rout with h9 | h9 <;> omega
       have nR1 : ¬ (x = R) := by omega
       have hRw : R < wr.heap.size := (HTV.out.tab.o.lt R rfl).2
       have hzw := HZW.out
       have nR2 : ¬ (R = z) := by omega
       have nR3 : ¬ (z = R) := by omega
       clear hta hts huli hself hmem hr hnk d0 hzlt hrg hrgb zq0 zq1 zq2 hRw hzw hbq
       go_wp2_with fail
       refine wp_region_tail (S := (fun w' => w'.cell? ⟨R, i, none⟩ = some (.slice (some ⟨rg, 0, none⟩) nk rc) ∧ w'.cell? ⟨x, 2, none⟩ = some (.slice (some ⟨R, 0, none⟩) rs.length cR) ∧ w'.cell? ⟨z, 0, none⟩ = some (.bool nbz) ∧ w'.cell? ⟨z, 1, none⟩ = some (.slice Sz lz cz))) 12 (by kernel_rfl) rfl (by kernel_rfl) (by kernel_rfl) rfl (by exact ⟨p5, KS0.out⟩) (fun hHeld => ?_)
       simp only [List.pop_toArray, List.dropLast_cons_cons, List.dropLast_singleton]
       refine tkH 0 hHeld ?_
       try simp only [Act.put, tkA, tkB, tkC]
       refine tkH 1 hHeld ?_
       try simp only [Act.put, tkA, tkB, tkC]
       refine tkH 2 hHeld ?_
       try simp only [Act.put, tkA, tkB, tkC]
       refine tkH 3 hHeld ?_
       try simp only [Act.put, tkA, tkB, tkC]
       refine tkH 4 hHeld ?_
       try simp only [Act.put, tkA, tkB, tkC]
       refine tkH 5 hHeld ?_
       try simp only [Act.put, tkA, tkB, tkC]
       refine tkH 6 hHeld ?_
       try simp only [Act.put, tkA, tkB, tkC]
       refine tkH 7 hHeld ?_
       try simp only [Act.put, tkA, tkB, tkC]
       refine tkH 8 hHeld ?_
       try simp only [Act.put, tkA, tkB, tkC]
       refine wpAnyH_ready (rs := [9]) (by kernel_rfl) (by simp) ?_
       refine AllReadyH.cons rfl (fun K hK => ?_) AllReadyH.nil
       go_simp
       refine hK.out _ _ ?_ (fun hHeld => ?_)
       ·first | exact ⟨p5, KS0.out⟩ | exact ⟨p5a, KSA.out⟩ | exact ⟨u6, KS8.out⟩
       clear hK K
       try simp only [Act.put, tkA, tkB, tkC]
       refine wpAnyH_ready (rs := [10]) (by kernel_rfl) (by simp) ?_
       refine AllReadyH.cons rfl (fun K hK => ?_) AllReadyH.nil
       (refine step_append_both _ (by rfl) _ _ _ (by rfl) w2.heap.size 81 i0 _ 2 32 Tryz.underlying114 hi hz0 hz1 hz2 rfl (by decide) (.slice (some ⟨rg, 0, none⟩) nk rc) nk (numc us) (by go_simp) HOA.out ⟨wq.heap.size, 0, none⟩ 1 1 [.bool nbz, .slice Sz lz cz] (by go_simp) rfl (World.news_of_block (cs := #[.bool nbz, .slice Sz lz cz]) (t := 81) (fr := (0, 0)) (heap_alloc_new wq _)) two_one8 (by omega) (by unfold maxLen; omega) (by omega) HBA.out HNA.out numz_no nums_no ?_; intro g2 cap2 w8 hown8 hgrow8 hno8 hgg8; have HG := Lib.hid (HGR.out g2 cap2 w8 hown8 hgrow8 hno8 hgg8); have hrm := HRM.out w8 hgrow8; have u6 := hrm.1; have u7 := hrm.2; have KS8 := Lib.hid (HMD.out w8 hgrow8); obtain ⟨u0, u1, u2⟩ := KS8.out; clear hown8 hgrow8 hno8 hgg8 hrm)
       refine hK.out _ _ ?_ (fun hHeld => ?_)
       ·first | exact ⟨p5, KS0.out⟩ | exact ⟨p5a, KSA.out⟩ | exact ⟨u6, KS8.out⟩
       clear hK K
       try simp only [Act.put, tkA, tkB, tkC]
       refine tkH 11 hHeld ?_
       try simp only [Act.put, tkA, tkB, tkC]
       refine wpAnyH_done (by kernel_rfl) ?_ _
       simp only [tailQ, List.getElem_toArray, List.getElem_cons_succ, List.getElem_cons_zero]
       all_goals
        go_wp2_with fail
        go_roundw
        case rel => exact ⟨k + 1, rv.set i ⟨g2, cap2, us ++ [⟨nbz, Sz, lz, cz⟩]⟩, by go_num, by omega, by rw [List.length_set]; exact HRL.out, fun j hj => by
         have hj' : j < rv.length := by simpa using hj
         by_cases e : j = i
         ·subst e
          rw [List.getElem_set_self, if_neg (by omega), if_pos rfl]
          simp only [List.length_append, List.length_singleton]
          have h8 := HNK.out
          omega
         ·rw [List.getElem_set_ne (Ne.symm e), HUL.out j hj']
          by_cases e2 : j < i
          ·rw [if_pos e2, if_pos e2]
          ·rw [if_neg e2, if_neg e2, if_neg e, if_neg e], HG.out⟩
        case measure => simp [intOf]; omega
     ·clear hts hrl hul
      go_wp2_with fail
      go_roundw
      case rel => exact ⟨i + 1, rv, by go_num, by omega, HRL.out, fun j hj => by
       rw [HUL.out j hj]
       by_cases e : j < i
       ·rw [if_pos e, if_pos (by omega)]
       ·rw [if_neg e]
        by_cases e2 : j = i
        ·rw [if_pos e2, if_pos (by omega)]; omega
        ·rw [if_neg e2, if_neg (by omega)], HTV.out⟩
      case measure => simp [intOf]; omega
   ·obtain rfl : i = rs.length := by omega
    have hall : ∀ r ∈ rw, r.us.length = rs.length + rs.length := fun r hr => by
     obtain ⟨j, hj, rfl⟩ := List.getElem_of_mem hr
     rw [hul j hj, if_pos (by omega)]
    have HLS := Lib.hid (inv_LL HF.out hm1 HH.out)
    have HRD := Reduce_any (some ⟨R, 0, none⟩) cR (rs.length + rs.length) rs.length rw (invN rs) wi (hts.tab.toN hall).read (by omega) (by omega) (by omega) (by omega) (by omega) (fun i k hi => HLS.out i k (by omega))
    rw [hrl] at HRD
    replace HRD := Lib.hid HRD
    have p0 := (hts.cell (p := ⟨x, 2, none⟩) (by show x ≤ x; omega) (by show x < x + 1; omega)).trans (HX7.out.at_ (i := 2) rfl)
    have HXA := Lib.hid (show Blk wi x 84 [.bool dv.nb, .slice dv.ad dv.l dv.c, .slice (some ⟨R, 0, none⟩) rs.length cR] from (hts.seg x (by omega) (by omega)).trans HX7.out)
    have HKI := Lib.hid (show Blk wi w.heap.size 27 [.slice A rs.length c] from (hts.bel.block w.heap.size HGW.out).trans HKW.out)
    have kA := HKI.out.at_ (i := 0) rfl
    have HDA := Lib.hid (hts.num _ _ HDW.out)
    have HBr := Lib.hid (show Below w2.heap.size W0 wi from hts.bel)
    clear hall hul hts hrl HS0
    go_wp2_with fail
    refine HRD.out.mono ?_
    rintro e w9 ⟨R4, cR4, rows4, pv, v, rfl, hl4, hrr, hb9⟩
    obtain ⟨Ap, cp, rfl, -⟩ := ownForm hrr.pvt
    have HBq := Lib.hid (HBW.out.trans (HBr.out.mono HB2.out.size))
    have HB9 := Lib.hid (HBq.out.trans (hb9.mono HBq.out.size))
    have HEL := Lib.hid (eli_len (m := rs.length) (fun i k hi => HLS.out i k hi) LL_one rs.length)
    have hv0 : (eli rs.length (invN rs) rs.length).v ≠ 0 := by
     obtain ⟨F, hg, -⟩ := eli_gau rs.length (invN rs) rs.length
     intro e
     exact hg.v0 (by rw [e]; rfl)
    have HXA9 := Lib.hid (HXA.out.below hb9)
    have HKA9 := Lib.hid (HKI.out.below hb9)
    have HDA9 := Lib.hid (HDA.out.below hb9)
    generalize eli rs.length (invN rs) rs.length = s at *
    obtain ⟨pl, hpl⟩ : ∃ pl, s.ps.length = pl := ⟨_, rfl⟩
    have HPL := Lib.hid hpl
    rw [hpl] at HEL
    rw [hpl]
    have hb10 : Below w9.heap.size w9 (w9.alloc (.cells #[.slice (some ⟨R4, 0, none⟩) rs.length cR4, .slice Ap pl cp, .bool v.nb, .slice v.ad v.l v.c, .bool s.odd] 87)) := (Below.refl _ _).alloc (Nat.le_refl _) _
    have HB10 := Lib.hid (HB9.out.trans (hb10.mono HB9.out.size))
    have HT10 := Lib.hid (Blk.new w9 87 [.slice (some ⟨R4, 0, none⟩) rs.length cR4, .slice Ap pl cp, .bool v.nb, .slice v.ad v.l v.c, .bool s.odd])
    have HR10 := hrr.below hb10
    rw [hpl] at HR10
    replace HR10 := Lib.hid HR10
    have HXA10 := Lib.hid (HXA9.out.below hb10)
    have HKA10 := Lib.hid (HKA9.out.below hb10)
    have HDA10 := Lib.hid (HDA9.out.below hb10)
    have HL4 := Lib.hid hl4
    have kB := HKA10.out.at_ (i := 0) rfl
    clear hb9 hrr hl4 hpl p0 kA hb10
    by_cases hlt9 : pl < rs.length
    ·have hx9 : (pl : Int) < (rs.length : Int) := by omega
     go_wp2_with fail
     rw [← hQ.out]
     exact .inl ⟨by rw [HPL.out]; exact hlt9, rfl, HB10.out⟩
    ·have hx9 : ¬ (pl : Int) < (rs.length : Int) := by omega
     have HPE := Lib.hid (show pl = rs.length by have := HEL.out.2.2; omega)
     have HBU := Lib.hid (BuildIn w9.heap.size w.heap.size x rs.length rs.length (invQ rs s) (w9.alloc (.cells #[.slice (some ⟨R4, 0, none⟩) rs.length cR4, .slice Ap pl cp, .bool v.nb, .slice v.ad v.l v.c, .bool s.odd] 87)) (by omega) (by omega) (fun i k hi hk => by
       have h1 := HEL.out.1 i (rs.length + k) hi
       have h2 := HEL.out.2.1
       have hg1 : grw 70 pl ≤ 300000 := grw_le (Nat.le_refl _) (by have := HEL.out.2.2; omega)
       have h3 := LL_mul (s.P i (rs.length + k)) (matD rs)
       have h5 := matD_LL HF.out
       unfold LL at h1 h2 h3 h5
       exact Sz.divInt hv0 (by omega) (by omega)) (HE.out.below HB10.out) (fun W' hW' i k hi hk => by
       have hik : i < rows4.length := by rw [HL4.out]; exact hi
       have hr' := HR10.out.below hW'
       obtain ⟨nz, Sz, lz, cz, p5, p6, hz⟩ := hr'.tab.num_at hik (k := rs.length + k) (by omega)
       have h1 := HEL.out.1 i (rs.length + k) hi
       have h2 := HEL.out.2.1
       have hg1 : grw 70 pl ≤ 300000 := grw_le (Nat.le_refl _) (by have := HEL.out.2.2; omega)
       have h5 := matD_LL HF.out
       have hT := HT10.out.below hW'
       have hX := HXA10.out.below hW'
       have hro := hr'.tab.cell (by rw [HL4.out]) hik
       exact cloIn w9.heap.size w.heap.size x R4 cR4 rows4[i].g rows4[i].cp i k rs.length (rs.length + rs.length) c A dv.ad v.ad Sz dv.nb v.nb nz dv.l dv.c v.l v.c lz cz (matD rs) s.v (s.P i (rs.length + k)) W' (hT.at_ (i := 0) rfl) (hT.at_ (i := 2) rfl) (hT.at_ (i := 3) rfl) ((HKA10.out.below hW').at_ (i := 0) rfl) (hX.at_ (i := 0) rfl) (hX.at_ (i := 1) rfl) hro p5 p6 hr'.val (HDA10.out.below hW') hz hi (by omega) (by omega) hv0 (by omega) (by omega) (by omega)))
     have HKF := Lib.hid (fun e w' (h : RetMx w rs.length rs.length (invQ rs s) e w') => (show InvPost false s rs.length (invQ rs s) w e w' from .inr ⟨by rw [HPL.out]; exact HPE.out, h⟩))
     go_wp2_with fail
     refine HBU.out.mono ?_
     intro e w11 hr
     obtain ⟨V, E, rfl, hv⟩ := hr.val
     have HR := Lib.hid (HKF.out _ _ (hv.up HB10.out))
     clear hr hv
     go_wp2_with fail
     rw [← hQ.out]
     exact HR.out
end Go.Proofs.YtajlojhklhlljaaGreatDoor
