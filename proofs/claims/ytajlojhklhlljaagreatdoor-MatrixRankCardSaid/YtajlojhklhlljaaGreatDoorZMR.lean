import Derived.Test.YtajlojhklhlljaaGreatDoorZMQ
set_option maxHeartbeats 16000000
set_option maxRecDepth 100000
set_option linter.unusedVariables false
set_option linter.unusedSimpArgs false
set_option linter.unusedSectionVars false
namespace Go.Proofs.YtajlojhklhlljaaGreatDoor
open Go.RowKit
theorem blk_set4 {w : World} {g : Nat} {u v : FrV} (h : Blk w g 93 u.four) : Blk ((((w.setCell ⟨g, 0, none⟩ (.bool v.na)).setCell ⟨g, 1, none⟩ (.slice v.A v.l v.c)).setCell ⟨g, 2, none⟩ (.bool v.nb)).setCell ⟨g, 3, none⟩ (.slice v.A' v.l' v.c')) g 93 v.four :=
 (((h.set 0 (.bool v.na)).set 1 (.slice v.A v.l v.c)).set 2 (.bool v.nb)).set 3 (.slice v.A' v.l' v.c')
theorem blk_far4 {w : World} {g h : Nat} {t : TypeId} {cs : List Value} (k : Blk w g t cs) (hne : h ≠ g) (a b c d : Value) : Blk ((((w.setCell ⟨h, 0, none⟩ a).setCell ⟨h, 1, none⟩ b).setCell ⟨h, 2, none⟩ c).setCell ⟨h, 3, none⟩ d) g t cs :=
 (((k.far (p := ⟨h, 0, none⟩) (Ne.symm hne) _).far (p := ⟨h, 1, none⟩) (Ne.symm hne) _).far (p := ⟨h, 2, none⟩) (Ne.symm hne) _).far (p := ⟨h, 3, none⟩) (Ne.symm hne) _
theorem frac_set4 {w : World} {g : Nat} {u : FrV} {x : Value} {q : Rat} (h : Blk w g 93 u.four) (hx : IsFrac w x q) (v : FrV) : IsFrac ((((w.setCell ⟨g, 0, none⟩ (.bool v.na)).setCell ⟨g, 1, none⟩ (.slice v.A v.l v.c)).setCell ⟨g, 2, none⟩ (.bool v.nb)).setCell ⟨g, 3, none⟩ (.slice v.A' v.l' v.c')) x q := by
 have b1 := h.set 0 (.bool v.na)
 have b2 := b1.set 1 (.slice v.A v.l v.c)
 have b3 := b2.set 2 (.bool v.nb)
 have n0 : ∀ a ∈ u.four, ∀ z, a ≠ .int .u64 z := four_no
 have n1 := no_set (j := 0) (u := .bool v.na) n0 (fun z e => by cases e)
 have n2 := no_set (j := 1) (u := .slice v.A v.l v.c) n1 (fun z e => by cases e)
 have n3 := no_set (j := 2) (u := .bool v.nb) n2 (fun z e => by cases e)
 exact (((hx.box h n0 (grown_set g _ _)).box b1 n1 (grown_set g _ _)).box b2 n2 (grown_set g _ _)).box b3 n3 (grown_set g _ _)
theorem bel_set4' {B : Nat} {w0 w : World} (h : Below B w0 w) {g : Nat} (hg : B ≤ g) (a b c d : Value) : Below B w0 ((((w.setCell ⟨g, 0, none⟩ a).setCell ⟨g, 1, none⟩ b).setCell ⟨g, 2, none⟩ c).setCell ⟨g, 3, none⟩ d) :=
 (((h.setCell (p := ⟨g, 0, none⟩) hg _).setCell (p := ⟨g, 1, none⟩) hg _).setCell (p := ⟨g, 2, none⟩) hg _).setCell (p := ⟨g, 3, none⟩) hg _
theorem cloTr (a : Nat) (A : Option Addr) (c m n i k : Nat) (rs : List RowT) (M : Nat → Nat → Rat) (w : World) (h : MatIn w A rs) (hmf : MatF rs m n M) (hbox : w.cell? ⟨a, 0, none⟩ = some (.slice A m c)) (hi : i < n) (hk : k < m) (henv : Env w) :
  Calls Tryz.prog 119 #[.int .i64 (i : Int), .int .i64 (k : Int), .pointer (some ⟨a, 0, none⟩)] w (RetFrac w (M k i)) := by
 obtain ⟨b, off, b2, o2, cp, rfl, hb, hb2, hc, hc2⟩ := mat_el h hmf hk hi
 have hbl : Below w.heap.size w (w.alloc (.cells #[.bool false, .slice none 0 0, .bool false, .slice none 0 0] 93)) := (Below.refl _ _).alloc (Nat.le_refl _) _
 have HRD := Lib.hid (FReadQ (M k i) _ (hmf.fit k i hk hi) (henv.below hbl))
 have HB1 := Lib.hid hbl
 have HK := Lib.hid (Blk.new w 93 (FrV.four ⟨false, none, 0, 0, false, none, 0, 0⟩))
 have k0 := (hbl.cell (World.block_lt_of_cell? _ _ hbox)).trans hbox
 have k1 := (hbl.cell (p := ⟨b, off + k, none⟩) hb).trans hc
 have k2 := (hbl.cell (p := ⟨b2, o2 + i, none⟩) hb2).trans hc2
 have i1 : (0 : Int) ≤ (i : Int) := by omega
 have i2 : (i : Int) < (n : Int) := by omega
 have i3 : (0 : Int) ≤ (k : Int) := by omega
 have i4 : (k : Int) < (m : Int) := by omega
 generalize hq : M k i = q at *
 clear h hmf henv hbl hc hc2 hbox hq
 generalize rstr q = s at *
 go_enter Tryz.func119, Tryz.ntmps119
 go_wp2_with fail
 refine HRD.out.mono ?_
 rintro e w2 ⟨v, rfl, hv, hb2⟩
 have hk2 := HK.out.below hb2
 have HK2 := Lib.hid hk2
 have HV2 := Lib.hid hv
 have HB2 := Lib.hid (HB1.out.trans (hb2.mono HB1.out.size))
 obtain ⟨na, nb, A1, A2, l1, c1, l2, c2, rfl⟩ := hv.slice
 have e0 := hk2.at_ (i := 0) rfl
 have e1 := hk2.at_ (i := 1) rfl
 have e2 := hk2.at_ (i := 2) rfl
 have e3 := hk2.at_ (i := 3) rfl
 have f0 := hk2.fr 0
 have f1 := hk2.fr 1
 have f2 := hk2.fr 2
 have f3 := hk2.fr 3
 clear hk2 hv hb2 k0 k1 k2
 go_wp2_with fail
 clear e0 e1 e2 e3 f0 f1 f2 f3
 have hb4 := blk_set4 (v := ⟨na, A1, l1, c1, nb, A2, l2, c2⟩) HK2.out
 have hf4 := frac_set4 HK2.out HV2.out ⟨na, A1, l1, c1, nb, A2, l2, c2⟩
 have hB4 := bel_set4' HB2.out (Nat.le_refl _) (.bool na) (.slice A1 l1 c1) (.bool nb) (.slice A2 l2 c2)
 simp only at hb4 hf4
 generalize ((((w2.setCell ⟨w.heap.size, 0, none⟩ (.bool na)).setCell ⟨w.heap.size, 1, none⟩ (.slice A1 l1 c1)).setCell ⟨w.heap.size, 2, none⟩ (.bool nb)).setCell ⟨w.heap.size, 3, none⟩ (.slice A2 l2 c2)) = w3 at *
 have c0 := hb4.at_ (i := 0) rfl
 have c1' := hb4.at_ (i := 1) rfl
 have c2' := hb4.at_ (i := 2) rfl
 have c3' := hb4.at_ (i := 3) rfl
 refine bodyPost_ret (v := .agg #[.bool na, .slice A1 l1 c1, .bool nb, .slice A2 l2 c2]) ?_ rfl ⟨_, rfl, hf4, hB4⟩
 simp [results, Tryz.results119, go_sem, c0, c1', c2', c3']
theorem cloAd (a a' : Nat) (A A' : Option Addr) (c c' m n i k : Nat) (rs rs' : List RowT) (M N : Nat → Nat → Rat) (w : World) (h : MatIn w A rs) (hmf : MatF rs m n M) (hbox : w.cell? ⟨a, 0, none⟩ = some (.slice A m c)) (h' : MatIn w A' rs') (hmf' : MatF rs' m n N) (hbox' : w.cell? ⟨a', 0, none⟩ = some (.slice A' m c')) (hi : i < m) (hk : k < n) (henv : Env w) :
  Calls Tryz.prog 114 #[.int .i64 (i : Int), .int .i64 (k : Int), .pointer (some ⟨a, 0, none⟩), .pointer (some ⟨a', 0, none⟩)] w (RetFrac w (M i k + N i k)) := by
 obtain ⟨b, off, b2, o2, cp, rfl, hb, hb2, hc, hc2⟩ := mat_el h hmf hi hk
 obtain ⟨b', off', b2', o2', cp', rfl, hb', hb2', hd, hd2⟩ := mat_el h' hmf' hi hk
 have f1 := hmf.fit i k hi hk
 have f2 := hmf'.fit i k hi hk
 have HR1 := Lib.hid (fun W hE => FReadQ (M i k) W f1 hE)
 have HR2 := Lib.hid (fun W hE => FReadQ (N i k) W f2 hE)
 have sa := f1.sz
 have sb := f2.sz
 generalize M i k = q1 at *
 generalize N i k = q2 at *
 generalize rstr q1 = s1 at *
 generalize rstr q2 = s2 at *
 have HE := Lib.hid henv
 have KB := Lib.hid (fun W' (hW : Below w.heap.size w W') => (show W'.cell? ⟨a, 0, none⟩ = some (.slice (some ⟨b, off, none⟩) m c) ∧ W'.cell? ⟨b, off + i, none⟩ = some (.slice (some ⟨b2, o2, none⟩) n cp) ∧ W'.cell? ⟨b2, o2 + k, none⟩ = some (.string s1) ∧ W'.cell? ⟨a', 0, none⟩ = some (.slice (some ⟨b', off', none⟩) m c') ∧ W'.cell? ⟨b', off' + i, none⟩ = some (.slice (some ⟨b2', o2', none⟩) n cp') ∧ W'.cell? ⟨b2', o2' + k, none⟩ = some (.string s2) from ⟨(hW.cell (World.block_lt_of_cell? _ _ hbox)).trans hbox, (hW.cell (World.block_lt_of_cell? _ _ hc)).trans hc, (hW.cell (World.block_lt_of_cell? _ _ hc2)).trans hc2, (hW.cell (World.block_lt_of_cell? _ _ hbox')).trans hbox', (hW.cell (World.block_lt_of_cell? _ _ hd)).trans hd, (hW.cell (World.block_lt_of_cell? _ _ hd2)).trans hd2⟩))
 have hbl : Below w.heap.size w (w.alloc (.cells #[.bool false, .slice none 0 0, .bool false, .slice none 0 0] 93)).drew := ((Below.refl _ _).alloc (Nat.le_refl _) _).drew
 have HWz := Lib.hid hbl
 have HKz := Lib.hid (show Blk (w.alloc (.cells #[.bool false, .slice none 0 0, .bool false, .slice none 0 0] 93)).drew w.heap.size 93 (FrV.four ⟨false, none, 0, 0, false, none, 0, 0⟩) from (Blk.new w 93 (FrV.four ⟨false, none, 0, 0, false, none, 0, 0⟩)).below (Below.refl _ _).drew)
 have KSz := Lib.hid (KB.out _ hbl)
 have i1 : (0 : Int) ≤ (i : Int) := by omega
 have i2 : (i : Int) < (m : Int) := by omega
 have i3 : (0 : Int) ≤ (k : Int) := by omega
 have i4 : (k : Int) < (n : Int) := by omega
 clear h hmf h' hmf' henv hbl hc hc2 hd hd2 hbox hbox' f1 f2
 go_enter Tryz.func114, Tryz.ntmps114
 go_wp2_with fail
 refine wp_region_tail (S := (fun w' => w'.cell? ⟨a, 0, none⟩ = some (.slice (some ⟨b, off, none⟩) m c) ∧ w'.cell? ⟨b, off + i, none⟩ = some (.slice (some ⟨b2, o2, none⟩) n cp) ∧ w'.cell? ⟨b2, o2 + k, none⟩ = some (.string s1) ∧ w'.cell? ⟨a', 0, none⟩ = some (.slice (some ⟨b', off', none⟩) m c') ∧ w'.cell? ⟨b', off' + i, none⟩ = some (.slice (some ⟨b2', o2', none⟩) n cp') ∧ w'.cell? ⟨b2', o2' + k, none⟩ = some (.string s2))) 17 (by kernel_rfl) rfl (by kernel_rfl) (by kernel_rfl) rfl (by exact KSz.out) (fun hHeld => ?_)
 simp only [List.pop_toArray, List.dropLast_cons_cons, List.dropLast_singleton]
 refine tkH 0 hHeld ?_
 try simp only [Act.put, tkA, tkB, tkC]
 refine tkH 1 hHeld ?_
 try simp only [Act.put, tkA, tkB, tkC]
 refine tkH 2 hHeld ?_
 try simp only [Act.put, tkA, tkB, tkC]
 refine tkH 3 hHeld ?_
 try simp only [Act.put, tkA, tkB, tkC]
 refine tkH 4 hHeld ?_
 try simp only [Act.put, tkA, tkB, tkC]
 refine tkH 5 hHeld ?_
 try simp only [Act.put, tkA, tkB, tkC]
 refine tkH 6 hHeld ?_
 try simp only [Act.put, tkA, tkB, tkC]
 refine tkH 8 hHeld ?_
 try simp only [Act.put, tkA, tkB, tkC]
 refine tkH 9 hHeld ?_
 try simp only [Act.put, tkA, tkB, tkC]
 refine tkH 10 hHeld ?_
 try simp only [Act.put, tkA, tkB, tkC]
 refine tkH 11 hHeld ?_
 try simp only [Act.put, tkA, tkB, tkC]
 refine tkH 12 hHeld ?_
 try simp only [Act.put, tkA, tkB, tkC]
 refine tkH 13 hHeld ?_
 try simp only [Act.put, tkA, tkB, tkC]
 refine tkH 14 hHeld ?_
 try simp only [Act.put, tkA, tkB, tkC]
 refine wpAnyH_ready (rs := [7]) (by kernel_rfl) (by simp) ?_
 refine AllReadyH.cons rfl (fun K hK => ?_) AllReadyH.nil
 go_simp
 (go_at_call 101; (with_reducible refine (HR1.out _ (HE.out.below HWz.out)).mono ?_); rintro e wa ⟨va, rfl, hv, hb⟩; have hw := HWz.out.trans (hb.mono HWz.out.size); have HWa := Lib.hid hw; have HKa := Lib.hid (HKz.out.below hb); have HVa := Lib.hid hv; obtain ⟨ra0, ra4, ra1, ra5, ra2, ra3, ra6, ra7, rfl⟩ := hv.slice; have KSa := Lib.hid (KB.out wa hw); clear hv hb hw)
 go_wp2_with fail
 refine hK.out _ _ ?_ (fun hHeld => ?_)
 ·first | exact KSa.out | exact KSb.out | exact KSc.out
 clear hK K
 try simp only [Act.put, tkA, tkB, tkC]
 refine wpAnyH_ready (rs := [15]) (by kernel_rfl) (by simp) ?_
 refine AllReadyH.cons rfl (fun K hK => ?_) AllReadyH.nil
 go_simp
 (go_at_call 101; (with_reducible refine (HR2.out _ (HE.out.below HWa.out)).mono ?_); rintro e wb ⟨vb, rfl, hv, hb⟩; have hw := HWa.out.trans (hb.mono HWa.out.size); have HWb := Lib.hid hw; have HKb := Lib.hid (HKa.out.below hb); have HVb := Lib.hid hv; have HVa2 := Lib.hid (HVa.out.below hb); obtain ⟨rb0, rb4, rb1, rb5, rb2, rb3, rb6, rb7, rfl⟩ := hv.slice; have KSb := Lib.hid (KB.out wb hw); clear hv hb hw)
 go_wp2_with fail
 refine hK.out _ _ ?_ (fun hHeld => ?_)
 ·first | exact KSa.out | exact KSb.out | exact KSc.out
 clear hK K
 try simp only [Act.put, tkA, tkB, tkC]
 refine wpAnyH_ready (rs := [16]) (by kernel_rfl) (by simp) ?_
 refine AllReadyH.cons rfl (fun K hK => ?_) AllReadyH.nil
 go_simp
 (go_at_call 100; (with_reducible refine (FAdd_any _ _ q1 q2 _ HVa2.out HVb.out (sa.mono (by omega)) (sb.mono (by omega))).mono ?_); rintro e wc ⟨vc, rfl, hv, hb⟩; have hw := HWb.out.trans (hb.mono HWb.out.size); have HWc := Lib.hid hw; have HKc := Lib.hid (HKb.out.below hb); have HVc := Lib.hid hv; obtain ⟨rc0, rc4, rc1, rc5, rc2, rc3, rc6, rc7, rfl⟩ := hv.slice; have KSc := Lib.hid (KB.out wc hw); clear hv hb hw)
 go_wp2_with fail
 refine hK.out _ _ ?_ (fun hHeld => ?_)
 ·first | exact KSa.out | exact KSb.out | exact KSc.out
 clear hK K
 try simp only [Act.put, tkA, tkB, tkC]
 refine wpAnyH_done (by kernel_rfl) ?_ _
 simp only [tailQ, List.getElem_toArray, List.getElem_cons_succ, List.getElem_cons_zero]
 have hk2 := HKc.out
 have e0 := hk2.at_ (i := 0) rfl
 have e1 := hk2.at_ (i := 1) rfl
 have e2 := hk2.at_ (i := 2) rfl
 have e3 := hk2.at_ (i := 3) rfl
 have f0 := hk2.fr 0
 have f1 := hk2.fr 1
 have f2 := hk2.fr 2
 have f3 := hk2.fr 3
 clear hk2
 go_wp2_with fail
 clear e0 e1 e2 e3 f0 f1 f2 f3
 have hb4 := blk_set4 (v := ⟨rc0, rc1, rc2, rc3, rc4, rc5, rc6, rc7⟩) HKc.out
 have hf4 := frac_set4 HKc.out HVc.out ⟨rc0, rc1, rc2, rc3, rc4, rc5, rc6, rc7⟩
 have hB4 := bel_set4' HWc.out (Nat.le_refl _) (.bool rc0) (.slice rc1 rc2 rc3) (.bool rc4) (.slice rc5 rc6 rc7)
 simp only at hb4 hf4
 generalize ((((wc.setCell ⟨w.heap.size, 0, none⟩ (.bool rc0)).setCell ⟨w.heap.size, 1, none⟩ (.slice rc1 rc2 rc3)).setCell ⟨w.heap.size, 2, none⟩ (.bool rc4)).setCell ⟨w.heap.size, 3, none⟩ (.slice rc5 rc6 rc7)) = w9 at *
 have c0 := hb4.at_ (i := 0) rfl
 have c1 := hb4.at_ (i := 1) rfl
 have c2 := hb4.at_ (i := 2) rfl
 have c3 := hb4.at_ (i := 3) rfl
 refine bodyPost_ret (v := .agg #[.bool rc0, .slice rc1 rc2 rc3, .bool rc4, .slice rc5 rc6 rc7]) ?_ rfl ⟨_, rfl, hf4, hB4⟩
 simp [results, Tryz.results114, go_sem, c0, c1, c2, c3]
theorem cloId (i k : Nat) (w : World) : Calls Tryz.prog 123 #[.int .i64 (i : Int), .int .i64 (k : Int)] w (RetFrac w (idn i k)) := by
 have hbl : Below w.heap.size w (w.alloc (.cells #[.bool false, .slice none 0 0, .bool false, .slice none 0 0] 93)) := (Below.refl _ _).alloc (Nat.le_refl _) _
 have HWz := Lib.hid hbl
 have HKz := Lib.hid (Blk.new w 93 (FrV.four ⟨false, none, 0, 0, false, none, 0, 0⟩))
 clear hbl
 by_cases h : i = k
 ·have hx : ((i : Int) == (k : Int)) = true := by simp; omega
  have he : idn i k = 1 := if_pos h
  rw [he]
  clear he
  go_enter Tryz.func123, Tryz.ntmps123
  go_wp2_with fail
  refine (FOf_any 1 _ (by decide)).mono ?_
  rintro e wa ⟨va, rfl, hv, hb⟩
  have HWa := Lib.hid (HWz.out.trans (hb.mono HWz.out.size))
  have HKa := Lib.hid (HKz.out.below hb)
  have HVa := Lib.hid hv
  obtain ⟨ra0, ra4, ra1, ra5, ra2, ra3, ra6, ra7, rfl⟩ := hv.slice
  clear hv hb
  have hk2 := HKa.out
  have e0 := hk2.at_ (i := 0) rfl
  have e1 := hk2.at_ (i := 1) rfl
  have e2 := hk2.at_ (i := 2) rfl
  have e3 := hk2.at_ (i := 3) rfl
  have f0 := hk2.fr 0
  have f1 := hk2.fr 1
  have f2 := hk2.fr 2
  have f3 := hk2.fr 3
  clear hk2
  go_wp2_with fail
  clear e0 e1 e2 e3 f0 f1 f2 f3
  have hb4 := blk_set4 (v := ⟨ra0, ra1, ra2, ra3, ra4, ra5, ra6, ra7⟩) HKa.out
  have hf4 := frac_set4 HKa.out HVa.out ⟨ra0, ra1, ra2, ra3, ra4, ra5, ra6, ra7⟩
  have hB4 := bel_set4' HWa.out (Nat.le_refl _) (.bool ra0) (.slice ra1 ra2 ra3) (.bool ra4) (.slice ra5 ra6 ra7)
  simp only at hb4 hf4
  generalize ((((wa.setCell ⟨w.heap.size, 0, none⟩ (.bool ra0)).setCell ⟨w.heap.size, 1, none⟩ (.slice ra1 ra2 ra3)).setCell ⟨w.heap.size, 2, none⟩ (.bool ra4)).setCell ⟨w.heap.size, 3, none⟩ (.slice ra5 ra6 ra7)) = w9 at *
  have c0 := hb4.at_ (i := 0) rfl
  have c1 := hb4.at_ (i := 1) rfl
  have c2 := hb4.at_ (i := 2) rfl
  have c3 := hb4.at_ (i := 3) rfl
  refine bodyPost_ret (v := .agg #[.bool ra0, .slice ra1 ra2 ra3, .bool ra4, .slice ra5 ra6 ra7]) ?_ rfl ⟨_, rfl, hf4, hB4⟩
  simp [results, Tryz.results123, go_sem, c0, c1, c2, c3]
 ·have hx : ((i : Int) == (k : Int)) = false := by simp; omega
  have he : idn i k = 0 := if_neg h
  rw [he]
  clear he
  go_enter Tryz.func123, Tryz.ntmps123
  go_wp2_with fail
  refine (FOf_any 0 _ (by decide)).mono ?_
  rintro e wa ⟨va, rfl, hv, hb⟩
  have HWa := Lib.hid (HWz.out.trans (hb.mono HWz.out.size))
  have HKa := Lib.hid (HKz.out.below hb)
  have HVa := Lib.hid hv
  obtain ⟨ra0, ra4, ra1, ra5, ra2, ra3, ra6, ra7, rfl⟩ := hv.slice
  clear hv hb
  have hk2 := HKa.out
  have e0 := hk2.at_ (i := 0) rfl
  have e1 := hk2.at_ (i := 1) rfl
  have e2 := hk2.at_ (i := 2) rfl
  have e3 := hk2.at_ (i := 3) rfl
  have f0 := hk2.fr 0
  have f1 := hk2.fr 1
  have f2 := hk2.fr 2
  have f3 := hk2.fr 3
  clear hk2
  go_wp2_with fail
  clear e0 e1 e2 e3 f0 f1 f2 f3
  have hb4 := blk_set4 (v := ⟨ra0, ra1, ra2, ra3, ra4, ra5, ra6, ra7⟩) HKa.out
  have hf4 := frac_set4 HKa.out HVa.out ⟨ra0, ra1, ra2, ra3, ra4, ra5, ra6, ra7⟩
  have hB4 := bel_set4' HWa.out (Nat.le_refl _) (.bool ra0) (.slice ra1 ra2 ra3) (.bool ra4) (.slice ra5 ra6 ra7)
  simp only at hb4 hf4
  generalize ((((wa.setCell ⟨w.heap.size, 0, none⟩ (.bool ra0)).setCell ⟨w.heap.size, 1, none⟩ (.slice ra1 ra2 ra3)).setCell ⟨w.heap.size, 2, none⟩ (.bool ra4)).setCell ⟨w.heap.size, 3, none⟩ (.slice ra5 ra6 ra7)) = w9 at *
  have c0 := hb4.at_ (i := 0) rfl
  have c1 := hb4.at_ (i := 1) rfl
  have c2 := hb4.at_ (i := 2) rfl
  have c3 := hb4.at_ (i := 3) rfl
  refine bodyPost_ret (v := .agg #[.bool ra0, .slice ra1 ra2 ra3, .bool ra4, .slice ra5 ra6 ra7]) ?_ rfl ⟨_, rfl, hf4, hB4⟩
  simp [results, Tryz.results123, go_sem, c0, c1, c2, c3]
theorem cloMu (a a' : Nat) (A A' : Option Addr) (c c' m n p i k : Nat) (rs rs' : List RowT) (M N : Nat → Nat → Rat) (w : World) (h : MatIn w A rs) (hmf : MatF rs m n M) (hbox : w.cell? ⟨a, 0, none⟩ = some (.slice A m c)) (h' : MatIn w A' rs') (hmf' : MatF rs' n p N) (hbox' : w.cell? ⟨a', 0, none⟩ = some (.slice A' n c')) (hi : i < m) (hk : k < p) (hn1 : 1 ≤ n) (hn : n ≤ 12) (henv : Env w) :
  Calls Tryz.prog 117 #[.int .i64 (i : Int), .int .i64 (k : Int), .pointer (some ⟨a, 0, none⟩), .pointer (some ⟨a', 0, none⟩)] w (RetFrac w (mulM n M N i k)) := by
 obtain ⟨b, off, b2, o2, cp, rfl, hb, hb2, hc, hc2⟩ := mat_row h hmf hn1 hi
 have HC2 := Lib.hid hc2
 have HM' := Lib.hid h'
 have HF' := Lib.hid hmf'
 have HF := Lib.hid hmf
 have HE := Lib.hid henv
 have HX' := Lib.hid hbox'
 have hbl : Below w.heap.size w (w.alloc (.cells #[.bool false, .slice none 0 0, .bool false, .slice none 0 0] 93)) := (Below.refl _ _).alloc (Nat.le_refl _) _
 have HW0 := Lib.hid hbl
 have HG0 := Lib.hid (Blk.new w 93 (FrV.four ⟨false, none, 0, 0, false, none, 0, 0⟩))
 have i1 : (0 : Int) ≤ (i : Int) := by omega
 have i2 : (i : Int) < (m : Int) := by omega
 have i3 : (0 : Int) ≤ (k : Int) := by omega
 have i4 : (k : Int) < (p : Int) := by omega
 have HCC := Lib.hid (fun W (hW : Below w.heap.size w W) => (show W.cell? ⟨a, 0, none⟩ = some (.slice (some ⟨b, off, none⟩) m c) ∧ W.cell? ⟨b, off + i, none⟩ = some (.slice (some ⟨b2, o2, none⟩) n cp) from ⟨(hW.cell (World.block_lt_of_cell? _ _ hbox)).trans hbox, (hW.cell (World.block_lt_of_cell? _ _ hc)).trans hc⟩))
 clear h hmf h' hmf' henv hbl hc hc2 hbox hbox' hb
 go_enter Tryz.func117, Tryz.ntmps117
 go_wp2_with fail
 refine (FOf_any 0 _ (by decide)).mono ?_
 rintro e w1 ⟨v1, rfl, hv, hb⟩
 have hw1 := HW0.out.trans (hb.mono HW0.out.size)
 obtain ⟨u0, u4, u1, u5, u2, u3, u6, u7, rfl⟩ := hv.slice
 have hba : Below w1.heap.size w1 (w1.alloc (.cells #[.bool u0, .slice u1 u2 u3, .bool u4, .slice u5 u6 u7] 93)) := (Below.refl _ _).alloc (Nat.le_refl _) _
 have HW2 := Lib.hid (hw1.trans (hba.mono hw1.size))
 have HG2 := Lib.hid ((HG0.out.below hb).below hba)
 have HK2 := Lib.hid (show Blk (w1.alloc (.cells #[.bool u0, .slice u1 u2 u3, .bool u4, .slice u5 u6 u7] 93)) w1.heap.size 93 (FrV.four ⟨u0, u1, u2, u3, u4, u5, u6, u7⟩) from Blk.new w1 93 (FrV.four ⟨u0, u1, u2, u3, u4, u5, u6, u7⟩))
 have HS2 := Lib.hid (hv.below hba)
 have hg01 : w.heap.size < w1.heap.size := by have := hb.size; simp at this; omega
 obtain ⟨cc0, cc1⟩ := HCC.out _ HW2.out
 clear hv hb hba hw1
 go_wp2_with fail
 generalize (w1.alloc (.cells #[.bool u0, .slice u1 u2 u3, .bool u4, .slice u5 u6 u7] 93)) = W at *
 generalize w1.heap.size = g1 at *
 clear cc0 cc1
 have hg1w : w.heap.size ≤ g1 := by omega
 go_loopw [16] (fun iv wr => ∃ (j : Nat) (u : FrV), iv = .int .i64 (j : Int) ∧ j ≤ n ∧ Blk wr g1 93 u.four ∧ IsFrac wr u.val (sumR j fun j => M i j * N j k) ∧ Blk wr w.heap.size 93 (FrV.four ⟨false, none, 0, 0, false, none, 0, 0⟩) ∧ Below w.heap.size w wr) (fun iv _ => n - (intOf iv).toNat)
 case atStart => exact ⟨0, _, rfl, Nat.zero_le _, HK2.out, HS2.out, HG2.out, HW2.out⟩
 case round =>
  clear HK2 HS2 HG2 HW2
  obtain ⟨j, u, rfl, hj, hkb, hsf, hgb, hbw⟩ := hrel
  have HGz := Lib.hid (show Blk wr.drew w.heap.size 93 _ from hgb.below (Below.refl _ _).drew)
  by_cases hlt : j < n
  ·obtain ⟨b', off', b2', o2', cp', rfl, hb', hb2', hd, hd2⟩ := mat_el HM'.out HF'.out hlt hk
   have f1 := HF.out.fit i j hi hlt
   have f2 := HF'.out.fit j k hlt hk
   have c0 := (hbw.cell (p := ⟨b2, o2 + j, none⟩) hb2).trans (HC2.out j hlt)
   have hbox' := HX'.out
   have j1 : (0 : Int) ≤ (j : Int) := by omega
   have j2 : (j : Int) < (n : Int) := by omega
   have HR1 := Lib.hid (fun W hE => FReadQ (M i j) W f1 hE)
   have HR2 := Lib.hid (fun W hE => FReadQ (N j k) W f2 hE)
   have sa := f1.sz
   have sb := f2.sz
   have sab := sa.mul sb
   have hss := sumR_sz (b := 90) (n := j) (f := fun j => M i j * N j k) fun l hl => ((HF.out.fit i l hi (by omega)).sz).mul ((HF'.out.fit l k (by omega) hk).sz)
   have ss := hss.mono (show 1 + j * (90 + 1) ≤ 2000 by omega)
   have HSU := Lib.hid (show sumR (j + 1) (fun j => M i j * N j k) = sumR j (fun j => M i j * N j k) + M i j * N j k from rfl)
   obtain ⟨q1, hq1⟩ : ∃ q, M i j = q := ⟨_, rfl⟩
   obtain ⟨q2, hq2⟩ : ∃ q, N j k = q := ⟨_, rfl⟩
   obtain ⟨sq, hsq⟩ : ∃ q, sumR j (fun j => M i j * N j k) = q := ⟨_, rfl⟩
   rw [hq1] at HR1 sa sab c0 HSU
   rw [hq2] at HR2 sb sab hd2 HSU
   rw [hsq] at ss hsf HSU
   obtain ⟨s1, hs1⟩ : ∃ s, rstr q1 = s := ⟨_, rfl⟩
   obtain ⟨s2, hs2⟩ : ∃ s, rstr q2 = s := ⟨_, rfl⟩
   rw [hs1] at HR1 c0
   rw [hs2] at HR2 hd2
   obtain ⟨u0, u1, u2, u3, u4, u5, u6, u7⟩ := u
   have KB := Lib.hid (fun W' (hW : Below w.heap.size w W') (hK : Blk W' g1 93 (FrV.four ⟨u0, u1, u2, u3, u4, u5, u6, u7⟩)) => (show W'.cell? ⟨g1, 0, none⟩ = some (.bool u0) ∧ W'.cell? ⟨g1, 1, none⟩ = some (.slice u1 u2 u3) ∧ W'.cell? ⟨g1, 2, none⟩ = some (.bool u4) ∧ W'.cell? ⟨g1, 3, none⟩ = some (.slice u5 u6 u7) ∧ W'.cell? ⟨a', 0, none⟩ = some (.slice (some ⟨b', off', none⟩) n c') ∧ W'.cell? ⟨b', off' + j, none⟩ = some (.slice (some ⟨b2', o2', none⟩) p cp') ∧ W'.cell? ⟨b2', o2' + k, none⟩ = some (.string s2) from ⟨hK.at_ (i := 0) rfl, hK.at_ (i := 1) rfl, hK.at_ (i := 2) rfl, hK.at_ (i := 3) rfl, (hW.cell (World.block_lt_of_cell? _ _ hbox')).trans hbox', (hW.cell (World.block_lt_of_cell? _ _ hd)).trans hd, (hW.cell (World.block_lt_of_cell? _ _ hd2)).trans hd2⟩))
   have HWz := Lib.hid hbw.drew
   have HKz := Lib.hid (show Blk wr.drew g1 93 _ from hkb.below (Below.refl _ _).drew)
   have HSz := Lib.hid (show IsFrac wr.drew (.agg #[.bool u0, .slice u1 u2 u3, .bool u4, .slice u5 u6 u7]) sq from hsf.below (Below.refl _ _).drew)
   have KSz := Lib.hid (KB.out _ HWz.out HKz.out)
   clear hkb hsf hgb hbw hd hd2 hbox' f1 f2 hss hq1 hq2 hsq hs1 hs2 hb'
   go_wp2_with fail
   refine wp_region_tail (S := (fun w' => w'.cell? ⟨g1, 0, none⟩ = some (.bool u0) ∧ w'.cell? ⟨g1, 1, none⟩ = some (.slice u1 u2 u3) ∧ w'.cell? ⟨g1, 2, none⟩ = some (.bool u4) ∧ w'.cell? ⟨g1, 3, none⟩ = some (.slice u5 u6 u7) ∧ w'.cell? ⟨a', 0, none⟩ = some (.slice (some ⟨b', off', none⟩) n c') ∧ w'.cell? ⟨b', off' + j, none⟩ = some (.slice (some ⟨b2', o2', none⟩) p cp') ∧ w'.cell? ⟨b2', o2' + k, none⟩ = some (.string s2))) 13 (by kernel_rfl) rfl (by kernel_rfl) (by kernel_rfl) rfl (by exact KSz.out) (fun hHeld => ?_)
   simp only [List.pop_toArray, List.dropLast_cons_cons, List.dropLast_singleton]
   refine tkH 0 hHeld ?_
   try simp only [Act.put, tkA, tkB, tkC]
   refine tkH 1 hHeld ?_
   try simp only [Act.put, tkA, tkB, tkC]
   refine tkH 3 hHeld ?_
   try simp only [Act.put, tkA, tkB, tkC]
   refine tkH 4 hHeld ?_
   try simp only [Act.put, tkA, tkB, tkC]
   refine tkH 5 hHeld ?_
   try simp only [Act.put, tkA, tkB, tkC]
   refine tkH 6 hHeld ?_
   try simp only [Act.put, tkA, tkB, tkC]
   refine tkH 7 hHeld ?_
   try simp only [Act.put, tkA, tkB, tkC]
   refine tkH 8 hHeld ?_
   try simp only [Act.put, tkA, tkB, tkC]
   refine tkH 9 hHeld ?_
   try simp only [Act.put, tkA, tkB, tkC]
   refine wpAnyH_ready (rs := [2]) (by kernel_rfl) (by simp) ?_
   refine AllReadyH.cons rfl (fun K hK => ?_) AllReadyH.nil
   go_simp
   (go_at_call 101; (with_reducible refine (HR1.out _ (HE.out.below HWz.out)).mono ?_); rintro e wa ⟨va, rfl, hv, hb⟩; have hw := HWz.out.trans (hb.mono HWz.out.size); have HWa := Lib.hid hw; have hk := HKz.out.below hb; have HKa := Lib.hid hk; have HVa := Lib.hid hv; have HSa := Lib.hid (HSz.out.below hb); have HGa := Lib.hid (HGz.out.below hb); obtain ⟨ra0, ra4, ra1, ra5, ra2, ra3, ra6, ra7, rfl⟩ := hv.slice; have KSa := Lib.hid (KB.out wa hw hk); clear hv hb hw hk)
   go_wp2_with fail
   refine hK.out _ _ ?_ (fun hHeld => ?_)
   ·first | exact KSa.out | exact KSb.out | exact KSc.out | exact KSd.out
   clear hK K
   try simp only [Act.put, tkA, tkB, tkC]
   refine wpAnyH_ready (rs := [10]) (by kernel_rfl) (by simp) ?_
   refine AllReadyH.cons rfl (fun K hK => ?_) AllReadyH.nil
   go_simp
   (go_at_call 101; (with_reducible refine (HR2.out _ (HE.out.below HWa.out)).mono ?_); rintro e wb ⟨vb, rfl, hv, hb⟩; have hw := HWa.out.trans (hb.mono HWa.out.size); have HWb := Lib.hid hw; have hk := HKa.out.below hb; have HKb := Lib.hid hk; have HVb := Lib.hid hv; have HSb := Lib.hid (HSa.out.below hb); have HGb := Lib.hid (HGa.out.below hb); have HVa2 := Lib.hid (HVa.out.below hb); obtain ⟨rb0, rb4, rb1, rb5, rb2, rb3, rb6, rb7, rfl⟩ := hv.slice; have KSb := Lib.hid (KB.out wb hw hk); clear hv hb hw hk)
   go_wp2_with fail
   refine hK.out _ _ ?_ (fun hHeld => ?_)
   ·first | exact KSa.out | exact KSb.out | exact KSc.out | exact KSd.out
   clear hK K
   try simp only [Act.put, tkA, tkB, tkC]
   refine wpAnyH_ready (rs := [11]) (by kernel_rfl) (by simp) ?_
   refine AllReadyH.cons rfl (fun K hK => ?_) AllReadyH.nil
   go_simp
   (go_at_call 102; (with_reducible refine (FMul_any _ _ q1 q2 _ HVa2.out HVb.out (sa.mono (by omega)) (sb.mono (by omega))).mono ?_); rintro e wc ⟨vc, rfl, hv, hb⟩; have hw := HWb.out.trans (hb.mono HWb.out.size); have HWc := Lib.hid hw; have hk := HKb.out.below hb; have HKc := Lib.hid hk; have HVc := Lib.hid hv; have HSc := Lib.hid (HSb.out.below hb); have HGc := Lib.hid (HGb.out.below hb); obtain ⟨rc0, rc4, rc1, rc5, rc2, rc3, rc6, rc7, rfl⟩ := hv.slice; have KSc := Lib.hid (KB.out wc hw hk); clear hv hb hw hk)
   go_wp2_with fail
   refine hK.out _ _ ?_ (fun hHeld => ?_)
   ·first | exact KSa.out | exact KSb.out | exact KSc.out | exact KSd.out
   clear hK K
   try simp only [Act.put, tkA, tkB, tkC]
   refine wpAnyH_ready (rs := [12]) (by kernel_rfl) (by simp) ?_
   refine AllReadyH.cons rfl (fun K hK => ?_) AllReadyH.nil
   go_simp
   (go_at_call 100; (with_reducible refine (FAdd_any _ _ sq (q1 * q2) _ HSc.out HVc.out (ss.mono (by omega)) (sab.mono (by omega))).mono ?_); rintro e wd ⟨vd, rfl, hv, hb⟩; have hw := HWc.out.trans (hb.mono HWc.out.size); have HWd := Lib.hid hw; have hk := HKc.out.below hb; have HKd := Lib.hid hk; have HVd := Lib.hid hv; have HSd := Lib.hid (HSc.out.below hb); have HGd := Lib.hid (HGc.out.below hb); obtain ⟨rd0, rd4, rd1, rd5, rd2, rd3, rd6, rd7, rfl⟩ := hv.slice; have KSd := Lib.hid (KB.out wd hw hk); clear hv hb hw hk)
   go_wp2_with fail
   refine hK.out _ _ ?_ (fun hHeld => ?_)
   ·first | exact KSa.out | exact KSb.out | exact KSc.out | exact KSd.out
   clear hK K
   try simp only [Act.put, tkA, tkB, tkC]
   refine wpAnyH_done (by kernel_rfl) ?_ _
   simp only [tailQ, List.getElem_toArray, List.getElem_cons_succ, List.getElem_cons_zero]
   have hkd := HKd.out
   have e0 := hkd.at_ (i := 0) rfl
   have e1 := hkd.at_ (i := 1) rfl
   have e2 := hkd.at_ (i := 2) rfl
   have e3 := hkd.at_ (i := 3) rfl
   have f0 := hkd.fr 0
   have f1 := hkd.fr 1
   have f2 := hkd.fr 2
   have f3 := hkd.fr 3
   clear hkd
   go_wp2_with fail
   go_roundw
   case rel => exact ⟨j + 1, ⟨rd0, rd1, rd2, rd3, rd4, rd5, rd6, rd7⟩, by go_num, by omega, blk_set4 (v := ⟨rd0, rd1, rd2, rd3, rd4, rd5, rd6, rd7⟩) HKd.out, by rw [HSU.out]; exact frac_set4 HKd.out HVd.out ⟨rd0, rd1, rd2, rd3, rd4, rd5, rd6, rd7⟩, blk_far4 HGd.out (by omega) _ _ _ _, bel_set4' HWd.out hg1w _ _ _ _⟩
   case measure => simp [intOf]; omega
  ·have hjn : j = n := by omega
   have HSf := Lib.hid (show IsFrac wr u.val (mulM n M N i k) by rw [← hjn]; exact hsf)
   have HGf := Lib.hid hgb
   have HWf := Lib.hid hbw
   obtain ⟨rf0, rf1, rf2, rf3, rf4, rf5, rf6, rf7⟩ := u
   have k0 := hkb.at_ (i := 0) rfl
   have k1 := hkb.at_ (i := 1) rfl
   have k2 := hkb.at_ (i := 2) rfl
   have k3 := hkb.at_ (i := 3) rfl
   obtain ⟨wf, rfl⟩ : ∃ w' : World, w' = wr := ⟨_, rfl⟩
   have HKf := Lib.hid hgb
   have HVf := Lib.hid (show IsFrac wf (.agg #[.bool rf0, .slice rf1 rf2 rf3, .bool rf4, .slice rf5 rf6 rf7]) (mulM n M N i k) from HSf.out)
   clear hkb hsf hgb hbw hjn HGz HSf HGf
   have hk2 := HKf.out
   have e0 := hk2.at_ (i := 0) rfl
   have e1 := hk2.at_ (i := 1) rfl
   have e2 := hk2.at_ (i := 2) rfl
   have e3 := hk2.at_ (i := 3) rfl
   have f0 := hk2.fr 0
   have f1 := hk2.fr 1
   have f2 := hk2.fr 2
   have f3 := hk2.fr 3
   clear hk2
   go_wp2_with fail
   clear k0 k1 k2 k3
   clear e0 e1 e2 e3 f0 f1 f2 f3
   have hb4 := blk_set4 (v := ⟨rf0, rf1, rf2, rf3, rf4, rf5, rf6, rf7⟩) HKf.out
   have hf4 := frac_set4 HKf.out HVf.out ⟨rf0, rf1, rf2, rf3, rf4, rf5, rf6, rf7⟩
   have hB4 := bel_set4' HWf.out (Nat.le_refl _) (.bool rf0) (.slice rf1 rf2 rf3) (.bool rf4) (.slice rf5 rf6 rf7)
   simp only at hb4 hf4
   generalize ((((wf.setCell ⟨w.heap.size, 0, none⟩ (.bool rf0)).setCell ⟨w.heap.size, 1, none⟩ (.slice rf1 rf2 rf3)).setCell ⟨w.heap.size, 2, none⟩ (.bool rf4)).setCell ⟨w.heap.size, 3, none⟩ (.slice rf5 rf6 rf7)) = w9 at *
   have c0 := hb4.at_ (i := 0) rfl
   have c1 := hb4.at_ (i := 1) rfl
   have c2 := hb4.at_ (i := 2) rfl
   have c3 := hb4.at_ (i := 3) rfl
   refine bodyPost_ret (v := .agg #[.bool rf0, .slice rf1 rf2 rf3, .bool rf4, .slice rf5 rf6 rf7]) ?_ rfl ⟨_, rfl, hf4, hB4⟩
   simp [results, Tryz.results117, go_sem, c0, c1, c2, c3]
end Go.Proofs.YtajlojhklhlljaaGreatDoor
