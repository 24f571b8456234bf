import Derived.Test.YtajlojhklhlljaaGreatDoorZMK
set_option maxHeartbeats 16000000
set_option maxRecDepth 100000
set_option linter.unusedVariables false
set_option linter.unusedSimpArgs false
set_option linter.unusedSectionVars false
namespace Go.Proofs.YtajlojhklhlljaaGreatDoor
open Go.RowKit
theorem rows_rep (n : Nat) : rowt (List.replicate n (RowT.mk none 0 [])) = (madeCells #[.slice none 0 0] (n * 1)).toList := by
 apply List.ext_getElem?
 intro j
 by_cases hj : j < n
 ·rw [rowt_get (by simpa using hj)]
  simp [madeCells, hj, Nat.mod_one]
 ·rw [List.getElem?_eq_none (by rw [rowt_length]; simp; omega), List.getElem?_eq_none (by simp [madeCells]; omega)]
theorem strs_rep (n : Nat) : sv (List.replicate n ⟨#[]⟩) = (madeCells #[.string ⟨#[]⟩] (n * 1)).toList := by
 apply List.ext_getElem?
 intro j
 by_cases hj : j < n
 ·rw [sv_get (by simpa using hj)]
  simp [madeCells, hj, Nat.mod_one]
 ·rw [List.getElem?_eq_none (by rw [sv_length]; simp; omega), List.getElem?_eq_none (by simp [madeCells]; omega)]
theorem run_make_rows (n : Nat) (hn : n ≤ 1000000) (w : World) : (Instr.makeSlice 27 (.int .i64 (n : Int)) (.int .i64 (n : Int))).run Tryz.prog w = .ok (.slice (some ⟨w.heap.size, 0, none⟩) n n) (w.alloc (.cells (rowt (List.replicate n (RowT.mk none 0 []))).toArray 33)) := by
 obtain ⟨i0, hi, hz0, hz1, hz2⟩ := info_parts Tryz.infoRats
 have hr := run_make (P := Tryz.prog) w 27 33 i0 (.slice none 0 0) Tryz.underlying27 hi hz0 .i64 .i64 n n (by omega) (Int.le_refl _) (by rw [hz2]; omega) (by omega)
 have hm : madeCells (Value.slice none 0 0).cells (n * 1) = (rowt (List.replicate n (RowT.mk none 0 []))).toArray := by
  rw [rows_rep]; rfl
 simp only [Int.toNat_natCast, hz1, hm] at hr
 exact hr
theorem run_make_strs (n : Nat) (hn : n ≤ 1000000) (w : World) : (Instr.makeSlice 33 (.int .i64 (n : Int)) (.int .i64 (n : Int))).run Tryz.prog w = .ok (.slice (some ⟨w.heap.size, 0, none⟩) n n) (w.alloc (.cells (sv (List.replicate n ⟨#[]⟩)).toArray 29)) := by
 obtain ⟨i0, hi, hz0, hz1, hz2⟩ := info_parts Tryz.infoRat
 have hr := run_make (P := Tryz.prog) w 33 29 i0 (.string ⟨#[]⟩) Tryz.underlying33 hi hz0 .i64 .i64 n n (by omega) (Int.le_refl _) (by rw [hz2]; omega) (by omega)
 have hm : madeCells (Value.string ⟨#[]⟩).cells (n * 1) = (sv (List.replicate n ⟨#[]⟩)).toArray := by
  rw [strs_rep]; rfl
 simp only [Int.toNat_natCast, hz1, hm] at hr
 exact hr
theorem made_rows (w : World) (n : Nat) (hn : n ≤ 1000000) : (w.alloc (.cells (rowt (List.replicate n (RowT.mk none 0 []))).toArray 33)).ownsRow w.heap.size 33 1 (.slice (some ⟨w.heap.size, 0, none⟩) n n) n (rowt (List.replicate n (RowT.mk none 0 []))) :=
 ⟨by rw [rowt_length]; simp, .inr ⟨w.heap.size, n, _, rfl, Nat.le_refl _, heap_alloc_new w _, Nat.le_refl _, by unfold maxLen; omega, by simp [rowt_length], by rw [List.take_of_length_le (by simp [rowt_length])]⟩⟩
theorem made_strs (w : World) (n : Nat) (hn : n ≤ 1000000) : (w.alloc (.cells (sv (List.replicate n ⟨#[]⟩)).toArray 29)).ownsRow w.heap.size 29 1 (.slice (some ⟨w.heap.size, 0, none⟩) n n) n (sv (List.replicate n ⟨#[]⟩)) :=
 ⟨by rw [sv_length]; simp, .inr ⟨w.heap.size, n, _, rfl, Nat.le_refl _, heap_alloc_new w _, Nat.le_refl _, by unfold maxLen; omega, by simp [sv_length], by rw [List.take_of_length_le (by simp [sv_length])]⟩⟩
def RetMx (w : World) (m n : Nat) (M : Nat → Nat → Rat) (e : Ending) (w' : World) : Prop :=
 (∃ A c rs, e = .returned (.tuple #[.slice A m c, .int .i64 0]) ∧ MatF rs m n M ∧ TopM w.heap.size w' (.slice A m c) rs ∧ Below w.heap.size w w') ∨
 ((∃ i k, i < m ∧ k < n ∧ ¬ FitsR (M i k)) ∧ e = .returned (.tuple #[.slice none 0 0, .int .i64 3]) ∧ Below w.heap.size w w')
structure BuiA (B : Nat) (W0 wr : World) (U m n : Nat) (M : Nat → Nat → Rat) (i : Nat) (rs : List RowT) : Prop where
 top : TopM B wr (.slice (some ⟨U, 0, none⟩) rs.length m) rs
 len : rs.length = m
 row : ∀ j, (h : j < rs.length) → j < i → rs[j].ss.length = n ∧ ∀ k, (hk : k < rs[j].ss.length) → rs[j].ss[k] = rstr (M j k)
 fit : ∀ j k, j < i → k < n → FitsR (M j k)
 bel : Below B W0 wr
 B0 : B ≤ W0.heap.size
structure BuiB (B : Nat) (W0 wr : World) (U m n : Nat) (M : Nat → Nat → Rat) (i k : Nat) (rs : List RowT) (g cp : Nat) (ts : List ByteArray) : Prop where
 up : UpS B W0 wr U m rs i g cp ts
 len : rs.length = m
 im : i < m
 tl : ts.length = n
 row : ∀ j, (h : j < rs.length) → j < i → rs[j].ss.length = n ∧ ∀ k, (hk : k < rs[j].ss.length) → rs[j].ss[k] = rstr (M j k)
 fit : ∀ j k, j < i → k < n → FitsR (M j k)
 cel : ∀ c, (h : c < ts.length) → c < k → ts[c] = rstr (M i c)
 fit2 : ∀ c, c < k → FitsR (M i c)
 B0 : B ≤ W0.heap.size
section
variable {B U m n i k g cp : Nat} {W0 wr w' : World} {M : Nat → Nat → Rat} {rs : List RowT} {ts : List ByteArray}
theorem BuiA.start (w : World) (m n : Nat) (M : Nat → Nat → Rat) (hm : m ≤ 1000000) : BuiA w.heap.size w (w.alloc (.cells (rowt (List.replicate m (RowT.mk none 0 []))).toArray 33)) w.heap.size m n M 0 (List.replicate m (RowT.mk none 0 [])) := by
 refine ⟨⟨?_, fun r hr => ?_⟩, by simp, fun j h hj => absurd hj (by omega), fun j k hj => absurd hj (by omega), (Below.refl _ _).alloc (Nat.le_refl _) _, Nat.le_refl _⟩
 ·rw [List.length_replicate]
  exact made_rows w m hm
 ·rw [(List.mem_replicate.1 hr).2]
  exact RowI.nil _ _
theorem BuiA.row_ (h : BuiA B W0 wr U m n M i rs) (hi : i < m) (hn : n ≤ 1000000) : BuiB B W0 ((wr.alloc (.cells (sv (List.replicate n ⟨#[]⟩)).toArray 29)).setCell ⟨U, i, none⟩ (.slice (some ⟨wr.heap.size, 0, none⟩) n n)) U m n M i 0 rs wr.heap.size n (List.replicate n ⟨#[]⟩) := by
 have hB : B ≤ wr.heap.size := Nat.le_trans h.B0 h.bel.size
 have h1 := UpS.start (ts := List.replicate n (⟨#[]⟩ : ByteArray)) (cp := n) (W0 := W0) (r := i) (g := wr.heap.size) h.top (by rw [h.len]; exact hi) (c := m) (by rw [List.length_replicate]; exact made_strs wr n hn) ((Below.refl _ _).alloc (Nat.le_refl _) _) hB h.bel
 rw [List.length_replicate] at h1
 exact ⟨h1, h.len, hi, by simp, h.row, h.fit, fun c _ hc => absurd hc (by omega), fun c hc => absurd hc (by omega), h.B0⟩
theorem BuiB.below (h : BuiB B W0 wr U m n M i k rs g cp ts) (hb : Below wr.heap.size wr w') : BuiB B W0 w' U m n M i k rs g cp ts :=
 ⟨h.up.below (Nat.le_trans h.B0 h.up.bel.size) hb, h.len, h.im, h.tl, h.row, h.fit, h.cel, h.fit2, h.B0⟩
theorem BuiB.put (h : BuiB B W0 wr U m n M i k rs g cp ts) (hf : FitsR (M i k)) : BuiB B W0 (wr.setCell ⟨g, k, none⟩ (.string (rstr (M i k)))) U m n M i (k + 1) rs g cp (ts.set k (rstr (M i k))) := by
 refine ⟨h.up.put k _, h.len, h.im, by rw [List.length_set]; exact h.tl, h.row, h.fit, fun c hc hck => ?_, fun c hc => ?_, h.B0⟩
 ·by_cases e : c = k
  ·subst e
   rw [List.getElem_set_self]
  ·rw [List.getElem_set_ne (Ne.symm e)]
   exact h.cel c (by simpa using hc) (by omega)
 ·by_cases e : c = k
  ·subst e; exact hf
  ·exact h.fit2 c (by omega)
theorem BuiB.top (h : BuiB B W0 wr U m n M i k rs g cp ts) : wr.cell? ⟨U, i, none⟩ = some (.slice (some ⟨g, 0, none⟩) n cp) ∧ wr.frozen? ⟨U, i, none⟩ = false ∧ wr.frozen? ⟨g, k, none⟩ = false ∧ ∀ hk : k < ts.length, wr.cell? ⟨g, k, none⟩ = some (.string ts[k]) := by
 refine ⟨?_, h.up.top.frozenAt i, h.up.row.frozenAt k, fun hk => (h.up.row.cellAt k (by omega)).trans (sv_get hk)⟩
 have hi : i < rs.length := by rw [h.len]; exact h.im
 rw [h.up.top.cellAt i (by omega), rowt_get (by rw [List.length_set]; exact hi), List.getElem_set_self]
 simp only [h.tl]
theorem BuiB.next (h : BuiB B W0 wr U m n M i k rs g cp ts) (hk : n ≤ k) : BuiA B W0 wr U m n M (i + 1) (rs.set i ⟨some ⟨g, 0, none⟩, cp, ts⟩) := by
 have hd := h.up.done
 refine ⟨by rw [List.length_set]; exact hd, by rw [List.length_set]; exact h.len, fun j hj hji => ?_, fun j c hj hc => ?_, h.up.bel, h.B0⟩
 ·by_cases e : j = i
  ·subst e
   simp only [List.getElem_set_self]
   exact ⟨h.tl, fun c hc => h.cel c hc (by have := h.tl; omega)⟩
  ·simp only [List.getElem_set_ne (Ne.symm e)]
   exact h.row j (by simpa using hj) (by omega)
 ·by_cases e : j = i
  ·subst e; exact h.fit2 c (by omega)
  ·exact h.fit j c (by omega) hc
theorem BuiA.done (h : BuiA B W0 wr U m n M i rs) (hi : m ≤ i) : MatF rs m n M ∧ TopM B wr (.slice (some ⟨U, 0, none⟩) m m) rs := by
 have hl := h.len
 refine ⟨⟨hl, fun r hr => ?_, fun j k hj hk => (h.row j hj (by omega)).2 k hk, fun j k hj hk => h.fit j k (by omega) hk⟩, ?_⟩
 ·obtain ⟨j, hj, rfl⟩ := List.getElem_of_mem hr
  exact (h.row j hj (by omega)).1
 ·have := h.top
  rw [hl] at this
  exact this
end
theorem BuildTr (a : Nat) (m n : Nat) (M : Nat → Nat → Rat) (w : World) (hm : m ≤ 12) (hn : n ≤ 12) (hs : ∀ i k, i < m → k < n → Sz 5000000 (M i k)) (henv : Env w)
  (hc : ∀ W, Below w.heap.size w W → ∀ i k, i < m → k < n → Calls Tryz.prog 119 #[.int .i64 (i : Int), .int .i64 (k : Int), .pointer (some ⟨a, 0, none⟩)] W (RetFrac W (M i k))) :
  Calls Tryz.prog 110 #[.int .i64 (m : Int), .int .i64 (n : Int), (.func (.func 119) #[] #[.pointer (some ⟨a, 0, none⟩)])] w (RetMx w m n M) := by
 have hmk := run_make_rows m (by omega)
 have hmk2 := run_make_strs n (by omega)
 generalize hQ : RetMx w m n M = Q
 replace hQ := Lib.hid hQ
 have HS := Lib.hid hs
 have HE := Lib.hid henv
 have HC := Lib.hid hc
 clear hs henv hc
 go_enter Tryz.func110, Tryz.ntmps110
 go_wp2_with fail
 have HA0 := Lib.hid (BuiA.start w m n M (by omega))
 generalize (w.alloc (.cells (rowt (List.replicate m (RowT.mk none 0 []))).toArray 33)) = W1 at *
 generalize hU : w.heap.size = U at *
 replace hU := Lib.hid hU
 go_loopw [17] (fun iv wr => ∃ (i : Nat) (rs : List RowT), iv = .int .i64 (i : Int) ∧ i ≤ m ∧ BuiA w.heap.size w wr U m n M i rs) (fun iv _ => m - (intOf iv).toNat)
 case atStart => exact ⟨0, _, rfl, Nat.zero_le _, by have := HA0.out; rw [hU.out]; exact this⟩
 case round =>
  obtain ⟨i, rs, rfl, hi, hba⟩ := hrel
  have HBA := Lib.hid hba
  have hml := hba.len
  clear HA0 hmk
  by_cases hlt : i < m
  ·have i1 : (0 : Int) ≤ (i : Int) := by omega
   have i2 : (i : Int) < (m : Int) := by omega
   have f0 := (hba.top.alloc (.cells (sv (List.replicate n ⟨#[]⟩)).toArray 29)).top (i := i) (by omega)
   have HBB := Lib.hid (hba.row_ hlt (by omega))
   obtain ⟨f0a, f0b⟩ := f0
   have HBm := Lib.hid hba.bel
   clear hba
   go_wp2_with fail
   generalize ((wr.alloc (.cells (sv (List.replicate n ⟨#[]⟩)).toArray 29)).setCell ⟨U, i, none⟩ (.slice (some ⟨wr.heap.size, 0, none⟩) n n)) = W2 at *
   generalize wr.heap.size = g0 at *
   clear f0a f0b HBA HBm
   go_loopw [30] (fun kv wk => ∃ (k : Nat) (ts : List ByteArray), kv = .int .i64 (k : Int) ∧ k ≤ n ∧ BuiB w.heap.size w wk U m n M i k rs g0 n ts) (fun kv _ => n - (intOf kv).toNat)
   case atStart => exact ⟨0, _, rfl, Nat.zero_le _, HBB.out⟩
   case round =>
    clear HBB
    obtain ⟨k, ts, rfl, hk, hbb⟩ := hrel
    obtain ⟨wk, rfl⟩ : ∃ wk : World, wk = wr := ⟨_, rfl⟩
    have HBK := Lib.hid hbb
    by_cases hlt2 : k < n
    ·have HCC := Lib.hid (HC.out wk (by have := hbb.up.bel; rw [hU.out] at this; exact this) i k hlt hlt2)
     have HFT := Lib.hid (fun (V : Value) (W : World) (hV : IsFrac W V (M i k)) (hE : Env W) => FFits_any V (M i k) W hV (HS.out i k hlt hlt2) hE)
     have HPT := Lib.hid (fun (W : World) (h : BuiB w.heap.size w W U m n M i k rs g0 n ts) (hf : FitsR (M i k)) => h.put hf)
     have HNO := Lib.hid (fun (hf : ¬ FitsR (M i k)) (W : World) (hb : Below w.heap.size w W) => (show RetMx w m n M (.returned (.tuple #[.slice none 0 0, .int .i64 3])) W from .inr ⟨⟨i, k, hlt, hlt2, hf⟩, rfl, hb⟩))
     generalize M i k = q at *
     clear hbb
     go_wp2_with fail
     refine HCC.out.mono ?_
     rintro e w5 ⟨v, rfl, hv, hb5⟩
     have HB5 := Lib.hid (HBK.out.below hb5)
     have HV5 := Lib.hid hv
     clear hv hb5
     go_wp2_with fail
     refine (HFT.out v w5 HV5.out (HE.out.below HB5.out.up.bel)).mono ?_
     rintro e w6 ⟨rfl, hb6⟩
     have HB6 := Lib.hid (HB5.out.below hb6)
     clear hb6
     by_cases hfit : FitsR q
     ·rw [outR_fits hfit, outRE_fits hfit]
      obtain ⟨c0, f0, f1, c1⟩ := HB6.out.top
      replace c1 := c1 (by rw [HB6.out.tl]; exact hlt2)
      generalize hto : ts[k]'(by rw [HB6.out.tl]; exact hlt2) = told at *
      clear hto
      have HB7 := Lib.hid (HPT.out w6 HB6.out hfit)
      have k1 : (0 : Int) ≤ (k : Int) := by omega
      have k2 : (k : Int) < (n : Int) := by omega
      generalize rstr q = s at *
      clear hfit
      go_wp2_with fail
      go_roundw
      case rel => exact ⟨k + 1, _, by go_num, by omega, HB7.out⟩
      case measure => simp [intOf]; omega
     ·rw [outR_not hfit, outRE_not hfit]
      have HR := Lib.hid (HNO.out hfit w6 HB6.out.up.bel)
      clear hfit
      go_wp2_with fail
      rw [← hQ.out]
      exact HR.out
    ·have HN := Lib.hid (hbb.next (by omega))
     clear hbb
     go_wp2_with fail
     go_roundw
     case rel => exact ⟨i + 1, _, by go_num, by omega, HN.out⟩
     case measure => simp [intOf]; omega
  ·obtain ⟨hmf, htp⟩ := hba.done (by omega)
   have HR := Lib.hid (show RetMx w m n M (.returned (.tuple #[.slice (some ⟨U, 0, none⟩) m m, .int .i64 0])) wr from .inl ⟨_, _, rs, rfl, hmf, htp, hba.bel⟩)
   clear hba hmf htp
   go_wp2_with fail
   rw [← hQ.out]
   exact HR.out
theorem BuildAd (a b : Nat) (m n : Nat) (M : Nat → Nat → Rat) (w : World) (hm : m ≤ 12) (hn : n ≤ 12) (hs : ∀ i k, i < m → k < n → Sz 5000000 (M i k)) (henv : Env w)
  (hc : ∀ W, Below w.heap.size w W → ∀ i k, i < m → k < n → Calls Tryz.prog 114 #[.int .i64 (i : Int), .int .i64 (k : Int), .pointer (some ⟨a, 0, none⟩), .pointer (some ⟨b, 0, none⟩)] W (RetFrac W (M i k))) :
  Calls Tryz.prog 110 #[.int .i64 (m : Int), .int .i64 (n : Int), (.func (.func 114) #[] #[.pointer (some ⟨a, 0, none⟩), .pointer (some ⟨b, 0, none⟩)])] w (RetMx w m n M) := by
 have hmk := run_make_rows m (by omega)
 have hmk2 := run_make_strs n (by omega)
 generalize hQ : RetMx w m n M = Q
 replace hQ := Lib.hid hQ
 have HS := Lib.hid hs
 have HE := Lib.hid henv
 have HC := Lib.hid hc
 clear hs henv hc
 go_enter Tryz.func110, Tryz.ntmps110
 go_wp2_with fail
 have HA0 := Lib.hid (BuiA.start w m n M (by omega))
 generalize (w.alloc (.cells (rowt (List.replicate m (RowT.mk none 0 []))).toArray 33)) = W1 at *
 generalize hU : w.heap.size = U at *
 replace hU := Lib.hid hU
 go_loopw [17] (fun iv wr => ∃ (i : Nat) (rs : List RowT), iv = .int .i64 (i : Int) ∧ i ≤ m ∧ BuiA w.heap.size w wr U m n M i rs) (fun iv _ => m - (intOf iv).toNat)
 case atStart => exact ⟨0, _, rfl, Nat.zero_le _, by have := HA0.out; rw [hU.out]; exact this⟩
 case round =>
  obtain ⟨i, rs, rfl, hi, hba⟩ := hrel
  have HBA := Lib.hid hba
  have hml := hba.len
  clear HA0 hmk
  by_cases hlt : i < m
  ·have i1 : (0 : Int) ≤ (i : Int) := by omega
   have i2 : (i : Int) < (m : Int) := by omega
   have f0 := (hba.top.alloc (.cells (sv (List.replicate n ⟨#[]⟩)).toArray 29)).top (i := i) (by omega)
   have HBB := Lib.hid (hba.row_ hlt (by omega))
   obtain ⟨f0a, f0b⟩ := f0
   have HBm := Lib.hid hba.bel
   clear hba
   go_wp2_with fail
   generalize ((wr.alloc (.cells (sv (List.replicate n ⟨#[]⟩)).toArray 29)).setCell ⟨U, i, none⟩ (.slice (some ⟨wr.heap.size, 0, none⟩) n n)) = W2 at *
   generalize wr.heap.size = g0 at *
   clear f0a f0b HBA HBm
   go_loopw [30] (fun kv wk => ∃ (k : Nat) (ts : List ByteArray), kv = .int .i64 (k : Int) ∧ k ≤ n ∧ BuiB w.heap.size w wk U m n M i k rs g0 n ts) (fun kv _ => n - (intOf kv).toNat)
   case atStart => exact ⟨0, _, rfl, Nat.zero_le _, HBB.out⟩
   case round =>
    clear HBB
    obtain ⟨k, ts, rfl, hk, hbb⟩ := hrel
    obtain ⟨wk, rfl⟩ : ∃ wk : World, wk = wr := ⟨_, rfl⟩
    have HBK := Lib.hid hbb
    by_cases hlt2 : k < n
    ·have HCC := Lib.hid (HC.out wk (by have := hbb.up.bel; rw [hU.out] at this; exact this) i k hlt hlt2)
     have HFT := Lib.hid (fun (V : Value) (W : World) (hV : IsFrac W V (M i k)) (hE : Env W) => FFits_any V (M i k) W hV (HS.out i k hlt hlt2) hE)
     have HPT := Lib.hid (fun (W : World) (h : BuiB w.heap.size w W U m n M i k rs g0 n ts) (hf : FitsR (M i k)) => h.put hf)
     have HNO := Lib.hid (fun (hf : ¬ FitsR (M i k)) (W : World) (hb : Below w.heap.size w W) => (show RetMx w m n M (.returned (.tuple #[.slice none 0 0, .int .i64 3])) W from .inr ⟨⟨i, k, hlt, hlt2, hf⟩, rfl, hb⟩))
     generalize M i k = q at *
     clear hbb
     go_wp2_with fail
     refine HCC.out.mono ?_
     rintro e w5 ⟨v, rfl, hv, hb5⟩
     have HB5 := Lib.hid (HBK.out.below hb5)
     have HV5 := Lib.hid hv
     clear hv hb5
     go_wp2_with fail
     refine (HFT.out v w5 HV5.out (HE.out.below HB5.out.up.bel)).mono ?_
     rintro e w6 ⟨rfl, hb6⟩
     have HB6 := Lib.hid (HB5.out.below hb6)
     clear hb6
     by_cases hfit : FitsR q
     ·rw [outR_fits hfit, outRE_fits hfit]
      obtain ⟨c0, f0, f1, c1⟩ := HB6.out.top
      replace c1 := c1 (by rw [HB6.out.tl]; exact hlt2)
      generalize hto : ts[k]'(by rw [HB6.out.tl]; exact hlt2) = told at *
      clear hto
      have HB7 := Lib.hid (HPT.out w6 HB6.out hfit)
      have k1 : (0 : Int) ≤ (k : Int) := by omega
      have k2 : (k : Int) < (n : Int) := by omega
      generalize rstr q = s at *
      clear hfit
      go_wp2_with fail
      go_roundw
      case rel => exact ⟨k + 1, _, by go_num, by omega, HB7.out⟩
      case measure => simp [intOf]; omega
     ·rw [outR_not hfit, outRE_not hfit]
      have HR := Lib.hid (HNO.out hfit w6 HB6.out.up.bel)
      clear hfit
      go_wp2_with fail
      rw [← hQ.out]
      exact HR.out
    ·have HN := Lib.hid (hbb.next (by omega))
     clear hbb
     go_wp2_with fail
     go_roundw
     case rel => exact ⟨i + 1, _, by go_num, by omega, HN.out⟩
     case measure => simp [intOf]; omega
  ·obtain ⟨hmf, htp⟩ := hba.done (by omega)
   have HR := Lib.hid (show RetMx w m n M (.returned (.tuple #[.slice (some ⟨U, 0, none⟩) m m, .int .i64 0])) wr from .inl ⟨_, _, rs, rfl, hmf, htp, hba.bel⟩)
   clear hba hmf htp
   go_wp2_with fail
   rw [← hQ.out]
   exact HR.out
theorem BuildMu (a b : Nat) (m n : Nat) (M : Nat → Nat → Rat) (w : World) (hm : m ≤ 12) (hn : n ≤ 12) (hs : ∀ i k, i < m → k < n → Sz 5000000 (M i k)) (henv : Env w)
  (hc : ∀ W, Below w.heap.size w W → ∀ i k, i < m → k < n → Calls Tryz.prog 117 #[.int .i64 (i : Int), .int .i64 (k : Int), .pointer (some ⟨a, 0, none⟩), .pointer (some ⟨b, 0, none⟩)] W (RetFrac W (M i k))) :
  Calls Tryz.prog 110 #[.int .i64 (m : Int), .int .i64 (n : Int), (.func (.func 117) #[] #[.pointer (some ⟨a, 0, none⟩), .pointer (some ⟨b, 0, none⟩)])] w (RetMx w m n M) := by
 have hmk := run_make_rows m (by omega)
 have hmk2 := run_make_strs n (by omega)
 generalize hQ : RetMx w m n M = Q
 replace hQ := Lib.hid hQ
 have HS := Lib.hid hs
 have HE := Lib.hid henv
 have HC := Lib.hid hc
 clear hs henv hc
 go_enter Tryz.func110, Tryz.ntmps110
 go_wp2_with fail
 have HA0 := Lib.hid (BuiA.start w m n M (by omega))
 generalize (w.alloc (.cells (rowt (List.replicate m (RowT.mk none 0 []))).toArray 33)) = W1 at *
 generalize hU : w.heap.size = U at *
 replace hU := Lib.hid hU
 go_loopw [17] (fun iv wr => ∃ (i : Nat) (rs : List RowT), iv = .int .i64 (i : Int) ∧ i ≤ m ∧ BuiA w.heap.size w wr U m n M i rs) (fun iv _ => m - (intOf iv).toNat)
 case atStart => exact ⟨0, _, rfl, Nat.zero_le _, by have := HA0.out; rw [hU.out]; exact this⟩
 case round =>
  obtain ⟨i, rs, rfl, hi, hba⟩ := hrel
  have HBA := Lib.hid hba
  have hml := hba.len
  clear HA0 hmk
  by_cases hlt : i < m
  ·have i1 : (0 : Int) ≤ (i : Int) := by omega
   have i2 : (i : Int) < (m : Int) := by omega
   have f0 := (hba.top.alloc (.cells (sv (List.replicate n ⟨#[]⟩)).toArray 29)).top (i := i) (by omega)
   have HBB := Lib.hid (hba.row_ hlt (by omega))
   obtain ⟨f0a, f0b⟩ := f0
   have HBm := Lib.hid hba.bel
   clear hba
   go_wp2_with fail
   generalize ((wr.alloc (.cells (sv (List.replicate n ⟨#[]⟩)).toArray 29)).setCell ⟨U, i, none⟩ (.slice (some ⟨wr.heap.size, 0, none⟩) n n)) = W2 at *
   generalize wr.heap.size = g0 at *
   clear f0a f0b HBA HBm
   go_loopw [30] (fun kv wk => ∃ (k : Nat) (ts : List ByteArray), kv = .int .i64 (k : Int) ∧ k ≤ n ∧ BuiB w.heap.size w wk U m n M i k rs g0 n ts) (fun kv _ => n - (intOf kv).toNat)
   case atStart => exact ⟨0, _, rfl, Nat.zero_le _, HBB.out⟩
   case round =>
    clear HBB
    obtain ⟨k, ts, rfl, hk, hbb⟩ := hrel
    obtain ⟨wk, rfl⟩ : ∃ wk : World, wk = wr := ⟨_, rfl⟩
    have HBK := Lib.hid hbb
    by_cases hlt2 : k < n
    ·have HCC := Lib.hid (HC.out wk (by have := hbb.up.bel; rw [hU.out] at this; exact this) i k hlt hlt2)
     have HFT := Lib.hid (fun (V : Value) (W : World) (hV : IsFrac W V (M i k)) (hE : Env W) => FFits_any V (M i k) W hV (HS.out i k hlt hlt2) hE)
     have HPT := Lib.hid (fun (W : World) (h : BuiB w.heap.size w W U m n M i k rs g0 n ts) (hf : FitsR (M i k)) => h.put hf)
     have HNO := Lib.hid (fun (hf : ¬ FitsR (M i k)) (W : World) (hb : Below w.heap.size w W) => (show RetMx w m n M (.returned (.tuple #[.slice none 0 0, .int .i64 3])) W from .inr ⟨⟨i, k, hlt, hlt2, hf⟩, rfl, hb⟩))
     generalize M i k = q at *
     clear hbb
     go_wp2_with fail
     refine HCC.out.mono ?_
     rintro e w5 ⟨v, rfl, hv, hb5⟩
     have HB5 := Lib.hid (HBK.out.below hb5)
     have HV5 := Lib.hid hv
     clear hv hb5
     go_wp2_with fail
     refine (HFT.out v w5 HV5.out (HE.out.below HB5.out.up.bel)).mono ?_
     rintro e w6 ⟨rfl, hb6⟩
     have HB6 := Lib.hid (HB5.out.below hb6)
     clear hb6
     by_cases hfit : FitsR q
     ·rw [outR_fits hfit, outRE_fits hfit]
      obtain ⟨c0, f0, f1, c1⟩ := HB6.out.top
      replace c1 := c1 (by rw [HB6.out.tl]; exact hlt2)
      generalize hto : ts[k]'(by rw [HB6.out.tl]; exact hlt2) = told at *
      clear hto
      have HB7 := Lib.hid (HPT.out w6 HB6.out hfit)
      have k1 : (0 : Int) ≤ (k : Int) := by omega
      have k2 : (k : Int) < (n : Int) := by omega
      generalize rstr q = s at *
      clear hfit
      go_wp2_with fail
      go_roundw
      case rel => exact ⟨k + 1, _, by go_num, by omega, HB7.out⟩
      case measure => simp [intOf]; omega
     ·rw [outR_not hfit, outRE_not hfit]
      have HR := Lib.hid (HNO.out hfit w6 HB6.out.up.bel)
      clear hfit
      go_wp2_with fail
      rw [← hQ.out]
      exact HR.out
    ·have HN := Lib.hid (hbb.next (by omega))
     clear hbb
     go_wp2_with fail
     go_roundw
     case rel => exact ⟨i + 1, _, by go_num, by omega, HN.out⟩
     case measure => simp [intOf]; omega
  ·obtain ⟨hmf, htp⟩ := hba.done (by omega)
   have HR := Lib.hid (show RetMx w m n M (.returned (.tuple #[.slice (some ⟨U, 0, none⟩) m m, .int .i64 0])) wr from .inl ⟨_, _, rs, rfl, hmf, htp, hba.bel⟩)
   clear hba hmf htp
   go_wp2_with fail
   rw [← hQ.out]
   exact HR.out
theorem BuildIn (r a t : Nat) (m n : Nat) (M : Nat → Nat → Rat) (w : World) (hm : m ≤ 12) (hn : n ≤ 12) (hs : ∀ i k, i < m → k < n → Sz 5000000 (M i k)) (henv : Env w)
  (hc : ∀ W, Below w.heap.size w W → ∀ i k, i < m → k < n → Calls Tryz.prog 111 #[.int .i64 (i : Int), .int .i64 (k : Int), .pointer (some ⟨r, 0, none⟩), .pointer (some ⟨a, 0, none⟩), .pointer (some ⟨t, 0, none⟩)] W (RetFrac W (M i k))) :
  Calls Tryz.prog 110 #[.int .i64 (m : Int), .int .i64 (n : Int), (.func (.func 111) #[] #[.pointer (some ⟨r, 0, none⟩), .pointer (some ⟨a, 0, none⟩), .pointer (some ⟨t, 0, none⟩)])] w (RetMx w m n M) := by
 have hmk := run_make_rows m (by omega)
 have hmk2 := run_make_strs n (by omega)
 generalize hQ : RetMx w m n M = Q
 replace hQ := Lib.hid hQ
 have HS := Lib.hid hs
 have HE := Lib.hid henv
 have HC := Lib.hid hc
 clear hs henv hc
 go_enter Tryz.func110, Tryz.ntmps110
 go_wp2_with fail
 have HA0 := Lib.hid (BuiA.start w m n M (by omega))
 generalize (w.alloc (.cells (rowt (List.replicate m (RowT.mk none 0 []))).toArray 33)) = W1 at *
 generalize hU : w.heap.size = U at *
 replace hU := Lib.hid hU
 go_loopw [17] (fun iv wr => ∃ (i : Nat) (rs : List RowT), iv = .int .i64 (i : Int) ∧ i ≤ m ∧ BuiA w.heap.size w wr U m n M i rs) (fun iv _ => m - (intOf iv).toNat)
 case atStart => exact ⟨0, _, rfl, Nat.zero_le _, by have := HA0.out; rw [hU.out]; exact this⟩
 case round =>
  obtain ⟨i, rs, rfl, hi, hba⟩ := hrel
  have HBA := Lib.hid hba
  have hml := hba.len
  clear HA0 hmk
  by_cases hlt : i < m
  ·have i1 : (0 : Int) ≤ (i : Int) := by omega
   have i2 : (i : Int) < (m : Int) := by omega
   have f0 := (hba.top.alloc (.cells (sv (List.replicate n ⟨#[]⟩)).toArray 29)).top (i := i) (by omega)
   have HBB := Lib.hid (hba.row_ hlt (by omega))
   obtain ⟨f0a, f0b⟩ := f0
   have HBm := Lib.hid hba.bel
   clear hba
   go_wp2_with fail
   generalize ((wr.alloc (.cells (sv (List.replicate n ⟨#[]⟩)).toArray 29)).setCell ⟨U, i, none⟩ (.slice (some ⟨wr.heap.size, 0, none⟩) n n)) = W2 at *
   generalize wr.heap.size = g0 at *
   clear f0a f0b HBA HBm
   go_loopw [30] (fun kv wk => ∃ (k : Nat) (ts : List ByteArray), kv = .int .i64 (k : Int) ∧ k ≤ n ∧ BuiB w.heap.size w wk U m n M i k rs g0 n ts) (fun kv _ => n - (intOf kv).toNat)
   case atStart => exact ⟨0, _, rfl, Nat.zero_le _, HBB.out⟩
   case round =>
    clear HBB
    obtain ⟨k, ts, rfl, hk, hbb⟩ := hrel
    obtain ⟨wk, rfl⟩ : ∃ wk : World, wk = wr := ⟨_, rfl⟩
    have HBK := Lib.hid hbb
    by_cases hlt2 : k < n
    ·have HCC := Lib.hid (HC.out wk (by have := hbb.up.bel; rw [hU.out] at this; exact this) i k hlt hlt2)
     have HFT := Lib.hid (fun (V : Value) (W : World) (hV : IsFrac W V (M i k)) (hE : Env W) => FFits_any V (M i k) W hV (HS.out i k hlt hlt2) hE)
     have HPT := Lib.hid (fun (W : World) (h : BuiB w.heap.size w W U m n M i k rs g0 n ts) (hf : FitsR (M i k)) => h.put hf)
     have HNO := Lib.hid (fun (hf : ¬ FitsR (M i k)) (W : World) (hb : Below w.heap.size w W) => (show RetMx w m n M (.returned (.tuple #[.slice none 0 0, .int .i64 3])) W from .inr ⟨⟨i, k, hlt, hlt2, hf⟩, rfl, hb⟩))
     generalize M i k = q at *
     clear hbb
     go_wp2_with fail
     refine HCC.out.mono ?_
     rintro e w5 ⟨v, rfl, hv, hb5⟩
     have HB5 := Lib.hid (HBK.out.below hb5)
     have HV5 := Lib.hid hv
     clear hv hb5
     go_wp2_with fail
     refine (HFT.out v w5 HV5.out (HE.out.below HB5.out.up.bel)).mono ?_
     rintro e w6 ⟨rfl, hb6⟩
     have HB6 := Lib.hid (HB5.out.below hb6)
     clear hb6
     by_cases hfit : FitsR q
     ·rw [outR_fits hfit, outRE_fits hfit]
      obtain ⟨c0, f0, f1, c1⟩ := HB6.out.top
      replace c1 := c1 (by rw [HB6.out.tl]; exact hlt2)
      generalize hto : ts[k]'(by rw [HB6.out.tl]; exact hlt2) = told at *
      clear hto
      have HB7 := Lib.hid (HPT.out w6 HB6.out hfit)
      have k1 : (0 : Int) ≤ (k : Int) := by omega
      have k2 : (k : Int) < (n : Int) := by omega
      generalize rstr q = s at *
      clear hfit
      go_wp2_with fail
      go_roundw
      case rel => exact ⟨k + 1, _, by go_num, by omega, HB7.out⟩
      case measure => simp [intOf]; omega
     ·rw [outR_not hfit, outRE_not hfit]
      have HR := Lib.hid (HNO.out hfit w6 HB6.out.up.bel)
      clear hfit
      go_wp2_with fail
      rw [← hQ.out]
      exact HR.out
    ·have HN := Lib.hid (hbb.next (by omega))
     clear hbb
     go_wp2_with fail
     go_roundw
     case rel => exact ⟨i + 1, _, by go_num, by omega, HN.out⟩
     case measure => simp [intOf]; omega
  ·obtain ⟨hmf, htp⟩ := hba.done (by omega)
   have HR := Lib.hid (show RetMx w m n M (.returned (.tuple #[.slice (some ⟨U, 0, none⟩) m m, .int .i64 0])) wr from .inl ⟨_, _, rs, rfl, hmf, htp, hba.bel⟩)
   clear hba hmf htp
   go_wp2_with fail
   rw [← hQ.out]
   exact HR.out
theorem BuildId (m n : Nat) (M : Nat → Nat → Rat) (w : World) (hm : m ≤ 12) (hn : n ≤ 12) (hs : ∀ i k, i < m → k < n → Sz 5000000 (M i k)) (henv : Env w)
  (hc : ∀ W, Below w.heap.size w W → ∀ i k, i < m → k < n → Calls Tryz.prog 123 #[.int .i64 (i : Int), .int .i64 (k : Int)] W (RetFrac W (M i k))) :
  Calls Tryz.prog 110 #[.int .i64 (m : Int), .int .i64 (n : Int), (.func (.func 123) #[] #[])] w (RetMx w m n M) := by
 have hmk := run_make_rows m (by omega)
 have hmk2 := run_make_strs n (by omega)
 generalize hQ : RetMx w m n M = Q
 replace hQ := Lib.hid hQ
 have HS := Lib.hid hs
 have HE := Lib.hid henv
 have HC := Lib.hid hc
 clear hs henv hc
 go_enter Tryz.func110, Tryz.ntmps110
 go_wp2_with fail
 have HA0 := Lib.hid (BuiA.start w m n M (by omega))
 generalize (w.alloc (.cells (rowt (List.replicate m (RowT.mk none 0 []))).toArray 33)) = W1 at *
 generalize hU : w.heap.size = U at *
 replace hU := Lib.hid hU
 go_loopw [17] (fun iv wr => ∃ (i : Nat) (rs : List RowT), iv = .int .i64 (i : Int) ∧ i ≤ m ∧ BuiA w.heap.size w wr U m n M i rs) (fun iv _ => m - (intOf iv).toNat)
 case atStart => exact ⟨0, _, rfl, Nat.zero_le _, by have := HA0.out; rw [hU.out]; exact this⟩
 case round =>
  obtain ⟨i, rs, rfl, hi, hba⟩ := hrel
  have HBA := Lib.hid hba
  have hml := hba.len
  clear HA0 hmk
  by_cases hlt : i < m
  ·have i1 : (0 : Int) ≤ (i : Int) := by omega
   have i2 : (i : Int) < (m : Int) := by omega
   have f0 := (hba.top.alloc (.cells (sv (List.replicate n ⟨#[]⟩)).toArray 29)).top (i := i) (by omega)
   have HBB := Lib.hid (hba.row_ hlt (by omega))
   obtain ⟨f0a, f0b⟩ := f0
   have HBm := Lib.hid hba.bel
   clear hba
   go_wp2_with fail
   generalize ((wr.alloc (.cells (sv (List.replicate n ⟨#[]⟩)).toArray 29)).setCell ⟨U, i, none⟩ (.slice (some ⟨wr.heap.size, 0, none⟩) n n)) = W2 at *
   generalize wr.heap.size = g0 at *
   clear f0a f0b HBA HBm
   go_loopw [30] (fun kv wk => ∃ (k : Nat) (ts : List ByteArray), kv = .int .i64 (k : Int) ∧ k ≤ n ∧ BuiB w.heap.size w wk U m n M i k rs g0 n ts) (fun kv _ => n - (intOf kv).toNat)
   case atStart => exact ⟨0, _, rfl, Nat.zero_le _, HBB.out⟩
   case round =>
    clear HBB
    obtain ⟨k, ts, rfl, hk, hbb⟩ := hrel
    obtain ⟨wk, rfl⟩ : ∃ wk : World, wk = wr := ⟨_, rfl⟩
    have HBK := Lib.hid hbb
    by_cases hlt2 : k < n
    ·have HCC := Lib.hid (HC.out wk (by have := hbb.up.bel; rw [hU.out] at this; exact this) i k hlt hlt2)
     have HFT := Lib.hid (fun (V : Value) (W : World) (hV : IsFrac W V (M i k)) (hE : Env W) => FFits_any V (M i k) W hV (HS.out i k hlt hlt2) hE)
     have HPT := Lib.hid (fun (W : World) (h : BuiB w.heap.size w W U m n M i k rs g0 n ts) (hf : FitsR (M i k)) => h.put hf)
     have HNO := Lib.hid (fun (hf : ¬ FitsR (M i k)) (W : World) (hb : Below w.heap.size w W) => (show RetMx w m n M (.returned (.tuple #[.slice none 0 0, .int .i64 3])) W from .inr ⟨⟨i, k, hlt, hlt2, hf⟩, rfl, hb⟩))
     generalize M i k = q at *
     clear hbb
     go_wp2_with fail
     refine HCC.out.mono ?_
     rintro e w5 ⟨v, rfl, hv, hb5⟩
     have HB5 := Lib.hid (HBK.out.below hb5)
     have HV5 := Lib.hid hv
     clear hv hb5
     go_wp2_with fail
     refine (HFT.out v w5 HV5.out (HE.out.below HB5.out.up.bel)).mono ?_
     rintro e w6 ⟨rfl, hb6⟩
     have HB6 := Lib.hid (HB5.out.below hb6)
     clear hb6
     by_cases hfit : FitsR q
     ·rw [outR_fits hfit, outRE_fits hfit]
      obtain ⟨c0, f0, f1, c1⟩ := HB6.out.top
      replace c1 := c1 (by rw [HB6.out.tl]; exact hlt2)
      generalize hto : ts[k]'(by rw [HB6.out.tl]; exact hlt2) = told at *
      clear hto
      have HB7 := Lib.hid (HPT.out w6 HB6.out hfit)
      have k1 : (0 : Int) ≤ (k : Int) := by omega
      have k2 : (k : Int) < (n : Int) := by omega
      generalize rstr q = s at *
      clear hfit
      go_wp2_with fail
      go_roundw
      case rel => exact ⟨k + 1, _, by go_num, by omega, HB7.out⟩
      case measure => simp [intOf]; omega
     ·rw [outR_not hfit, outRE_not hfit]
      have HR := Lib.hid (HNO.out hfit w6 HB6.out.up.bel)
      clear hfit
      go_wp2_with fail
      rw [← hQ.out]
      exact HR.out
    ·have HN := Lib.hid (hbb.next (by omega))
     clear hbb
     go_wp2_with fail
     go_roundw
     case rel => exact ⟨i + 1, _, by go_num, by omega, HN.out⟩
     case measure => simp [intOf]; omega
  ·obtain ⟨hmf, htp⟩ := hba.done (by omega)
   have HR := Lib.hid (show RetMx w m n M (.returned (.tuple #[.slice (some ⟨U, 0, none⟩) m m, .int .i64 0])) wr from .inl ⟨_, _, rs, rfl, hmf, htp, hba.bel⟩)
   clear hba hmf htp
   go_wp2_with fail
   rw [← hQ.out]
   exact HR.out
end Go.Proofs.YtajlojhklhlljaaGreatDoor
