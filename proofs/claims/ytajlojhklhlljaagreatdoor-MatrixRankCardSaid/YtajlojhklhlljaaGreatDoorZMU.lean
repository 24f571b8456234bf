import Derived.Test.YtajlojhklhlljaaGreatDoorZMA
import Derived.Test.YtajlojhklhlljaaGreatDoorZMT
set_option maxHeartbeats 16000000
set_option maxRecDepth 100000
set_option linter.unusedVariables false
set_option linter.unusedSimpArgs false
set_option linter.unusedSectionVars false
namespace Go.Proofs.YtajlojhklhlljaaGreatDoor
def RkF (m n : Nat) (M : Nat → Nat → Rat) (q : Nat) : Prop := ∃ e G : Nat → Nat → Rat, ∀ i k, i < m → k < n → M i k = sumR q fun t => e i t * G t k
def Rk (m n : Nat) (M : Nat → Nat → Rat) (r : Nat) : Prop := RkF m n M r ∧ ∀ q, RkF m n M q → r ≤ q
section
variable {m n q r r' : Nat} {M N : Nat → Nat → Rat}
theorem RkF.trn (h : RkF m n M q) : RkF n m (trn M) q := by
 obtain ⟨e, G, h⟩ := h
 refine ⟨fun k t => G t k, fun t i => e i t, fun k i hk hi => ?_⟩
 show M i k = _
 rw [h i k hi hk]
 exact sumR_congr fun t _ => Rat.mul_comm _ _
theorem RkF.rows (m n : Nat) (M : Nat → Nat → Rat) : RkF m n M m := ⟨idn, M, fun i k hi _ => by
 rw [sumR_one (k := i) hi (fun t _ hne => by show (if i = t then (1 : Rat) else 0) * _ = 0; rw [if_neg (Ne.symm hne)]; grind)]
 show M i k = (if i = i then (1 : Rat) else 0) * _
 rw [if_pos rfl]; grind⟩
theorem RkF.cols (m n : Nat) (M : Nat → Nat → Rat) : RkF m n M n := (RkF.rows n m (Go.Proofs.YtajlojhklhlljaaGreatDoor.trn M)).trn
theorem RkF.congr (h : RkF m n M q) (e : ∀ i k, i < m → k < n → M i k = N i k) : RkF m n N q := by
 obtain ⟨f, G, h⟩ := h
 exact ⟨f, G, fun i k hi hk => by rw [← e i k hi hk]; exact h i k hi hk⟩
theorem RkF.scale (d : Rat) (h : RkF m n M q) : RkF m n (fun i k => d * M i k) q := by
 obtain ⟨f, G, h⟩ := h
 refine ⟨fun i t => d * f i t, G, fun i k hi hk => ?_⟩
 show d * M i k = _
 rw [h i k hi hk, ← sumR_mul]
 exact sumR_congr fun t _ => by grind
theorem RkF.top (h : RkF (m + 1) n M q) : RkF m n M q := by
 obtain ⟨f, G, h⟩ := h
 exact ⟨f, G, fun i k hi hk => h i k (by omega) hk⟩
theorem RkF.more (h : RkF m n M q) : RkF (m + 1) n M (q + 1) := by
 obtain ⟨f, G, h⟩ := h
 refine ⟨fun i t => if i < m then (if t < q then f i t else 0) else (if t < q then 0 else 1), fun t k => if t < q then G t k else M m k, fun i k hi hk => ?_⟩
 show M i k = sumR q _ + _
 by_cases e : i < m
 ·rw [h i k e hk]
  have : sumR q (fun t => f i t * G t k) = sumR q (fun t => (if i < m then (if t < q then f i t else 0) else (if t < q then (0 : Rat) else 1)) * (if t < q then G t k else M m k)) := sumR_congr fun t ht => by rw [if_pos e, if_pos ht, if_pos ht]
  rw [this]
  simp [e]
  grind
 ·obtain rfl : i = m := by omega
  rw [sumR_zero fun t ht => by simp [ht]; try grind]
  simp
  try grind
theorem Rk.same (h : Rk m n M r) (h' : Rk m n M r') : r = r' := Nat.le_antisymm (h.2 _ h'.1) (h'.2 _ h.1)
theorem Rk.trn (h : Rk m n M r) : Rk n m (trn M) r := ⟨h.1.trn, fun q hq => h.2 q hq.trn⟩
theorem Rk.rows (h : Rk m n M r) : r ≤ m := h.2 _ (RkF.rows _ _ _)
theorem Rk.cols (h : Rk m n M r) : r ≤ n := h.2 _ (RkF.cols _ _ _)
theorem Rk.more (h : Rk m n M r) (h' : Rk (m + 1) n M r') : r ≤ r' ∧ r' ≤ r + 1 := ⟨h.2 _ h'.1.top, h'.2 _ h.1.more⟩
theorem Rk.congr (h : Rk m n M r) (e : ∀ i k, i < m → k < n → M i k = N i k) : Rk m n N r := ⟨h.1.congr e, fun q hq => h.2 q (hq.congr fun i k hi hk => (e i k hi hk).symm)⟩
theorem Rk.unscale {d : Rat} (hd : d ≠ 0) (h : Rk m n (fun i k => d * M i k) r) : Rk m n M r := by
 refine ⟨(h.1.scale (1 / d)).congr fun i k _ _ => ?_, fun q hq => h.2 q (hq.scale d)⟩
 grind
end
section
variable {m n r : Nat} {N F : Nat → Nat → Rat} {ps : Nat → Nat} {v : Rat} {odd : Bool}
theorem Gau.fac (h : Gau m N n F ps r v odd) : RkF m n N r := by
 have hb := h.back
 refine ⟨fun i => if hi : i < m then Classical.choose (hb i hi) else fun _ => 0, F, fun i k hi hk => ?_⟩
 simp only [hi, dif_pos]
 rw [Classical.choose_spec (hb i hi) k]
 exact sumR_tail h.rm fun t h1 h2 => by rw [h.zero t k h1 h2 hk]; grind
theorem Gau.fac_le {k : Nat} (h : Gau m N n F ps r v odd) (hN : RkF m n N k) : r ≤ k := by
 refine Classical.byContradiction fun hk => ?_
 have hk : k < r := by omega
 have hrm := h.rm
 obtain ⟨g, G, hG⟩ := hN
 have hc := h.comb
 have h2 : ∃ e : Nat → Nat → Rat, ∀ i, i < r → ∀ j, j < n → F i j = sumR k fun t => e i t * G t j := by
  refine ⟨fun i t => if hi : i < m then sumR m (fun a => Classical.choose (hc i hi) a * g a t) else 0, fun i hi j hj => ?_⟩
  have hi' : i < m := by omega
  simp only [hi', dif_pos]
  rw [Classical.choose_spec (hc i hi') j, sum_comm_mul]
  exact sumR_congr fun a ha => by rw [hG a j ha hj]
 obtain ⟨e, he⟩ := h2
 have h3 := det_mul r (fun i t => if t < k then e i t else 0) (fun t j => if t < k then G t (ps j) else 0)
 have h4 : det r (mulM r (fun i t => if t < k then e i t else 0) (fun t j => if t < k then G t (ps j) else 0)) = 1 := by
  rw [← det_idn r]
  apply (det_alt r).ext
  intro i j hi hj
  rw [← h.unit j i hj (by omega), he i hi _ (h.piv j hj)]
  unfold mulM
  rw [sumR_tail (k := k) (by omega) (fun t h1 h2 => by show (if t < k then e i t else 0) * _ = 0; rw [if_neg (by omega)]; grind)]
  exact sumR_congr fun t ht => by show (if t < k then e i t else 0) * (if t < k then G t (ps j) else 0) = _; rw [if_pos ht, if_pos ht]
 have h6 : det r (fun i t => if t < k then e i t else 0) = 0 := det_zero_col r _ k hk (fun i _ => by simp)
 rw [h4, h6] at h3
 revert h3
 grind
theorem Gau.rk (h : Gau m N n F ps r v odd) : Rk m n N r := ⟨h.fac, fun _ hq => h.fac_le hq⟩
end
end Go.Proofs.YtajlojhklhlljaaGreatDoor
namespace Go.Proofs.YtajlojhklhlljaaGreatDoor
open Go.RowKit
section
variable {m n k0 : Nat} {rs : List RowT} {M : Nat → Nat → Rat}
theorem MatF.lightN (B : Nat) (hB : B * (1 + (B * B + 1) * k0) ≤ 600) (h : MatF rs m n M) (hm : m ≤ B) (hn : n ≤ B) (hk1 : 1 ≤ k0) (hd : ∀ i k, i < m → k < n → DigR k0 (M i k)) : ¬ 600 < heft rs n := by
 have hlen := h.len
 have hL : ∀ l ∈ matL rs, l.length ≤ B ∧ ∀ q ∈ l, DigR k0 q := fun l hl => by
  obtain ⟨r, hr, rfl⟩ := List.mem_map.1 hl
  refine ⟨by rw [List.length_map, h.row r hr]; exact hn, fun q hq => ?_⟩
  obtain ⟨s, hs, rfl⟩ := List.mem_map.1 hq
  obtain ⟨i, hi, rfl⟩ := List.getElem_of_mem hr
  obtain ⟨k, hk, rfl⟩ := List.getElem_of_mem hs
  have hl := h.rowAt hi
  rw [h.cel i k hi hk, valS_rstr (h.fit i k (by omega) (by omega))]
  exact hd i k (by omega) (by omega)
 have hlL : (matL rs).length = m := by unfold matL; rw [List.length_map, hlen]
 have hD : Dig (1 + B * (B * k0)) (matD rs) := by
  have h1 := denM_dig (a := 1) (d := 1) (m := matL rs) (by unfold Dig; decide) hL
  refine h1.mono ?_
  rw [hlL]
  have : m * (B * k0) ≤ B * (B * k0) := Nat.mul_le_mul_right _ hm
  omega
 have hQ : ∀ i k, DigR k0 (matQ rs i k) := fun i k => by
  by_cases hi : i < m
  ·by_cases hk : k < n
   ·rw [h.q hi hk]; exact hd i k hi hk
   ·have h0 : matQ rs i k = 0 := by
     unfold matQ
     rw [List.getD_eq_getElem?_getD]
     have h9 : ((matL rs).getD i []).length ≤ n := by
      rw [List.getD_eq_getElem?_getD]
      rcases h2 : (matL rs)[i]? with _ | l
      ·simp
      ·obtain ⟨r, hr, rfl⟩ := List.mem_map.1 (List.mem_of_getElem? h2)
       have := h.row r hr
       simp
       omega
     rw [List.getElem?_eq_none (by omega)]
     rfl
    rw [h0]
    exact dig_zero.mono hk1
  ·have h0 : matQ rs i k = 0 := by
    unfold matQ
    rw [List.getD_eq_getElem?_getD (l := matL rs), List.getElem?_eq_none (l := matL rs) (by omega)]
    rfl
   rw [h0]
   exact dig_zero.mono hk1
 have hBB : B * (B * k0) = B * B * k0 := (Nat.mul_assoc _ _ _).symm
 have hB1 : (B * B + 1) * k0 = B * B * k0 + k0 := by rw [Nat.add_mul, Nat.one_mul]
 have hdig : digT (matD rs) (matP rs) rs.length n ≤ 1 + (B * B + 1) * k0 := by
  refine mxTab_le ?_ fun i k hi hk => ?_
  ·have := dig_nd (k := B * (B * k0)) (by rw [Nat.add_comm]; exact hD)
   omega
  ·have h1 : Dig (k0 + B * (B * k0) + 1) (matP rs i k) := by
    have := celN_dig hD (hQ i k)
    rw [show k0 + B * (B * k0) + 1 = k0 + (1 + B * (B * k0)) by omega]
    exact this
   have := dig_nd h1
   show nd (matP rs i k) ≤ _
   omega
 unfold heft
 have h2 : max rs.length n ≤ B := by omega
 have h3 := Nat.mul_le_mul h2 hdig
 omega
theorem matD_ne (rs : List RowT) : (matD rs : Rat) ≠ 0 := by
 have : 0 < matD rs := denM_pos _ (by decide)
 intro e
 have h2 : matD rs = 0 := by exact_mod_cast e
 omega
theorem MatF.fin (h : MatF rs m n M) (hm1 : 1 ≤ m) (hm : m ≤ 12) (hn : n ≤ 12) : FineM rs n := h.fine hm hn (fun e => by omega)
theorem MatF.cellP (h : MatF rs m n M) (hf : FineM rs n) {i k : Nat} (hi : i < m) (hk : k < n) : ((matP rs i k : Int) : Rat) = matD rs * M i k := by
 rw [mat_cell hf (by rw [h.len]; exact hi) hk, h.q hi hk]
theorem MatF.rk (h : MatF rs m n M) (hf : FineM rs n) : Rk m n M (eli rs.length (matP rs) n).ps.length := by
 obtain ⟨F, hg, -⟩ := eli_gau rs.length (matP rs) n
 have h1 := hg.rk
 rw [h.len] at h1 ⊢
 exact Rk.unscale (matD_ne rs) (h1.congr fun i k hi hk => h.cellP hf hi hk)
end
theorem mxRank {A : Option Addr} {c m n k0 : Nat} {M : Nat → Nat → Rat} {w : World} (B : Nat) (hB : B * (1 + (B * B + 1) * k0) ≤ 600) (h : MxIn w A m n M) (hm1 : 1 ≤ m) (hm : m ≤ B) (hn1 : 1 ≤ n) (hn : n ≤ B) (hB12 : B ≤ 12) (hk1 : 1 ≤ k0) (hd : DigM k0 m n M) (henv : Env w) :
  Calls Tryz.prog 27 #[.slice A m c] w fun e w' => ∃ r : Nat, e = .returned (.tuple #[.int .i64 (r : Int), .int .i64 0]) ∧ Rk m n M r ∧ Below w.heap.size w w' := by
 obtain ⟨rs, h1, h2⟩ := h
 have hf := h2.fin hm1 (by omega) (by omega)
 have hl := h2.len
 have := Rank_any A c n rs w h1 hf (by omega) hn1 henv
 rw [show decide (600 < heft rs n) = false from by simpa using h2.lightN B hB hm hn hk1 hd, hl] at this
 refine this.mono ?_
 rintro e w' ⟨rfl, hb⟩
 refine ⟨_, rfl, ?_, hb⟩
 have := h2.rk hf
 rw [hl] at this
 exact this
end Go.Proofs.YtajlojhklhlljaaGreatDoor
namespace Go.Proofs.YtajlojhklhlljaaGreatDoor
open Go.RowKit
theorem Gau.digs {m n n2 r k0 : Nat} {N F : Nat → Nat → Rat} {ps : Nat → Nat} {v : Rat} {odd : Bool} (h : Gau m N n F ps r v odd) (hn2 : n ≤ n2) (hN : ∀ i k, i < m → k < n2 → DigR k0 (N i k)) :
  DigR (detDig k0 r) v ∧ ∀ i k, i < r → k < n2 → DigR (detDig k0 r) (v * F i k) := by
 have hrm := h.rm
 obtain ⟨π, hπ, h2⟩ := h.mins
 constructor
 ·have h3 := h2 r (fun j => j) (fun j => ps j) (Nat.le_refl _) (fun j _ => rfl) (fun j h1 h2 => by omega)
  have e : det r (fun a j => F a (ps j)) = 1 := by
   rw [← det_idn r]
   apply (det_alt r).ext
   intro a j ha hj
   exact h.unit j a hj (by omega)
  rw [e, Rat.mul_one] at h3
  rw [← h3]
  exact det_dig fun a b ha hb => hN _ _ (hπ _ (by omega)) (Nat.lt_of_lt_of_le (h.piv b hb) hn2)
 ·intro i k hir hk
  have h3 := h2 r (fun j => j) (fun j => if j = i then k else ps j) (Nat.le_refl _) (fun j _ => rfl) (fun j h1 h2 => by omega)
  have e : det r (fun a j => F a (if j = i then k else ps j)) = F i k := by
   rw [← det_col_idn hir (fun a => F a k)]
   apply (det_alt r).ext
   intro a j ha hj
   unfold cpd
   split
   ·rfl
   ·exact h.unit j a hj (by omega)
  rw [e] at h3
  rw [← h3]
  exact det_dig fun a b ha hb => hN _ _ (hπ _ (by omega)) (by split; exact hk; exact Nat.lt_of_lt_of_le (h.piv b hb) hn2)
theorem dig_int {d : Nat} {z : Int} (h : DigR d (z : Rat)) : Dig d z := by
 have := h.1
 rwa [Rat.num_intCast] at this
theorem dig_neg {d : Nat} {z : Int} (h : Dig d z) : Dig d (-z) := by
 unfold Dig at *
 rwa [Int.natAbs_neg]
theorem lcmI_one : lcmI 1 1 = 1 := by decide
theorem denL_int : ∀ (l : List Rat), (∀ q ∈ l, q.den = 1) → denL 1 l = 1
 | [], _ => rfl
 | q :: r, h => by
  unfold denL
  rw [h q (by simp)]
  exact (congrArg (fun d => denL d r) lcmI_one).trans (denL_int r fun p hp => h p (by simp [hp]))
theorem denM_int : ∀ (l : List (List Rat)), (∀ m ∈ l, ∀ q ∈ m, q.den = 1) → denM 1 l = 1
 | [], _ => rfl
 | m :: r, h => by
  unfold denM
  rw [denL_int m (h m (by simp))]
  exact denM_int r fun p hp => h p (by simp [hp])
theorem MatF.int_D {m n : Nat} {rs : List RowT} {M : Nat → Nat → Rat} (h : MatF rs m n M) (hz : ∀ i k, i < m → k < n → ∃ z : Int, M i k = z) : matD rs = 1 := by
 refine denM_int _ fun l hl q hq => ?_
 obtain ⟨r, hr, rfl⟩ := List.mem_map.1 hl
 obtain ⟨s, hs, rfl⟩ := List.mem_map.1 hq
 obtain ⟨i, hi, rfl⟩ := List.getElem_of_mem hr
 obtain ⟨k, hk, rfl⟩ := List.getElem_of_mem hs
 have hlr := h.rowAt hi
 have hlen := h.len
 obtain ⟨z, e⟩ := hz i k (by omega) (by omega)
 rw [h.cel i k hi hk, valS_rstr (h.fit i k (by omega) (by omega)), e]
 exact Rat.den_intCast _
def IntM (m n : Nat) (M : Nat → Nat → Rat) : Prop := ∀ i k, i < m → k < n → ∃ z : Int, M i k = z
theorem ThinM.int {m n : Nat} {M : Nat → Nat → Rat} (h : ThinM m n M) : IntM m n M := fun i k hi hk => by
 obtain ⟨z, e, -⟩ := h i k hi hk
 exact ⟨z, e⟩
theorem mxKernel {A : Option Addr} {c m n k0 : Nat} {M : Nat → Nat → Rat} {w : World} (B : Nat) (hB : B * (1 + (B * B + 1) * k0) ≤ 600) (h : MxIn w A m n M) (hm1 : 1 ≤ m) (hm : m ≤ B) (hn1 : 1 ≤ n) (hn : n ≤ B) (hB12 : B ≤ 12) (hk1 : 1 ≤ k0) (hd : DigM k0 m n M) (hz : IntM m n M) (hdd : ∀ r, r ≤ m → r < n → detDig k0 r ≤ 400) (henv : Env w) :
  Calls Tryz.prog 28 #[.slice A m c] w fun e w' => ∃ r : Nat, Rk m n M r ∧ ((r = n ∧ e = .returned (.tuple #[.slice none 0 0, .int .i64 12]) ∧ Below w.heap.size w w') ∨ (r < n ∧ ∃ (x : Nat → Rat) (a : Nat), a < n ∧ x a = 1 ∧ (∀ i, i < m → appQ n M x i = 0) ∧ (∀ k, k < n → FitsR (x k)) ∧ VcOk w n x e w')) := by
 obtain ⟨rs, h1, h2⟩ := h
 have hf := h2.fin hm1 (by omega) (by omega)
 have hl := h2.len
 have hrk := h2.rk hf
 have hD := h2.int_D hz
 have hcp : ∀ i k, i < m → k < n → ((matP rs i k : Int) : Rat) = M i k := fun i k hi hk => by rw [h2.cellP hf hi hk, hD]; show (1 : Rat) * _ = _; grind
 have := Kernel_any A c n rs w h1 hf (by omega) hn1 henv
 rw [show decide (600 < heft rs n) = false from by simpa using h2.lightN B hB hm hn hk1 hd, hl] at this
 rw [hl] at hrk
 obtain ⟨F, hg, hP⟩ := eli_gau m (matP rs) n
 refine this.mono ?_
 clear this
 generalize eli m (matP rs) n = s at *
 rintro e w' (⟨he, rfl, hb⟩ | ⟨hlt, a, hff, hr⟩)
 ·exact ⟨n, by rw [he] at hrk; exact hrk, .inl ⟨rfl, rfl, hb⟩⟩
 ·obtain ⟨f1, f2, f3⟩ := hff
  have ha : a < n := by omega
  have hv0 : s.v ≠ 0 := by intro e; apply hg.v0; rw [e]; rfl
  have hgd := hg.digs (k0 := k0) (Nat.le_refl _) fun i k hi hk => by show DigR k0 ((matP rs i k : Int) : Rat); rw [hcp i k hi hk]; exact hd i k hi hk
  have hrm := hg.rm
  have hd4 := hdd s.ps.length hrm hlt
  have hkv : ∀ j, j < n → kerQ s a j = kerV F a j := fun j hj => by
   unfold kerQ kerV
   split
   ·rfl
   ·split
    ·rename_i hja
     have e := hP j a (by omega)
     rw [Rat.divInt_eq_div]
     have hv := hg.v0
     show ((-(s.P j a) : Int) : Rat) / (s.v : Rat) = _
     rw [Rat.intCast_neg, e]
     grind
    ·rfl
  have hfit : ∀ j, j < n → FitsR (kerQ s a j) := fun j hj => by
   unfold kerQ
   split
   ·exact small_fits (z := 1) (by decide)
   ·split
    ·rename_i hja
     have d1 := dig_int hgd.1
     have d2 : Dig (detDig k0 s.ps.length) (s.P j a) := dig_int (by rw [hP j a (by omega)]; exact hgd.2 j a (by omega) ha)
     have hd1 : 1 ≤ detDig k0 s.ps.length := by unfold detDig; split <;> omega
     exact (DigR.of_divInt hv0 (dig_neg d2) d1).fits hd1 hd4
    ·exact small_fits (z := 0) (by decide)
  refine ⟨s.ps.length, hrk, .inr ⟨hlt, kerQ s a, a, ha, by unfold kerQ; rw [if_pos rfl], fun i hi => ?_, hfit, hr.ok hfit⟩⟩
  have hk := hg.ker ha (fun i hi => ⟨by omega, f2 i hi⟩) f3 i hi
  rw [← hk]
  exact sumR_congr fun j hj => by
   show M i j * kerQ s a j = ((matP rs i j : Int) : Rat) * _
   rw [hkv j hj, hcp i j hi hj]
end Go.Proofs.YtajlojhklhlljaaGreatDoor
