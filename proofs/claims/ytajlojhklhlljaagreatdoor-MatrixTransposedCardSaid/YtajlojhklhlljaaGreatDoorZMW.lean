import Derived.Test.YtajlojhklhlljaaGreatDoorZMU
import Derived.Test.YtajlojhklhlljaaGreatDoorZMV
set_option maxHeartbeats 16000000
set_option maxRecDepth 100000
set_option linter.unusedVariables false
set_option linter.unusedSimpArgs false
set_option linter.unusedSectionVars false
namespace Go.Proofs.YtajlojhklhlljaaGreatDoor
def IsB (b : Nat) (q : Rat) : Prop := ∃ z : Int, q = z ∧ z.natAbs ≤ b
theorem IsB.mono {a b : Nat} {q : Rat} (h : IsB a q) (hab : a ≤ b) : IsB b q := by
 obtain ⟨z, e, hz⟩ := h
 exact ⟨z, e, by omega⟩
theorem IsB.mul {a b c : Nat} {x y : Rat} (h : IsB a x) (k : IsB b y) (hc : a * b = c) : IsB c (x * y) := by
 obtain ⟨z, e, hz⟩ := h
 obtain ⟨u, f, hu⟩ := k
 refine ⟨z * u, by rw [e, f, Rat.intCast_mul], ?_⟩
 rw [Int.natAbs_mul, ← hc]
 exact Nat.mul_le_mul hz hu
theorem IsB.dig {b d : Nat} {q : Rat} (h : IsB b q) (hb : b < 10 ^ d) (hd : 1 ≤ d) : DigR d q := by
 obtain ⟨z, rfl, hz⟩ := h
 exact DigR.ofInt (show z.natAbs < 10 ^ d by omega) hd
theorem sgD_B (i : Nat) : IsB 1 (sgD i) := by
 unfold sgD
 split
 ·exact ⟨1, rfl, by decide⟩
 ·exact ⟨-1, rfl, by decide⟩
def detB (b : Nat) : Nat → Nat
 | 0 => 1
 | n + 1 => (n + 1) * (b * detB b n)
theorem det_B {b : Nat} : ∀ {n : Nat} {M : Nat → Nat → Rat}, (∀ r c, r < n → c < n → IsB b (M r c)) → IsB (detB b n) (det n M)
 | 0, _, _ => ⟨1, rfl, Nat.le_refl 1⟩
 | n + 1, M, h => sumR_thin fun i hi => ((sgD_B i).mul (h i 0 hi (by omega)) (Nat.one_mul _)).mul (det_B (n := n) (M := mnr M i) fun r c hr hc => h _ _ (by unfold skp; split <;> omega) (by omega)) rfl
theorem Gau.bnd {m n n2 r b : Nat} {N F : Nat → Nat → Rat} {ps : Nat → Nat} {v : Rat} {odd : Bool} (h : Gau m N n F ps r v odd) (hn2 : n ≤ n2) (hN : ∀ i k, i < m → k < n2 → IsB b (N i k)) :
  IsB (detB b r) v ∧ ∀ i k, i < r → k < n2 → IsB (detB b r) (v * F i k) := by
 have hrm := h.rm
 obtain ⟨π, hπ, h2⟩ := h.mins
 constructor
 ·have h3 := h2 r (fun j => j) (fun j => ps j) (Nat.le_refl _) (fun j _ => rfl) (fun j h1 h2 => by omega)
  have e : det r (fun a j => F a (ps j)) = 1 := by
   rw [← det_idn r]
   apply (det_alt r).ext
   intro a j ha hj
   exact h.unit j a hj (by omega)
  rw [e, Rat.mul_one] at h3
  rw [← h3]
  exact det_B fun a b ha hb => hN _ _ (hπ _ (by omega)) (Nat.lt_of_lt_of_le (h.piv b hb) hn2)
 ·intro i k hir hk
  have h3 := h2 r (fun j => j) (fun j => if j = i then k else ps j) (Nat.le_refl _) (fun j _ => rfl) (fun j h1 h2 => by omega)
  have e : det r (fun a j => F a (if j = i then k else ps j)) = F i k := by
   rw [← det_col_idn hir (fun a => F a k)]
   apply (det_alt r).ext
   intro a j ha hj
   unfold cpd
   split
   ·rfl
   ·exact h.unit j a hj (by omega)
  rw [e] at h3
  rw [← h3]
  exact det_B fun a b ha hb => hN _ _ (hπ _ (by omega)) (by split; exact hk; exact Nat.lt_of_lt_of_le (h.piv b hb) hn2)
theorem detB_thin : ∀ r, r ≤ 4 → detB 3 r < 10 ^ 4
 | 0, _ | 1, _ | 2, _ | 3, _ | 4, _ => by decide
theorem detB_mil : ∀ r, r ≤ 4 → detB 1000000 r < 10 ^ 26
 | 0, _ | 1, _ | 2, _ | 3, _ | 4, _ => by decide
theorem IsB.int {b : Nat} {z : Int} (h : IsB b (z : Rat)) : z.natAbs ≤ b := by
 obtain ⟨y, e, hy⟩ := h
 have : z = y := by exact_mod_cast e
 rw [this]
 exact hy
theorem idn_B (i k : Nat) : IsB 3 (idn i k) := by
 unfold idn
 split
 ·exact ⟨1, rfl, by decide⟩
 ·exact ⟨0, rfl, by decide⟩
end Go.Proofs.YtajlojhklhlljaaGreatDoor
namespace Go.Proofs.YtajlojhklhlljaaGreatDoor
open Go.RowKit
theorem ThinM.B {m n : Nat} {M : Nat → Nat → Rat} (h : ThinM m n M) : ∀ i k, i < m → k < n → IsB 3 (M i k) := h
theorem matF_col {ss : List ByteArray} {n : Nat} {b : Nat → Rat} (h : VecF ss n b) : MatF (colT ss) n 1 (fun i _ => b i) := by
 refine ⟨by rw [colT_length]; exact h.len, fun r hr => ?_, fun i k hi hk => ?_, fun i _ hi _ => h.fit i hi⟩
 ·obtain ⟨s, -, rfl⟩ := List.mem_map.1 hr
  rfl
 ·have hi' : i < ss.length := by rw [colT_length] at hi; exact hi
  have e : (colT ss)[i] = ⟨none, 0, [ss[i]]⟩ := by simp [colT]
  have hk1 : k = 0 := by
   have : (colT ss)[i].ss.length = 1 := by rw [e]; rfl
   omega
  subst hk1
  simp only [e, List.getElem_cons_zero]
  exact h.cel i hi'
theorem mxSol {A Ab : Option Addr} {c cb n : Nat} {M : Nat → Nat → Rat} {b : Nat → Rat} {w : World} (h : MxIn w A n n M) (hv : VcIn w Ab n b) (hn1 : 1 ≤ n) (hn : n ≤ 4) (ht : ThinM n n M) (hs : SmallV n b) (henv : Env w) :
  Calls Tryz.prog 33 #[.slice A n c, .slice Ab n cb] w fun e w' => ∃ r : Nat, Rk n n M r ∧ ((r < n ∧ e = .returned (.tuple #[.slice none 0 0, .int .i64 6]) ∧ Below w.heap.size w w') ∨ (r = n ∧ ∃ x : Nat → Rat, (∀ i, i < n → appQ n M x i = b i) ∧ (∀ k, k < n → FitsR (x k)) ∧ VcOk w n x e w')) := by
 obtain ⟨rs, h1, h2⟩ := h
 obtain ⟨ss, h3, h4⟩ := hv
 have hl := h2.len
 have hsl := h4.len
 have hf := h2.fin hn1 (by omega) (by omega)
 have hD := h2.int_D ht.int
 have hc := matF_col h4
 have hfc : FineM (colT ss) 1 := hc.fin hn1 (by omega) (by decide)
 have hl1 := h2.lightN (k0 := 1) 4 (by decide) hn hn (by decide) ht.dig
 have hl2 := hc.lightN (k0 := 1) 4 (by decide) hn (by decide) (by decide) fun i _ hi _ => (hs i hi).dig
 have hcp : ∀ i k, i < n → k < n → ((matP rs i k : Int) : Rat) = M i k := fun i k hi hk => by rw [h2.cellP hf hi hk, hD]; show (1 : Rat) * _ = _; grind
 have hcb : ∀ i, i < n → ((matP (colT ss) i 0 : Int) : Rat) = matD (colT ss) * b i := fun i hi => hc.cellP hfc hi (by decide)
 have hD8 : Dig 5 (matD (colT ss)) := by
  have h1 := denM_dig (a := 1) (d := 1) (k := 1) (n := 1) (m := matL (colT ss)) (by unfold Dig; decide) fun l hl => by
   obtain ⟨r, hr, rfl⟩ := List.mem_map.1 hl
   refine ⟨by rw [List.length_map, hc.row r hr]; decide, fun q hq => ?_⟩
   obtain ⟨s, hs', rfl⟩ := List.mem_map.1 hq
   obtain ⟨i, hi, rfl⟩ := List.getElem_of_mem hr
   obtain ⟨k, hk, rfl⟩ := List.getElem_of_mem hs'
   have hl := hc.rowAt hi
   have hlen := hc.len
   rw [hc.cel i k hi hk, valS_rstr (hc.fit i k (by omega) (by omega))]
   exact (hs i (by omega)).dig
  refine h1.mono ?_
  have : (matL (colT ss)).length = n := by unfold matL; rw [List.length_map, hc.len]
  rw [this]
  omega
 have hp8 := matD_pos (colT ss)
 have hcB : ∀ i, i < n → IsB 1000000 ((matP (colT ss) i 0 : Int) : Rat) := fun i hi => by
  refine ⟨_, rfl, ?_⟩
  have h1 : Dig (1 + 5) (matP (colT ss) i 0) := celN_dig hD8 (by rw [hc.q hi (by decide)]; exact (hs i hi).dig)
  exact Nat.le_of_lt h1
 have := Solve_any A Ab c cb rs ss w h1 (by rw [hl]; exact hf) (by omega) h3 (by omega) h4.valid henv
 rw [hl, hsl] at this
 rw [show decide (600 < heft rs n) = false from by simpa using hl1, show decide (600 < heft (colT ss) 1) = false from by simpa using hl2] at this
 have hN : ∀ i k, i < n → k < n + 1 → IsB 1000000 ((solN rs ss i k : Int) : Rat) := fun i k hi hk => by
  unfold solN
  rw [hl]
  split
  ·exact hcB i hi
  ·rw [hcp i k hi (by omega)]
   exact (ht.B i k hi (by omega)).mono (by decide)
 have hNl : ∀ i k, i < n → k < n → ((solN rs ss i k : Int) : Rat) = M i k := fun i k hi hk => by
  unfold solN
  rw [hl, if_neg (by omega)]
  exact hcp i k hi hk
 have hNr : ∀ i, i < n → ((solN rs ss i n : Int) : Rat) = matD (colT ss) * b i := fun i hi => by
  unfold solN
  rw [hl, if_pos rfl]
  exact hcb i hi
 obtain ⟨F, hg, hP⟩ := eli_gau n (solN rs ss) n
 have hrk : Rk n n M (eli n (solN rs ss) n).ps.length := hg.rk.congr hNl
 refine this.mono ?_
 clear this
 have hB := hg.bnd (n2 := n + 1) (b := 1000000) (by omega) hN
 have hQ : ∀ i, solQ rs ss (eli n (solN rs ss) n) i = Rat.divInt ((eli n (solN rs ss) n).P i n) ((eli n (solN rs ss) n).v * matD (colT ss)) := fun i => by
  unfold solQ
  rw [hl, hD, Int.mul_one]
 generalize eli n (solN rs ss) n = s at *
 have hv0 : s.v ≠ 0 := by intro e; apply hg.v0; rw [e]; rfl
 have hvR := hg.v0
 have hDR : (matD (colT ss) : Rat) ≠ 0 := matD_ne _
 have hd0 : s.v * matD (colT ss) ≠ 0 := Int.mul_ne_zero hv0 (by omega)
 have hrm := hg.rm
 have hb26 := detB_mil s.ps.length (by omega)
 rintro e w' (⟨hlt, rfl, hb⟩ | ⟨he, hr⟩)
 ·exact ⟨_, hrk, .inl ⟨hlt, rfl, hb⟩⟩
 ·have hx : ∀ k, k < n → solQ rs ss s k = F k n / matD (colT ss) := fun k hk => by
   rw [hQ, Rat.divInt_eq_div, hP k n (by omega), Rat.intCast_mul]
   grind
  have hfit : ∀ k, k < n → FitsR (solQ rs ss s k) := fun k hk => by
   rw [hQ]
   have d1 : Dig 31 (s.P k n) := by
    have h9 := hB.2 k n (by omega) (by omega)
    rw [← hP k n (by omega)] at h9
    have := h9.int
    unfold Dig
    have h8 : (10 : Nat) ^ 26 < 10 ^ 31 := by decide
    omega
   have d2 : Dig 31 (s.v * matD (colT ss)) := by
    have h9 : Dig 26 s.v := by
     have := hB.1.int
     unfold Dig
     omega
    exact h9.mul hD8 rfl rfl
   exact (DigR.of_divInt hd0 d1 d2).fits (by decide) (by decide)
  refine ⟨_, hrk, .inr ⟨he, solQ rs ss s, fun i hi => ?_, hfit, hr.ok hfit⟩⟩
  have h5 := hg.solves he n i hi
  rw [hNr i hi] at h5
  have h6 : appQ n M (solQ rs ss s) i = sumR n (fun j => (1 / (matD (colT ss) : Rat)) * (((solN rs ss i j : Int) : Rat) * F j n)) := sumR_congr fun j hj => by
   rw [hNl i j hi hj, hx j hj]
   grind
  rw [h6, sumR_mul, h5]
  grind
theorem mxInv {A : Option Addr} {c n : Nat} {M : Nat → Nat → Rat} {w : World} (h : MxIn w A n n M) (hn1 : 1 ≤ n) (hn : n ≤ 4) (ht : ThinM n n M) (henv : Env w) :
  Calls Tryz.prog 36 #[.slice A n c] w fun e w' => ∃ r : Nat, Rk n n M r ∧ ((r < n ∧ e = .returned (.tuple #[.slice none 0 0, .int .i64 6]) ∧ Below w.heap.size w w') ∨ (r = n ∧ ∃ X : Nat → Nat → Rat, (∀ i k, i < n → k < n → mulM n M X i k = idn i k) ∧ DigM 4 n n X ∧ MxOk w n n X e w')) := by
 obtain ⟨rs, h1, h2⟩ := h
 have hl := h2.len
 have hf := h2.fin hn1 (by omega) (by omega)
 have hD := h2.int_D ht.int
 have hl1 := h2.lightN (k0 := 1) 4 (by decide) hn hn (by decide) ht.dig
 have hcp : ∀ i k, i < n → k < n → ((matP rs i k : Int) : Rat) = M i k := fun i k hi hk => by rw [h2.cellP hf hi hk, hD]; show (1 : Rat) * _ = _; grind
 have := Inverse_any A c rs w h1 (by rw [hl]; exact hf) (by omega) henv
 rw [hl, show decide (600 < heft rs n) = false from by simpa using hl1] at this
 have hNl : ∀ i k, i < n → k < n → ((invN rs i k : Int) : Rat) = M i k := fun i k hi hk => by
  unfold invN
  rw [hl, if_pos hk]
  exact hcp i k hi hk
 have hNr : ∀ i k, ((invN rs i (n + k) : Int) : Rat) = idn i k := fun i k => by
  unfold invN
  rw [hl, if_neg (by omega), Nat.add_sub_cancel_left]
  exact idnZ_q _ _
 have hN : ∀ i k, i < n → k < n + n → IsB 3 ((invN rs i k : Int) : Rat) := fun i k hi hk => by
  rcases Nat.lt_or_ge k n with h9 | h9
  ·rw [hNl i k hi h9]
   exact ht.B i k hi h9
  ·obtain ⟨j, rfl⟩ : ∃ j, k = n + j := ⟨k - n, by omega⟩
   rw [hNr]
   exact idn_B _ _
 obtain ⟨F, hg, hP⟩ := eli_gau n (invN rs) n
 have hrk : Rk n n M (eli n (invN rs) n).ps.length := hg.rk.congr hNl
 refine this.mono ?_
 clear this
 have hB := hg.bnd (n2 := n + n) (b := 3) (by omega) hN
 have hQ : ∀ i k, invQ rs (eli n (invN rs) n) i k = Rat.divInt ((eli n (invN rs) n).P i (n + k)) (eli n (invN rs) n).v := fun i k => by
  unfold invQ
  rw [hl, hD, Int.mul_one]
 generalize eli n (invN rs) n = s at *
 have hv0 : s.v ≠ 0 := by intro e; apply hg.v0; rw [e]; rfl
 have hvR := hg.v0
 have hrm := hg.rm
 have hb4 := detB_thin s.ps.length (by omega)
 rintro e w' (⟨hlt, rfl, hb⟩ | ⟨he, hr⟩)
 ·exact ⟨_, hrk, .inl ⟨hlt, rfl, hb⟩⟩
 ·have hx : ∀ i k, i < n → invQ rs s i k = F i (n + k) := fun i k hi => by
   rw [hQ, Rat.divInt_eq_div, hP i (n + k) (by omega)]
   grind
  have hdig : DigM 4 n n (invQ rs s) := fun i k hi hk => by
   show DigR 4 (invQ rs s i k)
   rw [hQ]
   have d1 : Dig 4 (s.P i (n + k)) := by
    have h9 := hB.2 i (n + k) (by omega) (by omega)
    rw [← hP i (n + k) (by omega)] at h9
    have := h9.int
    unfold Dig
    omega
   have d2 : Dig 4 s.v := by
    have := hB.1.int
    unfold Dig
    omega
   exact DigR.of_divInt hv0 d1 d2
  refine ⟨_, hrk, .inr ⟨he, invQ rs s, fun i k hi hk => ?_, hdig, hr.ok (hdig.fits (by decide) (by decide))⟩⟩
  have h5 := hg.solves he (n + k) i hi
  rw [hNr i k] at h5
  rw [← h5]
  exact sumR_congr fun j hj => by
   rw [hNl i j hi hj, hx j k hj]
theorem IntM.num {m n : Nat} {M : Nat → Nat → Rat} (h : IntM m n M) : ∀ i k, i < m → k < n → (((M i k).num : Int) : Rat) = M i k := fun i k hi hk => by
 obtain ⟨z, e⟩ := h i k hi hk
 rw [e, Rat.num_intCast]
theorem rk_det {n r : Nat} {M : Nat → Nat → Rat} (hz : IntM n n M) (hk : Rk n n M r) : r = n ↔ det n M ≠ 0 := by
 obtain ⟨F, hg, -⟩ := eli_gau n (fun i k => (M i k).num) n
 have h1 := hk.same (hg.rk.congr hz.num)
 rw [h1, hg.det_ne, show det n (fun i k => (((M i k).num : Int) : Rat)) = det n M from (det_alt n).ext _ _ hz.num]
theorem IntM.left {n : Nat} {M X : Nat → Nat → Rat} (hz : IntM n n M) (hd : det n M ≠ 0) (hX : ∀ i k, i < n → k < n → mulM n M X i k = idn i k) : ∀ i k, i < n → k < n → mulM n X M i k = idn i k := by
 refine inv_comm hX ?_
 obtain ⟨C, hC⟩ := linv_int (n := n) (fun i k => (M i k).num) (by
  rw [show det n (fun i k => (((M i k).num : Int) : Rat)) = det n M from (det_alt n).ext _ _ hz.num]
  exact hd)
 refine ⟨C, fun i k hi hk => ?_⟩
 rw [← hC i k hi hk]
 exact sumR_congr fun j hj => by rw [← hz.num j k hj hk]
theorem det_inv {n : Nat} {M X : Nat → Nat → Rat} (hX : ∀ i k, i < n → k < n → mulM n M X i k = idn i k) : det n X * det n M = 1 := by
 rw [Rat.mul_comm, ← det_mul, ← det_idn n]
 exact (det_alt n).ext _ _ hX
theorem appQ_inv {n : Nat} {M X : Nat → Nat → Rat} {x b : Nat → Rat} (hX : ∀ i k, i < n → k < n → mulM n X M i k = idn i k) (hx : ∀ i, i < n → appQ n M x i = b i) : ∀ i, i < n → appQ n X b i = x i := fun i hi => by
 have h1 : appQ n X b i = mulM n X (mulM n M (fun j _ => x j)) i 0 := sumR_congr fun j hj => by rw [← hx j hj]; rfl
 rw [h1, ← mulM_assoc]
 have h2 : mulM n (mulM n X M) (fun j _ => x j) i 0 = mulM n idn (fun j _ => x j) i 0 := mulM_congr (fun k hk => hX i k hi hk) fun _ _ => rfl
 rw [h2, mulM_idn n _ 0 hi]
theorem trn_inv {n : Nat} {M X Y : Nat → Nat → Rat} (hX : ∀ i k, i < n → k < n → mulM n M X i k = idn i k) (hY : ∀ i k, i < n → k < n → mulM n (trn M) Y i k = idn i k) : ∀ i k, i < n → k < n → trn X i k = Y i k :=
 inv_only (A := trn M) (fun i k hi hk => by
  rw [mulM_trn, hX k i hk hi]
  unfold idn
  split <;> split <;> first | rfl | omega) hY
theorem det_thin4 {n : Nat} {M : Nat → Nat → Rat} (hn : n ≤ 4) (ht : ThinM n n M) : DigR 4 (det n M) := (det_B ht.B).dig (detB_thin n hn) (by decide)
theorem det_inv4 {n : Nat} {M X : Nat → Nat → Rat} (hn : n ≤ 4) (ht : ThinM n n M) (hd : det n M ≠ 0) (hX : ∀ i k, i < n → k < n → mulM n M X i k = idn i k) : DigR 5 (det n X) :=
 dig_one.div (det_thin4 hn ht) hd (by have := det_inv hX; grind) rfl
theorem rstr_i1 : rstr 1 = ⟨#[49]⟩ := by rw [rstr_whole (show (1 : Rat).den = 1 from rfl)]; exact str_1
theorem vcSame {A A' : Option Addr} {c c' n : Nat} {x : Nat → Rat} {w : World} (h : VcIn w A n x) (h' : VcIn w A' n x) (hn : n ≤ 1000) : Calls Tryz.prog 35 #[.slice A n c, .slice A' n c'] w fun e w' => e = .returned (.bool true) ∧ Below w.heap.size w w' := by
 obtain ⟨ss, h1, h2⟩ := h
 obtain ⟨ss', h3, h4⟩ := h'
 have l1 := h2.len
 have l2 := h4.len
 have e : ss = ss' := List.ext_getElem (by omega) fun i hi hi' => by rw [h2.cel i hi, h4.cel i hi']
 subst e
 have := Same_of A A' ss ss c c' w h1 h3 (by omega) (by omega)
 rw [l1, show decide (ss = ss) = true by simp] at this
 exact this
end Go.Proofs.YtajlojhklhlljaaGreatDoor
