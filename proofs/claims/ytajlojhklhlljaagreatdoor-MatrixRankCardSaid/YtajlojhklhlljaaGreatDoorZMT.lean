import Derived.Test.YtajlojhklhlljaaGreatDoorZMS
import Derived.Test.YtajlojhklhlljaaGreatDoorZMN
import Derived.Test.YtajlojhklhlljaaGreatDoorZML
import Derived.Test.YtajlojhklhlljaaGreatDoorZMK
import Derived.Test.YtajlojhklhlljaaGreatDoorZM
import Derived.Test.YtajlojhklhlljaaGreatDoorZXA
set_option maxHeartbeats 16000000
set_option maxRecDepth 100000
set_option linter.unusedVariables false
set_option linter.unusedSimpArgs false
set_option linter.unusedSectionVars false
namespace Go.Proofs.YtajlojhklhlljaaGreatDoor
open Go.RowKit
def MxIn (w : World) (A : Option Addr) (m n : Nat) (M : Nat → Nat → Rat) : Prop := ∃ rs, MatIn w A rs ∧ MatF rs m n M
theorem MxIn.below {w w' : World} {A : Option Addr} {m n : Nat} {M : Nat → Nat → Rat} (h : MxIn w A m n M) (hb : Below w.heap.size w w') : MxIn w' A m n M := by
 obtain ⟨rs, h1, h2⟩ := h
 exact ⟨rs, h1.below hb, h2⟩
theorem MxIn.congr {w : World} {A : Option Addr} {m n : Nat} {M N : Nat → Nat → Rat} (h : MxIn w A m n M) (e : ∀ i k, i < m → k < n → M i k = N i k) : MxIn w A m n N := by
 obtain ⟨rs, h1, h2⟩ := h
 exact ⟨rs, h1, h2.congr e⟩
theorem TopM.mxIn {B : Nat} {w : World} {A : Option Addr} {c m n : Nat} {rs : List RowT} {M : Nat → Nat → Rat} (h : TopM B w (.slice A m c) rs) (hm : MatF rs m n M) : MxIn w A m n M := by
 refine ⟨rs, ?_, hm⟩
 rw [← hm.len] at h
 exact h.read
def MxOk (w : World) (m n : Nat) (M : Nat → Nat → Rat) (e : Ending) (w' : World) : Prop := ∃ A c, e = .returned (.tuple #[.slice A m c, .int .i64 0]) ∧ MxIn w' A m n M ∧ Below w.heap.size w w'
theorem RetMx.ok {w w' : World} {m n : Nat} {M : Nat → Nat → Rat} {e : Ending} (h : RetMx w m n M e w') (hf : ∀ i k, i < m → k < n → FitsR (M i k)) : MxOk w m n M e w' := by
 rcases h with ⟨A, c, rs, rfl, h1, h2, h3⟩ | ⟨⟨i, k, hi, hk, h1⟩, -, -⟩
 ·exact ⟨A, c, rfl, h2.mxIn h1, h3⟩
 ·exact absurd (hf i k hi hk) h1
section
variable {A A' : Option Addr} {c c' m n p : Nat} {M N : Nat → Nat → Rat} {w : World}
theorem mxMul (h : MxIn w A m n M) (h' : MxIn w A' n p N) (hm1 : 1 ≤ m) (hm : m ≤ 12) (hn1 : 1 ≤ n) (hn : n ≤ 12) (hp1 : 1 ≤ p) (hp : p ≤ 12) (hf : ∀ i k, i < m → k < p → FitsR (mulM n M N i k)) (henv : Env w) :
  Calls Tryz.prog 44 #[.slice A m c, .slice A' n c'] w (MxOk w m p (mulM n M N)) := by
 obtain ⟨rs, h1, h2⟩ := h
 obtain ⟨rs', h3, h4⟩ := h'
 exact (MxMul_any A A' rs rs' c c' m n p M N w h1 h2 h3 h4 hm1 hm hn1 hn hp1 hp henv).mono fun e w' hr => hr.ok hf
theorem mxAdd (h : MxIn w A m n M) (h' : MxIn w A' m n N) (hm1 : 1 ≤ m) (hm : m ≤ 12) (hn1 : 1 ≤ n) (hn : n ≤ 12) (hf : ∀ i k, i < m → k < n → FitsR (M i k + N i k)) (henv : Env w) :
  Calls Tryz.prog 42 #[.slice A m c, .slice A' m c'] w (MxOk w m n (fun i k => M i k + N i k)) := by
 obtain ⟨rs, h1, h2⟩ := h
 obtain ⟨rs', h3, h4⟩ := h'
 exact (MxAdd_any A A' rs rs' c c' m n M N w h1 h2 h3 h4 hm1 hm hn1 hn henv).mono fun e w' hr => hr.ok hf
theorem mxTrn (h : MxIn w A m n M) (hm1 : 1 ≤ m) (hm : m ≤ 12) (hn1 : 1 ≤ n) (hn : n ≤ 12) (henv : Env w) :
  Calls Tryz.prog 45 #[.slice A m c] w (MxOk w n m (trn M)) := by
 obtain ⟨rs, h1, h2⟩ := h
 exact (Transpose_any A rs c m n M w h1 h2 (fun e => by omega) hm hn henv).mono fun e w' hr => hr.ok (fun i k hi hk => h2.fit k i hk hi)
theorem mxTrnNil (c : Nat) (henv : Env w) : Calls Tryz.prog 45 #[.slice none 0 c] w fun e w' => ∃ A c, e = .returned (.tuple #[.slice A 0 c, .int .i64 0]) ∧ Below w.heap.size w w' := by
 have h1 : MatIn w none [] := ⟨fun h => absurd rfl h, fun r hr => absurd hr (by simp)⟩
 have h2 : MatF [] 0 0 (fun _ _ => 0) := ⟨rfl, fun r hr => absurd hr (by simp), fun i k hi => absurd hi (by simp), fun i k hi => absurd hi (by omega)⟩
 refine (Transpose_any none [] c 0 0 _ w h1 h2 (fun _ => rfl) (by decide) (by decide) henv).mono fun e w' hr => ?_
 rcases hr with ⟨A, c, rs, rfl, -, -, h3⟩ | ⟨⟨i, k, hi, -⟩, -⟩
 ·exact ⟨A, c, rfl, h3⟩
 ·exact absurd hi (by omega)
theorem mxIdn (n : Nat) (w : World) (hn : n ≤ 12) (henv : Env w) : Calls Tryz.prog 47 #[.int .i64 (n : Int)] w (MxOk w n n idn) :=
 (Identity_any n w hn henv).mono fun e w' hr => hr.ok (fun i k _ _ => by unfold idn; split; exact small_fits (z := 1) (by decide); exact small_fits (z := 0) (by decide))
theorem mxSame (h : MxIn w A m n M) (h' : MxIn w A' m n M) (hm1 : 1 ≤ m) (hn1 : 1 ≤ n) (hm : m ≤ 12) (hn : n ≤ 12) (henv : Env w) : Calls Tryz.prog 46 #[.slice A m c, .slice A' m c'] w fun e w' => e = .returned (.bool true) ∧ Below w.heap.size w w' := by
 obtain ⟨rs, h1, h2⟩ := h
 obtain ⟨rs', h3, h4⟩ := h'
 exact MxSame_any A A' rs rs' c c' m n M w h1 h2 h3 h4 hm1 hn1 hm hn henv
theorem mxDet {q : Rat} {k0 : Nat} (h : MxIn w A n n M) (hn1 : 1 ≤ n) (hn : n ≤ 4) (hk1 : 1 ≤ k0) (hk : k0 ≤ 8) (hd : ∀ i j, i < n → j < n → DigR k0 (M i j)) (hq : det n M = q) (hf : FitsR q) (henv : Env w) :
  Calls Tryz.prog 18 #[.slice A n c] w fun e w' => e = .returned (.tuple #[.string (rstr q), .int .i64 0]) ∧ Below w.heap.size w w' := by
 obtain ⟨rs, h1, h2⟩ := h
 have hl := h2.len
 have hfm : FineM rs rs.length := by rw [hl]; exact h2.fine (by omega) (by omega) (fun e => by omega)
 obtain ⟨e1, e2⟩ := h2.det_eq (h2.light hn hn hk1 hk hd) hq hf
 have := Determinant_any A c rs w h1 hfm (by omega) henv
 rw [e1, e2, hl] at this
 exact this
end
def VcIn (w : World) (A : Option Addr) (n : Nat) (x : Nat → Rat) : Prop := ∃ ss, Strs w A ss ∧ VecF ss n x
theorem VcIn.below {w w' : World} {A : Option Addr} {n : Nat} {x : Nat → Rat} (h : VcIn w A n x) (hb : Below w.heap.size w w') : VcIn w' A n x := by
 obtain ⟨ss, h1, h2⟩ := h
 exact ⟨ss, h1.below hb, h2⟩
def VcOk (w : World) (n : Nat) (x : Nat → Rat) (e : Ending) (w' : World) : Prop := ∃ A c, e = .returned (.tuple #[.slice A n c, .int .i64 0]) ∧ VcIn w' A n x ∧ Below w.heap.size w w'
theorem vecF_range {n : Nat} {x : Nat → Rat} (hf : ∀ k, k < n → FitsR (x k)) : VecF (((List.range n).map x).map rstr) n x := by
 refine ⟨by simp, fun k hk => ?_, hf⟩
 simp
theorem RetTexts.ok {w w' : World} {n : Nat} {x : Nat → Rat} {e : Ending} (h : RetTexts w ((List.range n).map x) e w') (hf : ∀ k, k < n → FitsR (x k)) : VcOk w n x e w' := by
 rcases h with ⟨A, c, -, he, hs, hb⟩ | ⟨⟨q, hq, hn⟩, -⟩
 ·rw [List.length_map, List.length_range] at he
  exact ⟨A, c, he, ⟨_, hs, vecF_range hf⟩, hb⟩
 ·obtain ⟨k, hk, rfl⟩ := List.mem_map.1 hq
  exact absurd (hf k (by simpa using hk)) hn
theorem mxApp {A Ab : Option Addr} {c cb m n : Nat} {M : Nat → Nat → Rat} {x : Nat → Rat} {w : World} (h : MxIn w A m n M) (hv : VcIn w Ab n x) (hm1 : 1 ≤ m) (hm : m ≤ 12) (hn1 : 1 ≤ n) (hn : n ≤ 12) (hf : ∀ i, i < m → FitsR (appQ n M x i)) (henv : Env w) :
  Calls Tryz.prog 29 #[.slice A m c, .slice Ab n cb] w (VcOk w m (appQ n M x)) := by
 obtain ⟨rs, h1, h2⟩ := h
 obtain ⟨ss, h3, h4⟩ := hv
 exact (Apply_any A Ab c cb m n rs ss M x w h1 h2 hm1 hm hn1 hn h3 h4 henv).mono fun e w' hr => hr.ok hf
theorem sumR_thin : ∀ {n B : Nat} {f : Nat → Rat}, (∀ i, i < n → ∃ z : Int, f i = z ∧ z.natAbs ≤ B) → ∃ z : Int, sumR n f = z ∧ z.natAbs ≤ n * B
 | 0, B, f, _ => ⟨0, rfl, by simp⟩
 | n + 1, B, f, h => by
  obtain ⟨z, h1, h2⟩ := sumR_thin (n := n) (B := B) (f := f) fun i hi => h i (by omega)
  obtain ⟨y, h3, h4⟩ := h n (by omega)
  refine ⟨z + y, ?_, ?_⟩
  ·unfold sumR
   rw [h1, h3, Rat.intCast_add]
  ·rw [Nat.add_mul]
   omega
theorem thin_dig {q : Rat} {B d : Nat} (h : ∃ z : Int, q = z ∧ z.natAbs ≤ B) (hB : B < 10 ^ d) (hd : 1 ≤ d) : DigR d q := by
 obtain ⟨z, rfl, hz⟩ := h
 exact DigR.ofInt (show z.natAbs < 10 ^ d by omega) hd
end Go.Proofs.YtajlojhklhlljaaGreatDoor
namespace Go.Proofs.YtajlojhklhlljaaGreatDoor
open Go.RowKit
theorem srcBelow {w W W' : World} {b : Nat} (h : Below w.heap.size w W) (hb : w.heap.size ≤ b) (g : W.grownBy W' (some b)) : Below w.heap.size w W' :=
 h.trans { os := g.os, tape := g.tape, output := g.output, size := g.size, block := fun i hi => g.block i (Nat.lt_of_lt_of_le hi h.size) (fun e => by have := Option.some.inj e; omega) }
def MxOwn (B : Nat) (w : World) (A : Option Addr) (m n c : Nat) (M : Nat → Nat → Rat) : Prop := ∃ rs, TopM B w (.slice A m c) rs ∧ MatF rs m n M
section
variable {B m n c b : Nat} {w w' : World} {A : Option Addr} {M : Nat → Nat → Rat}
theorem MxOwn.grown (h : MxOwn B w A m n c M) (hg : w.grownBy w' (some b)) (hb : b < B) : MxOwn B w' A m n c M := by
 obtain ⟨rs, h1, h2⟩ := h
 exact ⟨rs, h1.grown hg hb, h2⟩
theorem MxOwn.mxIn (h : MxOwn B w A m n c M) : MxIn w A m n M := by
 obtain ⟨rs, h1, h2⟩ := h
 exact h1.mxIn h2
end
def ThinM (m n : Nat) (M : Nat → Nat → Rat) : Prop := ∀ i k, i < m → k < n → ∃ z : Int, M i k = z ∧ z.natAbs ≤ 3
def DigM (d m n : Nat) (M : Nat → Nat → Rat) : Prop := ∀ i k, i < m → k < n → DigR d (M i k)
theorem ThinM.dig {m n : Nat} {M : Nat → Nat → Rat} (h : ThinM m n M) : DigM 1 m n M := fun i k hi hk => thin_dig (h i k hi hk) (by decide) (by decide)
theorem ThinM.trn {m n : Nat} {M : Nat → Nat → Rat} (h : ThinM m n M) : ThinM n m (trn M) := fun i k hi hk => h k i hk hi
theorem DigM.fits {d m n : Nat} {M : Nat → Nat → Rat} (h : DigM d m n M) (h1 : 1 ≤ d) (h2 : d ≤ 400) : ∀ i k, i < m → k < n → FitsR (M i k) := fun i k hi hk => (h i k hi hk).fits h1 h2
def RetDraw (b m n : Nat) (P : (Nat → Nat → Rat) → Prop) (w : World) (e : Ending) (w' : World) : Prop := ∃ A c M, e = .returned (.slice A m c) ∧ MxOwn w.heap.size w' A m n c M ∧ P M ∧ Src w' b ∧ w.grownBy w' (some b)
theorem mxThin (b m n : Nat) (w : World) (hs : Src w b) (hm : m ≤ 1000) (hn : n ≤ 1000) (hn1 : 1 ≤ n ∨ m = 0) : Calls Tryz.prog 24 #[.pointer (some ⟨b, 0, none⟩), .int .i64 (m : Int), .int .i64 (n : Int)] w (RetDraw b m n (ThinM m n) w) := by
 refine (Thin_any b m n w hs hm hn hn1).mono ?_
 rintro e w' ⟨v, rs, rfl, hl, ht, hmo, hs', hg⟩
 obtain ⟨A, c, rfl, -⟩ := ownForm hmo.o
 have hrl : rs.length = m := hl
 rw [hrl] at hmo ⊢
 exact ⟨A, c, matQ rs, rfl, ⟨rs, hmo.topM, matF_self hl (fun r hr => (ht r hr).1) (fun r hr s hs => thin_text ((ht r hr).2 s hs))⟩, thin_q hl (fun r hr => (ht r hr).1) (fun r hr => (ht r hr).2), hs', hg⟩
theorem mxMat (b m n : Nat) (w : World) (hs : Src w b) (hm : m ≤ 1000) (hn : n ≤ 1000) : Calls Tryz.prog 17 #[.pointer (some ⟨b, 0, none⟩), .int .i64 (m : Int), .int .i64 (n : Int)] w (RetDraw b m n (DigM 1 m n) w) := by
 refine (MMatrix_any b m n w hs hm hn).mono ?_
 rintro e w' ⟨v, qss, rs, rfl, hqm, hqs, hmap, hmo, hs', hg⟩
 obtain ⟨A, c, rfl, -⟩ := ownForm hmo.o
 have hf := matF_of hqm (fun l hl => ⟨(hqs l hl).1, fun q hq => ((hqs l hl).2 q hq).fits⟩) hmap
 have hrl : rs.length = m := hf.len
 rw [hrl] at hmo ⊢
 exact ⟨A, c, celQ qss, rfl, ⟨rs, hmo.topM, hf⟩, celQ_all hqm (p := DigR 1) (fun l hl => ⟨(hqs l hl).1, fun q hq => ((hqs l hl).2 q hq).dig⟩), hs', hg⟩
def VcOwn (B : Nat) (w : World) (A : Option Addr) (n c : Nat) (x : Nat → Rat) : Prop := ∃ ss, ss.length = n ∧ w.ownsRow B 29 1 (.slice A n c) n (sv ss) ∧ VecF ss n x
theorem VcOwn.mxIn {B n c : Nat} {w : World} {A : Option Addr} {x : Nat → Rat} (h : VcOwn B w A n c x) : VcIn w A n x := by
 obtain ⟨ss, h0, h1, h2⟩ := h
 subst h0
 obtain ⟨A', c', e, -, hs, -⟩ := own_strs h1
 simp only [Value.slice.injEq] at e
 obtain ⟨rfl, -, -⟩ := e
 exact ⟨ss, hs, h2⟩
theorem VcIn.addr {w : World} {A : Option Addr} {n : Nat} {x : Nat → Rat} (h : VcIn w A n x) (hn : 1 ≤ n) : ∃ b o, A = some ⟨b, o, none⟩ := by
 obtain ⟨ss, h1, h2⟩ := h
 obtain ⟨b, o, e, -, -⟩ := h1 (by intro e; have := h2.len; rw [e] at this; simp at this; omega)
 exact ⟨b, o, e⟩
theorem VcIn.at_ {w : World} {b o : Nat} {n : Nat} {x : Nat → Rat} (h : VcIn w (some ⟨b, o, none⟩) n x) {k : Nat} (hk : k < n) : w.cell? ⟨b, o + k, none⟩ = some (.string (rstr (x k))) := by
 obtain ⟨ss, h1, h2⟩ := h
 have hl := h2.len
 obtain ⟨b', o', e, -, hc⟩ := h1 (by intro e; rw [e] at hl; simp at hl; omega)
 simp only [Option.some.injEq, Addr.mk.injEq] at e
 obtain ⟨rfl, rfl, -⟩ := e
 rw [hc k (by omega), h2.cel k (by omega)]
theorem VcIn.congr {w : World} {A : Option Addr} {n : Nat} {x y : Nat → Rat} (h : VcIn w A n x) (e : ∀ i, i < n → x i = y i) : VcIn w A n y := by
 obtain ⟨ss, h1, h2⟩ := h
 exact ⟨ss, h1, h2.len, fun k hk => by rw [h2.cel k hk, e k (by have := h2.len; omega)], fun k hk => by rw [← e k hk]; exact h2.fit k hk⟩
def SmallV (n : Nat) (x : Nat → Rat) : Prop := ∀ k, k < n → Small1 (x k)
theorem vcRats (b n : Nat) (w : World) (hs : Src w b) (hn : n ≤ 1000) : Calls Tryz.prog 26 #[.pointer (some ⟨b, 0, none⟩), .int .i64 (n : Int)] w fun e w' => ∃ A c x, e = .returned (.slice A n c) ∧ VcOwn w.heap.size w' A n c x ∧ SmallV n x ∧ Src w' b ∧ w.grownBy w' (some b) := by
 refine (Rats_any b n w hs hn).mono ?_
 rintro e w' ⟨v, qs, rfl, hl, hq, ho, hs', hg⟩
 obtain ⟨A, c, rfl, -⟩ := ownForm ho
 rw [List.length_map, hl] at ho ⊢
 have hx : ∀ k, (hk : k < qs.length) → qs.getD k 0 = qs[k] := fun k hk => by rw [List.getD_eq_getElem?_getD, List.getElem?_eq_getElem hk]; rfl
 refine ⟨A, c, fun k => qs.getD k 0, rfl, ⟨qs.map rstr, by rw [List.length_map, hl], ho, by rw [List.length_map, hl], fun k hk => ?_, fun k hk => ?_⟩, fun k hk => ?_, hs', hg⟩
 ·rw [List.length_map] at hk
  rw [List.getElem_map, hx k hk]
 ·rw [hx k (by omega)]
  exact (hq _ (List.getElem_mem _)).fits
 ·show Small1 (qs.getD k 0)
  rw [hx k (by omega)]
  exact hq _ (List.getElem_mem _)
end Go.Proofs.YtajlojhklhlljaaGreatDoor
