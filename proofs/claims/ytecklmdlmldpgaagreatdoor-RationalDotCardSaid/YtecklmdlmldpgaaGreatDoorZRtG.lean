/-
  The plain side of sums and products of short lists of fractions; two rows of texts of one's own.
-/
import Derived.Test.YtecklmdlmldpgaaGreatDoorZXA
import Derived.Test.YtecklmdlmldpgaaGreatDoorZO
import Derived.Maps.AppendAt
namespace Go.Proofs.YtecklmdlmldpgaaGreatDoor
open Go.RowKit

def rdot (ps qs : List Rat) : Rat := rsum (List.zipWith (· * ·) ps qs)
theorem foldl_radd (l : List Rat) (a : Rat) : l.foldl (· + ·) a = a + rsum l := by
  induction l generalizing a with
  | nil => show a = a + 0; grind
  | cons x l ih =>
    have h1 : (x :: l).foldl (· + ·) a = l.foldl (· + ·) (a + x) := rfl
    have h2 : rsum (x :: l) = l.foldl (· + ·) (0 + x) := rfl
    rw [h1, h2, ih, ih]; grind
theorem rsum_cons (x : Rat) (l : List Rat) : rsum (x :: l) = x + rsum l := by
  have h2 : rsum (x :: l) = l.foldl (· + ·) (0 + x) := rfl
  rw [h2, foldl_radd]; grind
theorem rsum_dig {d : Nat} (l : List Rat) (h : ∀ x ∈ l, DigR d x) : DigR (1 + l.length * (d + 1)) (rsum l) := by
  induction l with
  | nil => exact DigR.mono (a := 1) ⟨by unfold Dig; decide, by unfold Dig; decide⟩ (by omega)
  | cons x l ih =>
    refine (h x (by simp)).add (ih fun y hy => h y (by simp [hy])) (rsum_cons x l).symm ?_
    rw [List.length_cons, Nat.add_mul]; omega
theorem zip_mul_mem {ps qs : List Rat} {a b : Nat} (hp : ∀ q ∈ ps, DigR a q) (hq : ∀ q ∈ qs, DigR b q) : ∀ x ∈ List.zipWith (· * ·) ps qs, DigR (a + b) x := by
  induction ps generalizing qs with
  | nil => intro x hx; simp at hx
  | cons p ps ih =>
    cases qs with
    | nil => intro x hx; simp at hx
    | cons q qs =>
      intro x hx
      rw [List.zipWith_cons_cons, List.mem_cons] at hx
      rcases hx with rfl | hx
      · exact (hp p (by simp)).mul (hq q (by simp)) rfl rfl
      · exact ih (fun y hy => hp y (by simp [hy])) (fun y hy => hq y (by simp [hy])) x hx
theorem zip_add_mem {ps qs : List Rat} {a b : Nat} (hp : ∀ q ∈ ps, DigR a q) (hq : ∀ q ∈ qs, DigR b q) : ∀ x ∈ List.zipWith (· + ·) ps qs, DigR (a + b + 1) x := by
  induction ps generalizing qs with
  | nil => intro x hx; simp at hx
  | cons p ps ih =>
    cases qs with
    | nil => intro x hx; simp at hx
    | cons q qs =>
      intro x hx
      rw [List.zipWith_cons_cons, List.mem_cons] at hx
      rcases hx with rfl | hx
      · exact (hp p (by simp)).add (hq q (by simp)) rfl rfl
      · exact ih (fun y hy => hp y (by simp [hy])) (fun y hy => hq y (by simp [hy])) x hx
theorem rdot_ones : ∀ (xs : List Rat), rdot (List.replicate xs.length 1) xs = rsum xs
  | [] => rfl
  | x :: xs => by
    have h1 : rdot (List.replicate (x :: xs).length 1) (x :: xs) = rsum (1 * x :: List.zipWith (· * ·) (List.replicate xs.length 1) xs) := rfl
    have ih := rdot_ones xs
    unfold rdot at ih
    rw [h1, rsum_cons, rsum_cons, ih, Rat.one_mul]
theorem rdot_cons (p q : Rat) (ps qs : List Rat) : rdot (p :: ps) (q :: qs) = p * q + rdot ps qs := rsum_cons _ _
theorem rdot_both : ∀ (xs ys zs : List Rat), xs.length = ys.length → ys.length = zs.length → rdot xs (List.zipWith (· + ·) ys zs) = rdot xs ys + rdot zs xs
  | [], [], [], _, _ => by decide +kernel
  | x :: xs, y :: ys, z :: zs, h1, h2 => by
    have ih := rdot_both xs ys zs (by simpa using h1) (by simpa using h2)
    rw [List.zipWith_cons_cons, rdot_cons, rdot_cons, rdot_cons, ih]
    grind
theorem prods_rstr {ps qs : List Rat} (hp : ∀ q ∈ ps, FitsR q) (hq : ∀ q ∈ qs, FitsR q) : prods (ps.map rstr) (qs.map rstr) = List.zipWith (· * ·) ps qs := by
  unfold prods
  induction ps generalizing qs with
  | nil => simp
  | cons p ps ih =>
    cases qs with
    | nil => simp
    | cons q qs =>
      rw [List.map_cons, List.map_cons, List.zipWith_cons_cons, List.zipWith_cons_cons, valS_rstr (hp p (by simp)), valS_rstr (hq q (by simp)), ih (fun y hy => hp y (by simp [hy])) (fun y hy => hq y (by simp [hy]))]
theorem vals_rstr {ps : List Rat} (hp : ∀ q ∈ ps, FitsR q) : (ps.map rstr).map valS = ps := by
  induction ps with
  | nil => rfl
  | cons p ps ih => rw [List.map_cons, List.map_cons, valS_rstr (hp p (by simp)), ih (fun y hy => hp y (by simp [hy]))]
theorem all_rstr {ps : List Rat} (hp : ∀ q ∈ ps, FitsR q) : (ps.map rstr).all vR = true := by
  rw [List.all_eq_true]
  intro s hs
  obtain ⟨q, hq, rfl⟩ := List.mem_map.1 hs
  exact vR_rstr (hp q hq)
theorem size_rstr {ps : List Rat} (hp : ∀ q ∈ ps, FitsR q) : ∀ s ∈ ps.map rstr, s.size ≤ 4000000000 := by
  intro s hs
  obtain ⟨q, hq, rfl⟩ := List.mem_map.1 hs
  rw [rstr_size]
  have := rtext_len (hp q hq)
  omega
theorem DotC {n a b : Nat} {ps qs : List Rat} {ss ts : List ByteArray} {s : Rat} (hp : ps.length = n) (hq : qs.length = n) (hn : n ≤ 6) (hpd : ∀ q ∈ ps, DigR a q) (hqd : ∀ q ∈ qs, DigR b q) (ha : 1 ≤ a) (hb : 1 ≤ b) (hab : a + b ≤ 20) (hs : ps.map rstr = ss) (ht : qs.map rstr = ts) (he : rdot ps qs = s)
    (A A' : Option Addr) (c c' : Nat) (w : World) (h1 : Strs w A ss) (h2 : Strs w A' ts) (hE : Env w) : Calls Tryz.prog 69 #[.slice A n c, .slice A' n c'] w fun x w' => x = .returned (.tuple #[.string (rstr s), .int .i64 0]) ∧ Below w.heap.size w w' := by
  subst hs ht he
  have fp : ∀ q ∈ ps, FitsR q := fun q h => (hpd q h).fits ha (by omega)
  have fq : ∀ q ∈ qs, FitsR q := fun q h => (hqd q h).fits hb (by omega)
  have hl1 : (ps.map rstr).length = n := by rw [List.length_map, hp]
  have hl2 : (qs.map rstr).length = n := by rw [List.length_map, hq]
  have h := RatDot A A' (ps.map rstr) (qs.map rstr) c c' w h1 h2 (by omega) (by omega) (size_rstr fp) (size_rstr fq) hE
  have hm := mostS_le (ps.map rstr) (qs.map rstr)
  have hmn : n * mostS (ps.map rstr) (qs.map rstr) ≤ 6 * 400 := Nat.mul_le_mul hn hm
  have hdot : dotS (ps.map rstr) (qs.map rstr) = rdot ps qs := by unfold dotS rdot; rw [prods_rstr fp fq]
  have hfit : FitsR (rdot ps qs) := by
    have hz := rsum_dig _ (zip_mul_mem hpd hqd)
    have hlz : (List.zipWith (· * ·) ps qs).length = n := by rw [List.length_zipWith, hp, hq]; omega
    rw [hlz] at hz
    have : n * (a + b + 1) ≤ 6 * 21 := Nat.mul_le_mul hn (by omega)
    exact hz.fits (by omega) (by omega)
  unfold dotV at h
  rw [if_neg (by rw [hl1, hl2]; simp), if_neg (by rw [all_rstr fp, all_rstr fq]; simp), if_neg (by rw [hl1]; omega), hl1, hl2, hdot, outR_fits hfit, outRE_fits hfit] at h
  exact h
theorem SumC {n a : Nat} {ps : List Rat} {ss : List ByteArray} {s : Rat} (hp : ps.length = n) (hn : n ≤ 6) (hpd : ∀ q ∈ ps, DigR a q) (ha : 1 ≤ a) (hab : a ≤ 20) (hs : ps.map rstr = ss) (he : rsum ps = s)
    (A : Option Addr) (c : Nat) (w : World) (h1 : Strs w A ss) (hE : Env w) : Calls Tryz.prog 67 #[.slice A n c] w fun x w' => x = .returned (.tuple #[.string (rstr s), .int .i64 0]) ∧ Below w.heap.size w w' := by
  subst hs he
  have fp : ∀ q ∈ ps, FitsR q := fun q h => (hpd q h).fits ha (by omega)
  have hl1 : (ps.map rstr).length = n := by rw [List.length_map, hp]
  have h := RatSum A (ps.map rstr) c w h1 (by omega) (size_rstr fp) hE
  have hm := digs_le (ps.map rstr)
  have hmn : n * nmax ((ps.map rstr).map digS) ≤ 6 * 400 := Nat.mul_le_mul hn hm
  have hsum : sumS (ps.map rstr) = rsum ps := by unfold sumS; rw [vals_rstr fp]
  have hfit : FitsR (rsum ps) := by
    have hz := rsum_dig _ hpd
    rw [hp] at hz
    have : n * (a + 1) ≤ 6 * 21 := Nat.mul_le_mul hn (by omega)
    exact hz.fits (by omega) (by omega)
  unfold sumV at h
  rw [if_neg (by rw [all_rstr fp]; simp), if_neg (by rw [hl1]; omega), hl1, hsum, outR_fits hfit, outRE_fits hfit] at h
  exact h

/-- Two rows of texts of one's own that lie apart. -/
structure TwoR (w : World) (B : Nat) (v1 v2 : Value) (ss ts : List ByteArray) : Prop where
  o1 : w.ownsRow B 26 1 v1 ss.length (sv ss)
  o2 : w.ownsRow B 26 1 v2 ts.length (sv ts)
  ap : ∀ g, v1.ownBlock = some g → v2.ownBlock = some g → False
theorem TwoR.symm {w : World} {B : Nat} {v1 v2 : Value} {ss ts : List ByteArray} (h : TwoR w B v1 v2 ss ts) : TwoR w B v2 v1 ts ss := ⟨h.o2, h.o1, fun g a b => h.ap g b a⟩
theorem own_belowR {w w' : World} {B e n : Nat} {v : Value} {xs : List Value} (h : w.ownsRow B e 1 v n xs) (hb : Below w.heap.size w w') : w'.ownsRow B e 1 v n xs :=
  h.kept (row := none) (grown_of_below hb none) (by
    rcases hv : v.ownBlock with _ | g
    · exact .inl rfl
    · exact .inr (by simp))
theorem TwoR.below {w w' : World} {B : Nat} {v1 v2 : Value} {ss ts : List ByteArray} (h : TwoR w B v1 v2 ss ts) (hb : Below w.heap.size w w') : TwoR w' B v1 v2 ss ts := ⟨own_belowR h.o1 hb, own_belowR h.o2 hb, h.ap⟩
theorem TwoR.nil (w : World) (B : Nat) : TwoR w B (.slice none 0 0) (.slice none 0 0) [] [] := ⟨World.ownsRow_nil _ _ _ _, World.ownsRow_nil _ _ _ _, fun g h => by cases h⟩
theorem TwoR.push {a wr w1 : World} {t : TypeId} {v1 v2 v' u : Value} {ss ts : List ByteArray} {s : ByteArray} (h : TwoR wr a.heap.size v1 v2 ss ts) (hb : Below a.heap.size a wr)
    (hown : w1.ownsRow a.heap.size 26 1 v' (ss.length + 1) (sv ss ++ [.string s])) (hg : (wr.alloc (.cells #[u] t)).grownBy w1 v1.ownBlock) (hat : v'.ownBlock = v1.ownBlock ∨ v'.ownBlock = some (wr.heap.size + 1)) :
    TwoR w1 a.heap.size v' v2 (ss ++ [s]) ts ∧ Below a.heap.size a w1 := by
  obtain ⟨ho, hk, hs, hgg⟩ := sown_push h.o1 hb.size hown hg
  have hG := hgg a none (Nat.le_refl _) (grown_of_below hb none)
  refine ⟨⟨ho, ?_, ?_⟩, hG.os, hG.tape, hG.output, hG.size, fun i hi => hG.block i hi (by simp)⟩
  · refine (h.o2.alloc _).kept (row := v1.ownBlock) hg ?_
    rcases hv : v2.ownBlock with _ | g
    · exact .inl rfl
    · exact .inr fun e => h.ap g e.symm hv
  · intro g h1 h2
    rcases hat with e | e
    · exact h.ap g (e ▸ h1) h2
    · have := (h.o2.lt g h2).2
      rw [e] at h1
      injection h1 with h1
      omega

end Go.Proofs.YtecklmdlmldpgaaGreatDoor
