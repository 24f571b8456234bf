import Derived.Test.YtajlojhklhlljaaGreatDoorZMM
import Derived.Test.YtajlojhklhlljaaGreatDoorZMI
import Derived.Test.YtajlojhklhlljaaGreatDoorZMO
import Derived.Test.YtajlojhklhlljaaGreatDoorZMP
set_option maxHeartbeats 16000000
set_option maxRecDepth 100000
set_option linter.unusedVariables false
set_option linter.unusedSimpArgs false
set_option linter.unusedSectionVars false
namespace Go.Proofs.YtajlojhklhlljaaGreatDoor
open Go.RowKit
structure VecF (ss : List ByteArray) (n : Nat) (x : Nat → Rat) : Prop where
 len : ss.length = n
 cel : ∀ k, (hk : k < ss.length) → ss[k] = rstr (x k)
 fit : ∀ k, k < n → FitsR (x k)
theorem VecF.valid {ss : List ByteArray} {n : Nat} {x : Nat → Rat} (h : VecF ss n x) : ∀ s ∈ ss, vR s = true ∧ s.size ≤ 4000000000 := fun s hs => by
 obtain ⟨k, hk, rfl⟩ := List.getElem_of_mem hs
 have hf := h.fit k (by have := h.len; omega)
 rw [h.cel k hk]
 refine ⟨vR_rstr hf, ?_⟩
 rw [rstr_size]
 have := rtext_len hf
 omega
theorem FReadQ (q : Rat) (w : World) (hf : FitsR q) (henv : Env w) : Calls Tryz.prog 101 #[.string (rstr q)] w (RetFrac w q) := by
 have := FReadS (rstr q) w (vR_rstr hf) henv
 rw [valS_rstr hf] at this
 exact this
theorem sumR_sz {b : Nat} : ∀ {n : Nat} {f : Nat → Rat}, (∀ i, i < n → Sz b (f i)) → Sz (1 + n * (b + 1)) (sumR n f)
 | 0, f, _ => Sz.zero.mono (by omega)
 | n + 1, f, h => by
  have h1 := (sumR_sz (n := n) (f := f) fun i hi => h i (by omega)).add (h n (by omega))
  refine h1.mono ?_
  rw [Nat.add_mul]
  omega
def appQ (n : Nat) (M : Nat → Nat → Rat) (x : Nat → Rat) (i : Nat) : Rat := sumR n fun k => M i k * x k
structure RowP (w : World) (g : Nat) (vs : List FrV) (n : Nat) (q : Nat → Rat) (k : Nat) : Prop where
 blk : Blk w g 93 (frc vs)
 len : vs.length = n
 num : ∀ j, j < k → (h : j < vs.length) → IsFrac w vs[j].val (q j)
section
variable {w w' : World} {g n k : Nat} {vs : List FrV} {q q' : Nat → Rat}
theorem RowP.below (h : RowP w g vs n q k) (hb : Below w.heap.size w w') : RowP w' g vs n q k := ⟨h.blk.below hb, h.len, fun j hk hj => (h.num j hk hj).below hb⟩
theorem RowP.congr (h : RowP w g vs n q k) (e : ∀ j, j < k → q' j = q j) : RowP w g vs n q' k := ⟨h.blk, h.len, fun j hk hj => by rw [e j hk]; exact h.num j hk hj⟩
theorem RowP.put (h : RowP w g vs n q k) {i k' : Nat} (hi : i < n) {u : FrV} {x : Rat} (hu : IsFrac w u.val x) (hk : ∀ j, j < k' → j ≠ i → j < k) :
  RowP ((((w.setCell ⟨g, i * 4, none⟩ (.bool u.na)).setCell ⟨g, i * 4 + 1, none⟩ (.slice u.A u.l u.c)).setCell ⟨g, i * 4 + 2, none⟩ (.bool u.nb)).setCell ⟨g, i * 4 + 3, none⟩ (.slice u.A' u.l' u.c')) g (vs.set i u) n (fun j => if j = i then x else q j) k' := by
 have b1 := h.blk.set (i * 4) (.bool u.na)
 have b2 := b1.set (i * 4 + 1) (.slice u.A u.l u.c)
 have b3 := b2.set (i * 4 + 2) (.bool u.nb)
 have b4 := b3.set (i * 4 + 3) (.slice u.A' u.l' u.c')
 have n1 : ∀ a ∈ (frc vs).set (i * 4) (.bool u.na), ∀ z, a ≠ .int .u64 z := no_set frc_no (fun z e => by cases e)
 have n2 : ∀ a ∈ ((frc vs).set (i * 4) (.bool u.na)).set (i * 4 + 1) (.slice u.A u.l u.c), ∀ z, a ≠ .int .u64 z := no_set n1 (fun z e => by cases e)
 have n3 : ∀ a ∈ (((frc vs).set (i * 4) (.bool u.na)).set (i * 4 + 1) (.slice u.A u.l u.c)).set (i * 4 + 2) (.bool u.nb), ∀ z, a ≠ .int .u64 z := no_set n2 (fun z e => by cases e)
 have hkeep : ∀ v y, IsFrac w v y → IsFrac ((((w.setCell ⟨g, i * 4, none⟩ (.bool u.na)).setCell ⟨g, i * 4 + 1, none⟩ (.slice u.A u.l u.c)).setCell ⟨g, i * 4 + 2, none⟩ (.bool u.nb)).setCell ⟨g, i * 4 + 3, none⟩ (.slice u.A' u.l' u.c')) v y := fun v y hv =>
  (((hv.box h.blk frc_no (grown_set g _ _)).box b1 n1 (grown_set g _ _)).box b2 n2 (grown_set g _ _)).box b3 n3 (grown_set g _ _)
 rw [frc_set4 (by have := h.len; omega) u] at b4
 refine ⟨b4, by rw [List.length_set]; exact h.len, fun j hjk hj => ?_⟩
 by_cases e : j = i
 ·subst e
  rw [List.getElem_set_self, if_pos rfl]
  exact hkeep _ _ hu
 ·rw [List.getElem_set_ne (Ne.symm e), if_neg e]
  exact hkeep _ _ (h.num j (hk j hjk e) (by simpa using hj))
theorem set4_bel {B : Nat} {w0 : World} (h : Below B w0 w) (hg : B ≤ g) (i : Nat) (a b c d : Value) : Below B w0 ((((w.setCell ⟨g, i * 4, none⟩ a).setCell ⟨g, i * 4 + 1, none⟩ b).setCell ⟨g, i * 4 + 2, none⟩ c).setCell ⟨g, i * 4 + 3, none⟩ d) :=
 (((h.setCell (p := ⟨g, i * 4, none⟩) hg _).setCell (p := ⟨g, i * 4 + 1, none⟩) hg _).setCell (p := ⟨g, i * 4 + 2, none⟩) hg _).setCell (p := ⟨g, i * 4 + 3, none⟩) hg _
end
theorem Apply_any (A Ab : Option Addr) (c cb m n : Nat) (rs : List RowT) (ss : List ByteArray) (M : Nat → Nat → Rat) (x : Nat → Rat) (w : World) (h : MatIn w A rs) (hmf : MatF rs m n M) (hm1 : 1 ≤ m) (hm : m ≤ 12) (hn1 : 1 ≤ n) (hn : n ≤ 12) (hs : Strs w Ab ss) (hv : VecF ss n x) (henv : Env w) :
  Calls Tryz.prog 29 #[.slice A m c, .slice Ab n cb] w (RetTexts w ((List.range m).map (appQ n M x))) := by
 generalize hQ : RetTexts w ((List.range m).map (appQ n M x)) = Q
 replace hQ := Lib.hid hQ
 have hfm := hmf.fine hm hn (fun e => by omega)
 have hl := hmf.len
 have hsl := hv.len
 have HM := Lib.hid h
 have HF := Lib.hid hmf
 have HE := Lib.hid henv
 have HS := Lib.hid hs
 have HV := Lib.hid hv
 have HB0 := Lib.hid ((Below.refl w.heap.size w).alloc (Nat.le_refl _) (.cells #[.slice A m c] 27))
 have HBG := Lib.hid (begin_one A rs c n w.heap.size (w.alloc (.cells #[.slice A m c] 27)) (h.below HB0.out) hfm (by rw [hl]; exact (Blk.new w 27 [.slice A m c]).at_ (i := 0) rfl) (henv.below HB0.out))
 have HWD := Lib.hid (fun W (hW : Below w.heap.size w W) => (show Calls Tryz.prog 94 #[.slice A m c] W _ from by have := width_ok A rs c n W (h.below hW) hfm (henv.below hW); rw [hl] at this; exact this))
 have HNU := Lib.hid (fun W (hW : Below w.heap.size w W) => (show Calls Tryz.prog 98 #[.slice Ab n cb] W _ from by have := numbers_any Ab ss cb W (hs.below hW) (by omega) (fun s hs => (hv.valid s hs).2) (henv.below hW); rw [hsl, List.all_eq_true.2 (fun s hs => (hv.valid s hs).1)] at this; exact this))
 have HLS := Lib.hid (fun W (hW : Below w.heap.size w W) => (show Calls Tryz.prog 99 #[.slice Ab n cb] W _ from by have := FList_any Ab ss cb W (hs.below hW) (by omega) (fun s hs => (hv.valid s hs).1) (henv.below hW); rw [hsl] at this; exact this))
 have hvq : ∀ k, (hk : k < ss.length) → valS ss[k] = x k := fun k hk => by rw [hv.cel k hk, valS_rstr (hv.fit k (by omega))]
 have HVQ := Lib.hid hvq
 clear h hmf henv hs hv hvq hfm
 have hmk := run_make_fracs m (by omega)
 have hnn : ((n : Int) != (n : Int)) = false := by simp
 go_enter Tryz.func29, Tryz.ntmps29
 go_wp2_with fail
 refine HBG.out.mono ?_
 rintro e w1 ⟨rfl, hb1⟩
 have HB1 := Lib.hid (HB0.out.trans (hb1.mono HB0.out.size))
 clear hb1
 go_wp2_with fail
 refine (HWD.out w1 HB1.out).mono ?_
 rintro e w2 ⟨rfl, hb2⟩
 have HB2 := Lib.hid (HB1.out.trans (hb2.mono HB1.out.size))
 clear hb2
 go_wp2_with fail
 refine (HNU.out w2 HB2.out).mono ?_
 rintro e w3 ⟨rfl, hb3⟩
 have HB3 := Lib.hid (HB2.out.trans (hb3.mono HB2.out.size))
 clear hb3
 go_wp2_with fail
 refine (HLS.out w3 HB3.out).mono ?_
 rintro e w4 ⟨v4, us, rfl, hown, hnou, hfrs, hb4⟩
 have hul : us.length = n := by have := hfrs.1; rw [List.length_map] at this; omega
 rw [hul] at hown
 obtain ⟨A4, c4, rfl, -⟩ := ownForm hown
 obtain ⟨gl, rfl⟩ := ownAddr hown (by omega)
 have HB4 := Lib.hid (HB3.out.trans (hb4.mono HB3.out.size))
 have HOL := Lib.hid hown
 have HFL := Lib.hid hfrs
 clear hown hnou hfrs hb4 hnn HBG HWD HNU HLS HB0 HB1 HB2 HB3
 go_upto_region 9 with (fail)
 clear hmk
 have hbW : Below w4.heap.size w4 (w4.alloc (.cells (frc (List.replicate m zeroF)).toArray 93)) := (Below.refl _ _).alloc (Nat.le_refl _) _
 have HP0 := Lib.hid (show RowP (w4.alloc (.cells (frc (List.replicate m zeroF)).toArray 93)) w4.heap.size (List.replicate m zeroF) m (appQ n M x) 0 from ⟨Blk.new w4 93 (frc (List.replicate m zeroF)), by simp, fun j hj => absurd hj (by omega)⟩)
 have hglt := (HOL.out.lt gl rfl).2
 have HBW := Lib.hid hbW
 generalize (w4.alloc (.cells (frc (List.replicate m zeroF)).toArray 93)) = W at *
 obtain ⟨g, hG⟩ : ∃ g, w4.heap.size = g := ⟨_, rfl⟩
 rw [hG] at HP0 HBW hglt ⊢
 replace hG := Lib.hid hG
 have hgB : w.heap.size ≤ g := by have := HB4.out.size; have := hG.out; omega
 have HUB := Lib.hid (fun W' (h : Below g w4 W') => (show Below w4.heap.size w4 W' by rw [hG.out]; exact h))
 clear hbW
 go_wp2_with fail
 go_loopw [37] (fun iv wr => ∃ (i : Nat) (vs : List FrV), iv = .int .i64 (i : Int) ∧ i ≤ m ∧ RowP wr g vs m (appQ n M x) i ∧ Below g w4 wr) (fun iv _ => m - (intOf iv).toNat)
 case atStart => exact ⟨0, _, rfl, Nat.zero_le _, HP0.out, HBW.out⟩
 case round =>
  obtain ⟨i, vs, rfl, hi, hrp, hbw⟩ := hrel
  obtain ⟨wk, rfl⟩ : ∃ w' : World, w' = wr := ⟨_, rfl⟩
  have HRK := Lib.hid hrp
  have HBK := Lib.hid hbw
  have hszk : g ≤ wk.heap.size := by have := hbw.size; have := hG.out; omega
  by_cases hlt : i < m
  ·have hi' : i < rs.length := by omega
   have hbx := HB4.out.trans (hbw.mono hgB)
   obtain ⟨b, off, b2, o2, cp, rfl, hb, hb2, hc, hc2⟩ := mat_row HM.out HF.out (show 0 < n by omega) hlt
   have HC2 := Lib.hid hc2
   have k0 := (hbx.cell (p := ⟨b, off + i, none⟩) hb).trans hc
   have i1 : (0 : Int) ≤ (i : Int) := by omega
   have i2 : (i : Int) < (m : Int) := by omega
   clear hc hc2 hbx hrp hbw
   go_wp2_with fail
   refine (FOf_any 0 wk (by decide)).mono ?_
   rintro e w8 ⟨v8, rfl, hv8, hb8⟩
   have hiv : i < vs.length := by rw [HRK.out.len]; exact hlt
   have hrp := HRK.out.below hb8
   have HR8 := Lib.hid hrp
   have HB8 := Lib.hid (HBK.out.trans (hb8.mono hszk))
   have HV8 := Lib.hid hv8
   have e0 := hrp.blk.at_ (frc_get hiv).1
   have e1 := hrp.blk.at_ (frc_get hiv).2.1
   have e2 := hrp.blk.at_ (frc_get hiv).2.2.1
   have e3 := hrp.blk.at_ (frc_get hiv).2.2.2
   have f0 := hrp.blk.fr (i * 4)
   have f1 := hrp.blk.fr (i * 4 + 1)
   have f2 := hrp.blk.fr (i * 4 + 2)
   have f3 := hrp.blk.fr (i * 4 + 3)
   obtain ⟨na, nb, A1, A2, l1, c1, l2, c2, rfl⟩ := hv8.slice
   clear hrp hv8 hb8 k0
   go_wp2_with fail
   clear e0 e1 e2 e3 f0 f1 f2 f3
   have HP9 := Lib.hid (HR8.out.put (i := i) (k' := i + 1) hlt (u := ⟨na, A1, l1, c1, nb, A2, l2, c2⟩) HV8.out (fun j hj hne => by omega))
   have HB9 := Lib.hid (set4_bel (g := g) HB8.out (Nat.le_refl _) i (.bool na) (.slice A1 l1 c1) (.bool nb) (.slice A2 l2 c2))
   generalize ((((w8.setCell ⟨g, i * 4, none⟩ (.bool na)).setCell ⟨g, i * 4 + 1, none⟩ (.slice A1 l1 c1)).setCell ⟨g, i * 4 + 2, none⟩ (.bool nb)).setCell ⟨g, i * 4 + 3, none⟩ (.slice A2 l2 c2)) = w9 at *
   go_loopw [48] (fun kv wr => ∃ (k : Nat) (vs : List FrV), kv = .int .i64 (k : Int) ∧ k ≤ n ∧ RowP wr g vs m (fun j => if j = i then sumR k (fun k => M i k * x k) else appQ n M x j) (i + 1) ∧ Below g w4 wr) (fun kv _ => n - (intOf kv).toNat)
   case atStart => exact ⟨0, _, rfl, Nat.zero_le _, HP9.out.congr (fun j _ => by
    by_cases e : j = i
    ·rw [if_pos e, if_pos e]; rfl
    ·rw [if_neg e, if_neg e]), HB9.out⟩
   case round =>
    clear HP9 HB9 HR8 HB8 HV8
    obtain ⟨k, vs, rfl, hk, hrp, hbw⟩ := hrel
    have HRP := Lib.hid hrp
    have HBQ := Lib.hid hbw
    by_cases hlt2 : k < n
    ·have hbx := HB4.out.trans (hbw.mono hgB)
     have c0 := (hbx.cell (p := ⟨b2, o2 + k, none⟩) hb2).trans (HC2.out k hlt2)
     have k1 : (0 : Int) ≤ (k : Int) := by omega
     have k2 : (k : Int) < (n : Int) := by omega
     have hku : k < us.length := by omega
     have hb4 := hbw.mono (Nat.le_refl g)
     have q0 := (hbw.cell (p := ⟨gl, k * 4, none⟩) hglt).trans ((HOL.out.cellAt (k * 4) (by omega)).trans (frc_get hku).1)
     have q1 := (hbw.cell (p := ⟨gl, k * 4 + 1, none⟩) hglt).trans ((HOL.out.cellAt (k * 4 + 1) (by omega)).trans (frc_get hku).2.1)
     have q2 := (hbw.cell (p := ⟨gl, k * 4 + 2, none⟩) hglt).trans ((HOL.out.cellAt (k * 4 + 2) (by omega)).trans (frc_get hku).2.2.1)
     have q3 := (hbw.cell (p := ⟨gl, k * 4 + 3, none⟩) hglt).trans ((HOL.out.cellAt (k * 4 + 3) (by omega)).trans (frc_get hku).2.2.2)
     have hxl := HFL.out.2 k hku (by rw [List.length_map]; omega)
     rw [List.getElem_map, HVQ.out k (by omega)] at hxl
     have HLV0 := Lib.hid hxl
     have hiv : i < vs.length := by rw [hrp.len]; exact hlt
     have hov := hrp.num i (by omega) hiv
     rw [if_pos rfl] at hov
     have hto : ∃ u, vs[i] = u := ⟨_, rfl⟩
     obtain ⟨u, hto⟩ := hto
     have e0 := hrp.blk.at_ (frc_get hiv).1
     have e1 := hrp.blk.at_ (frc_get hiv).2.1
     have e2 := hrp.blk.at_ (frc_get hiv).2.2.1
     have e3 := hrp.blk.at_ (frc_get hiv).2.2.2
     rw [hto] at hov e0 e1 e2 e3
     have hfm := HF.out.fit i k hlt hlt2
     have hfx := HV.out.fit k hlt2
     have HRD := Lib.hid (fun W hE => FReadQ (M i k) W hfm hE)
     have sm := hfm.sz
     have sx := hfx.sz
     have smx := sm.mul sx
     have hss := sumR_sz (b := 90) (n := k) (f := fun k => M i k * x k) fun j hj => ((HF.out.fit i j hlt (by omega)).sz).mul ((HV.out.fit j (by omega)).sz)
     have ss := hss.mono (show 1 + k * (90 + 1) ≤ 2000 by omega)
     have HSU := Lib.hid (show sumR (k + 1) (fun k => M i k * x k) = sumR k (fun k => M i k * x k) + M i k * x k from rfl)
     have HRPn := Lib.hid (fun j => (rfl : (if j = i then sumR (k + 1) (fun k => M i k * x k) else appQ n M x j) = _))
     have HEQ := Lib.hid (HE.out.below hbx)
     obtain ⟨mq, hmq⟩ : ∃ q, M i k = q := ⟨_, rfl⟩
     obtain ⟨xq, hxq⟩ : ∃ q, x k = q := ⟨_, rfl⟩
     obtain ⟨sq, hsq⟩ : ∃ q, sumR k (fun k => M i k * x k) = q := ⟨_, rfl⟩
     rw [hmq] at HRD sm smx c0 HSU
     rw [hxq] at sx smx HLV0 HSU
     rw [hsq] at ss hov HSU
     generalize us[k] = ul at *
     obtain ⟨l0, l1, l2, l3, l4, l5, l6, l7⟩ := ul
     obtain ⟨o0, o1, o2, o3, o4, o5, o6, o7⟩ := u
     have HLV := Lib.hid (show IsFrac wr (.agg #[.bool l0, .slice l1 l2 l3, .bool l4, .slice l5 l6 l7]) xq from HLV0.out.below (HUB.out _ hbw))
     have HOV := Lib.hid (show IsFrac wr (.agg #[.bool o0, .slice o1 o2 o3, .bool o4, .slice o5 o6 o7]) sq from hov)
     have KB := Lib.hid (fun W' (hW : Below wr.heap.size wr W') => (show W'.cell? ⟨g, i * 4, none⟩ = some (.bool o0) ∧ W'.cell? ⟨g, i * 4 + 1, none⟩ = some (.slice o1 o2 o3) ∧ W'.cell? ⟨g, i * 4 + 2, none⟩ = some (.bool o4) ∧ W'.cell? ⟨g, i * 4 + 3, none⟩ = some (.slice o5 o6 o7) ∧ W'.cell? ⟨gl, k * 4, none⟩ = some (.bool l0) ∧ W'.cell? ⟨gl, k * 4 + 1, none⟩ = some (.slice l1 l2 l3) ∧ W'.cell? ⟨gl, k * 4 + 2, none⟩ = some (.bool l4) ∧ W'.cell? ⟨gl, k * 4 + 3, none⟩ = some (.slice l5 l6 l7) from ⟨(hW.cell (World.block_lt_of_cell? _ _ e0)).trans e0, (hW.cell (World.block_lt_of_cell? _ _ e1)).trans e1, (hW.cell (World.block_lt_of_cell? _ _ e2)).trans e2, (hW.cell (World.block_lt_of_cell? _ _ e3)).trans e3, (hW.cell (World.block_lt_of_cell? _ _ q0)).trans q0, (hW.cell (World.block_lt_of_cell? _ _ q1)).trans q1, (hW.cell (World.block_lt_of_cell? _ _ q2)).trans q2, (hW.cell (World.block_lt_of_cell? _ _ q3)).trans q3⟩))
     have KS0 : Hid (wr.drew.cell? ⟨g, i * 4, none⟩ = some (.bool o0) ∧ wr.drew.cell? ⟨g, i * 4 + 1, none⟩ = some (.slice o1 o2 o3) ∧ wr.drew.cell? ⟨g, i * 4 + 2, none⟩ = some (.bool o4) ∧ wr.drew.cell? ⟨g, i * 4 + 3, none⟩ = some (.slice o5 o6 o7) ∧ wr.drew.cell? ⟨gl, k * 4, none⟩ = some (.bool l0) ∧ wr.drew.cell? ⟨gl, k * 4 + 1, none⟩ = some (.slice l1 l2 l3) ∧ wr.drew.cell? ⟨gl, k * 4 + 2, none⟩ = some (.bool l4) ∧ wr.drew.cell? ⟨gl, k * 4 + 3, none⟩ = some (.slice l5 l6 l7)) := Lib.hid ⟨e0, e1, e2, e3, q0, q1, q2, q3⟩
     have HEW := Lib.hid HEQ.out
     have hgg : ¬ (gl = g) := by omega
     have hgg' : ¬ (g = gl) := by omega
     have hfi := hrp.blk.fr
     clear hbx hrp hbw hxl hov hss hsq hmq hxq HEQ hfm hfx
     go_wp2_with fail
     refine wp_region_tail (S := (fun w' => w'.cell? ⟨g, i * 4, none⟩ = some (.bool o0) ∧ w'.cell? ⟨g, i * 4 + 1, none⟩ = some (.slice o1 o2 o3) ∧ w'.cell? ⟨g, i * 4 + 2, none⟩ = some (.bool o4) ∧ w'.cell? ⟨g, i * 4 + 3, none⟩ = some (.slice o5 o6 o7) ∧ w'.cell? ⟨gl, k * 4, none⟩ = some (.bool l0) ∧ w'.cell? ⟨gl, k * 4 + 1, none⟩ = some (.slice l1 l2 l3) ∧ w'.cell? ⟨gl, k * 4 + 2, none⟩ = some (.bool l4) ∧ w'.cell? ⟨gl, k * 4 + 3, none⟩ = some (.slice l5 l6 l7))) 15 (by kernel_rfl) rfl (by kernel_rfl) (by kernel_rfl) rfl (by exact KS0.out) (fun hHeld => ?_)
     simp only [List.pop_toArray, List.dropLast_cons_cons, List.dropLast_singleton]
     refine tkH 0 hHeld ?_
     try simp only [Act.put, tkA, tkB, tkC]
     refine tkH 1 hHeld ?_
     try simp only [Act.put, tkA, tkB, tkC]
     refine tkH 2 hHeld ?_
     try simp only [Act.put, tkA, tkB, tkC]
     refine tkH 3 hHeld ?_
     try simp only [Act.put, tkA, tkB, tkC]
     refine tkH 4 hHeld ?_
     try simp only [Act.put, tkA, tkB, tkC]
     refine tkH 5 hHeld ?_
     try simp only [Act.put, tkA, tkB, tkC]
     refine tkH 6 hHeld ?_
     try simp only [Act.put, tkA, tkB, tkC]
     refine tkH 8 hHeld ?_
     try simp only [Act.put, tkA, tkB, tkC]
     refine tkH 9 hHeld ?_
     try simp only [Act.put, tkA, tkB, tkC]
     refine tkH 10 hHeld ?_
     try simp only [Act.put, tkA, tkB, tkC]
     refine tkH 11 hHeld ?_
     try simp only [Act.put, tkA, tkB, tkC]
     refine wpAnyH_ready (rs := [7]) (by kernel_rfl) (by simp) ?_
     refine AllReadyH.cons rfl (fun K hK => ?_) AllReadyH.nil
     go_simp
     (go_at_call 101; (with_reducible refine (HRD.out _ (HEW.out.below (by first | with_reducible exact Below.refl _ _ | with_reducible exact (Below.refl _ _).drew))).mono ?_); rintro e wa ⟨va, rfl, hv, hb⟩; have hw : Below wr.heap.size wr wa := Below.trans (by first | with_reducible exact Below.refl _ _ | with_reducible exact (Below.refl _ _).drew) hb; have HVa := Lib.hid hv; obtain ⟨ra0, ra4, ra1, ra5, ra2, ra3, ra6, ra7, rfl⟩ := hv.slice; have HWa := Lib.hid hw; have hrp := HRP.out.below hw; have HRa := Lib.hid hrp; have KSa := Lib.hid (KB.out wa hw); have ea0 := hrp.blk.at_ (frc_get hiv).1; have ea1 := hrp.blk.at_ (frc_get hiv).2.1; have ea2 := hrp.blk.at_ (frc_get hiv).2.2.1; have ea3 := hrp.blk.at_ (frc_get hiv).2.2.2; have fa0 := hrp.blk.fr (i * 4); have fa1 := hrp.blk.fr (i * 4 + 1); have fa2 := hrp.blk.fr (i * 4 + 2); have fa3 := hrp.blk.fr (i * 4 + 3); rw [hto] at ea0 ea1 ea2 ea3; clear hv hb hw hrp)
     go_wp2_with fail
     refine hK.out _ _ ?_ (fun hHeld => ?_)
     ·first | exact KSa.out | exact KSb.out | exact KSc.out
     clear hK K
     try simp only [Act.put, tkA, tkB, tkC]
     refine wpAnyH_ready (rs := [12]) (by kernel_rfl) (by simp) ?_
     refine AllReadyH.cons rfl (fun K hK => ?_) AllReadyH.nil
     go_simp
     (go_at_call 102; (with_reducible refine (FMul_any _ _ mq xq _ (by first | with_reducible exact HVa.out | with_reducible exact HVa.out.drew) (HLV.out.below (by first | with_reducible exact Below.refl _ _ | with_reducible exact (Below.refl _ _).drew | with_reducible exact HWa.out | with_reducible exact HWa.out.drew)) (sm.mono (by omega)) (sx.mono (by omega))).mono ?_); rintro e wb ⟨vb, rfl, hv, hb⟩; have hw : Below wr.heap.size wr wb := Below.trans (by first | with_reducible exact Below.refl _ _ | with_reducible exact (Below.refl _ _).drew | with_reducible exact HWa.out | with_reducible exact HWa.out.drew) (hb.mono HWa.out.size); have HVb := Lib.hid hv; obtain ⟨rb0, rb4, rb1, rb5, rb2, rb3, rb6, rb7, rfl⟩ := hv.slice; have HWb := Lib.hid hw; have hrp := HRP.out.below hw; have HRb := Lib.hid hrp; have KSb := Lib.hid (KB.out wb hw); have eb0 := hrp.blk.at_ (frc_get hiv).1; have eb1 := hrp.blk.at_ (frc_get hiv).2.1; have eb2 := hrp.blk.at_ (frc_get hiv).2.2.1; have eb3 := hrp.blk.at_ (frc_get hiv).2.2.2; have fb0 := hrp.blk.fr (i * 4); have fb1 := hrp.blk.fr (i * 4 + 1); have fb2 := hrp.blk.fr (i * 4 + 2); have fb3 := hrp.blk.fr (i * 4 + 3); rw [hto] at eb0 eb1 eb2 eb3; clear hv hb hw hrp)
     go_wp2_with fail
     refine hK.out _ _ ?_ (fun hHeld => ?_)
     ·first | exact KSa.out | exact KSb.out | exact KSc.out
     clear hK K
     try simp only [Act.put, tkA, tkB, tkC]
     refine wpAnyH_ready (rs := [13]) (by kernel_rfl) (by simp) ?_
     refine AllReadyH.cons rfl (fun K hK => ?_) AllReadyH.nil
     go_simp
     (go_at_call 100; (with_reducible refine (FAdd_any _ _ sq (mq * xq) _ (HOV.out.below (by first | with_reducible exact Below.refl _ _ | with_reducible exact (Below.refl _ _).drew | with_reducible exact HWb.out | with_reducible exact HWb.out.drew)) (by first | with_reducible exact HVb.out | with_reducible exact HVb.out.drew) (ss.mono (by omega)) (smx.mono (by omega))).mono ?_); rintro e wc ⟨vc, rfl, hv, hb⟩; have hw : Below wr.heap.size wr wc := Below.trans (by first | with_reducible exact Below.refl _ _ | with_reducible exact (Below.refl _ _).drew | with_reducible exact HWb.out | with_reducible exact HWb.out.drew) (hb.mono HWb.out.size); have HVc := Lib.hid hv; obtain ⟨rc0, rc4, rc1, rc5, rc2, rc3, rc6, rc7, rfl⟩ := hv.slice; have HWc := Lib.hid hw; have hrp := HRP.out.below hw; have HRc := Lib.hid hrp; have KSc := Lib.hid (KB.out wc hw); have ec0 := hrp.blk.at_ (frc_get hiv).1; have ec1 := hrp.blk.at_ (frc_get hiv).2.1; have ec2 := hrp.blk.at_ (frc_get hiv).2.2.1; have ec3 := hrp.blk.at_ (frc_get hiv).2.2.2; have fc0 := hrp.blk.fr (i * 4); have fc1 := hrp.blk.fr (i * 4 + 1); have fc2 := hrp.blk.fr (i * 4 + 2); have fc3 := hrp.blk.fr (i * 4 + 3); rw [hto] at ec0 ec1 ec2 ec3; clear hv hb hw hrp)
     go_wp2_with fail
     refine hK.out _ _ ?_ (fun hHeld => ?_)
     ·first | exact KSa.out | exact KSb.out | exact KSc.out
     clear hK K
     try simp only [Act.put, tkA, tkB, tkC]
     refine tkH 14 hHeld ?_
     try simp only [Act.put, tkA, tkB, tkC]
     refine wpAnyH_done (by kernel_rfl) ?_ _
     simp only [tailQ, List.getElem_toArray, List.getElem_cons_succ, List.getElem_cons_zero]
     all_goals
      go_wp2_with fail
      go_roundw
      case rel => exact ⟨k + 1, vs.set i ⟨rc0, rc1, rc2, rc3, rc4, rc5, rc6, rc7⟩, by go_num, by omega, (HRc.out.put (i := i) (k' := i + 1) hlt (u := ⟨rc0, rc1, rc2, rc3, rc4, rc5, rc6, rc7⟩) HVc.out (fun j hj _ => hj)).congr (fun j _ => by
       by_cases e : j = i
       ·rw [if_pos e, if_pos e]; exact HSU.out
       ·rw [if_neg e, if_neg e, if_neg e]), set4_bel (g := g) (HBQ.out.trans (HWc.out.mono (by have := HBQ.out.size; have := hG.out; omega))) (Nat.le_refl _) i _ _ _ _⟩
      case measure => simp [intOf]; omega
    ·have hkn : k = n := by omega
     have HN := Lib.hid (show RowP wr g vs m (appQ n M x) (i + 1) from hrp.congr (fun j _ => by
      by_cases e : j = i
      ·rw [if_pos e, e, hkn]; rfl
      ·rw [if_neg e]))
     clear hrp hbw hkn
     go_wp2_with fail
     go_roundw
     case rel => exact ⟨i + 1, vs, by go_num, by omega, HN.out, HBQ.out⟩
     case measure => simp [intOf]; omega
  ·have him : i = m := by omega
   subst him
   have hlen := HRK.out.len
   have HTX := Texts_any (some ⟨g, 0, none⟩) vs ((List.range i).map (appQ n M x)) i wk (fun j hj => ⟨g, 0, rfl, HRK.out.blk.lt, by rw [Nat.zero_add]; exact HRK.out.blk.at_ (frc_get hj).1, by rw [Nat.zero_add]; exact HRK.out.blk.at_ (frc_get hj).2.1, by rw [Nat.zero_add]; exact HRK.out.blk.at_ (frc_get hj).2.2.1, by rw [Nat.zero_add]; exact HRK.out.blk.at_ (frc_get hj).2.2.2⟩)
    ⟨by rw [List.length_map, List.length_range]; exact hlen, fun j h1 h2 => by rw [List.getElem_map, List.getElem_range]; exact HRK.out.num j (by omega) h1⟩ (by omega)
    (fun q hq => by
     obtain ⟨j, hj, rfl⟩ := List.mem_map.1 hq
     have hj' : j < i := by simpa using hj
     exact (sumR_sz (b := 90) (n := n) (f := fun k => M j k * x k) fun k hk => ((HF.out.fit j k hj' hk).sz).mul ((HV.out.fit k hk).sz)).mono (by omega)) (HE.out.below (HB4.out.trans (hbw.mono hgB)))
   rw [hlen] at HTX
   replace HTX := Lib.hid HTX
   have HBF := Lib.hid (HB4.out.trans (hbw.mono hgB))
   have HLQ := Lib.hid (show ((List.range i).map (appQ n M x)).length = i by simp)
   clear hbw hrp hlen
   go_wp2_with fail
   refine HTX.out.mono ?_
   generalize (List.range i).map (appQ n M x) = ql at *
   rintro e w11 (⟨At, ct, hfit, rfl, hst, hb11⟩ | ⟨hno, rfl, hb11⟩)
   ·have HB11 := Lib.hid (HBF.out.trans (hb11.mono HBF.out.size))
    have HST := Lib.hid hst
    have HFIT := Lib.hid hfit
    clear hb11 hst hfit
    go_wp2_with fail
    rw [← hQ.out]
    exact .inl ⟨At, ct, HFIT.out, rfl, HST.out, HB11.out⟩
   ·have HB11 := Lib.hid (HBF.out.trans (hb11.mono HBF.out.size))
    have HNO := Lib.hid hno
    clear hb11 hno
    go_wp2_with fail
    rw [← hQ.out]
    exact .inr ⟨HNO.out, rfl, HB11.out⟩
end Go.Proofs.YtajlojhklhlljaaGreatDoor
