import Derived.Test.YtajlojhklhlljaaGreatDoorZMR
import Derived.Test.YtajlojhklhlljaaGreatDoorZMK
set_option maxHeartbeats 16000000
set_option maxRecDepth 100000
set_option linter.unusedVariables false
set_option linter.unusedSimpArgs false
set_option linter.unusedSectionVars false
namespace Go.Proofs.YtajlojhklhlljaaGreatDoor
open Go.RowKit
def MxV (w : World) (m n : Nat) (M : Nat → Nat → Rat) (V : Value) (E : Int) (w' : World) : Prop :=
 (∃ A c rs, V = .slice A m c ∧ E = 0 ∧ MatF rs m n M ∧ TopM w.heap.size w' (.slice A m c) rs ∧ Below w.heap.size w w') ∨ ((∃ i k, i < m ∧ k < n ∧ ¬ FitsR (M i k)) ∧ V = .slice none 0 0 ∧ E = 3 ∧ Below w.heap.size w w')
theorem RetMx.val {w w' : World} {m n : Nat} {M : Nat → Nat → Rat} {e : Ending} (h : RetMx w m n M e w') : ∃ V E, e = .returned (.tuple #[V, .int .i64 E]) ∧ MxV w m n M V E w' := by
 rcases h with ⟨A, c, rs, rfl, h1, h2, h3⟩ | ⟨h1, rfl, h2⟩
 ·exact ⟨_, _, rfl, .inl ⟨A, c, rs, rfl, rfl, h1, h2, h3⟩⟩
 ·exact ⟨_, _, rfl, .inr ⟨h1, rfl, rfl, h2⟩⟩
theorem MxV.bel {w w' : World} {m n : Nat} {M : Nat → Nat → Rat} {V : Value} {E : Int} (h : MxV w m n M V E w') : Below w.heap.size w w' := by
 rcases h with ⟨_, _, _, _, _, _, _, h⟩ | ⟨_, _, _, h⟩ <;> exact h
theorem MxV.up {w w1 w' : World} {m n : Nat} {M : Nat → Nat → Rat} {V : Value} {E : Int} (h : MxV w1 m n M V E w') (hb : Below w.heap.size w w1) : RetMx w m n M (.returned (.tuple #[V, .int .i64 E])) w' := by
 rcases h with ⟨A, c, rs, rfl, rfl, h1, h2, h3⟩ | ⟨h1, rfl, rfl, h2⟩
 ·exact .inl ⟨A, c, rs, rfl, h1, h2.mono hb.size, hb.trans (h3.mono hb.size)⟩
 ·exact .inr ⟨h1, rfl, hb.trans (h2.mono hb.size)⟩
theorem begin_two (A A' : Option Addr) (rs rs' : List RowT) (c c' n n' m m' g : Nat) (w : World) (h : MatIn w A rs) (hf : FineM rs n) (h' : MatIn w A' rs') (hf' : FineM rs' n') (hm : rs.length = m) (hm' : rs'.length = m') (hg : Blk w g 27 [.slice A m c, .slice A' m' c']) (henv : Env w) :
  Calls Tryz.prog 93 #[.slice (some ⟨g, 0, none⟩) 2 2] w fun e w' => e = .returned (.int .i64 0) ∧ Below w.heap.size w w' := by
 subst hm hm'
 refine begin_ok (some ⟨g, 0, none⟩) 2 [⟨A, c, rs, n⟩, ⟨A', c', rs', n'⟩] w (fun _ => ⟨g, 0, rfl, hg.lt, fun i hi => ?_⟩) (fun m hm => ?_) (by simp) henv
 ·have h9 : i < 2 := hi
  have h8 : i = 0 ∨ i = 1 := by omega
  rw [Nat.zero_add]
  rcases h8 with rfl | rfl
  ·exact hg.at_ (i := 0) rfl
  ·exact hg.at_ (i := 1) rfl
 ·have h9 : m = ⟨A, c, rs, n⟩ ∨ m = ⟨A', c', rs', n'⟩ := by simpa using hm
  rcases h9 with rfl | rfl
  ·exact ⟨h, hf⟩
  ·exact ⟨h', hf'⟩
theorem width_m (A : Option Addr) (rs : List RowT) (c m n : Nat) (M : Nat → Nat → Rat) (w : World) (h : MatIn w A rs) (hmf : MatF rs m n M) (hm1 : 1 ≤ m) (hm : m ≤ 12) (hn : n ≤ 12) (henv : Env w) : Calls Tryz.prog 94 #[.slice A m c] w fun e w' => e = .returned (.int .i64 (n : Int)) ∧ Below w.heap.size w w' := by
 have := width_ok A rs c n w h (hmf.fine hm hn (fun e => by omega)) henv
 rw [hmf.len] at this
 exact this
theorem FitsR.big {q : Rat} (h : FitsR q) : Sz 5000000 q := h.sz.mono (by decide)
theorem Identity_any (n : Nat) (w : World) (hn : n ≤ 12) (henv : Env w) : Calls Tryz.prog 47 #[.int .i64 (n : Int)] w (RetMx w n n idn) := by
 generalize hQ : RetMx w n n idn = Q
 replace hQ := Lib.hid hQ
 have HBI := Lib.hid (BuildId n n idn w hn hn (fun i k _ _ => by unfold idn; split; exact Sz.of1; exact Sz.zero.mono (by decide)) henv (fun W _ i k _ _ => cloId i k W))
 have h1 : ¬ (n : Int) < 0 := by omega
 have h2 : ¬ (12 : Int) < (n : Int) := by omega
 clear henv
 go_enter Tryz.func47, Tryz.ntmps47
 go_wp2_with fail
 refine HBI.out.mono ?_
 intro e w3 hr
 obtain ⟨V, E, rfl, hv⟩ := hr.val
 have HR := Lib.hid (hv.up (Below.refl _ _))
 clear hr hv
 go_wp2_with fail
 rw [← hQ.out]
 exact HR.out
theorem Transpose_any (A : Option Addr) (rs : List RowT) (c m n : Nat) (M : Nat → Nat → Rat) (w : World) (h : MatIn w A rs) (hmf : MatF rs m n M) (h0 : m = 0 → n = 0) (hm : m ≤ 12) (hn : n ≤ 12) (henv : Env w) :
  Calls Tryz.prog 45 #[.slice A m c] w (RetMx w n m (trn M)) := by
 generalize hQ : RetMx w n m (trn M) = Q
 replace hQ := Lib.hid hQ
 have hbl : Below w.heap.size w (w.alloc (.cells #[.slice A m c] 27)) := (Below.refl _ _).alloc (Nat.le_refl _) _
 have hk := Blk.new w 27 [.slice A m c]
 have HSH := Shape_ok A rs c n _ (h.below hbl) (hmf.fine hm hn h0) (henv.below hbl)
 rw [hmf.len] at HSH
 replace HSH := Lib.hid HSH
 have HB := Lib.hid hbl
 have HBT := Lib.hid (fun (W : World) (hW : Below w.heap.size w W) (hK : Blk W w.heap.size 27 [.slice A m c]) => BuildTr w.heap.size n m (trn M) W hn hm (fun i k hi hk => (hmf.fit k i hk hi).big) (henv.below hW) (fun W' hW' i k hi hk => cloTr w.heap.size A c m n i k rs M W' ((h.below hW).below hW') hmf ((hK.below hW').at_ (i := 0) rfl) hi hk ((henv.below hW).below hW')))
 have HK := Lib.hid hk
 clear h hmf henv hbl hk
 go_enter Tryz.func45, Tryz.ntmps45
 go_wp2_with fail
 refine HSH.out.mono ?_
 rintro e w2 ⟨rfl, hb⟩
 have HB2 := Lib.hid (HB.out.trans (hb.mono HB.out.size))
 have HT2 := Lib.hid (HBT.out w2 HB2.out (HK.out.below hb))
 clear hb HBT
 go_wp2_with fail
 refine HT2.out.mono ?_
 intro e w3 hr
 obtain ⟨V, E, rfl, hv⟩ := hr.val
 have HR := Lib.hid (hv.up HB2.out)
 clear hr hv
 go_wp2_with fail
 rw [← hQ.out]
 exact HR.out
theorem MxAdd_any (A A' : Option Addr) (rs rs' : List RowT) (c c' m n : Nat) (M N : Nat → Nat → Rat) (w : World) (h : MatIn w A rs) (hmf : MatF rs m n M) (h' : MatIn w A' rs') (hmf' : MatF rs' m n N) (hm1 : 1 ≤ m) (hm : m ≤ 12) (hn1 : 1 ≤ n) (hn : n ≤ 12) (henv : Env w) :
  Calls Tryz.prog 42 #[.slice A m c, .slice A' m c'] w (RetMx w m n (fun i k => M i k + N i k)) := by
 generalize hQ : RetMx w m n (fun i k => M i k + N i k) = Q
 replace hQ := Lib.hid hQ
 have hf := hmf.fine hm hn (fun e => by omega)
 have hf' := hmf'.fine (by omega) (by omega) (fun e => by omega)
 have hb1 : Below w.heap.size w (w.alloc (.cells #[.slice A m c] 27)) := (Below.refl _ _).alloc (Nat.le_refl _) _
 have hb2 : Below w.heap.size w ((w.alloc (.cells #[.slice A m c] 27)).alloc (.cells #[.slice A' m c'] 27)) := hb1.alloc hb1.size _
 have hb3 : Below w.heap.size w (((w.alloc (.cells #[.slice A m c] 27)).alloc (.cells #[.slice A' m c'] 27)).alloc (.cells #[.slice A m c, .slice A' m c'] 27)) := hb2.alloc hb2.size _
 have k0 := ((Blk.new w 27 [.slice A m c]).alloc (.cells #[.slice A' m c'] 27)).alloc (.cells #[.slice A m c, .slice A' m c'] 27)
 have k1 := (Blk.new' (w := w.alloc (.cells #[.slice A m c] 27)) (g := w.heap.size + 1) (by simp) 27 [.slice A' m c']).alloc (.cells #[.slice A m c, .slice A' m c'] 27)
 have k2 := Blk.new' (w := (w.alloc (.cells #[.slice A m c] 27)).alloc (.cells #[.slice A' m c'] 27)) (g := w.heap.size + 2) (by simp) 27 [.slice A m c, .slice A' m c']
 have HBG := Lib.hid (begin_two A A' rs rs' c c' n n m m (w.heap.size + 2) _ (h.below hb3) hf (h'.below hb3) hf' hmf.len hmf'.len k2 (henv.below hb3))
 have HK0 := Lib.hid k0
 have HK1 := Lib.hid k1
 have HB3 := Lib.hid hb3
 have HE := Lib.hid henv
 have HW1 := Lib.hid (fun W (hW : Below w.heap.size w W) => width_m A rs c m n M W (h.below hW) hmf hm1 hm hn (henv.below hW))
 have HW2 := Lib.hid (fun W (hW : Below w.heap.size w W) => width_m A' rs' c' m n N W (h'.below hW) hmf' (by omega) (by omega) (by omega) (henv.below hW))
 have HBD := Lib.hid (fun (W : World) (hW : Below w.heap.size w W) (hK : Blk W w.heap.size 27 [.slice A m c]) (hK' : Blk W (w.heap.size + 1) 27 [.slice A' m c']) => BuildAd w.heap.size (w.heap.size + 1) m n (fun i k => M i k + N i k) W hm (by omega) (fun i k hi hk => (((hmf.fit i k hi hk).sz).add ((hmf'.fit i k hi hk).sz)).mono (by omega)) (henv.below hW) (fun W' hW' i k hi hk => cloAd w.heap.size (w.heap.size + 1) A A' c c' m n i k rs rs' M N W' ((h.below hW).below hW') hmf ((hK.below hW').at_ (i := 0) rfl) ((h'.below hW).below hW') hmf' ((hK'.below hW').at_ (i := 0) rfl) hi hk ((henv.below hW).below hW')))
 have hnn : ((m : Int) != (m : Int)) = false := by simp
 have hnn2 : ((n : Int) != (n : Int)) = false := by simp
 clear h hmf h' hmf' hf hf' hb1 hb2 hb3 k0 k1 k2 henv
 go_enter Tryz.func42, Tryz.ntmps42
 go_wp2_with fail
 refine HBG.out.mono ?_
 rintro e w2 ⟨rfl, hb⟩
 have HB2 := Lib.hid (HB3.out.trans (hb.mono HB3.out.size))
 have hk0 := HK0.out.below hb
 have hk1 := HK1.out.below hb
 have c0 := hk0.at_ (i := 0) rfl
 have c1 := hk1.at_ (i := 0) rfl
 have HUP := Lib.hid (fun W (hW : Below w2.heap.size w2 W) => HB2.out.trans (hW.mono HB2.out.size))
 have KB := Lib.hid (fun W (hW : Below w2.heap.size w2 W) => (show W.cell? ⟨w.heap.size, 0, none⟩ = some (.slice A m c) ∧ W.cell? ⟨w.heap.size + 1, 0, none⟩ = some (.slice A' m c') from ⟨(hk0.below hW).at_ (i := 0) rfl, (hk1.below hW).at_ (i := 0) rfl⟩))
 have KS0 := Lib.hid (KB.out _ (Below.refl _ _).drew)
 have HL0 := Lib.hid hk0
 have HL1 := Lib.hid hk1
 clear hb hk0 hk1
 go_wp2_with fail
 go_region_held3 (fun w' => w'.cell? ⟨w.heap.size, 0, none⟩ = some (.slice A m c) ∧ w'.cell? ⟨w.heap.size + 1, 0, none⟩ = some (.slice A' m c')) (first | with_reducible exact KS0.out | with_reducible exact KSa.out | with_reducible exact KSb.out | go_keep) (first | (go_at_call 94; (with_reducible refine (HW1.out _ (HUP.out _ (by first | with_reducible exact Below.refl _ _ | with_reducible exact (Below.refl _ _).drew | with_reducible exact HWb.out | with_reducible exact HWb.out.drew))).mono ?_); rintro e wa ⟨rfl, hb⟩; have hw : Below w2.heap.size w2 wa := Below.trans (by first | with_reducible exact Below.refl _ _ | with_reducible exact (Below.refl _ _).drew | with_reducible exact HWb.out | with_reducible exact HWb.out.drew) (hb.mono (by first | exact Nat.le_refl _ | exact HWb.out.size)); have HWa := Lib.hid hw; have KSa := Lib.hid (KB.out wa hw); clear hb hw) | (go_at_call 94; (with_reducible refine (HW2.out _ (HUP.out _ (by first | with_reducible exact Below.refl _ _ | with_reducible exact (Below.refl _ _).drew | with_reducible exact HWa.out | with_reducible exact HWa.out.drew))).mono ?_); rintro e wb ⟨rfl, hb⟩; have hw : Below w2.heap.size w2 wb := Below.trans (by first | with_reducible exact Below.refl _ _ | with_reducible exact (Below.refl _ _).drew | with_reducible exact HWa.out | with_reducible exact HWa.out.drew) (hb.mono (by first | exact Nat.le_refl _ | exact HWa.out.size)); have HWb := Lib.hid hw; have KSb := Lib.hid (KB.out wb hw); clear hb hw))
 all_goals go_wp2_with fail
 all_goals
  have KS5 := Lib.hid (KB.out _ HWb.out.drew)
  go_region_held3 (fun w' => w'.cell? ⟨w.heap.size, 0, none⟩ = some (.slice A m c) ∧ w'.cell? ⟨w.heap.size + 1, 0, none⟩ = some (.slice A' m c')) (first | with_reducible exact KS5.out | with_reducible exact KSd.out | with_reducible exact KSe.out | go_keep) (first | (go_at_call 94; (with_reducible refine (HW1.out _ (HUP.out _ (by first | with_reducible exact Below.refl _ _ | with_reducible exact (Below.refl _ _).drew | with_reducible exact HWb.out | with_reducible exact HWb.out.drew))).mono ?_); rintro e wd ⟨rfl, hb⟩; have hw : Below w2.heap.size w2 wd := Below.trans (by first | with_reducible exact Below.refl _ _ | with_reducible exact (Below.refl _ _).drew | with_reducible exact HWb.out | with_reducible exact HWb.out.drew) (hb.mono (by first | exact Nat.le_refl _ | exact HWb.out.size)); have HWd := Lib.hid hw; have KSd := Lib.hid (KB.out wd hw); clear hb hw) | (go_at_call 110; (with_reducible refine (HBD.out _ (HUP.out _ (by first | with_reducible exact Below.refl _ _ | with_reducible exact (Below.refl _ _).drew | with_reducible exact HWd.out | with_reducible exact HWd.out.drew | with_reducible exact HWb.out | with_reducible exact HWb.out.drew)) (HL0.out.below (by first | with_reducible exact Below.refl _ _ | with_reducible exact (Below.refl _ _).drew | with_reducible exact HWd.out | with_reducible exact HWd.out.drew | with_reducible exact HWb.out | with_reducible exact HWb.out.drew)) (HL1.out.below (by first | with_reducible exact Below.refl _ _ | with_reducible exact (Below.refl _ _).drew | with_reducible exact HWd.out | with_reducible exact HWd.out.drew | with_reducible exact HWb.out | with_reducible exact HWb.out.drew))).mono ?_); intro e we hr; obtain ⟨V, E, rfl, hv⟩ := hr.val; have hw : Below w2.heap.size w2 we := Below.trans (by first | with_reducible exact Below.refl _ _ | with_reducible exact (Below.refl _ _).drew | with_reducible exact HWd.out | with_reducible exact HWd.out.drew | with_reducible exact HWb.out | with_reducible exact HWb.out.drew) (hv.bel.mono (by first | exact HWd.out.size | exact HWb.out.size)); have HR := Lib.hid (hv.up (HUP.out _ (by first | with_reducible exact Below.refl _ _ | with_reducible exact (Below.refl _ _).drew | with_reducible exact HWd.out | with_reducible exact HWd.out.drew | with_reducible exact HWb.out | with_reducible exact HWb.out.drew))); have KSe := Lib.hid (KB.out we hw); clear hr hv hw))
  all_goals
   go_wp2_with fail
   rw [← hQ.out]
   exact HR.out
theorem MxMul_any (A A' : Option Addr) (rs rs' : List RowT) (c c' m n p : Nat) (M N : Nat → Nat → Rat) (w : World) (h : MatIn w A rs) (hmf : MatF rs m n M) (h' : MatIn w A' rs') (hmf' : MatF rs' n p N) (hm1 : 1 ≤ m) (hm : m ≤ 12) (hn1 : 1 ≤ n) (hn : n ≤ 12) (hp1 : 1 ≤ p) (hp : p ≤ 12) (henv : Env w) :
  Calls Tryz.prog 44 #[.slice A m c, .slice A' n c'] w (RetMx w m p (mulM n M N)) := by
 generalize hQ : RetMx w m p (mulM n M N) = Q
 replace hQ := Lib.hid hQ
 have hf := hmf.fine hm hn (fun e => by omega)
 have hf' := hmf'.fine (by omega) (by omega) (fun e => by omega)
 have hb1 : Below w.heap.size w (w.alloc (.cells #[.slice A m c] 27)) := (Below.refl _ _).alloc (Nat.le_refl _) _
 have hb2 : Below w.heap.size w ((w.alloc (.cells #[.slice A m c] 27)).alloc (.cells #[.slice A' n c'] 27)) := hb1.alloc hb1.size _
 have hb3 : Below w.heap.size w (((w.alloc (.cells #[.slice A m c] 27)).alloc (.cells #[.slice A' n c'] 27)).alloc (.cells #[.slice A m c, .slice A' n c'] 27)) := hb2.alloc hb2.size _
 have k0 := ((Blk.new w 27 [.slice A m c]).alloc (.cells #[.slice A' n c'] 27)).alloc (.cells #[.slice A m c, .slice A' n c'] 27)
 have k1 := (Blk.new' (w := w.alloc (.cells #[.slice A m c] 27)) (g := w.heap.size + 1) (by simp) 27 [.slice A' n c']).alloc (.cells #[.slice A m c, .slice A' n c'] 27)
 have k2 := Blk.new' (w := (w.alloc (.cells #[.slice A m c] 27)).alloc (.cells #[.slice A' n c'] 27)) (g := w.heap.size + 2) (by simp) 27 [.slice A m c, .slice A' n c']
 have HBG := Lib.hid (begin_two A A' rs rs' c c' n p m n (w.heap.size + 2) _ (h.below hb3) hf (h'.below hb3) hf' hmf.len hmf'.len k2 (henv.below hb3))
 have HK0 := Lib.hid k0
 have HK1 := Lib.hid k1
 have HB3 := Lib.hid hb3
 have HE := Lib.hid henv
 have HW1 := Lib.hid (fun W (hW : Below w.heap.size w W) => width_m A rs c m n M W (h.below hW) hmf hm1 hm hn (henv.below hW))
 have HW2 := Lib.hid (fun W (hW : Below w.heap.size w W) => width_m A' rs' c' n p N W (h'.below hW) hmf' (by omega) (by omega) (by omega) (henv.below hW))
 have HBD := Lib.hid (fun (W : World) (hW : Below w.heap.size w W) (hK : Blk W w.heap.size 27 [.slice A m c]) (hK' : Blk W (w.heap.size + 1) 27 [.slice A' n c']) => BuildMu w.heap.size (w.heap.size + 1) m p (mulM n M N) W hm (by omega) (fun i k hi hk => (sumR_sz (b := 90) (n := n) (f := fun j => M i j * N j k) fun j hj => ((hmf.fit i j hi hj).sz).mul ((hmf'.fit j k hj hk).sz)).mono (by omega)) (henv.below hW) (fun W' hW' i k hi hk => cloMu w.heap.size (w.heap.size + 1) A A' c c' m n p i k rs rs' M N W' ((h.below hW).below hW') hmf ((hK.below hW').at_ (i := 0) rfl) ((h'.below hW).below hW') hmf' ((hK'.below hW').at_ (i := 0) rfl) hi hk hn1 hn ((henv.below hW).below hW')))
 have hnn : ((m : Int) != (m : Int)) = false := by simp
 have hnn2 : ((n : Int) != (n : Int)) = false := by simp
 clear h hmf h' hmf' hf hf' hb1 hb2 hb3 k0 k1 k2 henv
 go_enter Tryz.func44, Tryz.ntmps44
 go_wp2_with fail
 refine HBG.out.mono ?_
 rintro e w2 ⟨rfl, hb⟩
 have HB2 := Lib.hid (HB3.out.trans (hb.mono HB3.out.size))
 have hk0 := HK0.out.below hb
 have hk1 := HK1.out.below hb
 have c0 := hk0.at_ (i := 0) rfl
 have c1 := hk1.at_ (i := 0) rfl
 have HUP := Lib.hid (fun W (hW : Below w2.heap.size w2 W) => HB2.out.trans (hW.mono HB2.out.size))
 have KB := Lib.hid (fun W (hW : Below w2.heap.size w2 W) => (show W.cell? ⟨w.heap.size, 0, none⟩ = some (.slice A m c) ∧ W.cell? ⟨w.heap.size + 1, 0, none⟩ = some (.slice A' n c') from ⟨(hk0.below hW).at_ (i := 0) rfl, (hk1.below hW).at_ (i := 0) rfl⟩))
 have KS0 := Lib.hid (KB.out _ (Below.refl _ _).drew)
 have HL0 := Lib.hid hk0
 have HL1 := Lib.hid hk1
 clear hb hk0 hk1
 go_wp2_with fail
 go_region_held3 (fun w' => w'.cell? ⟨w.heap.size, 0, none⟩ = some (.slice A m c) ∧ w'.cell? ⟨w.heap.size + 1, 0, none⟩ = some (.slice A' n c')) (first | with_reducible exact KS0.out | with_reducible exact KSb.out | go_keep) (first | (go_at_call 94; (with_reducible refine (HW1.out _ (HUP.out _ (by first | with_reducible exact Below.refl _ _ | with_reducible exact (Below.refl _ _).drew))).mono ?_); rintro e wb ⟨rfl, hb⟩; have hw : Below w2.heap.size w2 wb := Below.trans (by first | with_reducible exact Below.refl _ _ | with_reducible exact (Below.refl _ _).drew) (hb.mono (by first | exact Nat.le_refl _)); have HWb := Lib.hid hw; have KSb := Lib.hid (KB.out wb hw); clear hb hw))
 all_goals go_wp2_with fail
 all_goals
  have KS5 := Lib.hid (KB.out _ HWb.out.drew)
  go_region_held3 (fun w' => w'.cell? ⟨w.heap.size, 0, none⟩ = some (.slice A m c) ∧ w'.cell? ⟨w.heap.size + 1, 0, none⟩ = some (.slice A' n c')) (first | with_reducible exact KS5.out | with_reducible exact KSd.out | with_reducible exact KSe.out | go_keep) (first | (go_at_call 94; (with_reducible refine (HW2.out _ (HUP.out _ (by first | with_reducible exact Below.refl _ _ | with_reducible exact (Below.refl _ _).drew | with_reducible exact HWb.out | with_reducible exact HWb.out.drew))).mono ?_); rintro e wd ⟨rfl, hb⟩; have hw : Below w2.heap.size w2 wd := Below.trans (by first | with_reducible exact Below.refl _ _ | with_reducible exact (Below.refl _ _).drew | with_reducible exact HWb.out | with_reducible exact HWb.out.drew) (hb.mono (by first | exact Nat.le_refl _ | exact HWb.out.size)); have HWd := Lib.hid hw; have KSd := Lib.hid (KB.out wd hw); clear hb hw) | (go_at_call 110; (with_reducible refine (HBD.out _ (HUP.out _ (by first | with_reducible exact Below.refl _ _ | with_reducible exact (Below.refl _ _).drew | with_reducible exact HWd.out | with_reducible exact HWd.out.drew | with_reducible exact HWb.out | with_reducible exact HWb.out.drew)) (HL0.out.below (by first | with_reducible exact Below.refl _ _ | with_reducible exact (Below.refl _ _).drew | with_reducible exact HWd.out | with_reducible exact HWd.out.drew | with_reducible exact HWb.out | with_reducible exact HWb.out.drew)) (HL1.out.below (by first | with_reducible exact Below.refl _ _ | with_reducible exact (Below.refl _ _).drew | with_reducible exact HWd.out | with_reducible exact HWd.out.drew | with_reducible exact HWb.out | with_reducible exact HWb.out.drew))).mono ?_); intro e we hr; obtain ⟨V, E, rfl, hv⟩ := hr.val; have hw : Below w2.heap.size w2 we := Below.trans (by first | with_reducible exact Below.refl _ _ | with_reducible exact (Below.refl _ _).drew | with_reducible exact HWd.out | with_reducible exact HWd.out.drew | with_reducible exact HWb.out | with_reducible exact HWb.out.drew) (hv.bel.mono (by first | exact HWd.out.size | exact HWb.out.size)); have HR := Lib.hid (hv.up (HUP.out _ (by first | with_reducible exact Below.refl _ _ | with_reducible exact (Below.refl _ _).drew | with_reducible exact HWd.out | with_reducible exact HWd.out.drew | with_reducible exact HWb.out | with_reducible exact HWb.out.drew))); have KSe := Lib.hid (KB.out we hw); clear hr hv hw))
  all_goals
   go_wp2_with fail
   rw [← hQ.out]
   exact HR.out
end Go.Proofs.YtajlojhklhlljaaGreatDoor
namespace Go.Proofs.YtajlojhklhlljaaGreatDoor
open Go.RowKit
theorem SEq_of (A B : Option Addr) (xs ys : List ByteArray) (c d : Nat) (w : World) (h : Strs w A xs) (h2 : Strs w B ys) (hl : xs.length ≤ 1000) (hl2 : ys.length ≤ 1000) : Calls Tryz.prog 122 #[.slice A xs.length c, .slice B ys.length d] w fun e w' => e = .returned (.bool (decide (xs = ys))) ∧ Below w.heap.size w w' := by
 have HC := Lib.hid h
 have HD := Lib.hid h2
 clear h h2
 by_cases hll : xs.length = ys.length
 ·have HLL := Lib.hid hll
  have hn : ((xs.length : Int) != (ys.length : Int)) = false := by rw [hll]; simp
  have hll2 : xs.length ≤ ys.length := by omega
  clear hll
  go_enter Tryz.func122, Tryz.ntmps122
  go_wp2_with fail
  clear hn
  go_loopw [13] (fun iv wr => ∃ k m : Nat, iv = .int .i64 (k : Int) ∧ k ≤ xs.length ∧ xs.take k = ys.take k ∧ wr = w.drewN m) (fun iv _ => xs.length - (intOf iv).toNat)
  case atStart => exact ⟨0, 0, rfl, Nat.zero_le _, rfl, rfl⟩
  case round =>
   obtain ⟨k, m, rfl, hk, hall, rfl⟩ := hrel
   have HALL := Lib.hid hall
   clear hall
   by_cases hlt : k < xs.length
   ·obtain ⟨b, off, rfl, hb, hc⟩ := HC.out (by intro e; subst e; simp at hlt)
    obtain ⟨b', off', rfl, hb', hc'⟩ := HD.out (by intro e; rw [e] at hll2; simp only [List.length_nil] at hll2; omega)
    have hky : k < ys.length := by omega
    have hck := hc k hlt
    have hck' := hc' k hky
    have HN := Lib.hid (fun (h : xs[k] ≠ ys[k]) => show decide (xs = ys) = false from decide_eq_false fun e => h (by simp only [e]))
    have HS := Lib.hid (fun (h : xs[k] = ys[k]) => show xs.take (k + 1) = ys.take (k + 1) by
     rw [List.take_succ_eq_append_getElem hlt, List.take_succ_eq_append_getElem hky, HALL.out, h])
    generalize xs[k] = x at *
    generalize ys[k] = y at *
    clear hc hc'
    by_cases hxy : x = y
    ·have E := Lib.hid (HS.out hxy)
     subst hxy
     clear HS HN
     go_wp2_with fail
     go_quiet (fail)
     go_wp2_with fail
     go_roundw
     case rel => exact ⟨k + 1, _, by go_num, by omega, E.out, rfl⟩
     case measure => simp [intOf]; omega
    ·have E := Lib.hid (HN.out hxy)
     have hne : (x.toList == y.toList) = false := text_ne hxy
     clear HS HN
     go_wp2_with fail
     go_quiet (fail)
     go_wp2_with fail
     go_ret
     exact ⟨by rw [E.out]; rfl, below_drewN (below_drewN (Below.refl _ _) _) _⟩
   ·have E := Lib.hid (show decide (xs = ys) = true from decide_eq_true (by
     have h1 := HALL.out
     have h2 := HLL.out
     rw [List.take_of_length_le (by omega), List.take_of_length_le (by omega)] at h1
     exact h1))
    go_wp2_with fail
    go_ret
    exact ⟨by rw [E.out]; rfl, below_drewN (Below.refl _ _) _⟩
 ·have E := Lib.hid (show decide (xs = ys) = false from decide_eq_false fun e => hll (by rw [e]))
  have hn : ((xs.length : Int) != (ys.length : Int)) = true := by rw [bne, Bool.not_eq_true', beq_eq_false_iff_ne]; omega
  clear hll
  go_enter Tryz.func122, Tryz.ntmps122
  go_wp2_with fail
  go_ret
  exact ⟨by rw [E.out]; rfl, Below.refl _ _⟩
theorem same1 (A B : Option Addr) (xs : List ByteArray) (c d n : Nat) (w : World) (h : Strs w A xs) (h2 : Strs w B xs) (hn : xs.length = n) (hl : n ≤ 1000) : Calls Tryz.prog 121 #[.slice A n c, .slice B n d] w fun e w' => e = .returned (.bool true) ∧ Below w.heap.size w w' := by
 subst hn
 have H := SEq_of A B xs xs c d w h h2 hl hl
 rw [decide_eq_true rfl] at H
 replace H := Lib.hid H
 clear h h2
 go_enter Tryz.func121, Tryz.ntmps121
 go_wp2_with fail
 refine H.out.mono ?_
 rintro e w2 ⟨rfl, hb⟩
 have HB := Lib.hid hb
 clear hb
 go_wp2_with fail
 go_ret
 exact ⟨rfl, HB.out⟩
theorem EqF_same (A A' : Option Addr) (rs rs' : List RowT) (c c' m n : Nat) (M : Nat → Nat → Rat) (w : World) (h : MatIn w A rs) (hmf : MatF rs m n M) (h' : MatIn w A' rs') (hmf' : MatF rs' m n M) (hn1 : 1 ≤ n) (hm : m ≤ 12) (hn : n ≤ 12) :
  Calls Tryz.prog 120 #[.slice A m c, .slice A' m c', .func (.func 121) #[] #[]] w fun e w' => e = .returned (.bool true) ∧ Below w.heap.size w w' := by
 have HM := Lib.hid h
 have HM' := Lib.hid h'
 have HF := Lib.hid hmf
 have HF' := Lib.hid hmf'
 have hnn : ((m : Int) != (m : Int)) = false := by simp
 clear h h' hmf hmf'
 go_enter Tryz.func120, Tryz.ntmps120
 go_wp2_with fail
 clear hnn
 go_loopw [17] (fun iv wr => ∃ i : Nat, iv = .int .i64 (i : Int) ∧ i ≤ m ∧ Below w.heap.size w wr) (fun iv _ => m - (intOf iv).toNat)
 case atStart => exact ⟨0, rfl, Nat.zero_le _, Below.refl _ _⟩
 case round =>
  obtain ⟨i, rfl, hi, hbw⟩ := hrel
  obtain ⟨wk, rfl⟩ : ∃ w' : World, w' = wr := ⟨_, rfl⟩
  have HBW := Lib.hid hbw
  by_cases hlt : i < m
  ·have hl := HF.out.len
   have hl' := HF'.out.len
   have hi1 : i < rs.length := by omega
   have hi2 : i < rs'.length := by omega
   obtain ⟨b, off, rfl, hb, hc⟩ := HM.out.some (by intro e; subst e; simp at hi1)
   obtain ⟨b', off', rfl, hb', hc'⟩ := HM'.out.some (by intro e; subst e; simp at hi2)
   have c0 := (hbw.cell (p := ⟨b, off + i, none⟩) hb).trans (hc i hi1)
   have c1 := (hbw.cell (p := ⟨b', off' + i, none⟩) hb').trans (hc' i hi2)
   have e1 := HF.out.rowAt hi1
   have e2 := HF'.out.rowAt hi2
   have hs1 := (HM.out.i _ (List.getElem_mem hi1)).below hbw
   have hs2 := (HM'.out.i _ (List.getElem_mem hi2)).below hbw
   have hee : rs'[i].ss = rs[i].ss := List.ext_getElem (by omega) fun k h1 h2 => by rw [HF'.out.cel i k hi2 h1, HF.out.cel i k hi1 h2]
   rw [hee] at hs2
   have HSM := Lib.hid (same1 rs[i].ad rs'[i].ad rs[i].ss rs[i].cp rs'[i].cp n wk hs1 hs2 e1 (by omega))
   rw [e1] at c0
   rw [e2] at c1
   generalize rs[i].ad = ad at *
   generalize rs'[i].ad = ad' at *
   generalize rs[i].cp = cp at *
   generalize rs'[i].cp = cp' at *
   have x1 : (0 : Int) ≤ (i : Int) := by omega
   have x2 : (i : Int) < (m : Int) := by omega
   clear hc hc' hs1 hs2 hee e1 e2 hbw
   go_wp2_with fail
   refine HSM.out.mono ?_
   rintro e w2 ⟨rfl, hb2⟩
   have HB2 := Lib.hid (HBW.out.trans (hb2.mono HBW.out.size))
   clear hb2 c0 c1
   go_wp2_with fail
   go_roundw
   case rel => exact ⟨i + 1, by go_num, by omega, HB2.out⟩
   case measure => simp [intOf]; omega
  ·clear hbw
   go_wp2_with fail
   go_ret
   exact ⟨rfl, HBW.out⟩
theorem MxSame_any (A A' : Option Addr) (rs rs' : List RowT) (c c' m n : Nat) (M : Nat → Nat → Rat) (w : World) (h : MatIn w A rs) (hmf : MatF rs m n M) (h' : MatIn w A' rs') (hmf' : MatF rs' m n M) (hm1 : 1 ≤ m) (hn1 : 1 ≤ n) (hm : m ≤ 12) (hn : n ≤ 12) (henv : Env w) :
  Calls Tryz.prog 46 #[.slice A m c, .slice A' m c'] w fun e w' => e = .returned (.bool true) ∧ Below w.heap.size w w' := by
 have hb1 : Below w.heap.size w (w.alloc (.cells #[.slice A m c, .slice A' m c'] 27)) := (Below.refl _ _).alloc (Nat.le_refl _) _
 have HBG := Lib.hid (begin_two A A' rs rs' c c' n n m m w.heap.size _ (h.below hb1) (hmf.fine hm hn (fun e => by omega)) (h'.below hb1) (hmf'.fine hm hn (fun e => by omega)) hmf.len hmf'.len (Blk.new w 27 [.slice A m c, .slice A' m c']) (henv.below hb1))
 have HB1 := Lib.hid hb1
 have HEQ := Lib.hid (fun W (hW : Below w.heap.size w W) => EqF_same A A' rs rs' c c' m n M W (h.below hW) hmf (h'.below hW) hmf' hn1 hm hn)
 clear h hmf h' hmf' henv hb1
 go_enter Tryz.func46, Tryz.ntmps46
 go_wp2_with fail
 refine HBG.out.mono ?_
 rintro e w2 ⟨rfl, hb⟩
 have HB2 := Lib.hid (HB1.out.trans (hb.mono HB1.out.size))
 clear hb
 go_wp2_with fail
 refine (HEQ.out w2 HB2.out).mono ?_
 rintro e w3 ⟨rfl, hb⟩
 have HB3 := Lib.hid (HB2.out.trans (hb.mono HB2.out.size))
 clear hb
 go_wp2_with fail
 go_ret
 exact ⟨rfl, HB3.out⟩
end Go.Proofs.YtajlojhklhlljaaGreatDoor
