import Derived.Test.YtajlojhklhlljaaGreatDoorZQ
import Derived.Test.YtajlojhklhlljaaGreatDoorZE
set_option maxHeartbeats 16000000
set_option maxRecDepth 100000
namespace Go.Proofs.YtajlojhklhlljaaGreatDoor
open Go.RowKit
def Env (w : World) : Prop := Tab w ∧ ∃ m : Int, w.cell? ⟨0, 0, none⟩ = some (.int .i64 m)
theorem Env.tab {w : World} (h : Env w) : Tab w := h.1
theorem Env.below {w w' : World} (h : Env w) (hb : Below w.heap.size w w') : Env w' := by
 obtain ⟨h1, m, hm⟩ := h
 refine ⟨h1.below hb, m, ?_⟩
 rw [hb.cell (p := ⟨0, 0, none⟩)]
 ·exact hm
 ·show 0 < w.heap.size
  rcases Nat.lt_or_ge 0 w.heap.size with h | h
  ·exact h
  ·unfold World.cell? at hm
   rw [Array.getElem?_eq_none h] at hm
   simp at hm
def rstr (q : Rat) : ByteArray := ⟨(rtext q).toArray⟩
instance (q : Rat) : Decidable (FitsR q) := inferInstanceAs (Decidable (_ ∧ _))
def outR (q : Rat) : ByteArray := if FitsR q then rstr q else ⟨#[]⟩
def outRE (q : Rat) : Int := if FitsR q then 0 else 3
theorem outR_fits {q : Rat} (h : FitsR q) : outR q = rstr q := if_pos h
theorem outRE_fits {q : Rat} (h : FitsR q) : outRE q = 0 := if_pos h
theorem outR_not {q : Rat} (h : ¬ FitsR q) : outR q = ⟨#[]⟩ := if_neg h
theorem outRE_not {q : Rat} (h : ¬ FitsR q) : outRE q = 3 := if_neg h
theorem itoa_len {x : Int} (h : Fits x) : (Lib.itoa x).length ≤ 401 := by have := itoa_length x; unfold Fits at h; omega
theorem rtext_len {q : Rat} (h : FitsR q) : (rtext q).length ≤ 803 := by
 have h1 := itoa_len h.1
 have h2 := itoa_len h.2
 unfold rtext
 split
 ·omega
 ·simp; omega
theorem rstr_size (q : Rat) : (rstr q).size = (rtext q).length := by unfold rstr; simp [ByteArray.size]
theorem rstr_list (q : Rat) : (rstr q).data.toList = rtext q := by unfold rstr; simp
theorem rstr_parts {q : Rat} (h : q.den ≠ 1) : (str q.num ++ ⟨#[47]⟩) ++ str (q.den : Int) = rstr q := by
 unfold rstr str
 rw [rtext_parts h, show (⟨#[47]⟩ : ByteArray) = ⟨[47].toArray⟩ from rfl, ba_append, ba_append]
 simp
theorem rstr_whole {q : Rat} (h : q.den = 1) : rstr q = str q.num := by unfold rstr str; rw [rtext_whole h]
theorem Cut_any (l : List UInt8) (w : World) (hl : l.length < 4294967281) (he : Env w) :
  Calls Tryz.prog 179 #[.string ⟨l.toArray⟩, .string ⟨#[47]⟩] w fun e w' => e = .returned (.tuple #[.string ⟨(cutS l).1.toArray⟩, .string ⟨(cutS l).2.1.toArray⟩, .bool (cutS l).2.2]) ∧ Below w.heap.size w w' := by
 obtain ⟨_, m, hm⟩ := he
 have h := Tryz.strings_Cut ⟨l.toArray⟩ ⟨#[47]⟩ m w (by simpa [ByteArray.size] using hl) hm
 rw [show (⟨l.toArray⟩ : ByteArray).data.toList = l by simp, show (⟨#[47]⟩ : ByteArray).data.toList = [47] from rfl, cut_slash] at h
 refine h.mono ?_
 rintro e w' ⟨rfl, n, rfl⟩
 exact ⟨rfl, below_drewN (Below.refl _ _) _⟩
theorem Cut_whole {q : Rat} (h : q.den = 1) (hf : FitsR q) (w : World) (he : Env w) :
  Calls Tryz.prog 179 #[.string (rstr q), .string ⟨#[47]⟩] w fun e w' => e = .returned (.tuple #[.string (str q.num), .string ⟨#[]⟩, .bool false]) ∧ Below w.heap.size w w' := by
 have := Cut_any (rtext q) w (by have := rtext_len hf; omega) he
 rw [cut_whole h] at this
 exact this
theorem Cut_parts {q : Rat} (h : q.den ≠ 1) (hf : FitsR q) (w : World) (he : Env w) :
  Calls Tryz.prog 179 #[.string (rstr q), .string ⟨#[47]⟩] w fun e w' => e = .returned (.tuple #[.string (str q.num), .string (str (q.den : Int)), .bool true]) ∧ Below w.heap.size w w' := by
 have := Cut_any (rtext q) w (by have := rtext_len hf; omega) he
 rw [cut_parts h] at this
 exact this
theorem LRead_fits (x : Int) (w : World) (hf : Fits x) : Calls Tryz.prog 180 #[.string (str x)] w (RetNum w x) := Read_any x w (by unfold Fits at hf; omega)
theorem one_fits : Fits 1 := fits_small (by decide)
theorem LRead_one (w : World) : Calls Tryz.prog 180 #[.string ⟨#[49]⟩] w (RetNum w 1) := by
 have := LRead_fits 1 w one_fits
 rwa [str_1] at this
theorem FRead_ok (q : Rat) (w : World) (hf : FitsR q) (henv : Env w) : Calls Tryz.prog 101 #[.string (rstr q)] w (RetFrac w q) := by
 have HR0 := Lib.hid (Blk.new w 93 [.bool false, .slice none 0 0, .bool false, .slice none 0 0])
 have HBW : Hid (Below w.heap.size w (w.alloc (.cells #[.bool false, .slice none 0 0, .bool false, .slice none 0 0] 93))) := (Below.refl _ _).alloc (Nat.le_refl _) _
 have H1 := Lib.hid (fun W => LRead_fits q.num W hf.1)
 by_cases h : q.den = 1
 ·have HC := Lib.hid (fun W he => Cut_whole h hf W he)
  have H2 := Lib.hid LRead_one
  have ED : Hid ((1 : Int) = (q.den : Int)) := by rw [h]; rfl
  have HE := Lib.hid henv
  clear h hf henv
  go_enter Tryz.func101, Tryz.ntmps101
  go_wp2_with fail
  generalize w.alloc (.cells #[.bool false, .slice none 0 0, .bool false, .slice none 0 0] 93) = W at *
  refine (HC.out W (HE.out.below HBW.out)).mono ?_
  rintro e w1 ⟨rfl, hb⟩
  replace HR0 := Lib.hid (HR0.out.below hb)
  replace HBW := Lib.hid (HBW.out.trans (hb.mono HBW.out.size))
  clear hb
  go_wp2_with fail
  refine (H1.out w1).mono ?_
  rintro e w2 ⟨v2, rfl, hv2, hb⟩
  have HN := Lib.hid hv2
  obtain ⟨x2, X2, y2, z2, rfl⟩ := hv2.slice
  replace HR0 := Lib.hid (HR0.out.below hb)
  replace HBW := Lib.hid (HBW.out.trans (hb.mono HBW.out.size))
  clear hb hv2
  go_wp2_with fail
  refine (H2.out w2).mono ?_
  rintro e w3 ⟨v3, rfl, hv3, hb⟩
  have HD := Lib.hid hv3
  obtain ⟨x3, X3, y3, z3, rfl⟩ := hv3.slice
  replace HN := Lib.hid (HN.out.below hb)
  replace HR0 := Lib.hid (HR0.out.below hb)
  replace HBW := Lib.hid (HBW.out.trans (hb.mono HBW.out.size))
  have r0 := HR0.out.at_ (i := 0) rfl
  have r1 := HR0.out.at_ (i := 1) rfl
  have r2 := HR0.out.at_ (i := 2) rfl
  have r3 := HR0.out.at_ (i := 3) rfl
  have f0 := HR0.out.fr 0
  have f1 := HR0.out.fr 1
  have f2 := HR0.out.fr 2
  have f3 := HR0.out.fr 3
  clear hb hv3
  go_wp2_with fail
  refine bodyPost_ret (v := .agg #[.bool x2, .slice X2 y2 z2, .bool x3, .slice X3 y3 z3]) (by simp [results, Tryz.results101, go_sem, *]) rfl ?_
  exact frac_end HR0.out no_int4 HBW.out (Nat.le_refl _) (IsFrac.mk HN.out HD.out rfl ED.out) rfl
 ·have HC := Lib.hid (fun W he => Cut_parts h hf W he)
  have H2 := Lib.hid (fun W => LRead_fits (q.den : Int) W hf.2)
  have HE := Lib.hid henv
  clear h hf henv
  go_enter Tryz.func101, Tryz.ntmps101
  go_wp2_with fail
  generalize w.alloc (.cells #[.bool false, .slice none 0 0, .bool false, .slice none 0 0] 93) = W at *
  refine (HC.out W (HE.out.below HBW.out)).mono ?_
  rintro e w1 ⟨rfl, hb⟩
  replace HR0 := Lib.hid (HR0.out.below hb)
  replace HBW := Lib.hid (HBW.out.trans (hb.mono HBW.out.size))
  clear hb
  go_wp2_with fail
  refine (H1.out w1).mono ?_
  rintro e w2 ⟨v2, rfl, hv2, hb⟩
  have HN := Lib.hid hv2
  obtain ⟨x2, X2, y2, z2, rfl⟩ := hv2.slice
  replace HR0 := Lib.hid (HR0.out.below hb)
  replace HBW := Lib.hid (HBW.out.trans (hb.mono HBW.out.size))
  clear hb hv2
  go_wp2_with fail
  refine (H2.out w2).mono ?_
  rintro e w3 ⟨v3, rfl, hv3, hb⟩
  have HD := Lib.hid hv3
  obtain ⟨x3, X3, y3, z3, rfl⟩ := hv3.slice
  replace HN := Lib.hid (HN.out.below hb)
  replace HR0 := Lib.hid (HR0.out.below hb)
  replace HBW := Lib.hid (HBW.out.trans (hb.mono HBW.out.size))
  have r0 := HR0.out.at_ (i := 0) rfl
  have r1 := HR0.out.at_ (i := 1) rfl
  have r2 := HR0.out.at_ (i := 2) rfl
  have r3 := HR0.out.at_ (i := 3) rfl
  have f0 := HR0.out.fr 0
  have f1 := HR0.out.fr 1
  have f2 := HR0.out.fr 2
  have f3 := HR0.out.fr 3
  clear hb hv3
  go_wp2_with fail
  refine bodyPost_ret (v := .agg #[.bool x2, .slice X2 y2 z2, .bool x3, .slice X3 y3 z3]) (by simp [results, Tryz.results101, go_sem, *]) rfl ?_
  exact frac_end HR0.out no_int4 HBW.out (Nat.le_refl _) (IsFrac.mk HN.out HD.out rfl rfl) rfl
end Go.Proofs.YtajlojhklhlljaaGreatDoor
namespace Go.Proofs.YtajlojhklhlljaaGreatDoor
open Go.RowKit
theorem str_len {x : Int} (h : Fits x) : (str x).size ≤ 401 := by unfold str; simpa [ByteArray.size] using itoa_len h
theorem LString (u : Value) (x : Int) (w : World) (hx : IsNum w u x) (hlx : (limbs x.natAbs).length ≤ 10000000) (htab : Tab w) :
  Calls Tryz.prog 192 #[u] w fun e w' => e = .returned (.string (str x)) ∧ Below w.heap.size w w' := String_any u x w hx hlx htab
theorem FRat_any (u : Value) (a : Rat) (w : World) (ha : IsFrac w u a) (hf : FitsR a) (henv : Env w) :
  Calls Tryz.prog 130 #[u] w fun e w' => e = .returned (.string (rstr a)) ∧ Below w.heap.size w w' := by
 have sa := hf.sz
 have sda := sa.2
 have an := sa.n
 have ad := sa.d
 have z1 := str_len hf.1
 have z2 := str_len hf.2
 have HE := Lib.hid henv
 clear henv hf
 have HA := Lib.hid ha
 obtain ⟨na, nb, A, A', l, c, l', c', rfl, h1, h2⟩ := ha.open_
 have HAN := Lib.hid h1
 have HAD := Lib.hid h2
 clear ha h1 h2
 have HS1 := Lib.hid (fun U V (hV : IsNum V U a.num) (hE : Env V) => LString U a.num V hV (by omega) hE.tab)
 have HS2 := Lib.hid (fun U V (hV : IsNum V U (a.den : Int)) (hE : Env V) => LString U (a.den : Int) V hV (by omega) hE.tab)
 have HWA := Lib.hid (fun U V (hV : IsFrac V U a) => whole_any U a V hV (by omega))
 by_cases hw : a.den = 1
 ·have ew : wholeB a = true := decide_eq_true hw
  rw [ew] at HWA
  have EW := Lib.hid (rstr_whole hw)
  clear ew hw sa
  go_enter Tryz.func130, Tryz.ntmps130
  go_wp2_with fail
  have hHK := (Blk.new w 93 [.bool na, .slice A l c, .bool nb, .slice A' l' c'])
  have hB0 : Below w.heap.size w (w.alloc (.cells #[.bool na, .slice A l c, .bool nb, .slice A' l' c'] 93)) := (Below.refl _ _).alloc (Nat.le_refl _) _
  generalize w.alloc (.cells #[.bool na, .slice A l c, .bool nb, .slice A' l' c'] 93) = W at *
  have HK := Lib.hid hHK
  have HB := Lib.hid hB0
  clear hB0 hHK
  replace HE := Lib.hid (HE.out.below HB.out)
  replace HA := Lib.hid (HA.out.below HB.out)
  replace HAN := Lib.hid (HAN.out.below HB.out)
  replace HAD := Lib.hid (HAD.out.below HB.out)
  refine (HWA.out _ W HA.out).mono ?_
  rintro e w1 ⟨rfl, hb⟩
  clear HA
  replace HK := Lib.hid (HK.out.below hb)
  replace HE := Lib.hid (HE.out.below hb)
  replace HAN := Lib.hid (HAN.out.below hb)
  replace HAD := Lib.hid (HAD.out.below hb)
  replace HB := Lib.hid (HB.out.trans (hb.mono HB.out.size))
  clear hb
  have k0 := HK.out.at_ (i := 0) rfl
  have k1 := HK.out.at_ (i := 1) rfl
  have k2 := HK.out.at_ (i := 2) rfl
  have k3 := HK.out.at_ (i := 3) rfl
  go_wp2_with fail
  refine (HS1.out _ w1 HAN.out HE.out).mono ?_
  rintro e w2 ⟨rfl, hb⟩
  replace HK := Lib.hid (HK.out.below hb)
  replace HE := Lib.hid (HE.out.below hb)
  replace HAN := Lib.hid (HAN.out.below hb)
  replace HAD := Lib.hid (HAD.out.below hb)
  replace HB := Lib.hid (HB.out.trans (hb.mono HB.out.size))
  clear hb k0 k1 k2 k3
  have k0 := HK.out.at_ (i := 0) rfl
  have k1 := HK.out.at_ (i := 1) rfl
  have k2 := HK.out.at_ (i := 2) rfl
  have k3 := HK.out.at_ (i := 3) rfl
  go_wp2_with fail
  go_ret
  exact ⟨by rw [EW.out]; rfl, HB.out⟩
 ·have ew : wholeB a = false := decide_eq_false hw
  rw [ew] at HWA
  have EW := Lib.hid (rstr_parts hw)
  clear ew hw sa
  generalize str a.num = s1 at *
  generalize str (a.den : Int) = s2 at *
  have q1 : ¬ (9223372036854775807 < s1.size + 1) := by omega
  have q1' : ¬ (9223372036854775807 ≤ s1.size) := by omega
  have q2 : ¬ (9223372036854775807 < s1.size + 1 + s2.size) := by omega
  go_enter Tryz.func130, Tryz.ntmps130
  go_wp2_with fail
  have hHK := (Blk.new w 93 [.bool na, .slice A l c, .bool nb, .slice A' l' c'])
  have hB0 : Below w.heap.size w (w.alloc (.cells #[.bool na, .slice A l c, .bool nb, .slice A' l' c'] 93)) := (Below.refl _ _).alloc (Nat.le_refl _) _
  generalize w.alloc (.cells #[.bool na, .slice A l c, .bool nb, .slice A' l' c'] 93) = W at *
  have HK := Lib.hid hHK
  have HB := Lib.hid hB0
  clear hB0 hHK
  replace HE := Lib.hid (HE.out.below HB.out)
  replace HA := Lib.hid (HA.out.below HB.out)
  replace HAN := Lib.hid (HAN.out.below HB.out)
  replace HAD := Lib.hid (HAD.out.below HB.out)
  refine (HWA.out _ W HA.out).mono ?_
  rintro e w1 ⟨rfl, hb⟩
  clear HA
  replace HK := Lib.hid (HK.out.below hb)
  replace HE := Lib.hid (HE.out.below hb)
  replace HAN := Lib.hid (HAN.out.below hb)
  replace HAD := Lib.hid (HAD.out.below hb)
  replace HB := Lib.hid (HB.out.trans (hb.mono HB.out.size))
  clear hb
  have k0 := HK.out.at_ (i := 0) rfl
  have k1 := HK.out.at_ (i := 1) rfl
  have k2 := HK.out.at_ (i := 2) rfl
  have k3 := HK.out.at_ (i := 3) rfl
  clear HWA
  go_wp2_with fail
  have P0 := Lib.hid (Blk.c4 HK.out.drew)
  have HED : Hid (∀ V : World, Env V → Env V.drew) := fun V h => h
  go_region_held3 (fun w' => C4 w' w.heap.size (.bool na) (.slice A l c) (.bool nb) (.slice A' l' c')) (first | with_reducible exact P0.out | with_reducible exact P5.out | with_reducible exact P6.out | go_keep) (first | (go_at_call 192; (with_reducible refine (HS2.out _ _ HAD5.out HE5.out).mono ?_); rintro e w6 ⟨rfl, hb⟩; have HK6 := Lib.hid (HK5.out.below hb); have HE6 := Lib.hid (HE5.out.below hb); have HAN6 := Lib.hid (HAN5.out.below hb); have HAD6 := Lib.hid (HAD5.out.below hb); have HB6 := Lib.hid (HB5.out.trans (hb.mono HB5.out.size)); have P6 := Lib.hid (Blk.c4 HK6.out); clear hb) | (go_at_call 192; (with_reducible refine (HS1.out _ _ HAN.out.drew (HED.out _ HE.out)).mono ?_); rintro e w5 ⟨rfl, hb⟩; have HK5 := Lib.hid (HK.out.drew.below hb); have HE5 := Lib.hid ((HED.out _ HE.out).below hb); have HAN5 := Lib.hid (HAN.out.drew.below hb); have HAD5 := Lib.hid (HAD.out.drew.below hb); have HB5 := Lib.hid (HB.out.drew.trans (hb.mono HB.out.size)); have P5 := Lib.hid (Blk.c4 HK5.out); clear hb))
  go_wp2_with fail
  go_ret
  exact ⟨by rw [← EW.out]; rfl, HB6.out⟩
theorem FFits_any (u : Value) (a : Rat) (w : World) (ha : IsFrac w u a) (sa : Sz 5000000 a) (henv : Env w) :
  Calls Tryz.prog 80 #[u] w fun e w' => e = .returned (.tuple #[.string (outR a), .int .i64 (outRE a)]) ∧ Below w.heap.size w w' := by
 have an := sa.n
 have ad := sa.d
 have HE := Lib.hid henv
 clear henv
 have HA := Lib.hid ha
 obtain ⟨na, nb, A, A', l, c, l', c', rfl, h1, h2⟩ := ha.open_
 have HAN := Lib.hid h1
 have HAD := Lib.hid h2
 clear ha h1 h2
 have HD1 := Lib.hid (fun U V (hV : IsNum V U a.num) (hE : Env V) => Digits_any U a.num V hV (by omega) hE.tab)
 have HD2 := Lib.hid (fun U V (hV : IsNum V U (a.den : Int)) (hE : Env V) => Digits_any U (a.den : Int) V hV (by omega) hE.tab)
 have F1 : Fits a.num ↔ Lib.nDigits a.num.natAbs ≤ 400 := by unfold Fits; rw [Lib.decDigits_length]
 have F2 : Fits (a.den : Int) ↔ Lib.nDigits ((a.den : Int)).natAbs ≤ 400 := by unfold Fits; rw [Lib.decDigits_length]
 have HR := Lib.hid (fun U V (hV : IsFrac V U a) (hf : FitsR a) (hE : Env V) => FRat_any U a V hV hf hE)
 have F3 : FitsR a ↔ Fits a.num ∧ Fits (a.den : Int) := Iff.rfl
 generalize Lib.nDigits a.num.natAbs = k1 at *
 generalize Lib.nDigits ((a.den : Int)).natAbs = k2 at *
 by_cases h1 : k1 ≤ 400
 ·have g1 : decide ((k1 : Int) > 400) = false := decide_eq_false (by omega)
  have g1' : ¬ (400 < k1) := by omega
  by_cases h2 : k2 ≤ 400
  ·have HF : Hid (FitsR a) := ⟨F1.2 h1, F2.2 h2⟩
   have E1 := Lib.hid (outR_fits HF.out)
   have E2 := Lib.hid (outRE_fits HF.out)
   have g2 : ¬ (400 < k2) := by omega
   clear F1 F2 F3 h1 h2
   go_enter Tryz.func80, Tryz.ntmps80
   go_wp2_with fail
   have hHK := (Blk.new w 93 [.bool na, .slice A l c, .bool nb, .slice A' l' c'])
   have hB0 : Below w.heap.size w (w.alloc (.cells #[.bool na, .slice A l c, .bool nb, .slice A' l' c'] 93)) := (Below.refl _ _).alloc (Nat.le_refl _) _
   generalize w.alloc (.cells #[.bool na, .slice A l c, .bool nb, .slice A' l' c'] 93) = W at *
   have HK := Lib.hid hHK
   have HB := Lib.hid hB0
   clear hB0 hHK
   replace HE := Lib.hid (HE.out.below HB.out)
   replace HA := Lib.hid (HA.out.below HB.out)
   replace HAN := Lib.hid (HAN.out.below HB.out)
   replace HAD := Lib.hid (HAD.out.below HB.out)
   refine (HD1.out _ W HAN.out HE.out).mono ?_
   rintro e w1 ⟨rfl, hb⟩
   replace HK := Lib.hid (HK.out.below hb)
   replace HE := Lib.hid (HE.out.below hb)
   replace HA := Lib.hid (HA.out.below hb)
   replace HAN := Lib.hid (HAN.out.below hb)
   replace HAD := Lib.hid (HAD.out.below hb)
   replace HB := Lib.hid (HB.out.trans (hb.mono HB.out.size))
   clear hb
   have k0 := HK.out.at_ (i := 0) rfl
   have k1 := HK.out.at_ (i := 1) rfl
   have k2 := HK.out.at_ (i := 2) rfl
   have k3 := HK.out.at_ (i := 3) rfl
   go_wp2_with fail
   refine (HD2.out _ w1 HAD.out HE.out).mono ?_
   rintro e w2 ⟨rfl, hb⟩
   replace HK := Lib.hid (HK.out.below hb)
   replace HE := Lib.hid (HE.out.below hb)
   replace HA := Lib.hid (HA.out.below hb)
   replace HAN := Lib.hid (HAN.out.below hb)
   replace HAD := Lib.hid (HAD.out.below hb)
   replace HB := Lib.hid (HB.out.trans (hb.mono HB.out.size))
   clear hb k0 k1 k2 k3
   have k0 := HK.out.at_ (i := 0) rfl
   have k1 := HK.out.at_ (i := 1) rfl
   have k2 := HK.out.at_ (i := 2) rfl
   have k3 := HK.out.at_ (i := 3) rfl
   go_wp2_with fail
   refine (HR.out _ w2 HA.out HF.out HE.out).mono ?_
   rintro e w3 ⟨rfl, hb⟩
   replace HK := Lib.hid (HK.out.below hb)
   replace HE := Lib.hid (HE.out.below hb)
   replace HA := Lib.hid (HA.out.below hb)
   replace HAN := Lib.hid (HAN.out.below hb)
   replace HAD := Lib.hid (HAD.out.below hb)
   replace HB := Lib.hid (HB.out.trans (hb.mono HB.out.size))
   clear hb k0 k1 k2 k3
   have k0 := HK.out.at_ (i := 0) rfl
   have k1 := HK.out.at_ (i := 1) rfl
   have k2 := HK.out.at_ (i := 2) rfl
   have k3 := HK.out.at_ (i := 3) rfl
   go_wp2_with fail
   go_ret2
   exact ⟨by rw [E1.out, E2.out]; rfl, HB.out⟩
  ·have HF : Hid (¬ FitsR a) := fun h => h2 (F2.1 h.2)
   have E1 := Lib.hid (outR_not HF.out)
   have E2 := Lib.hid (outRE_not HF.out)
   have g2 : 400 < k2 := by omega
   clear F1 F2 F3 h1 h2
   go_enter Tryz.func80, Tryz.ntmps80
   go_wp2_with fail
   have hHK := (Blk.new w 93 [.bool na, .slice A l c, .bool nb, .slice A' l' c'])
   have hB0 : Below w.heap.size w (w.alloc (.cells #[.bool na, .slice A l c, .bool nb, .slice A' l' c'] 93)) := (Below.refl _ _).alloc (Nat.le_refl _) _
   generalize w.alloc (.cells #[.bool na, .slice A l c, .bool nb, .slice A' l' c'] 93) = W at *
   have HK := Lib.hid hHK
   have HB := Lib.hid hB0
   clear hB0 hHK
   replace HE := Lib.hid (HE.out.below HB.out)
   replace HA := Lib.hid (HA.out.below HB.out)
   replace HAN := Lib.hid (HAN.out.below HB.out)
   replace HAD := Lib.hid (HAD.out.below HB.out)
   refine (HD1.out _ W HAN.out HE.out).mono ?_
   rintro e w1 ⟨rfl, hb⟩
   replace HK := Lib.hid (HK.out.below hb)
   replace HE := Lib.hid (HE.out.below hb)
   replace HA := Lib.hid (HA.out.below hb)
   replace HAN := Lib.hid (HAN.out.below hb)
   replace HAD := Lib.hid (HAD.out.below hb)
   replace HB := Lib.hid (HB.out.trans (hb.mono HB.out.size))
   clear hb
   have k0 := HK.out.at_ (i := 0) rfl
   have k1 := HK.out.at_ (i := 1) rfl
   have k2 := HK.out.at_ (i := 2) rfl
   have k3 := HK.out.at_ (i := 3) rfl
   go_wp2_with fail
   refine (HD2.out _ w1 HAD.out HE.out).mono ?_
   rintro e w2 ⟨rfl, hb⟩
   replace HK := Lib.hid (HK.out.below hb)
   replace HE := Lib.hid (HE.out.below hb)
   replace HA := Lib.hid (HA.out.below hb)
   replace HAN := Lib.hid (HAN.out.below hb)
   replace HAD := Lib.hid (HAD.out.below hb)
   replace HB := Lib.hid (HB.out.trans (hb.mono HB.out.size))
   clear hb k0 k1 k2 k3
   have k0 := HK.out.at_ (i := 0) rfl
   have k1 := HK.out.at_ (i := 1) rfl
   have k2 := HK.out.at_ (i := 2) rfl
   have k3 := HK.out.at_ (i := 3) rfl
   go_wp2_with fail
   go_ret2
   exact ⟨by rw [E1.out, E2.out]; rfl, HB.out⟩
 ·have HF : Hid (¬ FitsR a) := fun h => h1 (F1.1 h.1)
  have E1 := Lib.hid (outR_not HF.out)
  have E2 := Lib.hid (outRE_not HF.out)
  have g2 : 400 < k1 := by omega
  clear F1 F2 F3 h1
  go_enter Tryz.func80, Tryz.ntmps80
  go_wp2_with fail
  have hHK := (Blk.new w 93 [.bool na, .slice A l c, .bool nb, .slice A' l' c'])
  have hB0 : Below w.heap.size w (w.alloc (.cells #[.bool na, .slice A l c, .bool nb, .slice A' l' c'] 93)) := (Below.refl _ _).alloc (Nat.le_refl _) _
  generalize w.alloc (.cells #[.bool na, .slice A l c, .bool nb, .slice A' l' c'] 93) = W at *
  have HK := Lib.hid hHK
  have HB := Lib.hid hB0
  clear hB0 hHK
  replace HE := Lib.hid (HE.out.below HB.out)
  replace HA := Lib.hid (HA.out.below HB.out)
  replace HAN := Lib.hid (HAN.out.below HB.out)
  replace HAD := Lib.hid (HAD.out.below HB.out)
  refine (HD1.out _ W HAN.out HE.out).mono ?_
  rintro e w1 ⟨rfl, hb⟩
  replace HK := Lib.hid (HK.out.below hb)
  replace HE := Lib.hid (HE.out.below hb)
  replace HA := Lib.hid (HA.out.below hb)
  replace HAN := Lib.hid (HAN.out.below hb)
  replace HAD := Lib.hid (HAD.out.below hb)
  replace HB := Lib.hid (HB.out.trans (hb.mono HB.out.size))
  clear hb
  have k0 := HK.out.at_ (i := 0) rfl
  have k1 := HK.out.at_ (i := 1) rfl
  have k2 := HK.out.at_ (i := 2) rfl
  have k3 := HK.out.at_ (i := 3) rfl
  go_wp2_with fail
  go_ret2
  exact ⟨by rw [E1.out, E2.out]; rfl, HB.out⟩
theorem FOf_any (n : Nat) (w : World) (hn : n < 9223372036854775808) : Calls Tryz.prog 96 #[.int .i64 (n : Int)] w (RetFrac w ((n : Int) : Rat)) := by
 go_enter Tryz.func96, Tryz.ntmps96
 go_wp2_with fail
 have hHR := (Blk.new w 93 [.bool false, .slice none 0 0, .bool false, .slice none 0 0])
 have hB0 : Below w.heap.size w (w.alloc (.cells #[.bool false, .slice none 0 0, .bool false, .slice none 0 0] 93)) := (Below.refl _ _).alloc (Nat.le_refl _) _
 generalize w.alloc (.cells #[.bool false, .slice none 0 0, .bool false, .slice none 0 0] 93) = W at *
 have HR := Lib.hid hHR
 have HB := Lib.hid hB0
 clear hB0 hHR
 refine (LOf_any n W hn).mono ?_
 rintro e w1 ⟨v1, rfl, hv, hb⟩
 replace HR := Lib.hid (HR.out.below hb)
 have HN := Lib.hid hv
 obtain ⟨x1, X1, y1, z1, rfl⟩ := hv.slice
 replace HB := Lib.hid (HB.out.trans (hb.mono HB.out.size))
 clear hb hv
 go_wp2_with fail
 refine (FWhole_any _ _ w1 HN.out).mono ?_
 rintro e w2 ⟨v2, rfl, hv, hb⟩
 replace HR := Lib.hid (HR.out.below hb)
 replace HN := Lib.hid (HN.out.below hb)
 have HF := Lib.hid hv
 obtain ⟨x2, x2', X2, X2', y2, z2, y2', z2', rfl⟩ := hv.slice
 replace HB := Lib.hid (HB.out.trans (hb.mono HB.out.size))
 clear hb hv
 have r0 := HR.out.at_ (i := 0) rfl
 have r1 := HR.out.at_ (i := 1) rfl
 have r2 := HR.out.at_ (i := 2) rfl
 have r3 := HR.out.at_ (i := 3) rfl
 have fr0 := HR.out.fr 0
 have fr1 := HR.out.fr 1
 have fr2 := HR.out.fr 2
 have fr3 := HR.out.fr 3
 go_wp2_with fail
 refine bodyPost_ret (v := .agg #[.bool x2, .slice X2 y2 z2, .bool x2', .slice X2' y2' z2']) (by simp [results, Tryz.results96, go_sem, *]) rfl ?_
 exact frac_end HR.out no_int4 HB.out (Nat.le_refl _) HF.out rfl
end Go.Proofs.YtajlojhklhlljaaGreatDoor
