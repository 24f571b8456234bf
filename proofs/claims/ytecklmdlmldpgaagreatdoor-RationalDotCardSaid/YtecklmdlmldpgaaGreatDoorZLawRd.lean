/-
  The walk of RationalDot.
-/
import Derived.Test.YtecklmdlmldpgaaGreatDoorZLawRs
import Derived.Test.YtecklmdlmldpgaaGreatDoorZRtG
namespace Go.Proofs.YtecklmdlmldpgaaGreatDoor
open Go.RowKit

theorem DigR.one' : DigR 1 1 := ⟨by unfold Dig; decide, by unfold Dig; decide⟩
theorem getE {α : Type} {l : List α} {k : Nat} (h : k < l.length) : l.take (k + 1) = l.take k ++ [l[k]] := List.take_succ_eq_append_getElem h
theorem both_at {ys zs : List Rat} {bs : List ByteArray} {k : Nat} (h : (List.zipWith (· + ·) ys zs).map rstr = bs) (h1 : k < ys.length) (h2 : k < zs.length) : bs.take (k + 1) = bs.take k ++ [rstr (ys[k] + zs[k])] := by
  subst h
  rw [getE (by rw [List.length_map, List.length_zipWith]; omega), List.getElem_map, List.getElem_zipWith]
theorem ones_at (k : Nat) : List.replicate (k + 1) one1 = List.replicate k one1 ++ [one1] := List.replicate_succ'
/-- The texts of the second and the third list at one place, and the text of their sum. -/
theorem both_call {ys zs : List Rat} {ty tz bs : List ByteArray} {k : Nat} (hy : ys.map rstr = ty) (hz : zs.map rstr = tz) (hb : (List.zipWith (· + ·) ys zs).map rstr = bs) (h1 : k < ty.length) (h2 : k < tz.length) (dy : ∀ q ∈ ys, DigR 1 q) (dz : ∀ q ∈ zs, DigR 1 q) :
    ∃ s : ByteArray, bs.take (k + 1) = bs.take k ++ [s] ∧ ∀ W : World, Calls Tryz.prog 60 #[.string ty[k], .string tz[k]] W fun e w' => e = .returned (.tuple #[.string s, .int .i64 0]) ∧ Below W.heap.size W w' := by
  subst hy hz
  have k1 : k < ys.length := by rw [List.length_map] at h1; exact h1
  have k2 : k < zs.length := by rw [List.length_map] at h2; exact h2
  have d1 := dy _ (List.getElem_mem k1)
  have d2 := dz _ (List.getElem_mem k2)
  refine ⟨_, both_at hb k1 k2, fun W => ?_⟩
  rw [List.getElem_map, List.getElem_map]
  have h := RFAddT_ok ys[k] zs[k] W (d1.fits (by decide) (by decide)) (d2.fits (by decide) (by decide))
  have hf : FitsR (ys[k] + zs[k]) := (d1.add d2 rfl rfl).fits (by decide) (by decide)
  rw [outR_fits hf, outRE_fits hf] at h
  exact h

set_option maxRecDepth 100000 in
set_option maxHeartbeats 16000000 in
theorem RationalDot_any (A : Option Addr) (l cp : Nat) (kk : Int) (w : World) (h : Ints w A l) (hlc : l ≤ cp) (hl : l ≤ 9223372036854775807) (henv : Env w) :
    Calls Tryz.prog 14 #[.slice A l cp, .int .u8 kk] w fun e w' => e = .returned (.bool true) ∧ Below w.heap.size w w' := by
  obtain ⟨i0, hi, hy0, hy1, hy2⟩ := info_parts Tryz.infoRat
  have HE := Lib.hid henv
  have HI := Lib.hid h
  clear henv h
  go_enter Tryz.func14, Tryz.ntmps14
  go_wp2_with fail
  refine (New_any A l cp w HI.out hlc hl).mono ?_
  rintro e w3 ⟨rfl, hs, hb⟩
  obtain ⟨b, hbe⟩ : ∃ b, w.heap.size = b := ⟨_, rfl⟩
  have hsz2 : w.heap.size ≤ b := by omega
  have HS : Hid (Src w3 b) := by rw [← hbe]; exact Lib.hid hs
  have HB := Lib.hid hb
  have HUP := Lib.hid (fun (W W' : World) (hW : Below w.heap.size w W) (hg : W.grownBy W' (some b)) => below_above hW hsz2 hg)
  clear hs hb HI
  rw [hbe]
  go_wp2_with fail
  refine (N_any b 7 w3 HS.out (by decide) (by decide)).mono ?_
  rintro e w4 ⟨n, rfl, hn, hs, hg⟩
  replace HS := Lib.hid hs
  have hn7 : n < 7 := by omega
  clear hn
  replace HB := Lib.hid (HUP.out _ _ HB.out hg)
  clear hs hg
  go_wp2_with fail
  refine (Rats_any b n w4 HS.out (by omega)).mono ?_
  have HSL := Lib.hid HS.out.lt
  rintro e w5 ⟨vx, qx, rfl, hlx, hsx, hox, hs, hg⟩
  replace HS := Lib.hid hs
  obtain ⟨Ax, cx, rfl, hnx⟩ := StrN.of_own (b := b) hox HSL.out
  have hln : (qx.map rstr).length = n := by rw [List.length_map]; exact hlx
  obtain ⟨xs, hle⟩ : ∃ z, qx.map rstr = z := ⟨_, rfl⟩
  rw [hle] at hln hnx ⊢
  rw [hln]
  have Ex := Lib.hid hle
  have Lx := Lib.hid hln
  have Qx := Lib.hid hlx
  have Dx := Lib.hid (fun q (h : q ∈ qx) => (hsx q h).dig)
  have Hx := Lib.hid hnx
  replace HB := Lib.hid (HUP.out _ _ HB.out hg)
  clear hlx hsx hox hnx hln hle hs hg HSL
  go_wp2_with fail
  refine (Rats_any b n w5 HS.out (by omega)).mono ?_
  have HSL := Lib.hid HS.out.lt
  rintro e w6 ⟨vy, qy, rfl, hly, hsy, hoy, hs, hg⟩
  replace HS := Lib.hid hs
  obtain ⟨Ay, cy, rfl, hny⟩ := StrN.of_own (b := b) hoy HSL.out
  have hln : (qy.map rstr).length = n := by rw [List.length_map]; exact hly
  obtain ⟨ys, hle⟩ : ∃ z, qy.map rstr = z := ⟨_, rfl⟩
  rw [hle] at hln hny ⊢
  rw [hln]
  have Ey := Lib.hid hle
  have Ly := Lib.hid hln
  have Qy := Lib.hid hly
  have Dy := Lib.hid (fun q (h : q ∈ qy) => (hsy q h).dig)
  replace Hx := Lib.hid (show StrN b w6.heap.size w6 Ax xs from (Hx.out.grown (Nat.le_refl _) hg).more hg.size)
  have Hy := Lib.hid hny
  replace HB := Lib.hid (HUP.out _ _ HB.out hg)
  clear hly hsy hoy hny hln hle hs hg HSL
  go_wp2_with fail
  refine (Rats_any b n w6 HS.out (by omega)).mono ?_
  have HSL := Lib.hid HS.out.lt
  rintro e w7 ⟨vz, qz, rfl, hlz, hsz, hoz, hs, hg⟩
  replace HS := Lib.hid hs
  obtain ⟨Az, cz, rfl, hnz⟩ := StrN.of_own (b := b) hoz HSL.out
  have hln : (qz.map rstr).length = n := by rw [List.length_map]; exact hlz
  obtain ⟨zs, hle⟩ : ∃ z, qz.map rstr = z := ⟨_, rfl⟩
  rw [hle] at hln hnz ⊢
  rw [hln]
  have Ez := Lib.hid hle
  have Lz := Lib.hid hln
  have Qz := Lib.hid hlz
  have Dz := Lib.hid (fun q (h : q ∈ qz) => (hsz q h).dig)
  replace Hx := Lib.hid (show StrN b w7.heap.size w7 Ax xs from (Hx.out.grown (Nat.le_refl _) hg).more hg.size)
  replace Hy := Lib.hid (show StrN b w7.heap.size w7 Ay ys from (Hy.out.grown (Nat.le_refl _) hg).more hg.size)
  have Hz := Lib.hid hnz
  replace HB := Lib.hid (HUP.out _ _ HB.out hg)
  clear hlz hsz hoz hnz hln hle hs hg HSL
  obtain ⟨bs, hbs⟩ : ∃ z, (List.zipWith (· + ·) qy qz).map rstr = z := ⟨_, rfl⟩
  have hbl : bs.length = n := by rw [← hbs, List.length_map, List.length_zipWith, Qy.out, Qz.out]; omega
  have HBC := Lib.hid (fun k (h1 : k < ys.length) (h2 : k < zs.length) => both_call (k := k) Ey.out Ez.out hbs h1 h2 Dy.out Dz.out)
  obtain ⟨s, hse⟩ : ∃ z, rsum qx = z := ⟨_, rfl⟩
  obtain ⟨d, hde⟩ : ∃ z, rdot qx qy = z := ⟨_, rfl⟩
  obtain ⟨u, hue⟩ : ∃ z, rdot qz qx = z := ⟨_, rfl⟩
  have hdu : rdot qx (List.zipWith (· + ·) qy qz) = d + u := by rw [rdot_both qx qy qz (by rw [Qx.out, Qy.out]) (by rw [Qy.out, Qz.out]), hde, hue]
  have hon : rdot (List.replicate n 1) qx = s := by rw [← hse, ← Qx.out]; exact rdot_ones qx
  have hol : (List.replicate n (1 : Rat)).length = n := List.length_replicate
  have hod : ∀ q ∈ List.replicate n (1 : Rat), DigR 1 q := fun q hq => by rw [(List.mem_replicate.1 hq).2]; exact DigR.one'
  have hos : (List.replicate n (1 : Rat)).map rstr = List.replicate n one1 := by rw [List.map_replicate, one_rstr]
  have hbq : (List.zipWith (· + ·) qy qz).length = n := by rw [List.length_zipWith, Qy.out, Qz.out]; omega
  have C1 := Lib.hid (fun W hx hE => SumC (ss := xs) (s := s) Qx.out (by omega) Dx.out (by decide) (by decide) Ex.out hse Ax cx W hx hE)
  have C2 := Lib.hid (fun A1 c1 W h1 hx hE => DotC (s := s) hol Qx.out (by omega) hod Dx.out (by decide) (by decide) (by decide) hos Ex.out hon A1 Ax c1 cx W h1 hx hE)
  have C3 := Lib.hid (fun A2 c2 W hx h2 hE => DotC (s := d + u) Qx.out hbq (by omega) Dx.out (zip_add_mem Dy.out Dz.out) (by decide) (by decide) (by decide) Ex.out hbs hdu Ax A2 cx c2 W hx h2 hE)
  have C4 := Lib.hid (fun W hx hy hE => DotC (s := d) Qx.out Qy.out (by omega) Dx.out Dy.out (by decide) (by decide) (by decide) Ex.out Ey.out hde Ax Ay cx cy W hx hy hE)
  have C5 := Lib.hid (fun W hz hx hE => DotC (s := u) Qz.out Qx.out (by omega) Dz.out Dx.out (by decide) (by decide) (by decide) Ez.out Ex.out hue Az Ax cz cx W hz hx hE)
  have fd : FitsR d := by
    have hz := rsum_dig _ (zip_mul_mem Dx.out Dy.out)
    have hlz : (List.zipWith (· * ·) qx qy).length = n := by rw [List.length_zipWith, Qx.out, Qy.out]; omega
    rw [hlz] at hz
    rw [← hde]
    exact hz.fits (by omega) (by omega)
  have fu : FitsR u := by
    have hz := rsum_dig _ (zip_mul_mem Dz.out Dx.out)
    have hlz : (List.zipWith (· * ·) qz qx).length = n := by rw [List.length_zipWith, Qz.out, Qx.out]; omega
    rw [hlz] at hz
    rw [← hue]
    exact hz.fits (by omega) (by omega)
  have fp : FitsR (d + u) := by
    have hz := rsum_dig _ (zip_mul_mem Dx.out (zip_add_mem Dy.out Dz.out))
    have hlz : (List.zipWith (· * ·) qx (List.zipWith (· + ·) qy qz)).length = n := by rw [List.length_zipWith, Qx.out, hbq]; omega
    rw [hlz] at hz
    rw [← hdu]
    exact hz.fits (by omega) (by omega)
  have C6 := Lib.hid (fun W hE => RatAdd_fit d u (d + u) W rfl fd fu fp hE)
  clear fd fu fp hdu hon hol hod hos hbq hbs hse hde hue Ex Ey Ez Qx Qy Qz Dx Dy Dz HUP HS
  generalize rstr (d + u) = tp at *
  generalize rstr s = ts at *
  generalize rstr d = td at *
  generalize rstr u = tu at *
  have hww : w.heap.size ≤ w7.heap.size := HB.out.size
  go_wp2_with fail
  go_loopw [10, 11, 42] (fun v1 v2 kv wr => ∃ k : Nat, kv = .int .i64 (k : Int) ∧ k ≤ n ∧ TwoR wr w7.heap.size v1 v2 (List.replicate k one1) (bs.take k) ∧ Below w7.heap.size w7 wr) (fun _ _ kv _ => n - (intOf kv).toNat)
  case atStart => exact ⟨0, rfl, Nat.zero_le _, TwoR.nil _ _, Below.refl _ _⟩
  case round =>
    obtain ⟨k, rfl, hkn, htwo, hbw⟩ := hrel
    have H2 := Lib.hid htwo
    have HW := Lib.hid hbw
    have hsz := hbw.size
    clear htwo hbw
    by_cases hlt : k < n
    · have hly := Ly.out
      have hlz := Lz.out
      have hky : k < ys.length := by omega
      have hkz : k < zs.length := by omega
      obtain ⟨t, hbt, hadd⟩ := HBC.out k hky hkz
      obtain ⟨by_, oy, rfl, hby, hcy⟩ := Hy.out.1 (by intro e; subst e; simp at hky)
      obtain ⟨bz, oz, rfl, hbz, hcz⟩ := Hz.out.1 (by intro e; subst e; simp at hkz)
      have KB := Lib.hid (fun W (hW : Below w7.heap.size w7 W) => (⟨(hW.cell (p := ⟨by_, oy + k, none⟩) hby).trans (hcy k hky), (hW.cell (p := ⟨bz, oz + k, none⟩) hbz).trans (hcz k hkz)⟩ : CS2 W by_ (oy + k) bz (oz + k) ys[k] zs[k]))
      obtain ⟨sy, hsy⟩ : ∃ z, ys[k] = z := ⟨_, rfl⟩
      obtain ⟨sz, hsz'⟩ : ∃ z, zs[k] = z := ⟨_, rfl⟩
      rw [hsy, hsz'] at hadd KB
      have HA := Lib.hid hadd
      have BT := Lib.hid hbt
      have HO1 := Lib.hid H2.out.o1
      rw [List.length_replicate] at HO1
      clear hcy hcz hadd hbt hsy hsz' hby hbz hky hkz hly hlz
      have i1 : (0 : Int) ≤ (k : Int) := by omega
      have i2 : (k : Int) < (n : Int) := by omega
      go_wp2_with (at_builtin; refine wpList_append_own_at _ rfl _ _ 71 rfl w7.heap.size 26 i0 (.string ⟨#[]⟩) 1 16 Tryz.underlying71 hi hy0 hy1 hy2 rfl (by decide) _ _ _ rfl (HO1.out.alloc _) ⟨wr.heap.size, 0, none⟩ 1 1 [_] rfl rfl one_new one_str (by unfold maxLen; omega) (by omega) (by simp; omega) ?_)
      intro v3 w8 hown8 hgrow8 _ hat8
      have hown9 : w8.ownsRow w7.heap.size 26 1 v3 ((List.replicate k one1).length + 1) (sv (List.replicate k one1) ++ [.string one1]) := by rw [List.length_replicate]; exact hown8
      have hp := H2.out.push HW.out hown9 hgrow8 hat8
      rw [← ones_at] at hp
      replace H2 := Lib.hid hp.1
      replace HW := Lib.hid hp.2
      clear hown8 hown9 hgrow8 hat8 hp HO1
      have P0 : Hid (CS2 w8.drew by_ (oy + k) bz (oz + k) sy sz) := KB.out _ HW.out.drew
      go_wp2_with fail
      go_region_held3 (fun w' => CS2 w' by_ (oy + k) bz (oz + k) sy sz) (first | with_reducible exact P0.out | with_reducible exact P1.out | go_keep) (first | (go_at_call 60; (with_reducible refine (HA.out _).mono ?_); rintro e w9 ⟨rfl, hb⟩; have HL9 := Lib.hid (((Below.refl w8.heap.size w8).drew).trans hb); have HW9 := Lib.hid (HW.out.trans (HL9.out.mono HW.out.size)); have P1 := Lib.hid (KB.out _ HW9.out); have H29 := Lib.hid (H2.out.below HL9.out); clear hb))
      clear H2 HW P0 P1 HL9 KB HA
      have HO2 := Lib.hid H29.out.o2
      have hz9 := HW9.out.size
      have htk : (bs.take k).length = k := by rw [List.length_take]; omega
      rw [htk] at HO2
      go_wp2_with (at_builtin; refine wpList_append_own_at _ rfl _ _ 71 rfl w7.heap.size 26 i0 (.string ⟨#[]⟩) 1 16 Tryz.underlying71 hi hy0 hy1 hy2 rfl (by decide) _ _ _ rfl (HO2.out.alloc _) ⟨w9.heap.size, 0, none⟩ 1 1 [_] rfl rfl one_new one_str (by unfold maxLen; omega) (by omega) (by simp; omega) ?_)
      intro v4 w10 hown10 hgrow10 _ hat10
      have hown11 : w10.ownsRow w7.heap.size 26 1 v4 ((bs.take k).length + 1) (sv (bs.take k) ++ [.string t]) := by rw [htk]; exact hown10
      have hp := H29.out.symm.push HW9.out hown11 hgrow10 hat10
      rw [← BT.out] at hp
      have H2 := Lib.hid hp.1.symm
      have HW := Lib.hid hp.2
      clear hown10 hown11 hgrow10 hat10 hp HO2 H29 HW9 hz9 htk
      go_wp2_with fail
      go_roundw
      case rel => exact ⟨k + 1, by go_num, by omega, H2.out, HW.out⟩
      case measure => simp [intOf]; omega
    · obtain rfl : k = n := by omega
      clear HBC hlt
      obtain ⟨A1, c1, e1, -, s1, -⟩ := own_strs H2.out.o1
      obtain ⟨A2, c2, e2, -, s2, -⟩ := own_strs H2.out.o2
      rw [List.length_replicate] at e1
      rw [show bs.take k = bs from List.take_of_length_le (by omega)] at e2 s2
      rw [hbl] at e2
      subst e1 e2
      have HFV := Lib.hid (Five.mk (Hx.out.1.below HW.out) (Hy.out.1.below HW.out) (Hz.out.1.below HW.out) s1 s2)
      replace HB := Lib.hid (HB.out.trans (HW.out.mono HB.out.size))
      generalize List.replicate k one1 = os at *
      clear s1 s2 H2 HW Hx Hy Hz
      go_wp2_with fail
      refine (C1.out wr HFV.out.x (HE.out.below HB.out)).mono ?_
      rintro e w21 ⟨rfl, hb⟩
      replace HFV := Lib.hid (HFV.out.below hb)
      replace HB := Lib.hid (HB.out.trans (hb.mono HB.out.size))
      clear hb
      go_wp2_with fail
      refine (C2.out A1 c1 w21 HFV.out.r HFV.out.x (HE.out.below HB.out)).mono ?_
      rintro e w22 ⟨rfl, hb⟩
      replace HFV := Lib.hid (HFV.out.below hb)
      replace HB := Lib.hid (HB.out.trans (hb.mono HB.out.size))
      clear hb
      go_wp2_with fail
      refine (C3.out A2 c2 w22 HFV.out.x HFV.out.o (HE.out.below HB.out)).mono ?_
      rintro e w23 ⟨rfl, hb⟩
      replace HFV := Lib.hid (HFV.out.below hb)
      replace HB := Lib.hid (HB.out.trans (hb.mono HB.out.size))
      clear hb
      go_wp2_with fail
      refine (C4.out w23 HFV.out.x HFV.out.y (HE.out.below HB.out)).mono ?_
      rintro e w24 ⟨rfl, hb⟩
      replace HFV := Lib.hid (HFV.out.below hb)
      replace HB := Lib.hid (HB.out.trans (hb.mono HB.out.size))
      clear hb
      go_wp2_with fail
      refine (C5.out w24 HFV.out.z HFV.out.x (HE.out.below HB.out)).mono ?_
      rintro e w25 ⟨rfl, hb⟩
      replace HFV := Lib.hid (HFV.out.below hb)
      replace HB := Lib.hid (HB.out.trans (hb.mono HB.out.size))
      clear hb
      go_wp2_with fail
      refine (C6.out w25 (HE.out.below HB.out)).mono ?_
      rintro e w26 ⟨rfl, hb⟩
      replace HFV := Lib.hid (HFV.out.below hb)
      replace HB := Lib.hid (HB.out.trans (hb.mono HB.out.size))
      clear hb
      go_wp2_with fail
      refine (RSane w26 (HE.out.below HB.out)).mono ?_
      rintro e w27 ⟨rfl, hb⟩
      replace HFV := Lib.hid (HFV.out.below hb)
      replace HB := Lib.hid (HB.out.trans (hb.mono HB.out.size))
      clear hb
      go_wp2_with fail
      go_ret
      exact ⟨rfl, HB.out⟩

end Go.Proofs.YtecklmdlmldpgaaGreatDoor
