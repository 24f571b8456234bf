/-
  PROVED HERE: for every list of integers, every four texts and every int the law joinlearnlaw02.RationalExact returns true, and what came in reads behind the call as it read before ('card': the given statement RationalExactCardSaid).
  CONDITIONS: the package-level variables that the row lists read as the program's own text lays them (tied by the card). No other.
-/
import Derived.Test.YtecklmdlmldpgaaGreatDoorZV
import Derived.Test.YtecklmdlmldpgaaGreatDoorZLawRe
import Derived.ChangeMaps5
namespace Go.Proofs.YtecklmdlmldpgaaGreatDoor.rationalExact
open Go.ChangeShapes Go.WideShapes Go.ChangeAt Go.RowKit

set_option maxRecDepth 100000 in
theorem contract (H : Type) (enc : TypeId × Value → H) (W : World) (base : Nat) (args : Array Value) (ds gs : List (DataW H)) (before : List MemPlace)
    (hval : ∀ (j : Nat) t v, Tryz.f12.params[j]? = some t → args[j]? = some v → Value.okWide Tryz.prog W .any base t v)
    (hW : DataW.Whole enc Tryz.prog Tryz.f12.params.toList Rows.rationalExactSpec.vars false W args.toList ds gs before) (hE : Env W) :
    Calls Tryz.prog 12 args W fun e W' => ∃ v, e = .returned v ∧ Rows.rationalExactSpec.post enc Tryz.prog Tryz.f12 false true false false W args v W' := by
  have hW' := hW
  obtain ⟨p, q, hA0, hV, rfl, hfz, hnd⟩ := hW
  have hA : DataW.TrodAll enc Tryz.prog W 0 (fun _ => true) true Tryz.f12.params.toList args.toList ds p := hA0
  rw [Tryz.params12] at hA hval
  obtain ⟨v0, vs0, d0, ds0, p0, q0, hargs0, rfl, rfl, h0, r0⟩ := trodAll_cons hA
  obtain ⟨v1, vs1, d1, ds1, p1, q1, hargs1, rfl, rfl, h1, r1⟩ := trodAll_cons r0
  obtain ⟨v2, vs2, d2, ds2, p2, q2, hargs2, rfl, rfl, h2, r2⟩ := trodAll_cons r1
  obtain ⟨v3, vs3, d3, ds3, p3, q3, hargs3, rfl, rfl, h3, r3⟩ := trodAll_cons r2
  obtain ⟨v4, vs4, d4, ds4, p4, q4, hargs4, rfl, rfl, h4, r4⟩ := trodAll_cons r3
  obtain ⟨v5, vs5, d5, ds5, p5, q5, hargs5, rfl, rfl, h5, r5⟩ := trodAll_cons r4
  obtain ⟨rfl, rfl, rfl⟩ := trodAll_nil r5
  obtain rfl : args = #[v0, v1, v2, v3, v4, v5] := by cases args; simp_all
  obtain ⟨rfl, rfl⟩ := trodVars_none hV
  obtain ⟨A0, l0, c0, rfl, hI0, hlc0, hl0, hagain0⟩ := ints_in (hval 0 37 v0 rfl rfl) h0
  obtain ⟨s1, rfl, rfl, rfl, hs1⟩ := ChangeMaps.open_string Tryz.underlying26 (hval 1 26 v1 rfl rfl) h1
  obtain ⟨s2, rfl, rfl, rfl, hs2⟩ := ChangeMaps.open_string Tryz.underlying26 (hval 2 26 v2 rfl rfl) h2
  obtain ⟨s3, rfl, rfl, rfl, hs3⟩ := ChangeMaps.open_string Tryz.underlying22 (hval 3 22 v3 rfl rfl) h3
  obtain ⟨s4, rfl, rfl, rfl, hs4⟩ := ChangeMaps.open_string Tryz.underlying22 (hval 4 22 v4 rfl rfl) h4
  obtain ⟨n5, rfl, rfl, rfl, wn5⟩ := open_int Tryz.underlying3 (hval 5 3 v5 rfl rfl) h5
  have hn5 := int_wf wn5
  clear hA0
  simp only [List.append_nil] at hW'
  refine (RationalExact_any A0 l0 c0 W hI0 hlc0 hl0 hE s1 s2 s3 s4 hs1 hs2 hs3 hs4 n5 hn5.1 hn5.2).mono fun e W' ⟨he, hb⟩ => ?_
  subst he
  exact ⟨_, rfl, post_true hW' rfl rfl rfl rfl rfl hb (fun sp hsp => by
    show DataW.TrodAll enc Tryz.prog W' 0 sp true [37, 26, 26, 22, 22, 3] [.slice A0 l0 c0, .string s1, .string s2, .string s3, .string s4, .int .i64 n5] [d0, .lit (.string s1.data.toList), .lit (.string s2.data.toList), .lit (.string s3.data.toList), .lit (.string s4.data.toList), .lit (.int .i64 n5)] _
    exact ⟨p0, [], hagain0 W' hb sp (fun x hx => hsp x (by simp [hx])), ⟨[], [], ChangeMaps.shut_string Tryz.underlying26 hs1, ⟨[], [], ChangeMaps.shut_string Tryz.underlying26 hs2, ⟨[], [], ChangeMaps.shut_string Tryz.underlying22 hs3, ⟨[], [], ChangeMaps.shut_string Tryz.underlying22 hs4, ⟨[], [], shut_int Tryz.underlying3 wn5, rfl, by simp⟩, by simp⟩, by simp⟩, by simp⟩, by simp⟩, by simp⟩)⟩

theorem reads (os : Os) {H : Type} (enc : TypeId × Value → H) : ∃ places, DataW.whole enc Tryz.prog ((World.laidAll Tryz.prog os laidList).forCall (fun _ _ => 0) ⟨#[], #[.slice none 0 0, .string ⟨#[]⟩, .string ⟨#[]⟩, .string ⟨#[]⟩, .string ⟨#[]⟩, .int .i64 0], []⟩).memory Tryz.f12.params.toList Rows.rationalExactSpec.vars false #[Value.slice none 0 0, .string ⟨#[]⟩, .string ⟨#[]⟩, .string ⟨#[]⟩, .string ⟨#[]⟩, .int .i64 0].toList 8 = some ([.nil, .lit (.string []), .lit (.string []), .lit (.string []), .lit (.string []), .lit (.int .i64 0)], [], places) :=
  ⟨[], by kernel_rfl⟩

set_option maxRecDepth 100000 in
theorem lifted (os : Os) (started : os.Started) (H : Type) (enc : TypeId × Value → H) (F : Stop.Interp) :
    ReturnsInHanded {} Tryz.checked os 12 .any ((OpenSpec.ofChange Rows.rationalExactSpec).preRow enc Tryz.prog Tryz.f12 Rows.rationalExactRow.domain false Rows.rationalExactRow.laid) (((OpenSpec.ofChange Rows.rationalExactSpec).at F).post enc Tryz.prog Tryz.f12 false true false false) := by
  obtain ⟨places, hx⟩ := reads os enc
  refine returnsInHanded_of_row (C := Tryz.checked) (s := OpenSpec.ofChange Rows.rationalExactSpec) own started (by kernel_rfl) Tryz.func12
    (witness_row_atRef (enc := enc) (C := Tryz.checked) false (World.laidAll Tryz.prog os laidList) #[.slice none 0 0, .string ⟨#[]⟩, .string ⟨#[]⟩, .string ⟨#[]⟩, .string ⟨#[]⟩, .int .i64 0] (World.laidAll_os _ _ _) (by kernel_rfl) (by kernel_rfl) (by kernel_rfl)
      (OpenSpec.preRow_of_cond 8 hx (by kernel_rfl) (fun k hk => by cases hk) (by kernel_rfl) (laid_met os _))) ?_
  intro W base args ds gs before hval hW _ _ _ hL hSh _
  exact contract H enc W base args ds gs before hval hW (env_of hL hSh)

theorem k10 : (Rows.rationalExactRow.inPlace == Tryz.pinned.checked.prog.inPlace 12) = true := by kernel_rfl
theorem k11 : (Rows.rationalExactRow.unfollowed == Tryz.pinned.checked.prog.unfollowed 12) = true := by kernel_rfl
theorem k12 : (Rows.rationalExactRow.recurses == Tryz.pinned.checked.prog.recurses 12) = true := by kernel_rfl
theorem k13 : (Rows.rationalExactRow.named == Tryz.pinned.checked.prog.varsNamed 12) = true := by kernel_rfl
theorem closed : joinedFacts Tryz.pinned.checked.prog 12 Tryz.f12 (OpenSpec.ofChange Rows.rationalExactSpec).bare Rows.rationalExactRow = true := by
  unfold joinedFacts
  rw [k10, k11, k12, k13]
  kernel_rfl

theorem said : Rows.RationalExactSaid :=
  OpenClaim.holds_of_cond 12 Tryz.f12 rfl rfl rfl rfl rfl rfl rfl ⟨rfl, rfl, rfl, rfl, rfl⟩ rfl rfl rfl rfl rfl (by kernel_rfl) Tryz.func12 closed
    (of_decide_eq_true (by kernel_rfl)) (by unfold Func.isWrapper; first | (rw [if_pos (by decide +kernel)]; kernel_rfl) | (rw [if_neg (by decide +kernel)]; exact ⟨rfl, rfl⟩))
    (fun os started H enc _ F => by rw [OpenClaim.pre_eq_preRow]; exact lifted os started H enc F)

theorem plain (f : FuncId) (fn : Func) (hf : Tryz.pinned.checked.prog.funcNamed "joinlearn/joinlearnlaw02.RationalExact" = some f) (hfn : Tryz.pinned.checked.prog.funcs[f]? = some fn) :
    true = Tryz.pinned.checked.prog.looks [] ∧ ∀ (j : Nat) t, fn.params[j]? = some t → Tryz.pinned.checked.prog.wantsStandIn t = false := by
  obtain rfl : f = 12 := Option.some.inj ((show Tryz.prog.funcNamed "joinlearn/joinlearnlaw02.RationalExact" = some 12 by kernel_rfl).symm.trans hf) |>.symm
  obtain rfl : fn = Tryz.f12 := (Option.some.inj (Tryz.func12.symm.trans hfn)).symm
  refine ⟨by kernel_rfl, fun j t ht => ?_⟩
  rw [Tryz.params12] at ht
  obtain rfl | rfl | rfl | rfl : t = 37 ∨ t = 26 ∨ t = 22 ∨ t = 3 := by simpa using Array.mem_of_getElem? ht
  · exact (show Tryz.prog.wantsStandIn 37 = false by kernel_rfl)
  · exact (show Tryz.prog.wantsStandIn 26 = false by kernel_rfl)
  · exact (show Tryz.prog.wantsStandIn 22 = false by kernel_rfl)
  · exact (show Tryz.prog.wantsStandIn 3 = false by kernel_rfl)

theorem card : Rows.RationalExactCardSaid :=
  Claim7.holds_tied_plain_at .later [] _ _ _ _ said (fun _ h => by cases h) (by kernel_rfl) (fun _ h => by cases h) rationalExact_row_tie rfl ⟨rfl, rfl⟩ (by kernel_rfl) rfl plain (by kernel_rfl)
end Go.Proofs.YtecklmdlmldpgaaGreatDoor.rationalExact
