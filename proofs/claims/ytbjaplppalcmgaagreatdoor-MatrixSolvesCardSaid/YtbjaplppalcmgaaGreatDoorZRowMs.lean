/-
  PROVED HERE: for every list of integers, every list of lists of texts and every list of texts the law joinlearnlaw03.MatrixSolves returns true, and what came in reads behind the call as it read before ('card': the given statement MatrixSolvesCardSaid).
  CONDITIONS: the package-level variables that the row lists read as the program's own text lays them (tied by the card). No other.
-/
import Derived.Test.YtbjaplppalcmgaaGreatDoorZOZ
import Derived.Test.YtbjaplppalcmgaaGreatDoorZLawMs
import Derived.ChangeMaps5
namespace Go.Proofs.YtbjaplppalcmgaaGreatDoor.matrixSolves
open Go.ChangeShapes Go.WideShapes Go.ChangeAt Go.RowKit

set_option maxRecDepth 100000 in
theorem contract (H : Type) (enc : TypeId × Value → H) (W : World) (base : Nat) (args : Array Value) (ds gs : List (DataW H)) (before : List MemPlace)
    (hval : ∀ (j : Nat) t v, Tryz.f3.params[j]? = some t → args[j]? = some v → Value.okWide Tryz.prog W .any base t v)
    (hW : DataW.Whole enc Tryz.prog Tryz.f3.params.toList Rows.matrixSolvesSpec.vars false W args.toList ds gs before) (hE : Env W) :
    Calls Tryz.prog 3 args W fun e W' => ∃ v, e = .returned v ∧ Rows.matrixSolvesSpec.post enc Tryz.prog Tryz.f3 false true false false W args v W' := by
  have hW' := hW
  obtain ⟨p, q, hA0, hV, rfl, hfz, hnd⟩ := hW
  have hA : DataW.TrodAll enc Tryz.prog W 0 (fun _ => true) true Tryz.f3.params.toList args.toList ds p := hA0
  rw [Tryz.params3] at hA hval
  obtain ⟨v0, vs0, d0, ds0, p0, q0, hargs0, rfl, rfl, h0, r0⟩ := trodAll_cons hA
  obtain ⟨v1, vs1, d1, ds1, p1, q1, hargs1, rfl, rfl, h1, r1⟩ := trodAll_cons r0
  obtain ⟨v2, vs2, d2, ds2, p2, q2, hargs2, rfl, rfl, h2, r2⟩ := trodAll_cons r1
  obtain ⟨rfl, rfl, rfl⟩ := trodAll_nil r2
  obtain rfl : args = #[v0, v1, v2] := by cases args; simp_all
  obtain ⟨rfl, rfl⟩ := trodVars_none hV
  obtain ⟨A0, l0, c0, rfl, hI0, hlc0, hl0, hagain0⟩ := ints_in (hval 0 22 v0 rfl rfl) h0
  obtain ⟨A1, rs1, c1, rfl, hM1, hL1, hN1, hZ1, hagain1⟩ := mat_in (hval 1 24 v1 rfl rfl) h1
  obtain ⟨A2, ss2, c2, rfl, hS2, hL2, hZ2, hagain2⟩ := strs_in (hval 2 25 v2 rfl rfl) h2
  clear hA0
  simp only [List.append_nil] at hW'
  refine (MatrixSolves_any A0 l0 c0 W hI0 hlc0 hl0 hE A1 A2 rs1 ss2 c1 c2 hM1 hL1 hN1 hZ1 hS2 hL2 hZ2).mono fun e W' ⟨he, hb⟩ => ?_
  subst he
  exact ⟨_, rfl, post_true hW' rfl rfl rfl rfl rfl hb (fun sp hsp => by
    show DataW.TrodAll enc Tryz.prog W' 0 sp true [22, 24, 25] [.slice A0 l0 c0, .slice A1 rs1.length c1, .slice A2 ss2.length c2] [d0, d1, d2] _
    exact ⟨p0, p1 ++ p2, hagain0 W' hb sp (fun x hx => hsp x (by simp [hx])), ⟨p1, p2, hagain1 W' hb sp (fun x hx => hsp x (by simp [hx])), ⟨p2, [], hagain2 W' hb sp (fun x hx => hsp x (by simp [hx])), rfl, by simp⟩, by simp⟩, by simp⟩)⟩

theorem reads (os : Os) {H : Type} (enc : TypeId × Value → H) : ∃ places, DataW.whole enc Tryz.prog ((World.laidAll Tryz.prog os laidList).forCall (fun _ _ => 0) ⟨#[], #[.slice none 0 0, .slice none 0 0, .slice none 0 0], []⟩).memory Tryz.f3.params.toList Rows.matrixSolvesSpec.vars false #[Value.slice none 0 0, .slice none 0 0, .slice none 0 0].toList 8 = some ([.nil, .nil, .nil], [], places) :=
  ⟨[], by kernel_rfl⟩

set_option maxRecDepth 100000 in
theorem lifted (os : Os) (started : os.Started) (H : Type) (enc : TypeId × Value → H) (F : Stop.Interp) :
    ReturnsInHanded {} Tryz.checked os 3 .any ((OpenSpec.ofChange Rows.matrixSolvesSpec).preRow enc Tryz.prog Tryz.f3 Rows.matrixSolvesRow.domain false Rows.matrixSolvesRow.laid) (((OpenSpec.ofChange Rows.matrixSolvesSpec).at F).post enc Tryz.prog Tryz.f3 false true false false) := by
  obtain ⟨places, hx⟩ := reads os enc
  refine returnsInHanded_of_row (C := Tryz.checked) (s := OpenSpec.ofChange Rows.matrixSolvesSpec) own started (by kernel_rfl) Tryz.func3
    (witness_row_atRef (enc := enc) (C := Tryz.checked) false (World.laidAll Tryz.prog os laidList) #[.slice none 0 0, .slice none 0 0, .slice none 0 0] (World.laidAll_os _ _ _) (by kernel_rfl) (by kernel_rfl) (by kernel_rfl)
      (OpenSpec.preRow_of_cond 8 hx (by kernel_rfl) (fun k hk => by cases hk) (by kernel_rfl) (laid_met os _))) ?_
  intro W base args ds gs before hval hW _ _ _ hL hSh _
  exact contract H enc W base args ds gs before hval hW (env_of hL hSh)

theorem k10 : (Rows.matrixSolvesRow.inPlace == Tryz.pinned.checked.prog.inPlace 3) = true := by kernel_rfl
theorem k11 : (Rows.matrixSolvesRow.unfollowed == Tryz.pinned.checked.prog.unfollowed 3) = true := by kernel_rfl
theorem k12 : (Rows.matrixSolvesRow.recurses == Tryz.pinned.checked.prog.recurses 3) = true := by kernel_rfl
theorem k13 : (Rows.matrixSolvesRow.named == Tryz.pinned.checked.prog.varsNamed 3) = true := by kernel_rfl
theorem closed : joinedFacts Tryz.pinned.checked.prog 3 Tryz.f3 (OpenSpec.ofChange Rows.matrixSolvesSpec).bare Rows.matrixSolvesRow = true := by
  unfold joinedFacts
  rw [k10, k11, k12, k13]
  kernel_rfl

theorem said : Rows.MatrixSolvesSaid :=
  OpenClaim.holds_of_cond 3 Tryz.f3 rfl rfl rfl rfl rfl rfl rfl ⟨rfl, rfl, rfl, rfl, rfl⟩ rfl rfl rfl rfl rfl (by kernel_rfl) Tryz.func3 closed
    (of_decide_eq_true (by kernel_rfl)) (by unfold Func.isWrapper; first | (rw [if_pos (by decide +kernel)]; kernel_rfl) | (rw [if_neg (by decide +kernel)]; exact ⟨rfl, rfl⟩))
    (fun os started H enc _ F => by rw [OpenClaim.pre_eq_preRow]; exact lifted os started H enc F)

theorem plain (f : FuncId) (fn : Func) (hf : Tryz.pinned.checked.prog.funcNamed "joinlearn/joinlearnlaw03.MatrixSolves" = some f) (hfn : Tryz.pinned.checked.prog.funcs[f]? = some fn) :
    true = Tryz.pinned.checked.prog.looks [] ∧ ∀ (j : Nat) t, fn.params[j]? = some t → Tryz.pinned.checked.prog.wantsStandIn t = false := by
  obtain rfl : f = 3 := Option.some.inj ((show Tryz.prog.funcNamed "joinlearn/joinlearnlaw03.MatrixSolves" = some 3 by kernel_rfl).symm.trans hf) |>.symm
  obtain rfl : fn = Tryz.f3 := (Option.some.inj (Tryz.func3.symm.trans hfn)).symm
  refine ⟨by kernel_rfl, fun j t ht => ?_⟩
  rw [Tryz.params3] at ht
  obtain rfl | rfl | rfl : t = 22 ∨ t = 24 ∨ t = 25 := by simpa using Array.mem_of_getElem? ht
  · exact (show Tryz.prog.wantsStandIn 22 = false by kernel_rfl)
  · exact (show Tryz.prog.wantsStandIn 24 = false by kernel_rfl)
  · exact (show Tryz.prog.wantsStandIn 25 = false by kernel_rfl)

theorem main : Tryz.pinned.checked.prog.mainIs = some (Rows.matrixSolvesCard.stood.harness.1, Rows.matrixSolvesCard.stood.harness.2.toList) := by kernel_rfl
theorem goes : false = Rows.matrixSolvesRow.goesBy Tryz.pinned.checked.prog := by kernel_rfl
theorem card : Rows.MatrixSolvesCardSaid :=
  Claim7.holds_tied_plain_at .later [] _ _ _ _ said (fun _ h => by cases h) (by kernel_rfl) (fun _ h => by cases h) matrixSolves_row_tie rfl ⟨rfl, rfl⟩ main rfl plain goes
end Go.Proofs.YtbjaplppalcmgaaGreatDoor.matrixSolves
