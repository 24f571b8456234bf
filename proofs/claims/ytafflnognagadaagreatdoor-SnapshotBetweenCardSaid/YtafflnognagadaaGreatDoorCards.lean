/-
  DERIVED. GIVEN WITH THE SEED: THE CARDS: each row of YtafflnognagadaaGreatDoorRows.lean that lists a variable, with what it lists TIED to the program's text (the seventh form; the later family's looks); each row that meets fmt, with fmt's text TOLD by the authors' own Lean function (tested against real Go, not proved from fmt's source: count such statements apart). THE CARD IS WHAT COUNTS. Prove the row's statement (the work); the ties are given (YtafflnognagadaaGreatDoorTie.lean); close each card by the builder's one call (the guide's Derived/Test/ToyasCard.lean, 'card_holds'). Laid BY PROGRAM, IN A SANDBOX (cutbox-door.mjs). By AI agents, Wed Nov 11 2026. No macro, syntax, notation, axiom, sorry.
-/
import Derived.Test.YtafflnognagadaaGreatDoorRows
import GoSem.ClaimSeven
namespace Go.Proofs.YtafflnognagadaaGreatDoor
namespace Rows

/-- THE TIED CARD OF 'joinlearnlaw30.SnapshotCommits'. -/
def snapshotCommitsCard : Claim7 := { stood := { row := snapshotCommitsRow, standIns := [], harness := (true, "18af106323cff9a63818762fceed25baa5571252b7cdae7994a8a21bb86cc489"), looks := true }, kinds := [], alts := [], laidByText := true, laidKinds := [.data, .data, .data, .sentinel, .sentinel], laidTests := true, laidLooks := .later }
def SnapshotCommitsCardSaid : Prop := Claim7.holds Tryz.pinned (.plain (OpenSpec.ofChange snapshotCommitsSpec)) snapshotCommitsCard

/-- THE TIED CARD OF 'joinlearnlaw30.SnapshotReplays'. -/
def snapshotReplaysCard : Claim7 := { stood := { row := snapshotReplaysRow, standIns := [], harness := (true, "18af106323cff9a63818762fceed25baa5571252b7cdae7994a8a21bb86cc489"), looks := true }, kinds := [], alts := [], laidByText := true, laidKinds := [.data, .data, .data, .sentinel, .sentinel], laidTests := true, laidLooks := .later }
def SnapshotReplaysCardSaid : Prop := Claim7.holds Tryz.pinned (.plain (OpenSpec.ofChange snapshotReplaysSpec)) snapshotReplaysCard

/-- THE TIED CARD OF 'joinlearnlaw30.SnapshotTimes'. -/
def snapshotTimesCard : Claim7 := { stood := { row := snapshotTimesRow, standIns := [], harness := (true, "18af106323cff9a63818762fceed25baa5571252b7cdae7994a8a21bb86cc489"), looks := true }, kinds := [], alts := [], laidByText := true, laidKinds := [.data, .data, .data, .sentinel, .sentinel], laidTests := true, laidLooks := .later }
def SnapshotTimesCardSaid : Prop := Claim7.holds Tryz.pinned (.plain (OpenSpec.ofChange snapshotTimesSpec)) snapshotTimesCard

/-- THE TIED CARD OF 'joinlearnlaw30.SnapshotLasts'. -/
def snapshotLastsCard : Claim7 := { stood := { row := snapshotLastsRow, standIns := [], harness := (true, "18af106323cff9a63818762fceed25baa5571252b7cdae7994a8a21bb86cc489"), looks := true }, kinds := [], alts := [], laidByText := true, laidKinds := [.data, .data, .data, .sentinel, .sentinel], laidTests := true, laidLooks := .later }
def SnapshotLastsCardSaid : Prop := Claim7.holds Tryz.pinned (.plain (OpenSpec.ofChange snapshotLastsSpec)) snapshotLastsCard

/-- THE TIED CARD OF 'joinlearnlaw30.SnapshotCuts'. -/
def snapshotCutsCard : Claim7 := { stood := { row := snapshotCutsRow, standIns := [], harness := (true, "18af106323cff9a63818762fceed25baa5571252b7cdae7994a8a21bb86cc489"), looks := true }, kinds := [], alts := [], laidByText := true, laidKinds := [.data, .data, .data, .sentinel, .sentinel], laidTests := true, laidLooks := .later }
def SnapshotCutsCardSaid : Prop := Claim7.holds Tryz.pinned (.plain (OpenSpec.ofChange snapshotCutsSpec)) snapshotCutsCard

/-- THE TIED CARD OF 'joinlearnlaw30.SnapshotBetween'. -/
def snapshotBetweenCard : Claim7 := { stood := { row := snapshotBetweenRow, standIns := [], harness := (true, "18af106323cff9a63818762fceed25baa5571252b7cdae7994a8a21bb86cc489"), looks := true }, kinds := [], alts := [], laidByText := true, laidKinds := [.data, .data, .data, .sentinel, .sentinel], laidTests := true, laidLooks := .later }
def SnapshotBetweenCardSaid : Prop := Claim7.holds Tryz.pinned (.plain (OpenSpec.ofChange snapshotBetweenSpec)) snapshotBetweenCard

/-- THE SECOND FORM's CARD OF 'joinlearnlaw30.SnapshotCommits'. -/
def snapshotCommitsUptoCard : Claim7 := { stood := { row := snapshotCommitsUptoRow, standIns := [], harness := (true, "18af106323cff9a63818762fceed25baa5571252b7cdae7994a8a21bb86cc489"), looks := true }, kinds := [], alts := [], laidByText := true, laidKinds := [.data, .data, .data, .sentinel, .sentinel], laidTests := true, laidLooks := .later }
def SnapshotCommitsUptoCardSaid : Prop := Claim7.holds Tryz.pinned (.plain (OpenSpec.upto snapshotCommitsSpec)) snapshotCommitsUptoCard

/-- THE SECOND FORM's CARD OF 'joinlearnlaw30.SnapshotReplays'. -/
def snapshotReplaysUptoCard : Claim7 := { stood := { row := snapshotReplaysUptoRow, standIns := [], harness := (true, "18af106323cff9a63818762fceed25baa5571252b7cdae7994a8a21bb86cc489"), looks := true }, kinds := [], alts := [], laidByText := true, laidKinds := [.data, .data, .data, .sentinel, .sentinel], laidTests := true, laidLooks := .later }
def SnapshotReplaysUptoCardSaid : Prop := Claim7.holds Tryz.pinned (.plain (OpenSpec.upto snapshotReplaysSpec)) snapshotReplaysUptoCard

/-- THE SECOND FORM's CARD OF 'joinlearnlaw30.SnapshotTimes'. -/
def snapshotTimesUptoCard : Claim7 := { stood := { row := snapshotTimesUptoRow, standIns := [], harness := (true, "18af106323cff9a63818762fceed25baa5571252b7cdae7994a8a21bb86cc489"), looks := true }, kinds := [], alts := [], laidByText := true, laidKinds := [.data, .data, .data, .sentinel, .sentinel], laidTests := true, laidLooks := .later }
def SnapshotTimesUptoCardSaid : Prop := Claim7.holds Tryz.pinned (.plain (OpenSpec.upto snapshotTimesSpec)) snapshotTimesUptoCard

/-- THE SECOND FORM's CARD OF 'joinlearnlaw30.SnapshotLasts'. -/
def snapshotLastsUptoCard : Claim7 := { stood := { row := snapshotLastsUptoRow, standIns := [], harness := (true, "18af106323cff9a63818762fceed25baa5571252b7cdae7994a8a21bb86cc489"), looks := true }, kinds := [], alts := [], laidByText := true, laidKinds := [.data, .data, .data, .sentinel, .sentinel], laidTests := true, laidLooks := .later }
def SnapshotLastsUptoCardSaid : Prop := Claim7.holds Tryz.pinned (.plain (OpenSpec.upto snapshotLastsSpec)) snapshotLastsUptoCard

/-- THE SECOND FORM's CARD OF 'joinlearnlaw30.SnapshotCuts'. -/
def snapshotCutsUptoCard : Claim7 := { stood := { row := snapshotCutsUptoRow, standIns := [], harness := (true, "18af106323cff9a63818762fceed25baa5571252b7cdae7994a8a21bb86cc489"), looks := true }, kinds := [], alts := [], laidByText := true, laidKinds := [.data, .data, .data, .sentinel, .sentinel], laidTests := true, laidLooks := .later }
def SnapshotCutsUptoCardSaid : Prop := Claim7.holds Tryz.pinned (.plain (OpenSpec.upto snapshotCutsSpec)) snapshotCutsUptoCard

/-- THE SECOND FORM's CARD OF 'joinlearnlaw30.SnapshotBetween'. -/
def snapshotBetweenUptoCard : Claim7 := { stood := { row := snapshotBetweenUptoRow, standIns := [], harness := (true, "18af106323cff9a63818762fceed25baa5571252b7cdae7994a8a21bb86cc489"), looks := true }, kinds := [], alts := [], laidByText := true, laidKinds := [.data, .data, .data, .sentinel, .sentinel], laidTests := true, laidLooks := .later }
def SnapshotBetweenUptoCardSaid : Prop := Claim7.holds Tryz.pinned (.plain (OpenSpec.upto snapshotBetweenSpec)) snapshotBetweenUptoCard
end Rows
end Go.Proofs.YtafflnognagadaaGreatDoor
