import Derived.Test.YtajlojhklhlljaaGreatDoorZMH
import Derived.Test.YtajlojhklhlljaaGreatDoorZMD
set_option maxHeartbeats 16000000
set_option maxRecDepth 100000
set_option linter.unusedVariables false
set_option linter.unusedSimpArgs false
set_option linter.unusedSectionVars false
namespace Go.Proofs.YtajlojhklhlljaaGreatDoor
open Go.RowKit
theorem field_T2 (w : World) (v0 : Bool) (A B : Option Addr) (l c m d : Nat) : (Instr.field 84 (.agg #[.bool v0, .slice A l c, .slice B m d]) 1).run Tryz.prog w = .ok (.slice B m d) w := by kernel_rfl
theorem field_R1 (w : World) (A B C : Option Addr) (l c m d n f : Nat) (x y : Bool) : (Instr.field 87 (.agg #[.slice A l c, .slice B m d, .bool x, .slice C n f, .bool y]) 1).run Tryz.prog w = .ok (.slice B m d) w := by kernel_rfl
attribute [local go_sem] field_T2 field_R1
def RankPost (heavy : Bool) (s : EliS) (w : World) (e : Ending) (w' : World) : Prop :=
 match heavy with
 | true => e = .returned (.tuple #[.int .i64 0, .int .i64 3]) ∧ Below w.heap.size w w'
 | false => e = .returned (.tuple #[.int .i64 (s.ps.length : Int), .int .i64 0]) ∧ Below w.heap.size w w'
end Go.Proofs.YtajlojhklhlljaaGreatDoor
