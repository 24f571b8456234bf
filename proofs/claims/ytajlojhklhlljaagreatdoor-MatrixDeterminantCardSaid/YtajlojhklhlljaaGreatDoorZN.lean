/-
  Package joinlearnref01: Small.
-/
import Derived.Test.YtajlojhklhlljaaGreatDoorZJ
import Derived.Test.YtajlojhklhlljaaGreatDoorZF
namespace Go.Proofs.YtajlojhklhlljaaGreatDoor
open Go.RowKit

end Go.Proofs.YtajlojhklhlljaaGreatDoor
