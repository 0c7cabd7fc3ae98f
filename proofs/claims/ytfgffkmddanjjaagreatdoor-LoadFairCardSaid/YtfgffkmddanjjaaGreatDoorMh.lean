/-
  The law LoadScaled.
-/
import Derived.Test.YtfgffkmddanjjaaGreatDoorMe
import Derived.Test.YtfgffkmddanjjaaGreatDoorLu
set_option linter.unusedVariables false
set_option linter.unusedSimpArgs false
namespace Go.Proofs.YtfgffkmddanjjaaGreatDoor
open Go.RowKit
end Go.Proofs.YtfgffkmddanjjaaGreatDoor
