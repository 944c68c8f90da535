/-
  THE EXAMPLES OF ALL LAYERS answer true.
-/
import Derived.Test.YtdibeojmiobklaaGreatDoorRk
import Derived.Test.YtdibeojmiobklaaGreatDoorRa
set_option linter.unusedVariables false
set_option linter.unusedSimpArgs false
namespace Go.Ev
open Go F Go.Proofs
theorem aw_all:ExtAll aw34:=aw34_ok h02
end Go.Ev
