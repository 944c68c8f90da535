/-
  THE EXAMPLES OF A LAYER answer true.
-/
import Derived.Test.YtlahhbdihpbbgaaGreatDoorLb
noncomputable section
set_option linter.unusedVariables false
set_option linter.unusedSimpArgs false
set_option maxRecDepth 100000
open Nat (ble beq)
namespace Go.Ev
theorem VD:ay Bv 6:=by
 unfold ay
 kernel_rfl
end Go.Ev
