/-
  THE EXAMPLES OF A LAYER answer true.
-/
import Derived.Test.YtglmdggjibmjcaaGreatDoorLb
noncomputable section
set_option linter.unusedVariables false
set_option linter.unusedSimpArgs false
set_option maxRecDepth 100000
open Nat (ble beq)
namespace Go.Ev
theorem ad9:aG CY 560:=by
 unfold aG
 kernel_rfl
theorem anE:aG aeS 555:=by
 unfold aG
 kernel_rfl
end Go.Ev
