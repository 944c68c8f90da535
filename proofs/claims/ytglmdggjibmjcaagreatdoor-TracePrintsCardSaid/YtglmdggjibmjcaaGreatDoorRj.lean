/-
  THE EXAMPLES OF A LAYER answer true.
-/
import Derived.Test.YtglmdggjibmjcaaGreatDoorLb
noncomputable section
set_option linter.unusedVariables false
set_option linter.unusedSimpArgs false
set_option maxRecDepth 100000
open Nat (ble beq)
namespace Go.Ev
theorem afq:aG DI 161:=by
 unfold aG
 kernel_rfl
theorem YP:aG ac3 93:=by
 unfold aG
 kernel_rfl
end Go.Ev
