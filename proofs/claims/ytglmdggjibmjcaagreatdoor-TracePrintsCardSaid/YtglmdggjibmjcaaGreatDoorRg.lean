/-
  THE EXAMPLES OF A LAYER answer true.
-/
import Derived.Test.YtglmdggjibmjcaaGreatDoorLb
noncomputable section
set_option linter.unusedVariables false
set_option linter.unusedSimpArgs false
set_option maxRecDepth 100000
open Nat (ble beq)
namespace Go.Ev
theorem Vz:aG Di 549:=by
 unfold aG
 kernel_rfl
theorem an0:aG ac2 541:=by
 unfold aG
 kernel_rfl
end Go.Ev
