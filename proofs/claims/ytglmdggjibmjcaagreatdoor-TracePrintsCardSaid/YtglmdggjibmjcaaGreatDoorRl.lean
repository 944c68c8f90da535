/-
  THE EXAMPLES OF A LAYER answer true.
-/
import Derived.Test.YtglmdggjibmjcaaGreatDoorLb
noncomputable section
set_option linter.unusedVariables false
set_option linter.unusedSimpArgs false
set_option maxRecDepth 100000
open Nat (ble beq)
namespace Go.Ev
theorem XV:aG EA 73:=by
 unfold aG
 kernel_rfl
theorem ak8:aG X4 52:=by
 unfold aG
 kernel_rfl
theorem alk:aG Cd 25:=by
 unfold aG
 kernel_rfl
theorem U8:aG TR 12:=by
 unfold aG
 kernel_rfl
theorem alq:aG BF 5:=by
 unfold aG
 kernel_rfl
end Go.Ev
