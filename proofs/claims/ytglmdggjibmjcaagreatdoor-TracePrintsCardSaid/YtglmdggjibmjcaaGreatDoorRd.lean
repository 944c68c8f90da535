/-
  THE EXAMPLES OF A LAYER answer true.
-/
import Derived.Test.YtglmdggjibmjcaaGreatDoorLb
noncomputable section
set_option linter.unusedVariables false
set_option linter.unusedSimpArgs false
set_option maxRecDepth 100000
open Nat (ble beq)
namespace Go.Ev
theorem WU:aG El 582:=by
 unfold aG
 kernel_rfl
theorem ah9:aG aaY 576:=by
 unfold aG
 kernel_rfl
theorem VT:aG Fg 570:=by
 unfold aG
 kernel_rfl
theorem ak7:aG aam 564:=by
 unfold aG
 kernel_rfl
theorem akU:aG ER 494:=by
 unfold aG
 kernel_rfl
theorem adt:aG amL 439:=by
 unfold aG
 kernel_rfl
end Go.Ev
