/-
  THE EXAMPLES OF A LAYER answer true.
-/
import Derived.Test.YtlahhbdihpbbgaaGreatDoorLb
noncomputable section
set_option linter.unusedVariables false
set_option linter.unusedSimpArgs false
set_option maxRecDepth 100000
open Nat (ble beq)
namespace Go.Ev
theorem agI:ay Aa 461:=by
 unfold ay
 kernel_rfl
theorem Yf:ay ag5 448:=by
 unfold ay
 kernel_rfl
theorem SI:ay yC 410:=by
 unfold ay
 kernel_rfl
theorem ai0:ay Zv 399:=by
 unfold ay
 kernel_rfl
theorem WU:ay BW 92:=by
 unfold ay
 kernel_rfl
theorem U2:ay ajC 60:=by
 unfold ay
 kernel_rfl
theorem Y0:ay BF 462:=by
 unfold ay
 kernel_rfl
theorem ab3:ay aci 449:=by
 unfold ay
 kernel_rfl
end Go.Ev
