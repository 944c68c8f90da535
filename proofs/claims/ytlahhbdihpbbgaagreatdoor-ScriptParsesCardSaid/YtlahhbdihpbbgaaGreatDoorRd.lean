/-
  THE EXAMPLES OF A LAYER answer true.
-/
import Derived.Test.YtlahhbdihpbbgaaGreatDoorLb
noncomputable section
set_option linter.unusedVariables false
set_option linter.unusedSimpArgs false
set_option maxRecDepth 100000
open Nat (ble beq)
namespace Go.Ev
theorem WV:ay yG 463:=by
 unfold ay
 kernel_rfl
theorem Wa:ay RP 450:=by
 unfold ay
 kernel_rfl
theorem RG:ay zm 438:=by
 unfold ay
 kernel_rfl
theorem QM:ay To 425:=by
 unfold ay
 kernel_rfl
theorem Tm:ay yA 209:=by
 unfold ay
 kernel_rfl
theorem afz:ay akk 133:=by
 unfold ay
 kernel_rfl
end Go.Ev
