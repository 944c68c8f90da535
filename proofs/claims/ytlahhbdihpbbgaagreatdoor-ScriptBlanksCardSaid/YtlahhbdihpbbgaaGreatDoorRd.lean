/-
  THE EXAMPLES OF A LAYER answer true.
-/
import Derived.Test.YtlahhbdihpbbgaaGreatDoorLb
import Derived.KernelRfl
set_option linter.unusedVariables false
set_option linter.unusedSimpArgs false
namespace Go.Ev
set_option maxRecDepth 100000
theorem WV:ay yG 463:=by
 unfold ay
 kernel_rfl
theorem Wa:ay RP 450:=by
 unfold ay
 kernel_rfl
end Go.Ev
namespace Go.Ev
set_option maxRecDepth 100000
theorem RG:ay zm 438:=by
 unfold ay
 kernel_rfl
theorem QM:ay To 425:=by
 unfold ay
 kernel_rfl
end Go.Ev
namespace Go.Ev
set_option maxRecDepth 100000
theorem Tm:ay yA 209:=by
 unfold ay
 kernel_rfl
theorem afz:ay akk 133:=by
 unfold ay
 kernel_rfl
end Go.Ev
