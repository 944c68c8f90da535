/-
  THE EXAMPLES OF A LAYER answer true.
-/
import Derived.Test.YtlahhbdihpbbgaaGreatDoorLb
import Derived.KernelRfl
set_option linter.unusedVariables false
set_option linter.unusedSimpArgs false
namespace Go.Ev
set_option maxRecDepth 100000
theorem Qk:ay y6 91:=by
 unfold ay
 kernel_rfl
theorem aiN:ay Rt 59:=by
 unfold ay
 kernel_rfl
end Go.Ev
