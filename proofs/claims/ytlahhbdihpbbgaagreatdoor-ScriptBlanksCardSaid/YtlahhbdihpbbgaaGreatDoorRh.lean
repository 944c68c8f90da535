/-
  THE EXAMPLES OF A LAYER answer true.
-/
import Derived.Test.YtlahhbdihpbbgaaGreatDoorLb
import Derived.KernelRfl
set_option linter.unusedVariables false
set_option linter.unusedSimpArgs false
namespace Go.Ev
set_option maxRecDepth 100000
theorem UI:ay Aw 339:=by
 unfold ay
 kernel_rfl
theorem Xk:ay Rn 289:=by
 unfold ay
 kernel_rfl
end Go.Ev
