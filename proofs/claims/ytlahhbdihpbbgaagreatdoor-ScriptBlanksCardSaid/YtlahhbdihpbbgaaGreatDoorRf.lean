/-
  THE EXAMPLES OF A LAYER answer true.
-/
import Derived.Test.YtlahhbdihpbbgaaGreatDoorLb
import Derived.KernelRfl
set_option linter.unusedVariables false
set_option linter.unusedSimpArgs false
namespace Go.Ev
set_option maxRecDepth 100000
theorem aio:ay B6 411:=by
 unfold ay
 kernel_rfl
theorem ac1:ay aiL 400:=by
 unfold ay
 kernel_rfl
end Go.Ev
