/-
  THE EXAMPLES OF A LAYER answer true.
-/
import Derived.Test.YtdibeojmiobklaaGreatDoorLb
import Derived.KernelRfl
set_option linter.unusedVariables false
set_option linter.unusedSimpArgs false
namespace Go.Ev
set_option maxRecDepth 100000
theorem run27a:runAt aw26w 220:=by
  unfold runAt
  kernel_rfl
theorem run27A:runAt aw27 122:=by
  unfold runAt
  kernel_rfl
end Go.Ev
