/-
  THE EXAMPLES OF A LAYER answer true.
-/
import Derived.Test.YtdibeojmiobklaaGreatDoorLb
import Derived.KernelRfl
set_option linter.unusedVariables false
set_option linter.unusedSimpArgs false
namespace Go.Ev
set_option maxRecDepth 100000
theorem run26a:runAt aw25w 365:=by
  unfold runAt
  kernel_rfl
theorem run26A:runAt aw26 308:=by
  unfold runAt
  kernel_rfl
end Go.Ev
