/-
  THE EXAMPLES OF A LAYER answer true.
-/
import Derived.Test.YtdibeojmiobklaaGreatDoorLb
import Derived.KernelRfl
set_option linter.unusedVariables false
set_option linter.unusedSimpArgs false
namespace Go.Ev
set_option maxRecDepth 100000
theorem run30a:runAt aw29w 242:=by
  unfold runAt
  kernel_rfl
theorem run30A:runAt aw30 146:=by
  unfold runAt
  kernel_rfl
end Go.Ev
