/-
  THE EXAMPLES OF A LAYER answer true.
-/
import Derived.Test.YtdibeojmiobklaaGreatDoorLb
import Derived.KernelRfl
set_option linter.unusedVariables false
set_option linter.unusedSimpArgs false
namespace Go.Ev
set_option maxRecDepth 100000
theorem run31a:runAt aw30w 65:=by
  unfold runAt
  kernel_rfl
theorem run31A:runAt aw31 30:=by
  unfold runAt
  kernel_rfl
end Go.Ev
