/-
  THE EXAMPLES OF A LAYER answer true.
-/
import Derived.Test.YtdibeojmiobklaaGreatDoorLb
import Derived.KernelRfl
set_option linter.unusedVariables false
set_option linter.unusedSimpArgs false
namespace Go.Ev
set_option maxRecDepth 100000
theorem run28a:runAt aw27w 53:=by
  unfold runAt
  kernel_rfl
theorem run28A:runAt aw28 24:=by
  unfold runAt
  kernel_rfl
end Go.Ev
