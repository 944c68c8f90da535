/-
  THE EXAMPLES OF A LAYER answer true.
-/
import Derived.Test.YtdibeojmiobklaaGreatDoorLb
import Derived.KernelRfl
set_option linter.unusedVariables false
set_option linter.unusedSimpArgs false
namespace Go.Ev
set_option maxRecDepth 100000
theorem run19a:runAt aw18w 576:=by
  unfold runAt
  kernel_rfl
theorem run19A:runAt aw19 566:=by
  unfold runAt
  kernel_rfl
end Go.Ev
