/-
  THE EXAMPLES OF A LAYER answer true.
-/
import Derived.Test.YtpdachddebkebaaGreatDoorLb
import Derived.KernelRfl
set_option linter.unusedVariables false
set_option linter.unusedSimpArgs false
namespace Go.Ev
set_option maxRecDepth 100000
theorem run27a : runAt aw26w 357 := by
  unfold runAt
  kernel_rfl
theorem run27A : runAt aw27 327 := by
  unfold runAt
  kernel_rfl
end Go.Ev
