/-
  THE EXAMPLES OF A LAYER answer true.
-/
import Derived.Test.YtpdachddebkebaaGreatDoorLb
import Derived.KernelRfl
set_option linter.unusedVariables false
set_option linter.unusedSimpArgs false
namespace Go.Ev
set_option maxRecDepth 100000
theorem run31a : runAt aw30w 18 := by
  unfold runAt
  kernel_rfl
end Go.Ev
