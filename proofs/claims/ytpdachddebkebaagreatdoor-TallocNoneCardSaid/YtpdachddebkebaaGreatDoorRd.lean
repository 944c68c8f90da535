/-
  THE EXAMPLES OF A LAYER answer true.
-/
import Derived.Test.YtpdachddebkebaaGreatDoorLb
import Derived.KernelRfl
set_option linter.unusedVariables false
set_option linter.unusedSimpArgs false
namespace Go.Ev
set_option maxRecDepth 100000
theorem run24a : runAt aw23w 426 := by
  unfold runAt
  kernel_rfl
theorem run24A : runAt aw24 416 := by
  unfold runAt
  kernel_rfl
end Go.Ev
namespace Go.Ev
set_option maxRecDepth 100000
theorem run25a : runAt aw24w 409 := by
  unfold runAt
  kernel_rfl
theorem run25A : runAt aw25 404 := by
  unfold runAt
  kernel_rfl
end Go.Ev
namespace Go.Ev
set_option maxRecDepth 100000
theorem run29a : runAt aw28w 86 := by
  unfold runAt
  kernel_rfl
theorem run29A : runAt aw29 26 := by
  unfold runAt
  kernel_rfl
end Go.Ev
