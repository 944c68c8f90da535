/-
  THE EXAMPLES OF A LAYER answer true.
-/
import Derived.Test.YtpdachddebkebaaGreatDoorLb
import Derived.KernelRfl
set_option linter.unusedVariables false
set_option linter.unusedSimpArgs false
namespace Go.Ev
set_option maxRecDepth 100000
theorem run20a : runAt aw19w 424 := by
  unfold runAt
  kernel_rfl
theorem run20A : runAt aw20 414 := by
  unfold runAt
  kernel_rfl
end Go.Ev
namespace Go.Ev
set_option maxRecDepth 100000
theorem run21a : runAt aw20w 396 := by
  unfold runAt
  kernel_rfl
theorem run21A : runAt aw21 379 := by
  unfold runAt
  kernel_rfl
end Go.Ev
namespace Go.Ev
set_option maxRecDepth 100000
theorem run22a : runAt aw21w 146 := by
  unfold runAt
  kernel_rfl
theorem run22A : runAt aw22 68 := by
  unfold runAt
  kernel_rfl
end Go.Ev
namespace Go.Ev
set_option maxRecDepth 100000
theorem run23a : runAt aw22w 425 := by
  unfold runAt
  kernel_rfl
theorem run23A : runAt aw23 415 := by
  unfold runAt
  kernel_rfl
end Go.Ev
