/-
  THE EXAMPLES OF A LAYER answer true.
-/
import Derived.Test.YtpdachddebkebaaGreatDoorLb
import Derived.KernelRfl
set_option linter.unusedVariables false
set_option linter.unusedSimpArgs false
namespace Go.Ev
set_option maxRecDepth 100000
theorem run11a : runAt aw10w 496 := by
  unfold runAt
  kernel_rfl
theorem run11A : runAt aw11 494 := by
  unfold runAt
  kernel_rfl
end Go.Ev
namespace Go.Ev
set_option maxRecDepth 100000
theorem run12a : runAt aw11w 491 := by
  unfold runAt
  kernel_rfl
theorem run12A : runAt aw12 488 := by
  unfold runAt
  kernel_rfl
end Go.Ev
namespace Go.Ev
set_option maxRecDepth 100000
theorem run13a : runAt aw12w 485 := by
  unfold runAt
  kernel_rfl
theorem run13A : runAt aw13 483 := by
  unfold runAt
  kernel_rfl
end Go.Ev
namespace Go.Ev
set_option maxRecDepth 100000
theorem run14a : runAt aw13w 486 := by
  unfold runAt
  kernel_rfl
theorem run14A : runAt aw14 484 := by
  unfold runAt
  kernel_rfl
end Go.Ev
namespace Go.Ev
set_option maxRecDepth 100000
theorem run15a : runAt aw14w 479 := by
  unfold runAt
  kernel_rfl
theorem run15A : runAt aw15 472 := by
  unfold runAt
  kernel_rfl
end Go.Ev
namespace Go.Ev
set_option maxRecDepth 100000
theorem run16a : runAt aw15w 461 := by
  unfold runAt
  kernel_rfl
theorem run16A : runAt aw16 452 := by
  unfold runAt
  kernel_rfl
end Go.Ev
namespace Go.Ev
set_option maxRecDepth 100000
theorem run17a : runAt aw16w 423 := by
  unfold runAt
  kernel_rfl
theorem run17A : runAt aw17 413 := by
  unfold runAt
  kernel_rfl
end Go.Ev
namespace Go.Ev
set_option maxRecDepth 100000
theorem run18a : runAt aw17w 446 := by
  unfold runAt
  kernel_rfl
theorem run18A : runAt aw18 437 := by
  unfold runAt
  kernel_rfl
end Go.Ev
