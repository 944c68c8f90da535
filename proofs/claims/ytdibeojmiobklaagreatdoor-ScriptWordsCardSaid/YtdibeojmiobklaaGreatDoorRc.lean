/-
  THE EXAMPLES OF A LAYER answer true.
-/
import Derived.Test.YtdibeojmiobklaaGreatDoorLb
import Derived.KernelRfl
set_option linter.unusedVariables false
set_option linter.unusedSimpArgs false
namespace Go.Ev
set_option maxRecDepth 100000
theorem run20a:runAt aw19w 551:=by
  unfold runAt
  kernel_rfl
theorem run20A:runAt aw20 531:=by
  unfold runAt
  kernel_rfl
end Go.Ev
namespace Go.Ev
set_option maxRecDepth 100000
theorem run21a:runAt aw20w 364:=by
  unfold runAt
  kernel_rfl
theorem run21A:runAt aw21 307:=by
  unfold runAt
  kernel_rfl
end Go.Ev
namespace Go.Ev
set_option maxRecDepth 100000
theorem run22a:runAt aw21w 243:=by
  unfold runAt
  kernel_rfl
theorem run22A:runAt aw22 147:=by
  unfold runAt
  kernel_rfl
end Go.Ev
namespace Go.Ev
set_option maxRecDepth 100000
theorem run23a:runAt aw22w 552:=by
  unfold runAt
  kernel_rfl
theorem run23A:runAt aw23 532:=by
  unfold runAt
  kernel_rfl
end Go.Ev
