/-
  THE EXAMPLES OF A LAYER answer true.
-/
import Derived.Test.YtdibeojmiobklaaGreatDoorLb
import Derived.KernelRfl
set_option linter.unusedVariables false
set_option linter.unusedSimpArgs false
namespace Go.Ev
set_option maxRecDepth 100000
theorem run24a:runAt aw23w 553:=by
  unfold runAt
  kernel_rfl
theorem run24A:runAt aw24 533:=by
  unfold runAt
  kernel_rfl
end Go.Ev
namespace Go.Ev
set_option maxRecDepth 100000
theorem run25a:runAt aw24w 505:=by
  unfold runAt
  kernel_rfl
theorem run25A:runAt aw25 443:=by
  unfold runAt
  kernel_rfl
end Go.Ev
namespace Go.Ev
set_option maxRecDepth 100000
theorem run29a:runAt aw28w 6:=by
  unfold runAt
  kernel_rfl
theorem run29A:runAt aw29 321:=by
  unfold runAt
  kernel_rfl
end Go.Ev
