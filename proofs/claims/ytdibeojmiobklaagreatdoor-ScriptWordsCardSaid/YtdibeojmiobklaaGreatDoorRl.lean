/-
  THE EXAMPLES OF A LAYER answer true.
-/
import Derived.Test.YtdibeojmiobklaaGreatDoorLb
import Derived.KernelRfl
set_option linter.unusedVariables false
set_option linter.unusedSimpArgs false
namespace Go.Ev
set_option maxRecDepth 100000
theorem run32a:runAt aw31w 11:=by
  unfold runAt
  kernel_rfl
theorem run32A:runAt aw32 161:=by
  unfold runAt
  kernel_rfl
end Go.Ev
namespace Go.Ev
set_option maxRecDepth 100000
theorem run33a:runAt aw32w 73:=by
  unfold runAt
  kernel_rfl
theorem run33A:runAt aw33 35:=by
  unfold runAt
  kernel_rfl
end Go.Ev
namespace Go.Ev
set_option maxRecDepth 100000
theorem run34a:runAt aw33w 15:=by
  unfold runAt
  kernel_rfl
end Go.Ev
