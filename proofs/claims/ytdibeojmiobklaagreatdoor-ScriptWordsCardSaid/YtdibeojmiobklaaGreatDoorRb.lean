/-
  THE EXAMPLES OF A LAYER answer true.
-/
import Derived.Test.YtdibeojmiobklaaGreatDoorLb
import Derived.KernelRfl
set_option linter.unusedVariables false
set_option linter.unusedSimpArgs false
namespace Go.Ev
set_option maxRecDepth 100000
theorem run11a:runAt aw10w 635:=by
  unfold runAt
  kernel_rfl
theorem run11A:runAt aw11 633:=by
  unfold runAt
  kernel_rfl
end Go.Ev
namespace Go.Ev
set_option maxRecDepth 100000
theorem run12a:runAt aw11w 630:=by
  unfold runAt
  kernel_rfl
theorem run12A:runAt aw12 627:=by
  unfold runAt
  kernel_rfl
end Go.Ev
namespace Go.Ev
set_option maxRecDepth 100000
theorem run13a:runAt aw12w 624:=by
  unfold runAt
  kernel_rfl
theorem run13A:runAt aw13 622:=by
  unfold runAt
  kernel_rfl
end Go.Ev
namespace Go.Ev
set_option maxRecDepth 100000
theorem run14a:runAt aw13w 625:=by
  unfold runAt
  kernel_rfl
theorem run14A:runAt aw14 623:=by
  unfold runAt
  kernel_rfl
end Go.Ev
namespace Go.Ev
set_option maxRecDepth 100000
theorem run15a:runAt aw14w 618:=by
  unfold runAt
  kernel_rfl
theorem run15A:runAt aw15 610:=by
  unfold runAt
  kernel_rfl
end Go.Ev
namespace Go.Ev
set_option maxRecDepth 100000
theorem run16a:runAt aw15w 599:=by
  unfold runAt
  kernel_rfl
theorem run16A:runAt aw16 587:=by
  unfold runAt
  kernel_rfl
end Go.Ev
namespace Go.Ev
set_option maxRecDepth 100000
theorem run17a:runAt aw16w 550:=by
  unfold runAt
  kernel_rfl
theorem run17A:runAt aw17 530:=by
  unfold runAt
  kernel_rfl
end Go.Ev
namespace Go.Ev
set_option maxRecDepth 100000
theorem run18a:runAt aw17w 578:=by
  unfold runAt
  kernel_rfl
theorem run18A:runAt aw18 571:=by
  unfold runAt
  kernel_rfl
end Go.Ev
