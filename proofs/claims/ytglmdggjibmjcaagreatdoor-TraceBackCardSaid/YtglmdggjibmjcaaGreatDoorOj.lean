/-
  THE EXAMPLES OF A LAYER answer true.
-/
import Derived.Test.YtglmdggjibmjcaaGreatDoorHb
noncomputable section
set_option linter.all false
set_option maxRecDepth 100000
open Nat (ble beq)
namespace Go.Ev
def adb:aH EQ 161:=by
 unfold aH
 kernel_rfl
def ag5:aH Yn 93:=by
 unfold aH
 kernel_rfl
end Go.Ev
