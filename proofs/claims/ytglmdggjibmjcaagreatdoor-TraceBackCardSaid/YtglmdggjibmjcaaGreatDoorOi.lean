/-
  THE EXAMPLES OF A LAYER answer true.
-/
import Derived.Test.YtglmdggjibmjcaaGreatDoorHb
noncomputable section
set_option linter.all false
set_option maxRecDepth 100000
open Nat (ble beq)
namespace Go.Ev
def aiQ:aH Fw 351:=by
 unfold aH
 kernel_rfl
def aa9:aH Xq 251:=by
 unfold aH
 kernel_rfl
end Go.Ev
