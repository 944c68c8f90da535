/-
  THE EXAMPLES OF A LAYER answer true.
-/
import Derived.Test.YtglmdggjibmjcaaGreatDoorHb
noncomputable section
set_option linter.all false
set_option maxRecDepth 100000
open Nat (ble beq)
namespace Go.Ev
theorem aaq:aH Fl 531:=by
 unfold aH
 kernel_rfl
theorem ahZ:aH aji 519:=by
 unfold aH
 kernel_rfl
end Go.Ev
