/-
  THE EXAMPLES OF A LAYER answer true.
-/
import Derived.Test.YtglmdggjibmjcaaGreatDoorHb
noncomputable section
set_option linter.all false
set_option maxRecDepth 100000
open Nat (ble beq)
namespace Go.Ev
def ZR:aH ER 592:=by
 unfold aH
 kernel_rfl
def Zi:aH afn 585:=by
 unfold aH
 kernel_rfl
end Go.Ev
