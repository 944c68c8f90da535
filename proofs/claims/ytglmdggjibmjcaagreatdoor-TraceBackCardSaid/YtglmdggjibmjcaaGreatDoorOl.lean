/-
  THE EXAMPLES OF A LAYER answer true.
-/
import Derived.Test.YtglmdggjibmjcaaGreatDoorHb
noncomputable section
set_option linter.all false
set_option maxRecDepth 100000
open Nat (ble beq)
namespace Go.Ev
def aj0:aH H1 73:=by
 unfold aH
 kernel_rfl
def anF:aH V9 52:=by
 unfold aH
 kernel_rfl
def acT:aH H6 25:=by
 unfold aH
 kernel_rfl
def abe:aH ank 12:=by
 unfold aH
 kernel_rfl
def agv:aH Ga 5:=by
 unfold aH
 kernel_rfl
end Go.Ev
