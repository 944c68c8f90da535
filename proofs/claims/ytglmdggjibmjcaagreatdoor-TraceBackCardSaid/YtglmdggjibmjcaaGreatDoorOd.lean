/-
  THE EXAMPLES OF A LAYER answer true.
-/
import Derived.Test.YtglmdggjibmjcaaGreatDoorHb
noncomputable section
set_option linter.all false
set_option maxRecDepth 100000
open Nat (ble beq)
namespace Go.Ev
def WI:aH Hl 582:=by
 unfold aH
 kernel_rfl
def ZY:aH aeW 576:=by
 unfold aH
 kernel_rfl
def akC:aH F4 570:=by
 unfold aH
 kernel_rfl
def aeq:aH anE 564:=by
 unfold aH
 kernel_rfl
def amh:aH FK 494:=by
 unfold aH
 kernel_rfl
def abi:aH VV 439:=by
 unfold aH
 kernel_rfl
end Go.Ev
