/-
  THE EXAMPLES OF A LAYER answer true.
-/
import Derived.Test.YtglmdggjibmjcaaGreatDoorHb
noncomputable section
set_option linter.all false
set_option maxRecDepth 100000
open Nat (ble beq)
namespace Go.Ev
def aiY:aH Gz 580:=by
 unfold aH
 kernel_rfl
def ab2:aH amo 574:=by
 unfold aH
 kernel_rfl
def ahF:aH IJ 559:=by
 unfold aH
 kernel_rfl
def agt:aH XM 554:=by
 unfold aH
 kernel_rfl
def acY:aH HM 352:=by
 unfold aH
 kernel_rfl
def al7:aH aeN 252:=by
 unfold aH
 kernel_rfl
def al1:aH Il 581:=by
 unfold aH
 kernel_rfl
def YN:aH ahB 575:=by
 unfold aH
 kernel_rfl
end Go.Ev
