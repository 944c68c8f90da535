/-
  THE EXAMPLES OF A LAYER answer true.
-/
import Derived.Test.YtglmdggjibmjcaaGreatDoorHb
noncomputable section
set_option linter.all false
set_option maxRecDepth 100000
open Nat (ble beq)
namespace Go.Ev
def aeV:aH Fe 641:=by
 unfold aH
 kernel_rfl
def Zh:aH WX 639:=by
 unfold aH
 kernel_rfl
def adl:aH EG 636:=by
 unfold aH
 kernel_rfl
def ac4:aH aeB 633:=by
 unfold aH
 kernel_rfl
def Z3:aH Ig 630:=by
 unfold aH
 kernel_rfl
def afQ:aH ajV 628:=by
 unfold aH
 kernel_rfl
def ZJ:aH Hd 631:=by
 unfold aH
 kernel_rfl
def ahf:aH am1 629:=by
 unfold aH
 kernel_rfl
def ahE:aH Gq 624:=by
 unfold aH
 kernel_rfl
def WE:aH abW 618:=by
 unfold aH
 kernel_rfl
def afF:aH Fi 609:=by
 unfold aH
 kernel_rfl
def alG:aH Y7 600:=by
 unfold aH
 kernel_rfl
def am5:aH FH 579:=by
 unfold aH
 kernel_rfl
def amd:aH adg 573:=by
 unfold aH
 kernel_rfl
def aaN:aH IM 594:=by
 unfold aH
 kernel_rfl
def adN:aH acJ 590:=by
 unfold aH
 kernel_rfl
end Go.Ev
