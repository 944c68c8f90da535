/-
  THE EXAMPLES OF A LAYER answer true.
-/
import Derived.Test.YtglmdggjibmjcaaGreatDoorLb
noncomputable section
set_option linter.unusedVariables false
set_option linter.unusedSimpArgs false
set_option maxRecDepth 100000
open Nat (ble beq)
namespace Go.Ev
theorem anl:aG Cr 641:=by
 unfold aG
 kernel_rfl
theorem aji:aG ali 639:=by
 unfold aG
 kernel_rfl
theorem acg:aG FJ 636:=by
 unfold aG
 kernel_rfl
theorem anU:aG aey 633:=by
 unfold aG
 kernel_rfl
theorem Yw:aG CB 630:=by
 unfold aG
 kernel_rfl
theorem Ym:aG ag3 628:=by
 unfold aG
 kernel_rfl
theorem Yy:aG Dn 631:=by
 unfold aG
 kernel_rfl
theorem Vx:aG Wj 629:=by
 unfold aG
 kernel_rfl
theorem anM:aG Dj 624:=by
 unfold aG
 kernel_rfl
theorem ak0:aG ae4 618:=by
 unfold aG
 kernel_rfl
theorem adq:aG Eh 609:=by
 unfold aG
 kernel_rfl
theorem XP:aG Uu 600:=by
 unfold aG
 kernel_rfl
theorem ahf:aG DR 579:=by
 unfold aG
 kernel_rfl
theorem Y0:aG afr 573:=by
 unfold aG
 kernel_rfl
theorem YF:aG C7 594:=by
 unfold aG
 kernel_rfl
theorem XX:aG adA 590:=by
 unfold aG
 kernel_rfl
end Go.Ev
