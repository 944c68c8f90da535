/-
  THE EXAMPLES OF A LAYER answer true.
-/
import Derived.Test.YtglmdggjibmjcaaGreatDoorLb
noncomputable section
set_option linter.unusedVariables false
set_option linter.unusedSimpArgs false
set_option maxRecDepth 100000
open Nat (ble beq)
namespace Go.Ev
theorem agn:aG BE 580:=by
 unfold aG
 kernel_rfl
theorem akr:aG acz 574:=by
 unfold aG
 kernel_rfl
theorem ah1:aG DN 559:=by
 unfold aG
 kernel_rfl
theorem agX:aG Ye 554:=by
 unfold aG
 kernel_rfl
theorem Vp:aG C2 352:=by
 unfold aG
 kernel_rfl
theorem Y1:aG Wx 252:=by
 unfold aG
 kernel_rfl
theorem ajq:aG Fe 581:=by
 unfold aG
 kernel_rfl
theorem aa0:aG ah3 575:=by
 unfold aG
 kernel_rfl
end Go.Ev
