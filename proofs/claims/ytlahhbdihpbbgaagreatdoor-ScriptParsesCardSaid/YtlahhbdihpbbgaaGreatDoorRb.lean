/-
  THE EXAMPLES OF A LAYER answer true.
-/
import Derived.Test.YtlahhbdihpbbgaaGreatDoorLb
noncomputable section
set_option linter.unusedVariables false
set_option linter.unusedSimpArgs false
set_option maxRecDepth 100000
open Nat (ble beq)
namespace Go.Ev
theorem Qq:ay ze 543:=by
 unfold ay
 kernel_rfl
theorem SK:ay Ur 541:=by
 unfold ay
 kernel_rfl
theorem V0:ay Ax 538:=by
 unfold ay
 kernel_rfl
theorem agm:ay acy 535:=by
 unfold ay
 kernel_rfl
theorem TW:ay Ay 532:=by
 unfold ay
 kernel_rfl
theorem ajd:ay ahP 530:=by
 unfold ay
 kernel_rfl
theorem Vs:ay Bt 533:=by
 unfold ay
 kernel_rfl
theorem aaa:ay ajx 531:=by
 unfold ay
 kernel_rfl
theorem afY:ay BB 526:=by
 unfold ay
 kernel_rfl
theorem afT:ay Qi 517:=by
 unfold ay
 kernel_rfl
theorem SG:ay zj 503:=by
 unfold ay
 kernel_rfl
theorem VM:ay ack 493:=by
 unfold ay
 kernel_rfl
theorem VN:ay Bz 460:=by
 unfold ay
 kernel_rfl
theorem ahx:ay YB 447:=by
 unfold ay
 kernel_rfl
theorem VH:ay A8 486:=by
 unfold ay
 kernel_rfl
theorem ahT:ay acU 478:=by
 unfold ay
 kernel_rfl
end Go.Ev
