/-
  THE TABLE OF TYPES, row by row.
-/
import Derived.Test.YtglmdggjibmjcaaGreatDoorProg
import Derived.KernelRfl
import GoSem.ClaimDataLaid
import GoSem.ClaimJoined
noncomputable section
set_option linter.unusedVariables false
set_option linter.unusedSimpArgs false
set_option maxRecDepth 100000
open Nat (ble beq)
namespace Go.Proofs.YtglmdggjibmjcaaGreatDoor
open Go
def sh (p:Nat->Bool) (s n:Nat):Bool:=Nat.rec (motive:=λ_=>Bool) true (λi ih=>Bool.rec (motive:=λ_=>Bool) false ih (p (Nat.add s i))) n
theorem aT {p:Nat->Bool} {s:Nat}:∀{n:Nat},sh p s n=true->∀i,i<n->p (s+i)=true
 | 0,_,i,hi=>absurd hi (Nat.not_lt_zero i)
 | n+1,h,i,hi=>by
  have h:Bool.rec (motive:=λ_=>Bool) false (sh p s n) (p (s+n))=true:=h;cases hp:p (s+n) with
  | false=>rw[hp] at h;exact nomatch h
  | true=>
   rw[hp] at h;by_cases e:i=n
   ·rw[e];exact hp
   ·exact aT h i (by omega)
def rf (s n:Nat):Bool:=sh (rowFine Tryz.prog) s n
theorem q0:rf 0 45=true:=by kernel_rfl
theorem q1:rf 45 45=true:=by kernel_rfl
theorem q2:rf 90 45=true:=by kernel_rfl
theorem q3:rf 135 45=true:=by kernel_rfl
theorem q4:rf 180 45=true:=by kernel_rfl
theorem q5:rf 225 45=true:=by kernel_rfl
theorem q6:rf 270 45=true:=by kernel_rfl
theorem q7:rf 315 45=true:=by kernel_rfl
theorem q8:rf 360 45=true:=by kernel_rfl
theorem q9:rf 405 45=true:=by kernel_rfl
theorem q10:rf 450 45=true:=by kernel_rfl
theorem q11:rf 495 45=true:=by kernel_rfl
theorem q12:rf 540 45=true:=by kernel_rfl
theorem q13:rf 585 45=true:=by kernel_rfl
theorem q14:rf 630 45=true:=by kernel_rfl
theorem sz:Tryz.prog.types.size=675:=by kernel_rfl
theorem rows_ok (i:Nat) (hi:i<675):rowFine Tryz.prog i=true:=by
 by_cases h0:i<45
 ·have:=aT q0 (i-0) (by omega);rwa [show 0+(i-0)=i by omega] at this
 by_cases h1:i<90
 ·have:=aT q1 (i-45) (by omega);rwa [show 45+(i-45)=i by omega] at this
 by_cases h2:i<135
 ·have:=aT q2 (i-90) (by omega);rwa [show 90+(i-90)=i by omega] at this
 by_cases h3:i<180
 ·have:=aT q3 (i-135) (by omega);rwa [show 135+(i-135)=i by omega] at this
 by_cases h4:i<225
 ·have:=aT q4 (i-180) (by omega);rwa [show 180+(i-180)=i by omega] at this
 by_cases h5:i<270
 ·have:=aT q5 (i-225) (by omega);rwa [show 225+(i-225)=i by omega] at this
 by_cases h6:i<315
 ·have:=aT q6 (i-270) (by omega);rwa [show 270+(i-270)=i by omega] at this
 by_cases h7:i<360
 ·have:=aT q7 (i-315) (by omega);rwa [show 315+(i-315)=i by omega] at this
 by_cases h8:i<405
 ·have:=aT q8 (i-360) (by omega);rwa [show 360+(i-360)=i by omega] at this
 by_cases h9:i<450
 ·have:=aT q9 (i-405) (by omega);rwa [show 405+(i-405)=i by omega] at this
 by_cases h10:i<495
 ·have:=aT q10 (i-450) (by omega);rwa [show 450+(i-450)=i by omega] at this
 by_cases h11:i<540
 ·have:=aT q11 (i-495) (by omega);rwa [show 495+(i-495)=i by omega] at this
 by_cases h12:i<585
 ·have:=aT q12 (i-540) (by omega);rwa [show 540+(i-540)=i by omega] at this
 by_cases h13:i<630
 ·have:=aT q13 (i-585) (by omega);rwa [show 585+(i-585)=i by omega] at this
 by_cases h14:i<675
 ·have:=aT q14 (i-630) (by omega);rwa [show 630+(i-630)=i by omega] at this
 omega
theorem k2:laidOutB Tryz.prog=true:=by unfold laidOutB;rw[Bool.and_eq_true,Bool.and_eq_true];refine⟨⟨?_,by kernel_rfl⟩,by kernel_rfl⟩;rw[List.all_eq_true];intro i hi;rw[List.mem_range,sz] at hi;exact rows_ok i hi
end Go.Proofs.YtglmdggjibmjcaaGreatDoor
