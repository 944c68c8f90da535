/-
  THE TABLE OF TYPES, row by row.
-/
import Derived.Test.YtglmdggjibmjcaaGreatDoorJ0
import Derived.Test.YtglmdggjibmjcaaGreatDoorProg
import Derived.KernelRfl
import GoSem.ClaimDataLaid
import GoSem.ClaimJoined
noncomputable section
set_option linter.all false
set_option maxRecDepth 100000
open Nat (ble beq)
namespace Go.Proofs.YtglmdggjibmjcaaGreatDoor
open Go
def ul (p:Nat->Bool) (s n:Nat):Bool:=Nat.rec (motive:=λ_=>Bool) true (λi ih=>Bool.rec (motive:=λ_=>Bool) false ih (p (Nat.add s i))) n
def bd {p:Nat->Bool} {s:Nat}:∀{n:Nat},ul p s n=true->∀i,i<n->p (s+i)=true
 | 0,_,i,hi=>absurd hi (Jy i)
 | n+1,h,i,hi=>by
  have h:Bool.rec (motive:=λ_=>Bool) false (ul p s n) (p (s+n))=true:=h;cases hp:p (s+n) with
  | false=>rw[hp] at h;exact nomatch h
  | true=>
   rw[hp] at h;by_cases e:i=n
   ·rw[e];exact hp
   ·exact bd h i (by omega)
def rf (s n:Nat):Bool:=ul (rowFine Tryz.prog) s n
def q0:rf 0 45=true:=by kernel_rfl
def q1:rf 45 45=true:=by kernel_rfl
def q2:rf 90 45=true:=by kernel_rfl
def q3:rf 135 45=true:=by kernel_rfl
def q4:rf 180 45=true:=by kernel_rfl
def q5:rf 225 45=true:=by kernel_rfl
def q6:rf 270 45=true:=by kernel_rfl
def q7:rf 315 45=true:=by kernel_rfl
def q8:rf 360 45=true:=by kernel_rfl
def q9:rf 405 45=true:=by kernel_rfl
def q10:rf 450 45=true:=by kernel_rfl
def q11:rf 495 45=true:=by kernel_rfl
def q12:rf 540 45=true:=by kernel_rfl
def q13:rf 585 45=true:=by kernel_rfl
def q14:rf 630 45=true:=by kernel_rfl
def sz:Tryz.prog.types.size=675:=by kernel_rfl
def rows_ok (i:Nat) (hi:i<675):rowFine Tryz.prog i=true:=by
 by_cases h0:i<45
 ·have:=bd q0 (i-0) (by omega);rwa [show 0+(i-0)=i by omega] at this
 by_cases h1:i<90
 ·have:=bd q1 (i-45) (by omega);rwa [show 45+(i-45)=i by omega] at this
 by_cases h2:i<135
 ·have:=bd q2 (i-90) (by omega);rwa [show 90+(i-90)=i by omega] at this
 by_cases h3:i<180
 ·have:=bd q3 (i-135) (by omega);rwa [show 135+(i-135)=i by omega] at this
 by_cases h4:i<225
 ·have:=bd q4 (i-180) (by omega);rwa [show 180+(i-180)=i by omega] at this
 by_cases h5:i<270
 ·have:=bd q5 (i-225) (by omega);rwa [show 225+(i-225)=i by omega] at this
 by_cases h6:i<315
 ·have:=bd q6 (i-270) (by omega);rwa [show 270+(i-270)=i by omega] at this
 by_cases h7:i<360
 ·have:=bd q7 (i-315) (by omega);rwa [show 315+(i-315)=i by omega] at this
 by_cases h8:i<405
 ·have:=bd q8 (i-360) (by omega);rwa [show 360+(i-360)=i by omega] at this
 by_cases h9:i<450
 ·have:=bd q9 (i-405) (by omega);rwa [show 405+(i-405)=i by omega] at this
 by_cases h10:i<495
 ·have:=bd q10 (i-450) (by omega);rwa [show 450+(i-450)=i by omega] at this
 by_cases h11:i<540
 ·have:=bd q11 (i-495) (by omega);rwa [show 495+(i-495)=i by omega] at this
 by_cases h12:i<585
 ·have:=bd q12 (i-540) (by omega);rwa [show 540+(i-540)=i by omega] at this
 by_cases h13:i<630
 ·have:=bd q13 (i-585) (by omega);rwa [show 585+(i-585)=i by omega] at this
 by_cases h14:i<675
 ·have:=bd q14 (i-630) (by omega);rwa [show 630+(i-630)=i by omega] at this
 omega
def k2:laidOutB Tryz.prog=true:=by unfold laidOutB;rw[Ja,Ja];refine⟨⟨?_,by kernel_rfl⟩,by kernel_rfl⟩;rw[Jv];intro i hi;rw[List.mem_range,sz] at hi;exact rows_ok i hi
end Go.Proofs.YtglmdggjibmjcaaGreatDoor
