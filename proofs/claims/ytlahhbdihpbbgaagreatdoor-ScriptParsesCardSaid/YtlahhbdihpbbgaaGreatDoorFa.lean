import Derived.Test.YtlahhbdihpbbgaaGreatDoorProg
import Derived.KernelRfl
import GoSem.ClaimDataLaid
import GoSem.ClaimJoined
noncomputable section
set_option linter.unusedVariables false
set_option linter.unusedSimpArgs false
set_option maxRecDepth 100000
open Nat (ble beq)
namespace Go.Proofs.YtlahhbdihpbbgaaGreatDoor
open Go
def pj (p:Nat->Bool) (s n:Nat):Bool:=Nat.rec (motive:=λ_=>Bool) true (λi ih=>Bool.rec (motive:=λ_=>Bool) false ih (p (Nat.add s i))) n
theorem aZ {p:Nat->Bool} {s:Nat}:∀{n:Nat},pj p s n=true->∀i,i<n->p (s+i)=true
 | 0,_,i,hi=>absurd hi (Nat.not_lt_zero i)
 | n+1,h,i,hi=>by
  have h:Bool.rec (motive:=λ_=>Bool) false (pj p s n) (p (s+n))=true:=h;cases hp:p (s+n) with
  | false=>rw[hp] at h;exact nomatch h
  | true=>
   rw[hp] at h;by_cases e:i=n
   ·rw[e];exact hp
   ·exact aZ h i (by omega)
def rf (s n:Nat):Bool:=pj (rowFine Tryz.prog) s n
theorem q0:rf 0 54=true:=by kernel_rfl
theorem q1:rf 54 54=true:=by kernel_rfl
theorem q2:rf 108 54=true:=by kernel_rfl
theorem q3:rf 162 54=true:=by kernel_rfl
theorem q4:rf 216 54=true:=by kernel_rfl
theorem q5:rf 270 54=true:=by kernel_rfl
theorem q6:rf 324 54=true:=by kernel_rfl
theorem q7:rf 378 54=true:=by kernel_rfl
theorem q8:rf 432 54=true:=by kernel_rfl
theorem q9:rf 486 54=true:=by kernel_rfl
theorem q10:rf 540 54=true:=by kernel_rfl
theorem sz:Tryz.prog.types.size=594:=by kernel_rfl
theorem rows_ok (i:Nat) (hi:i<594):rowFine Tryz.prog i=true:=by
 by_cases h0:i<54
 ·have:=aZ q0 (i-0) (by omega);rwa [show 0+(i-0)=i by omega] at this
 by_cases h1:i<108
 ·have:=aZ q1 (i-54) (by omega);rwa [show 54+(i-54)=i by omega] at this
 by_cases h2:i<162
 ·have:=aZ q2 (i-108) (by omega);rwa [show 108+(i-108)=i by omega] at this
 by_cases h3:i<216
 ·have:=aZ q3 (i-162) (by omega);rwa [show 162+(i-162)=i by omega] at this
 by_cases h4:i<270
 ·have:=aZ q4 (i-216) (by omega);rwa [show 216+(i-216)=i by omega] at this
 by_cases h5:i<324
 ·have:=aZ q5 (i-270) (by omega);rwa [show 270+(i-270)=i by omega] at this
 by_cases h6:i<378
 ·have:=aZ q6 (i-324) (by omega);rwa [show 324+(i-324)=i by omega] at this
 by_cases h7:i<432
 ·have:=aZ q7 (i-378) (by omega);rwa [show 378+(i-378)=i by omega] at this
 by_cases h8:i<486
 ·have:=aZ q8 (i-432) (by omega);rwa [show 432+(i-432)=i by omega] at this
 by_cases h9:i<540
 ·have:=aZ q9 (i-486) (by omega);rwa [show 486+(i-486)=i by omega] at this
 by_cases h10:i<594
 ·have:=aZ q10 (i-540) (by omega);rwa [show 540+(i-540)=i by omega] at this
 omega
theorem k2:laidOutB Tryz.prog=true:=by unfold laidOutB;rw[Bool.and_eq_true,Bool.and_eq_true];refine⟨⟨?_,by kernel_rfl⟩,by kernel_rfl⟩;rw[List.all_eq_true];intro i hi;rw[List.mem_range,sz] at hi;exact rows_ok i hi
end Go.Proofs.YtlahhbdihpbbgaaGreatDoor
