/-
  THE TABLE OF TYPES, row by row.
-/
import Derived.Test.YtdibeojmiobklaaGreatDoorProg
import Derived.KernelRfl
import GoSem.ClaimDataLaid
import GoSem.ClaimJoined
set_option linter.unusedVariables false
set_option linter.unusedSimpArgs false
namespace Go.Proofs.YtdibeojmiobklaaGreatDoor
open Go
set_option maxRecDepth 100000
noncomputable def rangeB (p:Nat→Bool) (s n:Nat):Bool:=Nat.rec (motive:=λ _=>Bool) true (λ i ih=>Bool.rec (motive:=λ _=>Bool) false ih (p (Nat.add s i))) n
theorem rangeB_get {p:Nat→Bool} {s:Nat}:∀ {n:Nat},rangeB p s n=true→∀ i,i < n→p (s + i)=true
  | 0,_,i,hi=>absurd hi (Nat.not_lt_zero i)
  | n + 1,h,i,hi=>by
    have h:Bool.rec (motive:=λ _=>Bool) false (rangeB p s n) (p (s + n))=true:=h
    cases hp:p (s + n) with
    | false=>rw [hp] at h; exact nomatch h
    | true =>
      rw [hp] at h
      by_cases e:i=n
      · rw [e]; exact hp
      · exact rangeB_get h i (by omega)
noncomputable def rf (s n:Nat):Bool:=rangeB (rowFine Tryz.prog) s n
theorem q0:rf 0 51=true:=by kernel_rfl
theorem q1:rf 51 51=true:=by kernel_rfl
theorem q2:rf 102 51=true:=by kernel_rfl
theorem q3:rf 153 51=true:=by kernel_rfl
theorem q4:rf 204 51=true:=by kernel_rfl
theorem q5:rf 255 51=true:=by kernel_rfl
theorem q6:rf 306 51=true:=by kernel_rfl
theorem q7:rf 357 51=true:=by kernel_rfl
theorem q8:rf 408 51=true:=by kernel_rfl
theorem q9:rf 459 51=true:=by kernel_rfl
theorem q10:rf 510 51=true:=by kernel_rfl
theorem q11:rf 561 51=true:=by kernel_rfl
theorem q12:rf 612 51=true:=by kernel_rfl
theorem sz:Tryz.prog.types.size=663:=by kernel_rfl
theorem rows_ok (i:Nat) (hi:i < 663):rowFine Tryz.prog i=true:=by
  by_cases h0:i < 51
  · have:=rangeB_get q0 (i - 0) (by omega)
    rwa [show 0 + (i - 0)=i by omega] at this
  by_cases h1:i < 102
  · have:=rangeB_get q1 (i - 51) (by omega)
    rwa [show 51 + (i - 51)=i by omega] at this
  by_cases h2:i < 153
  · have:=rangeB_get q2 (i - 102) (by omega)
    rwa [show 102 + (i - 102)=i by omega] at this
  by_cases h3:i < 204
  · have:=rangeB_get q3 (i - 153) (by omega)
    rwa [show 153 + (i - 153)=i by omega] at this
  by_cases h4:i < 255
  · have:=rangeB_get q4 (i - 204) (by omega)
    rwa [show 204 + (i - 204)=i by omega] at this
  by_cases h5:i < 306
  · have:=rangeB_get q5 (i - 255) (by omega)
    rwa [show 255 + (i - 255)=i by omega] at this
  by_cases h6:i < 357
  · have:=rangeB_get q6 (i - 306) (by omega)
    rwa [show 306 + (i - 306)=i by omega] at this
  by_cases h7:i < 408
  · have:=rangeB_get q7 (i - 357) (by omega)
    rwa [show 357 + (i - 357)=i by omega] at this
  by_cases h8:i < 459
  · have:=rangeB_get q8 (i - 408) (by omega)
    rwa [show 408 + (i - 408)=i by omega] at this
  by_cases h9:i < 510
  · have:=rangeB_get q9 (i - 459) (by omega)
    rwa [show 459 + (i - 459)=i by omega] at this
  by_cases h10:i < 561
  · have:=rangeB_get q10 (i - 510) (by omega)
    rwa [show 510 + (i - 510)=i by omega] at this
  by_cases h11:i < 612
  · have:=rangeB_get q11 (i - 561) (by omega)
    rwa [show 561 + (i - 561)=i by omega] at this
  by_cases h12:i < 663
  · have:=rangeB_get q12 (i - 612) (by omega)
    rwa [show 612 + (i - 612)=i by omega] at this
  omega
theorem k2:laidOutB Tryz.prog=true:=by
  unfold laidOutB
  rw [Bool.and_eq_true,Bool.and_eq_true]
  refine ⟨⟨?_,by kernel_rfl⟩,by kernel_rfl⟩
  rw [List.all_eq_true]
  intro i hi
  rw [List.mem_range,sz] at hi
  exact rows_ok i hi
end Go.Proofs.YtdibeojmiobklaaGreatDoor
