/-
  THE TABLE OF TYPES, row by row.
-/
import Derived.Test.YtdibeojmiobklaaGreatDoorFa
set_option linter.unusedVariables false
set_option linter.unusedSimpArgs false
namespace Go.Proofs.YtdibeojmiobklaaGreatDoor
open Go
set_option maxRecDepth 100000
noncomputable def mr (s n:Nat):Bool:=rangeB (λ t=>match Tryz.prog.underlying t with | some (.map _ e)=>decide (e < Tryz.prog.types.size) | _=>true) s n
theorem m0:mr 0 51=true:=by kernel_rfl
theorem m1:mr 51 51=true:=by kernel_rfl
theorem m2:mr 102 51=true:=by kernel_rfl
theorem m3:mr 153 51=true:=by kernel_rfl
theorem m4:mr 204 51=true:=by kernel_rfl
theorem m5:mr 255 51=true:=by kernel_rfl
theorem m6:mr 306 51=true:=by kernel_rfl
theorem m7:mr 357 51=true:=by kernel_rfl
theorem m8:mr 408 51=true:=by kernel_rfl
theorem m9:mr 459 51=true:=by kernel_rfl
theorem m10:mr 510 51=true:=by kernel_rfl
theorem m11:mr 561 51=true:=by kernel_rfl
theorem m12:mr 612 51=true:=by kernel_rfl
theorem maps_ok (i:Nat) (hi:i < 663):(match Tryz.prog.underlying i with | some (.map _ e)=>decide (e < Tryz.prog.types.size) | _=>true)=true:=by
  by_cases h0:i < 51
  · have:=rangeB_get m0 (i - 0) (by omega)
    rwa [show 0 + (i - 0)=i by omega] at this
  by_cases h1:i < 102
  · have:=rangeB_get m1 (i - 51) (by omega)
    rwa [show 51 + (i - 51)=i by omega] at this
  by_cases h2:i < 153
  · have:=rangeB_get m2 (i - 102) (by omega)
    rwa [show 102 + (i - 102)=i by omega] at this
  by_cases h3:i < 204
  · have:=rangeB_get m3 (i - 153) (by omega)
    rwa [show 153 + (i - 153)=i by omega] at this
  by_cases h4:i < 255
  · have:=rangeB_get m4 (i - 204) (by omega)
    rwa [show 204 + (i - 204)=i by omega] at this
  by_cases h5:i < 306
  · have:=rangeB_get m5 (i - 255) (by omega)
    rwa [show 255 + (i - 255)=i by omega] at this
  by_cases h6:i < 357
  · have:=rangeB_get m6 (i - 306) (by omega)
    rwa [show 306 + (i - 306)=i by omega] at this
  by_cases h7:i < 408
  · have:=rangeB_get m7 (i - 357) (by omega)
    rwa [show 357 + (i - 357)=i by omega] at this
  by_cases h8:i < 459
  · have:=rangeB_get m8 (i - 408) (by omega)
    rwa [show 408 + (i - 408)=i by omega] at this
  by_cases h9:i < 510
  · have:=rangeB_get m9 (i - 459) (by omega)
    rwa [show 459 + (i - 459)=i by omega] at this
  by_cases h10:i < 561
  · have:=rangeB_get m10 (i - 510) (by omega)
    rwa [show 510 + (i - 510)=i by omega] at this
  by_cases h11:i < 612
  · have:=rangeB_get m11 (i - 561) (by omega)
    rwa [show 561 + (i - 561)=i by omega] at this
  by_cases h12:i < 663
  · have:=rangeB_get m12 (i - 612) (by omega)
    rwa [show 612 + (i - 612)=i by omega] at this
  omega
theorem k3:mapsRowed Tryz.prog=true:=by
  unfold mapsRowed
  rw [List.all_eq_true]
  intro i hi
  rw [List.mem_range,sz] at hi
  exact maps_ok i hi
end Go.Proofs.YtdibeojmiobklaaGreatDoor
