import Derived.Test.YtlahhbdihpbbgaaGreatDoorFa
noncomputable section
set_option linter.unusedVariables false
set_option linter.unusedSimpArgs false
set_option maxRecDepth 100000
open Nat (ble beq)
namespace Go.Proofs.YtlahhbdihpbbgaaGreatDoor
open Go
def mr (s n:Nat):Bool:=pj (λt=>match Tryz.prog.underlying t with | some (.map _ e)=>decide (e<Tryz.prog.types.size) | _=>true) s n
theorem m0:mr 0 54=true:=by kernel_rfl
theorem m1:mr 54 54=true:=by kernel_rfl
theorem m2:mr 108 54=true:=by kernel_rfl
theorem m3:mr 162 54=true:=by kernel_rfl
theorem m4:mr 216 54=true:=by kernel_rfl
theorem m5:mr 270 54=true:=by kernel_rfl
theorem m6:mr 324 54=true:=by kernel_rfl
theorem m7:mr 378 54=true:=by kernel_rfl
theorem m8:mr 432 54=true:=by kernel_rfl
theorem m9:mr 486 54=true:=by kernel_rfl
theorem m10:mr 540 54=true:=by kernel_rfl
theorem Kn (i:Nat) (hi:i<594):(match Tryz.prog.underlying i with | some (.map _ e)=>decide (e<Tryz.prog.types.size) | _=>true)=true:=by
 by_cases h0:i<54
 ·have:=aZ m0 (i-0) (by omega);rwa [show 0+(i-0)=i by omega] at this
 by_cases h1:i<108
 ·have:=aZ m1 (i-54) (by omega);rwa [show 54+(i-54)=i by omega] at this
 by_cases h2:i<162
 ·have:=aZ m2 (i-108) (by omega);rwa [show 108+(i-108)=i by omega] at this
 by_cases h3:i<216
 ·have:=aZ m3 (i-162) (by omega);rwa [show 162+(i-162)=i by omega] at this
 by_cases h4:i<270
 ·have:=aZ m4 (i-216) (by omega);rwa [show 216+(i-216)=i by omega] at this
 by_cases h5:i<324
 ·have:=aZ m5 (i-270) (by omega);rwa [show 270+(i-270)=i by omega] at this
 by_cases h6:i<378
 ·have:=aZ m6 (i-324) (by omega);rwa [show 324+(i-324)=i by omega] at this
 by_cases h7:i<432
 ·have:=aZ m7 (i-378) (by omega);rwa [show 378+(i-378)=i by omega] at this
 by_cases h8:i<486
 ·have:=aZ m8 (i-432) (by omega);rwa [show 432+(i-432)=i by omega] at this
 by_cases h9:i<540
 ·have:=aZ m9 (i-486) (by omega);rwa [show 486+(i-486)=i by omega] at this
 by_cases h10:i<594
 ·have:=aZ m10 (i-540) (by omega);rwa [show 540+(i-540)=i by omega] at this
 omega
theorem k3:mapsRowed Tryz.prog=true:=by unfold mapsRowed;rw[List.all_eq_true];intro i hi;rw[List.mem_range,sz] at hi;exact Kn i hi
end Go.Proofs.YtlahhbdihpbbgaaGreatDoor
