/-
  THE TABLE OF TYPES, row by row.
-/
import Derived.Test.YtglmdggjibmjcaaGreatDoorQa
noncomputable section
set_option linter.all false
set_option maxRecDepth 100000
open Nat (ble beq)
namespace Go.Proofs.YtglmdggjibmjcaaGreatDoor
open Go
def mr (s n:Nat):Bool:=ul (λt=>match Tryz.prog.underlying t with | some (.map _ e)=>decide (e<Tryz.prog.types.size) | _=>true) s n
def m0:mr 0 45=true:=by kernel_rfl
def m1:mr 45 45=true:=by kernel_rfl
def m2:mr 90 45=true:=by kernel_rfl
def m3:mr 135 45=true:=by kernel_rfl
def m4:mr 180 45=true:=by kernel_rfl
def m5:mr 225 45=true:=by kernel_rfl
def m6:mr 270 45=true:=by kernel_rfl
def m7:mr 315 45=true:=by kernel_rfl
def m8:mr 360 45=true:=by kernel_rfl
def m9:mr 405 45=true:=by kernel_rfl
def m10:mr 450 45=true:=by kernel_rfl
def m11:mr 495 45=true:=by kernel_rfl
def m12:mr 540 45=true:=by kernel_rfl
def m13:mr 585 45=true:=by kernel_rfl
def m14:mr 630 45=true:=by kernel_rfl
def TW (i:Nat) (hi:i<675):(match Tryz.prog.underlying i with | some (.map _ e)=>decide (e<Tryz.prog.types.size) | _=>true)=true:=by
 by_cases h0:i<45
 ·have:=bd m0 (i-0) (by omega);rwa [show 0+(i-0)=i by omega] at this
 by_cases h1:i<90
 ·have:=bd m1 (i-45) (by omega);rwa [show 45+(i-45)=i by omega] at this
 by_cases h2:i<135
 ·have:=bd m2 (i-90) (by omega);rwa [show 90+(i-90)=i by omega] at this
 by_cases h3:i<180
 ·have:=bd m3 (i-135) (by omega);rwa [show 135+(i-135)=i by omega] at this
 by_cases h4:i<225
 ·have:=bd m4 (i-180) (by omega);rwa [show 180+(i-180)=i by omega] at this
 by_cases h5:i<270
 ·have:=bd m5 (i-225) (by omega);rwa [show 225+(i-225)=i by omega] at this
 by_cases h6:i<315
 ·have:=bd m6 (i-270) (by omega);rwa [show 270+(i-270)=i by omega] at this
 by_cases h7:i<360
 ·have:=bd m7 (i-315) (by omega);rwa [show 315+(i-315)=i by omega] at this
 by_cases h8:i<405
 ·have:=bd m8 (i-360) (by omega);rwa [show 360+(i-360)=i by omega] at this
 by_cases h9:i<450
 ·have:=bd m9 (i-405) (by omega);rwa [show 405+(i-405)=i by omega] at this
 by_cases h10:i<495
 ·have:=bd m10 (i-450) (by omega);rwa [show 450+(i-450)=i by omega] at this
 by_cases h11:i<540
 ·have:=bd m11 (i-495) (by omega);rwa [show 495+(i-495)=i by omega] at this
 by_cases h12:i<585
 ·have:=bd m12 (i-540) (by omega);rwa [show 540+(i-540)=i by omega] at this
 by_cases h13:i<630
 ·have:=bd m13 (i-585) (by omega);rwa [show 585+(i-585)=i by omega] at this
 by_cases h14:i<675
 ·have:=bd m14 (i-630) (by omega);rwa [show 630+(i-630)=i by omega] at this
 omega
def k3:mapsRowed Tryz.prog=true:=by unfold mapsRowed;rw[Jv];intro i hi;rw[List.mem_range,sz] at hi;exact TW i hi
end Go.Proofs.YtglmdggjibmjcaaGreatDoor
