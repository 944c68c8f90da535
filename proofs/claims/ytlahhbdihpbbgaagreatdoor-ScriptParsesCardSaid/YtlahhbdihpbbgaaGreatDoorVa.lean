/-
  THE ROW's FIRST WORLD: the listed variables as the text leaves them; it is shaped.
-/
import Derived.Test.YtlahhbdihpbbgaaGreatDoorSh
import Derived.Lay
import Derived.LaidMore
import Derived.MakeChecks
noncomputable section
set_option linter.unusedVariables false
set_option linter.unusedSimpArgs false
set_option maxRecDepth 100000
open Nat (ble beq)
namespace Go.Proofs.YtlahhbdihpbbgaaGreatDoor
open Go Go.Ev
def sC:Array Value:=#[.string ⟨⟨[]⟩⟩]
theorem yc (os:Os) (args:Array Value):laidMet Tryz.prog iD ((World.laidAll Tryz.prog os iD).forCall (λ_ _=>0) ⟨#[],args,[]⟩).memory:=
 laidMet_laidAll _ (by kernel_rfl) (by kernel_rfl)
theorem oQ (os:Os):((World.laidAll Tryz.prog os iD).forCall (λ_ _=>0) ⟨#[],sC,[]⟩).Shaped Tryz.prog:=World.shaped_of_ZipB (by kernel_rfl) (by kernel_rfl)
end Go.Proofs.YtlahhbdihpbbgaaGreatDoor
