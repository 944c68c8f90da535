/-
  THE ROW's FIRST WORLD is shaped.
-/
import Derived.Test.YtdibeojmiobklaaGreatDoorSb
set_option linter.unusedVariables false
set_option linter.unusedSimpArgs false
namespace Go.Proofs.YtdibeojmiobklaaGreatDoor
open Go Go.Ev
set_option maxRecDepth 100000
theorem first_shaped (os:Os):((World.laidAll Tryz.prog os laidL).forCall (λ _ _=>0) ⟨#[],nilA,[]⟩).Shaped Tryz.prog:=World.shaped_of_ZipB (by kernel_rfl) (by kernel_rfl)
end Go.Proofs.YtdibeojmiobklaaGreatDoor
