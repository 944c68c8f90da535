/-
  THE ROW's FIRST WORLD: the listed variables as the text leaves them.
-/
import Derived.Test.YtdibeojmiobklaaGreatDoorSa
import Derived.Lay
import Derived.LaidMore
import Derived.MakeChecks
set_option linter.unusedVariables false
set_option linter.unusedSimpArgs false
namespace Go.Proofs.YtdibeojmiobklaaGreatDoor
open Go Go.Ev
set_option maxRecDepth 100000
set_option linter.unusedVariables false
def nilA:Array Value:=#[.slice none 0 0,.slice none 0 0]
theorem first_met (os:Os) (args:Array Value):laidMet Tryz.prog laidL ((World.laidAll Tryz.prog os laidL).forCall (λ _ _=>0) ⟨#[],args,[]⟩).memory :=
  laidMet_laidAll _ (by kernel_rfl) (by kernel_rfl)
end Go.Proofs.YtdibeojmiobklaaGreatDoor
