/-
  THE ROW's OWN RUN.
-/
import Derived.Test.YtpdachddebkebaaGreatDoorFa
import Derived.Test.YtpdachddebkebaaGreatDoorRk
import Derived.Test.YtpdachddebkebaaGreatDoorRa
import Derived.KernelRfl
set_option linter.unusedVariables false
set_option linter.unusedSimpArgs false
namespace Go.Ev
open Go F Go.Proofs
set_option maxRecDepth 100000
theorem aw_all : ExtAll aw31 := aw31_ok h02
theorem run4 : runAt aw31 4 := by
  unfold runAt
  kernel_rfl
end Go.Ev
