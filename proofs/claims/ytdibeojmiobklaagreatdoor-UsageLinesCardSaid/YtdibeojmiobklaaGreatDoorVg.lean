/-
  THE ROW's LIST AND THE PROGRAM's TEXT, each closed fact by itself.
-/
import Derived.Test.YtdibeojmiobklaaGreatDoorRows
import Derived.LaidByTextLater
import Derived.LaidOnce
import Derived.SevenTiedAt
set_option linter.unusedVariables false
set_option linter.unusedSimpArgs false
namespace Go.Proofs.YtdibeojmiobklaaGreatDoor
open Go
set_option maxRecDepth 100000
namespace UsageLines
theorem noOwnUnsafe : Tryz.pinned.checked.prog.headLifts.contains "ownunsafe" = false := by kernel_rfl
def laid3 : List (String × DataW Unit) := [("math/bits.deBruijn32tab", Rows.laid_math_bits_deBruijn32tab), ("math/bits.deBruijn64tab", Rows.laid_math_bits_deBruijn64tab), ("internal/strconv.uint64pow10", Rows.laid_internal_strconv_uint64pow10)]
theorem t1:Tryz.prog.worded (varsWordLater true)=true:=by kernel_rfl
theorem t2:Tryz.prog.worded (varsWordLater !true)=false:=by kernel_rfl
theorem t3:Tryz.prog.worded rootWordLater=true:=by kernel_rfl
theorem t4:laid3.map (λ x=>Tryz.prog.kindOfLater x.1)=([.data,.data,.data]:List LaidKind).map some:=by kernel_rfl
theorem t5 : (Tryz.prog.funcNamed "gosem.cut.vars").isSome = true := by kernel_rfl
theorem t6:varsNamedLaterB Tryz.prog (varsId Tryz.prog) laid3=true:=by kernel_rfl
theorem t7 (os:Os) (tape:Tape):doorLeaves Tryz.prog 200 8 65 laid3 os tape=some (laid3.filter λ x=>x.2.handleName?.isNone,(funcsListed laid3).map (·.2.funcsOut)):=by kernel_rfl
theorem tie : Tryz.prog.laidByTextLater [("math/bits.deBruijn32tab", Rows.laid_math_bits_deBruijn32tab), ("math/bits.deBruijn64tab", Rows.laid_math_bits_deBruijn64tab), ("internal/strconv.uint64pow10", Rows.laid_internal_strconv_uint64pow10)] [.data, .data, .data] true := Program.laidByTextLater_by_one (laid := laid3) 200 8 65 t1 t2 t3 t4 t5 t6 t7
theorem usageLines_row_tie:Rows.usageLinesRow.laidByTextAt .later Tryz.pinned [.data,.data,.data] true :=
  OpenClaim.laidByTextAt_later rfl rfl tie noOwnUnsafe
end UsageLines
end Go.Proofs.YtdibeojmiobklaaGreatDoor
