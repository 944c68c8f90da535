import Derived.Test.YtlahhbdihpbbgaaGreatDoorRows
import Derived.LaidByTextLater
import Derived.LaidOnce
import Derived.SevenTiedAt
noncomputable section
set_option linter.unusedVariables false
set_option linter.unusedSimpArgs false
set_option maxRecDepth 100000
open Nat (ble beq)
namespace Go.Proofs.YtlahhbdihpbbgaaGreatDoor
open Go
namespace ScriptParses
theorem fL : Tryz.pinned.checked.prog.pinnedFits "unicode/utf8.first" = true:= by kernel_rfl
theorem qN : Tryz.pinned.checked.prog.headLifts.contains "ownunsafe" = false:= by kernel_rfl
def oB : List (String × DataW Unit):= [("unicode/utf8.acceptRanges", Rows.laid_unicode_utf8_acceptRanges), ("strconv.ErrSyntax", Rows.laid_strconv_ErrSyntax), ("strconv.ErrRange", Rows.laid_strconv_ErrRange), ("internal/strconv.uint64pow10", Rows.laid_internal_strconv_uint64pow10), ("math/bits.deBruijn32tab", Rows.laid_math_bits_deBruijn32tab), ("math/bits.deBruijn64tab", Rows.laid_math_bits_deBruijn64tab)]
theorem t1:Tryz.prog.worded (varsWordLater true)=true:=by kernel_rfl
theorem t2:Tryz.prog.worded (varsWordLater !true)=false:=by kernel_rfl
theorem t3:Tryz.prog.worded rootWordLater=true:=by kernel_rfl
theorem t4:oB.map (λx=>Tryz.prog.kindOfLater x.1)=([.data,.sentinel,.sentinel,.data,.data,.data]:List LaidKind).map some:=by kernel_rfl
theorem t5 : (Tryz.prog.funcNamed "gosem.cut.vars").isSome = true:= by kernel_rfl
theorem t6:varsNamedLaterB Tryz.prog (varsId Tryz.prog) oB=true:=by kernel_rfl
theorem t7 (os:Os) (tape:Tape):doorLeaves Tryz.prog 200 8 65 oB os tape=some (oB.filter λx=>x.2.handleName?.isNone,(funcsListed oB).map (·.2.funcsOut)):=by kernel_rfl
theorem asJ : Tryz.prog.laidByTextLater [("unicode/utf8.acceptRanges", Rows.laid_unicode_utf8_acceptRanges), ("strconv.ErrSyntax", Rows.laid_strconv_ErrSyntax), ("strconv.ErrRange", Rows.laid_strconv_ErrRange), ("internal/strconv.uint64pow10", Rows.laid_internal_strconv_uint64pow10), ("math/bits.deBruijn32tab", Rows.laid_math_bits_deBruijn32tab), ("math/bits.deBruijn64tab", Rows.laid_math_bits_deBruijn64tab)] [.data, .sentinel, .sentinel, .data, .data, .data] true:= Program.laidByTextLater_by_one (laid:= oB) 200 8 65 t1 t2 t3 t4 t5 t6 t7
theorem alW : Tryz.pinned.checked.prog.listedFits [("unicode/utf8.first", Rows.laid_unicode_utf8_first), ("unicode/utf8.acceptRanges", Rows.laid_unicode_utf8_acceptRanges), ("strconv.ErrSyntax", Rows.laid_strconv_ErrSyntax), ("strconv.ErrRange", Rows.laid_strconv_ErrRange), ("internal/strconv.uint64pow10", Rows.laid_internal_strconv_uint64pow10), ("math/bits.deBruijn32tab", Rows.laid_math_bits_deBruijn32tab), ("math/bits.deBruijn64tab", Rows.laid_math_bits_deBruijn64tab)] = true:= by
 unfold Program.listedFits;rw[qN]
 kernel_rfl
theorem X1:Rows.scriptParsesRow.laidByTextAt .later Tryz.pinned [.pinned,.data,.sentinel,.sentinel,.data,.data,.data] true:=
 OpenClaim.laidByTextAt_pinned rfl rfl asJ rfl rfl rfl rfl (λy hy _e=>by
  simp only[Rows.scriptParsesRow,List.zip_cons_cons,List.zip_nil_right,List.mem_cons,List.mem_nil_iff,or_false] at hy;rcases hy with rfl | rfl | rfl | rfl | rfl | rfl | rfl
  ·exact⟨fL,by kernel_rfl⟩
  ·cases _e
  ·cases _e
  ·cases _e
  ·cases _e
  ·cases _e
  ·cases _e) alW
end ScriptParses
end Go.Proofs.YtlahhbdihpbbgaaGreatDoor
