/-
  THE ROW's LIST AND THE PROGRAM's TEXT, each closed fact by itself.
-/
import Derived.Test.YtglmdggjibmjcaaGreatDoorJ0
import Derived.Test.YtglmdggjibmjcaaGreatDoorRows
import Derived.LaidByTextLater
import Derived.LaidOnce
import Derived.SevenTiedAt
noncomputable section
set_option linter.all false
set_option maxRecDepth 100000
open Nat (ble beq)
namespace Go.Proofs.YtglmdggjibmjcaaGreatDoor
open Go
namespace TraceBack
def iy : Tryz.pinned.checked.prog.pinnedFits "unicode/utf8.first" = true:= by kernel_rfl
def wE : Tryz.pinned.checked.prog.headLifts.contains "ownunsafe" = false:= by kernel_rfl
def tf : List (String × DataW Unit):= [("internal/strconv.uint64pow10", Rows.laid_internal_strconv_uint64pow10), ("math/bits.deBruijn32tab", Rows.laid_math_bits_deBruijn32tab), ("math/bits.deBruijn64tab", Rows.laid_math_bits_deBruijn64tab), ("unicode/utf8.acceptRanges", Rows.laid_unicode_utf8_acceptRanges), ("strconv.ErrSyntax", Rows.laid_strconv_ErrSyntax), ("strconv.ErrRange", Rows.laid_strconv_ErrRange)]
def t1:Tryz.prog.worded (varsWordLater true)=true:=by kernel_rfl
def t2:Tryz.prog.worded (varsWordLater !true)=false:=by kernel_rfl
def t3:Tryz.prog.worded rootWordLater=true:=by kernel_rfl
def t4:tf.map (λx=>Tryz.prog.kindOfLater x.1)=([.data,.data,.data,.data,.sentinel,.sentinel]:List LaidKind).map some:=by kernel_rfl
def t5 : (Tryz.prog.funcNamed "gosem.cut.vars").isSome = true:= by kernel_rfl
def t6:varsNamedLaterB Tryz.prog (varsId Tryz.prog) tf=true:=by kernel_rfl
def t7 (os:Os) (tape:Tape):doorLeaves Tryz.prog 200 8 65 tf os tape=some (tf.filter λx=>x.2.handleName?.isNone,(funcsListed tf).map (·.2.funcsOut)):=by kernel_rfl
def awD : Tryz.prog.laidByTextLater [("internal/strconv.uint64pow10", Rows.laid_internal_strconv_uint64pow10), ("math/bits.deBruijn32tab", Rows.laid_math_bits_deBruijn32tab), ("math/bits.deBruijn64tab", Rows.laid_math_bits_deBruijn64tab), ("unicode/utf8.acceptRanges", Rows.laid_unicode_utf8_acceptRanges), ("strconv.ErrSyntax", Rows.laid_strconv_ErrSyntax), ("strconv.ErrRange", Rows.laid_strconv_ErrRange)] [.data, .data, .data, .data, .sentinel, .sentinel] true:= Program.laidByTextLater_by_one (laid:= tf) 200 8 65 t1 t2 t3 t4 t5 t6 t7
def aq6 : Tryz.pinned.checked.prog.listedFits [("internal/strconv.uint64pow10", Rows.laid_internal_strconv_uint64pow10), ("math/bits.deBruijn32tab", Rows.laid_math_bits_deBruijn32tab), ("math/bits.deBruijn64tab", Rows.laid_math_bits_deBruijn64tab), ("unicode/utf8.first", Rows.laid_unicode_utf8_first), ("unicode/utf8.acceptRanges", Rows.laid_unicode_utf8_acceptRanges), ("strconv.ErrSyntax", Rows.laid_strconv_ErrSyntax), ("strconv.ErrRange", Rows.laid_strconv_ErrRange)] = true:= by
 unfold Program.listedFits;rw[wE]
 kernel_rfl
def mQ:Rows.traceBackRow.laidByTextAt .later Tryz.pinned [.data,.data,.data,.pinned,.data,.sentinel,.sentinel] true:=
 OpenClaim.laidByTextAt_pinned rfl rfl awD rfl rfl rfl rfl (λy hy _e=>by
  simp only[Rows.traceBackRow,List.zip_cons_cons,List.zip_nil_right,Jr,List.mem_nil_iff,or_false] at hy;rcases hy with rfl | rfl | rfl | rfl | rfl | rfl | rfl
  ·cases _e
  ·cases _e
  ·cases _e
  ·exact⟨iy,by kernel_rfl⟩
  ·cases _e
  ·cases _e
  ·cases _e) aq6
end TraceBack
end Go.Proofs.YtglmdggjibmjcaaGreatDoor
