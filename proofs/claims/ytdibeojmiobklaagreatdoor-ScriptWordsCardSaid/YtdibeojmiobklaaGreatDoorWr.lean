/-
  THE CHAIN OF THE LAYERS.
-/
import Derived.Test.YtdibeojmiobklaaGreatDoorLb
import Derived.Test.YtdibeojmiobklaaGreatDoorRa
import Derived.Test.YtdibeojmiobklaaGreatDoorRb
import Derived.Test.YtdibeojmiobklaaGreatDoorRc
import Derived.Test.YtdibeojmiobklaaGreatDoorRd
import Derived.Test.YtdibeojmiobklaaGreatDoorRe
import Derived.Test.YtdibeojmiobklaaGreatDoorRf
import Derived.Test.YtdibeojmiobklaaGreatDoorRg
import Derived.Test.YtdibeojmiobklaaGreatDoorRh
import Derived.Test.YtdibeojmiobklaaGreatDoorRi
import Derived.Test.YtdibeojmiobklaaGreatDoorRj
import Derived.Test.YtdibeojmiobklaaGreatDoorRl
set_option linter.unusedVariables false
set_option linter.unusedSimpArgs false
namespace Go.Ev
open Go F Go.Proofs
theorem true_at {t:ExtT} (ht:ExtAll t) {f:FuncId} (h:runAt t f):ExtOK Tryz.prog f (trueG glob):=trueG_ok (env_of t ht) (callS_ok t 1000) glob_ok h
variable (h02 : ExtOK Tryz.prog 580 (trueG glob))
include h02
theorem aw02_ok:ExtAll aw02:=ext_ins e8_ok (by decide) h02
theorem aw02w_ok:ExtAll aw02w:=ext_ins (aw02_ok h02) (by decide) (true_at (aw02_ok h02) run02A)
theorem aw03_ok:ExtAll aw03:=ext_ins (aw02w_ok h02) (by decide) (true_at (aw02w_ok h02) run03a)
theorem aw03w_ok:ExtAll aw03w:=ext_ins (aw03_ok h02) (by decide) (true_at (aw03_ok h02) run03A)
theorem aw04_ok:ExtAll aw04:=ext_ins (aw03w_ok h02) (by decide) (true_at (aw03w_ok h02) run04a)
theorem aw04w_ok:ExtAll aw04w:=ext_ins (aw04_ok h02) (by decide) (true_at (aw04_ok h02) run04A)
theorem aw05_ok:ExtAll aw05:=ext_ins (aw04w_ok h02) (by decide) (true_at (aw04w_ok h02) run05a)
theorem aw05w_ok:ExtAll aw05w:=ext_ins (aw05_ok h02) (by decide) (true_at (aw05_ok h02) run05A)
theorem aw06_ok:ExtAll aw06:=ext_ins (aw05w_ok h02) (by decide) (true_at (aw05w_ok h02) run06a)
theorem aw06w_ok:ExtAll aw06w:=ext_ins (aw06_ok h02) (by decide) (true_at (aw06_ok h02) run06A)
theorem aw07_ok:ExtAll aw07:=ext_ins (aw06w_ok h02) (by decide) (true_at (aw06w_ok h02) run07a)
theorem aw07w_ok:ExtAll aw07w:=ext_ins (aw07_ok h02) (by decide) (true_at (aw07_ok h02) run07A)
theorem aw08_ok:ExtAll aw08:=ext_ins (aw07w_ok h02) (by decide) (true_at (aw07w_ok h02) run08a)
theorem aw08w_ok:ExtAll aw08w:=ext_ins (aw08_ok h02) (by decide) (true_at (aw08_ok h02) run08A)
theorem aw09_ok:ExtAll aw09:=ext_ins (aw08w_ok h02) (by decide) (true_at (aw08w_ok h02) run09a)
theorem aw09w_ok:ExtAll aw09w:=ext_ins (aw09_ok h02) (by decide) (true_at (aw09_ok h02) run09A)
theorem aw10_ok:ExtAll aw10:=ext_ins (aw09w_ok h02) (by decide) (true_at (aw09w_ok h02) run10a)
theorem aw10w_ok:ExtAll aw10w:=ext_ins (aw10_ok h02) (by decide) (true_at (aw10_ok h02) run10A)
theorem aw11_ok:ExtAll aw11:=ext_ins (aw10w_ok h02) (by decide) (true_at (aw10w_ok h02) run11a)
theorem aw11w_ok:ExtAll aw11w:=ext_ins (aw11_ok h02) (by decide) (true_at (aw11_ok h02) run11A)
theorem aw12_ok:ExtAll aw12:=ext_ins (aw11w_ok h02) (by decide) (true_at (aw11w_ok h02) run12a)
theorem aw12w_ok:ExtAll aw12w:=ext_ins (aw12_ok h02) (by decide) (true_at (aw12_ok h02) run12A)
theorem aw13_ok:ExtAll aw13:=ext_ins (aw12w_ok h02) (by decide) (true_at (aw12w_ok h02) run13a)
theorem aw13w_ok:ExtAll aw13w:=ext_ins (aw13_ok h02) (by decide) (true_at (aw13_ok h02) run13A)
theorem aw14_ok:ExtAll aw14:=ext_ins (aw13w_ok h02) (by decide) (true_at (aw13w_ok h02) run14a)
theorem aw14w_ok:ExtAll aw14w:=ext_ins (aw14_ok h02) (by decide) (true_at (aw14_ok h02) run14A)
theorem aw15_ok:ExtAll aw15:=ext_ins (aw14w_ok h02) (by decide) (true_at (aw14w_ok h02) run15a)
theorem aw15w_ok:ExtAll aw15w:=ext_ins (aw15_ok h02) (by decide) (true_at (aw15_ok h02) run15A)
theorem aw16_ok:ExtAll aw16:=ext_ins (aw15w_ok h02) (by decide) (true_at (aw15w_ok h02) run16a)
theorem aw16w_ok:ExtAll aw16w:=ext_ins (aw16_ok h02) (by decide) (true_at (aw16_ok h02) run16A)
theorem aw17_ok:ExtAll aw17:=ext_ins (aw16w_ok h02) (by decide) (true_at (aw16w_ok h02) run17a)
theorem aw17w_ok:ExtAll aw17w:=ext_ins (aw17_ok h02) (by decide) (true_at (aw17_ok h02) run17A)
theorem aw18_ok:ExtAll aw18:=ext_ins (aw17w_ok h02) (by decide) (true_at (aw17w_ok h02) run18a)
theorem aw18w_ok:ExtAll aw18w:=ext_ins (aw18_ok h02) (by decide) (true_at (aw18_ok h02) run18A)
theorem aw19_ok:ExtAll aw19:=ext_ins (aw18w_ok h02) (by decide) (true_at (aw18w_ok h02) run19a)
theorem aw19w_ok:ExtAll aw19w:=ext_ins (aw19_ok h02) (by decide) (true_at (aw19_ok h02) run19A)
theorem aw20_ok:ExtAll aw20:=ext_ins (aw19w_ok h02) (by decide) (true_at (aw19w_ok h02) run20a)
theorem aw20w_ok:ExtAll aw20w:=ext_ins (aw20_ok h02) (by decide) (true_at (aw20_ok h02) run20A)
theorem aw21_ok:ExtAll aw21:=ext_ins (aw20w_ok h02) (by decide) (true_at (aw20w_ok h02) run21a)
theorem aw21w_ok:ExtAll aw21w:=ext_ins (aw21_ok h02) (by decide) (true_at (aw21_ok h02) run21A)
theorem aw22_ok:ExtAll aw22:=ext_ins (aw21w_ok h02) (by decide) (true_at (aw21w_ok h02) run22a)
theorem aw22w_ok:ExtAll aw22w:=ext_ins (aw22_ok h02) (by decide) (true_at (aw22_ok h02) run22A)
theorem aw23_ok:ExtAll aw23:=ext_ins (aw22w_ok h02) (by decide) (true_at (aw22w_ok h02) run23a)
theorem aw23w_ok:ExtAll aw23w:=ext_ins (aw23_ok h02) (by decide) (true_at (aw23_ok h02) run23A)
theorem aw24_ok:ExtAll aw24:=ext_ins (aw23w_ok h02) (by decide) (true_at (aw23w_ok h02) run24a)
theorem aw24w_ok:ExtAll aw24w:=ext_ins (aw24_ok h02) (by decide) (true_at (aw24_ok h02) run24A)
theorem aw25_ok:ExtAll aw25:=ext_ins (aw24w_ok h02) (by decide) (true_at (aw24w_ok h02) run25a)
theorem aw25w_ok:ExtAll aw25w:=ext_ins (aw25_ok h02) (by decide) (true_at (aw25_ok h02) run25A)
theorem aw26_ok:ExtAll aw26:=ext_ins (aw25w_ok h02) (by decide) (true_at (aw25w_ok h02) run26a)
theorem aw26w_ok:ExtAll aw26w:=ext_ins (aw26_ok h02) (by decide) (true_at (aw26_ok h02) run26A)
theorem aw27_ok:ExtAll aw27:=ext_ins (aw26w_ok h02) (by decide) (true_at (aw26w_ok h02) run27a)
theorem aw27w_ok:ExtAll aw27w:=ext_ins (aw27_ok h02) (by decide) (true_at (aw27_ok h02) run27A)
theorem aw28_ok:ExtAll aw28:=ext_ins (aw27w_ok h02) (by decide) (true_at (aw27w_ok h02) run28a)
theorem aw28w_ok:ExtAll aw28w:=ext_ins (aw28_ok h02) (by decide) (true_at (aw28_ok h02) run28A)
theorem aw29_ok:ExtAll aw29:=ext_ins (aw28w_ok h02) (by decide) (true_at (aw28w_ok h02) run29a)
theorem aw29w_ok:ExtAll aw29w:=ext_ins (aw29_ok h02) (by decide) (true_at (aw29_ok h02) run29A)
theorem aw30_ok:ExtAll aw30:=ext_ins (aw29w_ok h02) (by decide) (true_at (aw29w_ok h02) run30a)
theorem aw30w_ok:ExtAll aw30w:=ext_ins (aw30_ok h02) (by decide) (true_at (aw30_ok h02) run30A)
theorem aw31_ok:ExtAll aw31:=ext_ins (aw30w_ok h02) (by decide) (true_at (aw30w_ok h02) run31a)
theorem aw31w_ok:ExtAll aw31w:=ext_ins (aw31_ok h02) (by decide) (true_at (aw31_ok h02) run31A)
theorem aw32_ok:ExtAll aw32:=ext_ins (aw31w_ok h02) (by decide) (true_at (aw31w_ok h02) run32a)
end Go.Ev
namespace Go.Ev
open Go F Go.Proofs
theorem aw_all:ExtAll aw32:=aw32_ok h02
end Go.Ev
