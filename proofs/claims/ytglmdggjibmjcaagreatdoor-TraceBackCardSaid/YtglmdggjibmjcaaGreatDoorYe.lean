/-
  FUNCTIONS OF THE LIBRARY, answered for by their contracts.
-/
import Derived.Shelf.Strings.Builder1
import Derived.Shelf.Strings.Builder2
import Derived.Shelf.Strings.OnBuilder
import Derived.Shelf.Small.Utf8
import Derived.Shelf.Small.Bits
import Derived.Shelf.Small.Strs
import Derived.Shelf.Strings.BuilderF
import Derived.Shelf.Utf8.RuneCount
import Derived.Shelf.Strconv.Atoi
import Derived.Shelf.Strconv.Itoa0
import Derived.Shelf.Strconv.Itoa1
import Derived.Shelf.LaysM
import Derived.Shelf.Strconv.Itoa2
import Derived.Shelf.Strconv.Itoa3
import Derived.Shelf.Strconv.AtoiErrFast
import Derived.Shelf.Strconv.ParseIntEmpty
import Derived.Shelf.Strconv.AtoiFail
import Derived.Shelf.Strconv.Clone
import Derived.Shelf.Strconv.SyntaxError
import Derived.Shelf.LaysC
import Derived.Shelf.Strconv.ToError
import Derived.Shelf.Strconv.Lower
import Derived.Shelf.Strconv.ParseUint10
import Derived.Shelf.Strconv.ParseUint10Empty
import Derived.Shelf.Strconv.ParseUint10Any
import Derived.Shelf.Strconv.ParseInt10
import Derived.Shelf.Strconv.AtoiLong
import Derived.Shelf.Strconv.AtoiInnerAll
import Derived.Shelf.Strconv.RangeError
import Derived.Shelf.Strconv.ToErrorRange
import Derived.Shelf.Strconv.AtoiAll
import Derived.Shelf.Strconv.ErrVarAll
import Derived.Shelf.Strings.Search1
import Derived.Shelf.Strings.Search2
import Derived.Shelf.Strings.Search3
import Derived.Shelf.Strings.Count
import Derived.Shelf.Strings.Shaped
import Derived.Shelf.Strings.Prefix
import Derived.Shelf.Strings.Split
import Derived.Shelf.Strings.SplitShaped
import Derived.Shelf.Unicode.Decode
import Derived.Shelf.Strings.Runes
import Derived.Shelf.Strings.RuneCount
import Derived.Shelf.Strings.IndexAny
import Derived.Shelf.Strings.AsciiSet
import Derived.Shelf.Strings.IndexAnyAll
import Derived.Shelf.Strings.Explode
import Derived.Shelf.Bits.Mul64
import Derived.Shelf.Strings.Repeat
import Derived.Shelf.Unicode.DecodeSlow
import Derived.Shelf.Unicode.DecodeAny
import Derived.Shelf.Strings.FieldsFuncAny
import Derived.Shelf.Slices.Reverse
import Derived.Ground.Names2Prog
import Derived.Shelf.Slices.Clone
import Derived.Shelf.Slices.SearchI
import Derived.Shelf.Slices.Cells
import Derived.Ground.SlgnProg
import Derived.Shelf.SlicesE.Clone
import Derived.Test.YtglmdggjibmjcaaGreatDoorYd
import Derived.Lib.Walk
import Derived.Lib.ItoaMem
import Derived.WalkKit
import Derived.BigCall
import Derived.BigGuard
noncomputable section
set_option linter.all false
set_option maxRecDepth 100000
open Nat (ble beq)
namespace Go.Proofs
open Go.Shelf
def Tryz.lays156_ren:Go.Shelf.Ren:=⟨λ| 156=>32 | 165=>61 | 166=>14 | 169=>17 | 240=>27 | 241=>78 | 276=>55 | 277=>99 | n=>n,λ| 31=>37 | 9=>9 | 3=>3 | 4=>4 | 0=>0 | 20=>20 | 72=>44 | 76=>47 | 70=>41 | 37=>42 | 75=>46 | 127=>75 | 164=>100 | 5=>5 | 80=>52 | n=>n,λ| n=>n⟩
def Tryz.lays156:Go.Proofs.Lays.n156 Tryz.prog Tryz.lays156_ren:={
 mixed:=by kernel_rfl
 f156:=Tryz.func32.trans (congrArg some (by kernel_rfl))
 f165:=Tryz.func61.trans (congrArg some (by kernel_rfl))
 f166:=Tryz.func14.trans (congrArg some (by kernel_rfl))
 f169:=Tryz.func17.trans (congrArg some (by kernel_rfl))
 f240:=Tryz.func27.trans (congrArg some (by kernel_rfl))
 f241:=Tryz.func78.trans (congrArg some (by kernel_rfl))
 f276:=Tryz.func55.trans (congrArg some (by kernel_rfl))
 f277:=Tryz.func99.trans (congrArg some (by kernel_rfl))
 t0:=Tryz.underlying0
 a0:=Tryz.isAgg0
 z0:=Tryz.sizeOf0
 v0:=Tryz.zeroValue0
 t3:=Tryz.underlying3
 a3:=Tryz.isAgg3
 z3:=Tryz.sizeOf3
 v3:=Tryz.zeroValue3
 t4:=Tryz.underlying4
 a4:=Tryz.isAgg4
 z4:=Tryz.sizeOf4
 v4:=Tryz.zeroValue4
 t9:=Tryz.underlying9
 a9:=Tryz.isAgg9
 z9:=Tryz.sizeOf9
 v9:=Tryz.zeroValue9
 t20:=Tryz.underlying20
 a20:=Tryz.isAgg20
 z20:=Tryz.sizeOf20
 v20:=Tryz.zeroValue20
 t31:=Tryz.underlying37
 a31:=Tryz.isAgg37
 z31:=Tryz.sizeOf37
 v31:=Tryz.zeroValue37
 t37:=Tryz.underlying42
 a37:=Tryz.isAgg42
 z37:=Tryz.sizeOf42
 v37:=Tryz.zeroValue42
 t70:=Tryz.underlying41
 a70:=Tryz.isAgg41
 z70:=Tryz.sizeOf41
 v70:=Tryz.zeroValue41
 t72:=Tryz.underlying44
 a72:=Tryz.isAgg44
 z72:=Tryz.sizeOf44
 v72:=Tryz.zeroValue44
 t75:=Tryz.underlying46
 a75:=Tryz.isAgg46
 z75:=Tryz.sizeOf46
 v75:=Tryz.zeroValue46
 t76:=Tryz.underlying47
 a76:=Tryz.isAgg47
 z76:=Tryz.sizeOf47
 v76:=Tryz.zeroValue47
 t127:=Tryz.underlying75
 a127:=Tryz.isAgg75
 z127:=Tryz.sizeOf75
 v127:=Tryz.zeroValue75
 t164:=Tryz.underlying100
 a164:=Tryz.isAgg100
 z164:=Tryz.sizeOf100
 v164:=Tryz.zeroValue100 }
def Tryz.Builder_Extra_156:Builder.Extra Tryz.prog Tryz.lays156_ren:={
 sizeBuilder:=by kernel_rfl
 liesBuilder:=by kernel_rfl
 t5:=Tryz.underlying5
 a5:=Tryz.isAgg5
 z5:=Tryz.sizeOf5
 v5:=Tryz.zeroValue5
 infoByte:=by kernel_rfl
 cellsByte:=by kernel_rfl
 sizeByte:=by kernel_rfl
 neB5:=by decide }
open Go.RowKit in
def Tryz.strings_Join (bk o c:Nat) (xs:List ByteArray) (sep:ByteArray) (w:World) (hcells:∀(j:Nat) x,xs[j]?=some x->w.cell? ⟨bk,o+j,none⟩=some (.string x)) (hbk:bk<w.heap.size) (hN:xs.length<=140737488355328) (hcap:xs.length<=c) (hlen:(Lib.join (xs.map (·.data.toList)) sep.data.toList).length<=140737488355328):
  Calls Tryz.prog 32 #[.slice (some ⟨bk,o,none⟩) xs.length c,.string sep] w λe w'=>e=.returned (.string ⟨(Lib.join (xs.map (·.data.toList)) sep.data.toList).toArray⟩)/\Below w.heap.size w w':=Any.strings_Join Tryz.lays156 Tryz.Builder_Extra_156 bk o c xs sep w hcells hbk hN hcap hlen
def Tryz.lays119_ren:Go.Shelf.Ren:=⟨λ| 119=>169 | n=>n,λ| 21=>21 | 4=>4 | n=>n,λ| n=>n⟩
def Tryz.lays119:Go.Proofs.Lays.n119 Tryz.prog Tryz.lays119_ren:={
 mixed:=by kernel_rfl
 f119:=Tryz.func169.trans (congrArg some (by kernel_rfl))
 t4:=Tryz.underlying4
 a4:=Tryz.isAgg4
 z4:=Tryz.sizeOf4
 v4:=Tryz.zeroValue4
 t21:=Tryz.underlying21
 a21:=Tryz.isAgg21
 z21:=Tryz.sizeOf21
 v21:=Tryz.zeroValue21 }
def Tryz.utf8_ValidRune (r:Int) (w:World):
  Calls Tryz.prog 169 #[.int .i32 r] w λe w'=>e=.returned (.bool (Lib.validRune r))/\w'=w:=Any.utf8_ValidRune Tryz.lays119 r w
def Tryz.lays137_ren:Go.Shelf.Ren:=⟨λ| 137=>168 | 217=>105 | 266=>170 | n=>n,λ| 9=>9 | 5=>5 | 3=>3 | n=>n,λ| n=>n⟩
def Tryz.lays137:Go.Proofs.Lays.n137 Tryz.prog Tryz.lays137_ren:={
 mixed:=by kernel_rfl
 f137:=Tryz.func168.trans (congrArg some (by kernel_rfl))
 f217:=Tryz.func105.trans (congrArg some (by kernel_rfl))
 f266:=Tryz.func170.trans (congrArg some (by kernel_rfl))
 t3:=Tryz.underlying3
 a3:=Tryz.isAgg3
 z3:=Tryz.sizeOf3
 v3:=Tryz.zeroValue3
 t5:=Tryz.underlying5
 a5:=Tryz.isAgg5
 z5:=Tryz.sizeOf5
 v5:=Tryz.zeroValue5
 t9:=Tryz.underlying9
 a9:=Tryz.isAgg9
 z9:=Tryz.sizeOf9
 v9:=Tryz.zeroValue9 }
open Go.RowKit in
def Tryz.strings_IndexByte (s:ByteArray) (c:Int) (w:World):
  Calls Tryz.prog 168 #[.string s,.int .u8 c] w λe w'=>e=.returned (.int .i64 (Lib.indexByte s.data.toList c.toNat.toUInt8))/\w'=w:=Any.strings_IndexByte Tryz.lays137 s c w
def Tryz.laysM171_ren:Go.Shelf.Ren:=⟨λ| 171=>26 | 243=>54 | 246=>74 | 283=>95 | 284=>96 | 285=>97 | 286=>98 | 129=>164 | 317=>163 | 318=>165 | 319=>166 | 320=>167 | 337=>253 | 338=>254 | n=>n,λ| 3=>3 | 9=>9 | 2=>2 | 4=>4 | 171=>140 | 0=>0 | 53=>131 | 37=>42 | 5=>5 | 173=>143 | 212=>227 | 51=>228 | 20=>20 | 213=>229 | 46=>153 | 232=>403 | 233=>404 | n=>n,λ| 17=>1 | 18=>6 | 19=>7 | n=>n⟩
def Tryz.laysM171:Go.Proofs.LaysM.n171 Tryz.prog Tryz.laysM171_ren:={
 mixed:=by kernel_rfl
 f129:=Tryz.func164.trans (congrArg some (by kernel_rfl))
 f171:=Tryz.func26.trans (congrArg some (by kernel_rfl))
 f243:=Tryz.func54.trans (congrArg some (by kernel_rfl))
 f246:=Tryz.func74.trans (congrArg some (by kernel_rfl))
 f283:=Tryz.func95.trans (congrArg some (by kernel_rfl))
 f284:=Tryz.func96.trans (congrArg some (by kernel_rfl))
 f285:=Tryz.func97.trans (congrArg some (by kernel_rfl))
 f286:=Tryz.func98.trans (congrArg some (by kernel_rfl))
 f317:=Tryz.func163.trans (congrArg some (by kernel_rfl))
 f318:=Tryz.func165.trans (congrArg some (by kernel_rfl))
 f319:=Tryz.func166.trans (congrArg some (by kernel_rfl))
 f320:=Tryz.func167.trans (congrArg some (by kernel_rfl))
 f337:=Tryz.func253.trans (congrArg some (by kernel_rfl))
 f338:=Tryz.func254.trans (congrArg some (by kernel_rfl))
 t0:=Tryz.underlying0
 a0:=Tryz.isAgg0
 z0:=Tryz.sizeOf0
 v0:=Tryz.zeroValue0
 t2:=Tryz.underlying2
 a2:=Tryz.isAgg2
 z2:=Tryz.sizeOf2
 v2:=Tryz.zeroValue2
 t3:=Tryz.underlying3
 a3:=Tryz.isAgg3
 z3:=Tryz.sizeOf3
 v3:=Tryz.zeroValue3
 t4:=Tryz.underlying4
 a4:=Tryz.isAgg4
 z4:=Tryz.sizeOf4
 v4:=Tryz.zeroValue4
 t5:=Tryz.underlying5
 a5:=Tryz.isAgg5
 z5:=Tryz.sizeOf5
 v5:=Tryz.zeroValue5
 t9:=Tryz.underlying9
 a9:=Tryz.isAgg9
 z9:=Tryz.sizeOf9
 v9:=Tryz.zeroValue9
 t20:=Tryz.underlying20
 a20:=Tryz.isAgg20
 z20:=Tryz.sizeOf20
 v20:=Tryz.zeroValue20
 t37:=Tryz.underlying42
 a37:=Tryz.isAgg42
 z37:=Tryz.sizeOf42
 v37:=Tryz.zeroValue42
 t46:=Tryz.underlying153
 a46:=Tryz.isAgg153
 z46:=Tryz.sizeOf153
 v46:=Tryz.zeroValue153
 t51:=Tryz.underlying228
 a51:=Tryz.isAgg228
 z51:=Tryz.sizeOf228
 v51:=Tryz.zeroValue228
 t53:=Tryz.underlying131
 a53:=Tryz.isAgg131
 z53:=Tryz.sizeOf131
 v53:=Tryz.zeroValue131
 t171:=Tryz.underlying140
 a171:=Tryz.isAgg140
 z171:=Tryz.sizeOf140
 v171:=Tryz.zeroValue140
 t173:=Tryz.underlying143
 a173:=Tryz.isAgg143
 z173:=Tryz.sizeOf143
 v173:=Tryz.zeroValue143
 t212:=Tryz.underlying227
 a212:=Tryz.isAgg227
 z212:=Tryz.sizeOf227
 v212:=Tryz.zeroValue227
 t213:=Tryz.underlying229
 a213:=Tryz.isAgg229
 z213:=Tryz.sizeOf229
 t232:=Tryz.underlying403
 a232:=Tryz.isAgg403
 z232:=Tryz.sizeOf403
 v232:=Tryz.zeroValue403
 t233:=Tryz.underlying404
 a233:=Tryz.isAgg404
 z233:=Tryz.sizeOf404
 v233:=Tryz.zeroValue404
 g17:=by kernel_rfl
 g18:=by kernel_rfl
 g19:=by kernel_rfl
 i0:=by kernel_rfl
 i2:=by kernel_rfl
 i3:=by kernel_rfl
 i4:=by kernel_rfl
 i5:=by kernel_rfl
 i9:=by kernel_rfl
 i20:=by kernel_rfl
 i37:=by kernel_rfl
 i46:=by kernel_rfl
 i51:=by kernel_rfl
 i53:=by kernel_rfl
 i171:=by kernel_rfl
 i173:=by kernel_rfl
 i212:=by kernel_rfl
 i232:=by kernel_rfl
 i233:=by kernel_rfl
 m17:=by kernel_rfl
 m18:=by kernel_rfl
 m19:=by kernel_rfl }
open Go.RowKit Go.Sort Go.Lib in
def Tryz.strconv_Itoa (n : Int) (h0 : -9223372036854775808 <= n) (h1 : n <= 9223372036854775807) (w : World) (htab : Lib.TabIs Tryz.prog w "internal/strconv.uint64pow10" .u64 Lib.pow10Tab):
  Calls Tryz.prog 26 #[.int .i64 n] w λe w'=>e=.returned (.string ⟨(Lib.itoa n).toArray⟩)/\∃k os,w'=grow (w.drewN k) os:=Any.strconv_Itoa Tryz.laysM171 n h0 h1 w htab
def Tryz.lays144_ren:Go.Shelf.Ren:=⟨λ| 144=>58 | 143=>66 | 219=>81 | 217=>105 | 225=>106 | 224=>107 | 267=>108 | 266=>170 | 314=>171 | n=>n,λ| 9=>9 | 4=>4 | 3=>3 | 5=>5 | 46=>153 | 146=>236 | 51=>228 | n=>n,λ| 1=>0 | n=>n⟩
def Tryz.lays144:Go.Proofs.Lays.n144 Tryz.prog Tryz.lays144_ren:={
 mixed:=by kernel_rfl
 f143:=Tryz.func66.trans (congrArg some (by kernel_rfl))
 f144:=Tryz.func58.trans (congrArg some (by kernel_rfl))
 f217:=Tryz.func105.trans (congrArg some (by kernel_rfl))
 f219:=Tryz.func81.trans (congrArg some (by kernel_rfl))
 f224:=Tryz.func107.trans (congrArg some (by kernel_rfl))
 f225:=Tryz.func106.trans (congrArg some (by kernel_rfl))
 f266:=Tryz.func170.trans (congrArg some (by kernel_rfl))
 f267:=Tryz.func108.trans (congrArg some (by kernel_rfl))
 f314:=Tryz.func171.trans (congrArg some (by kernel_rfl))
 t3:=Tryz.underlying3
 a3:=Tryz.isAgg3
 z3:=Tryz.sizeOf3
 v3:=Tryz.zeroValue3
 t4:=Tryz.underlying4
 a4:=Tryz.isAgg4
 z4:=Tryz.sizeOf4
 v4:=Tryz.zeroValue4
 t5:=Tryz.underlying5
 a5:=Tryz.isAgg5
 z5:=Tryz.sizeOf5
 v5:=Tryz.zeroValue5
 t9:=Tryz.underlying9
 a9:=Tryz.isAgg9
 z9:=Tryz.sizeOf9
 v9:=Tryz.zeroValue9
 t46:=Tryz.underlying153
 a46:=Tryz.isAgg153
 z46:=Tryz.sizeOf153
 v46:=Tryz.zeroValue153
 t51:=Tryz.underlying228
 a51:=Tryz.isAgg228
 z51:=Tryz.sizeOf228
 v51:=Tryz.zeroValue228
 t146:=Tryz.underlying236
 a146:=Tryz.isAgg236
 z146:=Tryz.sizeOf236
 v146:=Tryz.zeroValue236
 g1:=by kernel_rfl }
open Go.RowKit Go.Lib in
def Tryz.strings_Contains_one (s:ByteArray) (c:UInt8) (w:World):
  Calls Tryz.prog 58 #[.string s,.string ⟨#[c]⟩] w λe w'=>e=.returned (.bool (decide (0<=Lib.indexByte s.data.toList c)))/\w'=w:=Any.strings_Contains_one Tryz.lays144 s c w
def Tryz.lays138_ren:Go.Shelf.Ren:=⟨λ| 138=>56 | 195=>75 | 218=>76 | 143=>66 | 219=>81 | 217=>105 | 225=>106 | 224=>107 | 267=>108 | 266=>170 | 314=>171 | n=>n,λ| 9=>9 | 3=>3 | 4=>4 | 5=>5 | 0=>0 | 46=>153 | 146=>236 | 51=>228 | n=>n,λ| 1=>0 | n=>n⟩
def Tryz.lays138:Go.Proofs.Lays.n138 Tryz.prog Tryz.lays138_ren:={
 mixed:=by kernel_rfl
 f138:=Tryz.func56.trans (congrArg some (by kernel_rfl))
 f143:=Tryz.func66.trans (congrArg some (by kernel_rfl))
 f195:=Tryz.func75.trans (congrArg some (by kernel_rfl))
 f217:=Tryz.func105.trans (congrArg some (by kernel_rfl))
 f218:=Tryz.func76.trans (congrArg some (by kernel_rfl))
 f219:=Tryz.func81.trans (congrArg some (by kernel_rfl))
 f224:=Tryz.func107.trans (congrArg some (by kernel_rfl))
 f225:=Tryz.func106.trans (congrArg some (by kernel_rfl))
 f266:=Tryz.func170.trans (congrArg some (by kernel_rfl))
 f267:=Tryz.func108.trans (congrArg some (by kernel_rfl))
 f314:=Tryz.func171.trans (congrArg some (by kernel_rfl))
 t0:=Tryz.underlying0
 a0:=Tryz.isAgg0
 z0:=Tryz.sizeOf0
 v0:=Tryz.zeroValue0
 t3:=Tryz.underlying3
 a3:=Tryz.isAgg3
 z3:=Tryz.sizeOf3
 v3:=Tryz.zeroValue3
 t4:=Tryz.underlying4
 a4:=Tryz.isAgg4
 z4:=Tryz.sizeOf4
 v4:=Tryz.zeroValue4
 t5:=Tryz.underlying5
 a5:=Tryz.isAgg5
 z5:=Tryz.sizeOf5
 v5:=Tryz.zeroValue5
 t9:=Tryz.underlying9
 a9:=Tryz.isAgg9
 z9:=Tryz.sizeOf9
 v9:=Tryz.zeroValue9
 t46:=Tryz.underlying153
 a46:=Tryz.isAgg153
 z46:=Tryz.sizeOf153
 v46:=Tryz.zeroValue153
 t51:=Tryz.underlying228
 a51:=Tryz.isAgg228
 z51:=Tryz.sizeOf228
 v51:=Tryz.zeroValue228
 t146:=Tryz.underlying236
 a146:=Tryz.isAgg236
 z146:=Tryz.sizeOf236
 v146:=Tryz.zeroValue236
 g1:=by kernel_rfl }
open Go.RowKit Go.Lib in
def Tryz.strings_Count_one (s:ByteArray) (c:UInt8) (w:World):
  Calls Tryz.prog 56 #[.string s,.string ⟨#[c]⟩] w λe w'=>e=.returned (.int .i64 (Lib.countByte s.data.toList c))/\w'=w:=Any.strings_Count_one Tryz.lays138 s c w
def Tryz.lays100_ren:Go.Shelf.Ren:=⟨λ| 100=>57 | 207=>77 | n=>n,λ| 9=>9 | 4=>4 | 3=>3 | n=>n,λ| n=>n⟩
def Tryz.lays100:Go.Proofs.Lays.n100 Tryz.prog Tryz.lays100_ren:={
 mixed:=by kernel_rfl
 f100:=Tryz.func57.trans (congrArg some (by kernel_rfl))
 f207:=Tryz.func77.trans (congrArg some (by kernel_rfl))
 t3:=Tryz.underlying3
 a3:=Tryz.isAgg3
 z3:=Tryz.sizeOf3
 v3:=Tryz.zeroValue3
 t4:=Tryz.underlying4
 a4:=Tryz.isAgg4
 z4:=Tryz.sizeOf4
 v4:=Tryz.zeroValue4
 t9:=Tryz.underlying9
 a9:=Tryz.isAgg9
 z9:=Tryz.sizeOf9
 v9:=Tryz.zeroValue9 }
open Go.RowKit Go.Lib in
def Tryz.strings_HasSuffix (s p:ByteArray) (w:World) (hs:s.size<=9223372036854775807):
  Calls Tryz.prog 57 #[.string s,.string p] w λe w'=>e=.returned (.bool (Lib.hasSuffix s.data.toList p.data.toList))/\w'=w:=Any.strings_HasSuffix Tryz.lays100 s p w hs
def Tryz.lays153_ren:Go.Shelf.Ren:=⟨λ| 153=>79 | 152=>100 | 226=>101 | 227=>102 | 228=>103 | 137=>168 | 119=>169 | 224=>107 | 225=>106 | 217=>105 | 266=>170 | n=>n,λ| 9=>9 | 3=>3 | 4=>4 | 5=>5 | 21=>21 | 117=>149 | 116=>148 | 0=>0 | 46=>153 | 124=>231 | n=>n,λ| n=>n⟩
def Tryz.lays153:Go.Proofs.Lays.n153 Tryz.prog Tryz.lays153_ren:={
 mixed:=by kernel_rfl
 f119:=Tryz.func169.trans (congrArg some (by kernel_rfl))
 f137:=Tryz.func168.trans (congrArg some (by kernel_rfl))
 f152:=Tryz.func100.trans (congrArg some (by kernel_rfl))
 f153:=Tryz.func79.trans (congrArg some (by kernel_rfl))
 f217:=Tryz.func105.trans (congrArg some (by kernel_rfl))
 f224:=Tryz.func107.trans (congrArg some (by kernel_rfl))
 f225:=Tryz.func106.trans (congrArg some (by kernel_rfl))
 f226:=Tryz.func101.trans (congrArg some (by kernel_rfl))
 f227:=Tryz.func102.trans (congrArg some (by kernel_rfl))
 f228:=Tryz.func103.trans (congrArg some (by kernel_rfl))
 f266:=Tryz.func170.trans (congrArg some (by kernel_rfl))
 t0:=Tryz.underlying0
 a0:=Tryz.isAgg0
 z0:=Tryz.sizeOf0
 v0:=Tryz.zeroValue0
 t3:=Tryz.underlying3
 a3:=Tryz.isAgg3
 z3:=Tryz.sizeOf3
 v3:=Tryz.zeroValue3
 t4:=Tryz.underlying4
 a4:=Tryz.isAgg4
 z4:=Tryz.sizeOf4
 v4:=Tryz.zeroValue4
 t5:=Tryz.underlying5
 a5:=Tryz.isAgg5
 z5:=Tryz.sizeOf5
 v5:=Tryz.zeroValue5
 t9:=Tryz.underlying9
 a9:=Tryz.isAgg9
 z9:=Tryz.sizeOf9
 v9:=Tryz.zeroValue9
 t21:=Tryz.underlying21
 a21:=Tryz.isAgg21
 z21:=Tryz.sizeOf21
 v21:=Tryz.zeroValue21
 t46:=Tryz.underlying153
 a46:=Tryz.isAgg153
 z46:=Tryz.sizeOf153
 v46:=Tryz.zeroValue153
 t116:=Tryz.underlying148
 a116:=Tryz.isAgg148
 z116:=Tryz.sizeOf148
 t117:=Tryz.underlying149
 a117:=Tryz.isAgg149
 z117:=Tryz.sizeOf149
 v117:=Tryz.zeroValue149
 t124:=Tryz.underlying231
 a124:=Tryz.isAgg231
 z124:=Tryz.sizeOf231
 v124:=Tryz.zeroValue231 }
open Go.RowKit Go.Lib in
def Tryz.strings_IndexAny_long (hv116:∀w,(zeroValue 148).run Tryz.prog w=.ok (.agg (Array.replicate 256 (.bool false))) w) (s chars:ByteArray) (w:World) (h2:2<=chars.size) (h8:8<s.size) (hs:s.size<4294967281) (hcs:chars.size<4294967281) (hascii:∀(j:Nat) b,chars.data.toList[j]?=some b->b.toNat<128):
  Calls Tryz.prog 79 #[.string s,.string chars] w λe w'=>e=.returned (.int .i64 (Lib.indexAny s.data.toList chars.data.toList))/\w'=((w.alloc (.cells (Lib.setCells chars.data.toList) 148)).alloc (.cells (Lib.setCells chars.data.toList) 148)):=Any.strings_IndexAny_long Tryz.lays153 hv116 (by kernel_rfl) s chars w h2 h8 hs hcs hascii
end Go.Proofs
namespace Go.Ev
open Go F Go.Proofs Go.RowKit
def Step.below {P:Program} {ρ:Ren} {h:H} {w w':World} (hr:eZ P ρ h w) (b:Below w.heap.size w w'):Step P ρ h w ρ h w' where
 ext:=ρ.le_refl
 old:=λ_ _ e _=>e
 next:=Jd _
 keep:=λ_ _ _=>rfl
 rel:=⟨hr.dom,hr.inj,λid p e=>eV.same (hr.obj id p e) λhl=>b.block _ (hr.inside id p e hl),hr.small,hr.fresh,hr.glob,λid p e hl=>Jp (hr.inside id p e hl) b.size⟩
 same:=λk hk _=>b.block k hk
 own:=λ_ e _=>e
 size:=b.size
 tape:=b.tape
 os:=b.os
 output:=b.output
def dL.of_calls {P : Program} {ρ : Ren} {h : H} {w : World} {f : FuncId} {args' : List Value} {v v' : Value} {fn : Func} (hr : eZ P ρ h w) (h1 : P.funcs[f]? = some fn) (h2 : fn.body.isNone = false) (h3 : (fn.name== "runtime.NumGoroutine") = false)
  (hv:VR ρ v v') (c:Calls P f ⟨args'⟩ w λe w'=>e=.returned v'/\Below w.heap.size w w'):dL P ρ h w f args' v h:=
 .inr ⟨fn,h1,h2,h3,c.mono λe w' hq=>⟨ρ,v',hq.1,hv,Step.below hr hq.2⟩⟩
def below_grow (w:World) (k:Nat) (os:Array Obj):Below w.heap.size w (Sort.grow (w.drewN k) os):=by
 have h1:∀k,Below w.heap.size w (w.drewN k):=by
  intro k
  induction k with
  | zero=>rw[World.drewN_zero];exact Below.refl _ _
  | succ k ih=>exact ih.trans ⟨rfl,rfl,rfl,Jd _,λ_ _=>rfl⟩
 refine (h1 k).trans ⟨rfl,rfl,rfl,by simp,λi hi=>?_⟩;have:i<(w.drewN k).heap.size:=Jp hi (h1 k).size;show ((w.drewN k).heap++os)[i]?=_;rw[Array.getElem?_append,if_pos this]
def eP (gl:List AO) (q:List Value->Option Value) (args:List Value) (h:H):Option (Value × H):=
 match q args with
 | some v=>bif dO gl 0 h then some (v,h) else none
 | none=>none
def al3 {ρ : Ren} {h : H} {w : World} (hr : eZ Tryz.prog ρ h w) (hs : dO glob 0 h = true):Lib.TabIs Tryz.prog w "internal/strconv.uint64pow10" .u64 Lib.pow10Tab:= by
 have hr':=As gM hr hs;have ho:=hr'.obj 1 (1,0) rfl;have e0:(iL glob).objs.get 1=.row 227 20 false true 0 (T.ofList undef (rW UH)):=by rw[iS];rfl
 rw[e0] at ho;obtain⟨cs,fr,h1,h2,h3,h4,h5,h6⟩:=ho;have hg : Tryz.prog.globalNamed "internal/strconv.uint64pow10" = some 1:= by kernel_rfl
 unfold Lib.TabIs World.var?;rw[hg];simp only[KS];have h1:w.heap[1]?=some (.cells cs 227 fr):=h1;rw[h1];simp only[I9];have hz:=(h3 rfl).1;apply Array.ext_getElem?;intro i;refine Eq.trans ?_ (show (Lib.pow10Tab.map λz=>Value.int .u64 z)[i]?=(Lib.pow10Tab.map λz=>Value.int .u64 z).toArray[i]? from (KL ..).symm);rw[JX];by_cases q:i<20
 ·obtain⟨v',a,b⟩:=h5 i q;have:(T.ofList undef (rW UH)).get i=.int .u64 ((Lib.pow10Tab.getD i 0:Int))/\Lib.pow10Tab[i]?=some (Lib.pow10Tab.getD i 0):=by
   have hall:∀i,i<20->(T.ofList undef (rW UH)).get i=.int .u64 ((Lib.pow10Tab.getD i 0:Int)):=by intro i hi;rw[Lib.pow10Tab_at i hi];exact (pV (pO (p:=λi=>pn ((T.ofList undef (rW UH)).get i) (.int .u64 ((10 ^ i:Nat):Int))) (show Sr 20 _=true by kernel_rfl) i hi)).1
   exact⟨hall i q,by rw[Jc,Jn (by rw[Lib.pow10Tab_length];exact q)];rfl⟩
  rw[this.1] at b;rw[this.2,a];rcases b with b | b
  ·exact nomatch b
  ·simp only[cW,cU,I9] at b;rw[<-b];rfl
 ·rw[Array.getElem?_eq_none (by omega),Kw (by rw[Lib.pow10Tab_length];omega)];rfl
def oW {ρ:Ren}:∀{l l':List Value},(∀v∈l,(∃k n,v=.int k n) \/ ∃s,v=.string s)->bT (VR ρ) l l'->l'=l
 | [],[],_,_=>rfl
 | v :: l,u :: l',hg,⟨h1,h2⟩=>by
  rw[oW (λv hv=>hg v (JG _ hv)) h2];rcases hg v (Jq ..) with ⟨k,n,rfl⟩ | ⟨s,rfl⟩
  ·rw[h1.int]
  ·rw[h1.string]
 | [],_ :: _,_,h=>h.elim
 | _ :: _,[],_,h=>h.elim
def jf {f : FuncId} {fn : Func} {q : List Value -> Option Value} (h1 : Tryz.prog.funcs[f]? = some fn) (h2 : fn.body.isNone = false) (h3 : (fn.name== "runtime.NumGoroutine") = false)
  (hg : ∀args v, q args = some v -> (∀v∈args, (∃k n, v = .int k n) \/ ∃s, v = .string s) /\ (∀ρ, VR ρ v v) /\ ∀w, Lib.TabIs Tryz.prog w "internal/strconv.uint64pow10" .u64 Lib.pow10Tab -> Calls Tryz.prog f ⟨args⟩ w fun e w'=> e = .returned v /\ Below w.heap.size w w'):
  dC Tryz.prog f (eP glob q):=by
 intro ρ h w args args' v h' hr ha he;unfold eP at he;split at he
 ·rename_i v0 hq;cases hs:dO glob 0 h with
  | false=>rw[hs] at he;exact nomatch he
  | true=> rw[hs] at he;cases he;obtain⟨g1,g2,g3⟩:=hg args v hq;have:=oW g1 ha;subst this;exact dL.of_calls hr h1 h2 h3 (g2 ρ) (g3 w (al3 hr hs))
 ·exact nomatch he
def VR.str (ρ:Ren) (s:ByteArray):VR ρ (.string s) (.string s):=.of1 rfl
def vp:List Value->Option Value
 | [.int .i64 n]=>bif decide (-9223372036854775808<=n)&&decide (n<=9223372036854775807) then some (.string ⟨(Lib.itoa n).toArray⟩) else none
 | _=>none
def at1:dC Tryz.prog 26 (eP glob vp):=by
 refine jf Tryz.func26 (by kernel_rfl) (by kernel_rfl) λargs v hq=>?_;unfold vp at hq;split at hq
 ·rename_i n;cases hb:(decide (-9223372036854775808<=n)&&decide (n<=9223372036854775807)) with
  | false=>rw[hb] at hq;exact nomatch hq
  | true=>
   rw[hb] at hq;cases hq;rw[Ja,Kh,Kh] at hb;refine⟨λv hv=>?_,λρ=>VR.str _ _,λw ht=>?_⟩
   ·simp at hv;exact .inl ⟨_,_,hv⟩
   ·refine (Tryz.strconv_Itoa n hb.1 hb.2 w ht).mono ?_;rintro e w' ⟨rfl,k,os,rfl⟩;exact⟨rfl,below_grow _ _ _⟩
 ·exact nomatch hq
def rF:List Value->Option (List ByteArray)
 | []=>some []
 | v :: l=>match v,rF l with
  |.string s,some r=>some (s :: r)
  | _,_=>none
def tJ:List ByteArray->Nat
 | []=>0
 | s :: l=>s.size+1+tJ l
def sf:∀(l:List Value) (xs:List ByteArray),rF l=some xs->l=xs.map Value.string
 | [],xs,e=>by cases e;rfl
 | v :: l,xs,e=>by
  unfold rF at e;split at e
  ·rename_i s r hr;cases e;rw[J5,sf l r hr]
  ·exact nomatch e
def xr:∀xs:List ByteArray,rF (xs.map Value.string)=some xs
 | []=>rfl
 | s :: l=>by rw[J5];unfold rF;rw[xr l]
def sk (args:List Value) (h:H):Option (Value × H):=
 match args with
 | [.slice (some ⟨b,o,none⟩) n c,.string sep]=>(match h.objs.get b with
  |.row _ m _ _ _ cs=>bif ble (o+n) m&&ble n (c / 2)&&ble n 10000&&ble sep.size 1000&&Nat.blt 0 n then
   (match rF (bq cs o n) with
   | some xs=>bif ble (tJ xs) 1000000000 then some (.string ⟨(Lib.join (xs.map (·.data.toList)) sep.data.toList).toArray⟩,h) else none
   | none=>none) else none
  | _=>none)
 | _=>none
def gP (c:T Value):∀(n o:Nat),(bq c o n).length=n
 | 0,_=>rfl
 | n+1,o=>by show (bq c (o+1) n).length+1=n+1;rw[gP c n]
def wX:∀xs:List ByteArray,Lib.lens (xs.map (·.data.toList))+xs.length=tJ xs
 | []=>rfl
 | s :: l=>by have:=wX l;unfold tJ;unfold Lib.lens at this ⊢;simp only[J5,List.sum_cons,Jz];have hs:s.data.toList.length=s.size:=rfl;omega
def auk:dC Tryz.prog 32 sk:=by
 intro ρ h w args args' v h' hr ha he;unfold sk at he;split at he
 ·rename_i b o n c sep;split at he
  ·rename_i e m op ro fz cs hrow;cases hb:(ble (o+n) m&&ble n (c / 2)&&ble n 10000&&ble sep.size 1000&&Nat.blt 0 n) with
   | false=>rw[hb] at he;exact nomatch he
   | true=>
    rw[hb] at he;simp only[Ja] at hb;obtain⟨⟨⟨⟨b1,b2⟩,b3⟩,b4⟩,b5⟩:=hb;have b1:=I7 b1;have b2:=I7 b2;have b3:=I7 b3;have b4:=I7 b4;have b5:0<n:=I7 b5;rw[Jo] at he;split at he
    ·rename_i xs hxs;cases hc:ble (tJ xs) 1000000000 with
     | false=>rw[hc] at he;exact nomatch he
     | true=>
      rw[hc] at he;cases he;have hc:=I7 hc;obtain⟨u,u2,rfl,hu,hu2⟩:=fI ha;have:=hu2.string;subst this;obtain⟨p,hp,_,rfl⟩:=hu.slice (.inr (.inr rfl));have hcell:=sf _ _ hxs;have hlen:xs.length=n:=by have:=congrArg List.length hcell;rw[gP,Kx] at this;exact this.symm
      have ho:=hr.obj b p hp;rw[hrow] at ho;obtain⟨cs',fr,k1,k2,k3,k4,k5,k6⟩:=ho;have hpl:p.1<w.heap.size:=hr.inside b p hp (by rw[hrow];rfl);refine dL.of_calls hr Tryz.func32 (by kernel_rfl) (by kernel_rfl) (VR.str _ _) ?_;have key:=Tryz.strings_Join p.1 o (if c%2=0 then c / 2 else c / 2+p.2) xs sep w (λj x hj=>?_) hpl (by omega) (by split <;> omega) ?_
      ·rw[hlen] at key;exact key
      ·have hjn:j<n:=by rw[<-hlen];exact (List.getElem?_eq_some_iff.1 hj).1
       have h1:(bq cs o n)[j]?=some (.string x):=by rw[hcell,JX,hj];rfl
       rw[Jn (by rw[gP];exact hjn),gN] at h1;obtain⟨v',q1,q2⟩:=k5 (o+j) (by omega);rw[JJ h1] at q2;have q2:v'=.string x:=by
        rcases q2 with q | q
        ·exact nomatch q
        ·simp only[cW,cU,I9] at q;exact q.symm
       subst q2;unfold World.cell?;simp only[k1,Option.isSome_none,J1,if_false];exact q1
      ·have hls:=wX xs;obtain⟨x,r,rfl⟩:∃x r,xs=x :: r:=by
        cases xs with
        | nil=>simp at hlen;omega
        | cons x r=>exact⟨x,r,rfl⟩
       rw[J5,Lib.join_length,Kx];rw[J5] at hls;have h3:sep.data.toList.length=sep.size:=rfl;rw[h3];have:sep.size*r.length<=1000*10000:=KP b4 (by simp at hlen;omega);omega
    ·exact nomatch he
  ·exact nomatch he
 ·exact nomatch he
def KG:List Value->Option Value
 | [.string ⟨⟨s⟩⟩,.string ⟨⟨[c]⟩⟩]=>some (.int .i64 (.ofNat (s.count c)))
 | _=>none
def arD:dC Tryz.prog 56 (eP glob KG):=by
 refine jf Tryz.func56 (by kernel_rfl) (by kernel_rfl) λargs v hq=>?_;unfold KG at hq;split at hq
 ·rename_i s c;cases hq;refine⟨λv hv=>?_,λρ=>.of1 rfl,λw _=>?_⟩
  ·simp at hv;rcases hv with rfl | rfl
   ·exact .inr ⟨_,rfl⟩
   ·exact .inr ⟨_,rfl⟩
  ·refine (Tryz.strings_Count_one ⟨⟨s⟩⟩ c w).mono ?_;rintro e w' ⟨rfl,rfl⟩;exact⟨rfl,Below.refl _ _⟩
 ·exact nomatch hq
def Fs:List Value->Option Value
 | [.string ⟨⟨s⟩⟩,.string ⟨⟨p⟩⟩]=>bif ble s.length 1000000 then some (.bool (Lib.hasSuffix s p)) else none
 | _=>none
def asQ:dC Tryz.prog 57 (eP glob Fs):=by
 refine jf Tryz.func57 (by kernel_rfl) (by kernel_rfl) λargs v hq=>?_;unfold Fs at hq;split at hq
 ·rename_i s p;cases hb:ble s.length 1000000 with
  | false=>rw[hb] at hq;exact nomatch hq
  | true=>
   rw[hb] at hq;cases hq;have hb:=I7 hb;refine⟨λv hv=>?_,λρ=>.of1 rfl,λw _=>?_⟩
   ·simp at hv;rcases hv with rfl | rfl
    ·exact .inr ⟨_,rfl⟩
    ·exact .inr ⟨_,rfl⟩
   ·refine (Tryz.strings_HasSuffix ⟨⟨s⟩⟩ ⟨⟨p⟩⟩ w (by show s.length<=_;omega)).mono ?_;rintro e w' ⟨rfl,rfl⟩;exact⟨rfl,Below.refl _ _⟩
 ·exact nomatch hq
def afe:∀(s:Bs) (c:UInt8),s.contains c=decide (0<=Lib.indexByte s c):=Lib.contains_iff_indexByte
def J0:List Value->Option Value
 | [.string ⟨⟨s⟩⟩,.string ⟨⟨[c]⟩⟩]=>some (.bool (s.contains c))
 | _=>none
def apN:dC Tryz.prog 58 (eP glob J0):=by
 refine jf Tryz.func58 (by kernel_rfl) (by kernel_rfl) λargs v hq=>?_;unfold J0 at hq;split at hq
 ·rename_i s c;cases hq;refine⟨λv hv=>?_,λρ=>.of1 rfl,λw _=>?_⟩
  ·simp at hv;rcases hv with rfl | rfl
   ·exact .inr ⟨_,rfl⟩
   ·exact .inr ⟨_,rfl⟩
  ·refine (Tryz.strings_Contains_one ⟨⟨s⟩⟩ c w).mono ?_;rintro e w' ⟨rfl,rfl⟩;exact⟨by rw[afe],Below.refl _ _⟩
 ·exact nomatch hq
def ixQ:List Value->Option Value
 | [.string ⟨⟨s⟩⟩,.int .u8 (.ofNat c)]=>bif Nat.blt c 256 then some (.int .i64 (Lib.indexByte s (UInt8.ofNat c))) else none
 | _=>none
def amO:dC Tryz.prog 168 (eP glob ixQ):=by
 refine jf Tryz.func168 (by kernel_rfl) (by kernel_rfl) λargs v hq=>?_;unfold ixQ at hq;split at hq
 ·rename_i s c;cases hb:Nat.blt c 256 with
  | false=>rw[hb] at hq;exact nomatch hq
  | true=>
   rw[hb] at hq;cases hq;refine⟨λv hv=>?_,λρ=>.of1 rfl,λw _=>?_⟩
   ·simp at hv;rcases hv with rfl | rfl
    ·exact .inr ⟨_,rfl⟩
    ·exact .inl ⟨_,_,rfl⟩
   ·refine (Tryz.strings_IndexByte ⟨⟨s⟩⟩ c w).mono ?_;rintro e w' ⟨rfl,rfl⟩;exact⟨rfl,Below.refl _ _⟩
 ·exact nomatch hq
def IS:List Value->Option Value
 | [.int .i32 (.ofNat r)]=>some (.bool (Utf8.valid (r:Int)))
 | _=>none
def acV:dC Tryz.prog 169 (eP glob IS):=by
 refine jf Tryz.func169 (by kernel_rfl) (by kernel_rfl) λargs v hq=>?_;unfold IS at hq;split at hq
 ·rename_i r;cases hq;refine⟨λv hv=>?_,λρ=>.of1 rfl,λw _=>?_⟩
  ·simp at hv;exact .inl ⟨_,_,hv⟩
  ·refine (Tryz.utf8_ValidRune r w).mono ?_;rintro e w' ⟨rfl,rfl⟩;exact⟨by rw[validRune_eq];rfl,Below.refl _ _⟩
 ·exact nomatch hq
end Go.Ev
