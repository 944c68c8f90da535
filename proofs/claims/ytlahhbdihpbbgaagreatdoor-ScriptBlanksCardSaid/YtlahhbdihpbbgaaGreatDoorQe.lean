/-
  THE LIBRARY's FUNCTIONS THAT A SCRIPT's PARSING CALLS, answered for by their contracts.
-/
import Derived.Shelf.Strings.Builder1
import Derived.Shelf.Strings.Builder2
import Derived.Shelf.Small.Bits
import Derived.Shelf.Strings.BuilderF
import Derived.Shelf.Strconv.Atoi
import Derived.Shelf.Strconv.Itoa0
import Derived.Shelf.Strconv.AtoiErrFast
import Derived.Shelf.Strconv.ParseIntEmpty
import Derived.Shelf.Strconv.AtoiFail
import Derived.Shelf.LaysM
import Derived.Shelf.Strconv.Clone
import Derived.Shelf.Strconv.SyntaxError
import Derived.Shelf.LaysC
import Derived.Shelf.Strconv.ToError
import Derived.Shelf.Strconv.Lower
import Derived.Shelf.Strconv.ParseUint10
import Derived.Shelf.Strconv.ParseUint10Empty
import Derived.Shelf.Strconv.ParseUint10Any
import Derived.Shelf.Strconv.ParseInt10
import Derived.Shelf.Strconv.AtoiLong
import Derived.Shelf.Strconv.AtoiInnerAll
import Derived.Shelf.Strconv.RangeError
import Derived.Shelf.Strconv.ToErrorRange
import Derived.Shelf.Strconv.AtoiAll
import Derived.Shelf.Strconv.ErrVarAll
import Derived.Shelf.Strings.Search1
import Derived.Shelf.Strings.Search2
import Derived.Shelf.Strings.Search3
import Derived.Shelf.Strings.Count
import Derived.Shelf.Strings.Shaped
import Derived.Shelf.Strings.Prefix
import Derived.Shelf.Strings.Split
import Derived.Shelf.Strings.Replace
import Derived.Shelf.Strings.SplitShaped
import Derived.Shelf.Bits.Mul64
import Derived.Shelf.Strings.Repeat
import Derived.Shelf.Unicode.DecodeSlow
import Derived.Shelf.Strings.FieldsFuncAny
import Derived.Test.YtlahhbdihpbbgaaGreatDoorProg
import Derived.Test.YtlahhbdihpbbgaaGreatDoorQb
import Derived.Test.YtlahhbdihpbbgaaGreatDoorQd
import Derived.Lib.MapLaws
import Derived.WalkKit
import Derived.Lib.OthersKept
import Derived.Lib.AtoiErrMem
set_option linter.unusedVariables false
set_option linter.unusedSimpArgs false
namespace Go.Proofs
open Go.Shelf
def Tryz.laysC172_ren:Go.Shelf.Ren:=⟨λ | 172=>62 | 244=>93 | 245=>94 | 247=>142 | 279=>143 | 280=>144 | 281=>145 | 282=>146 | 287=>223 | 316=>224 | 171=>226 | 205=>225 | 321=>309 | 322=>310 | 243=>311 | 246=>353 | 283=>374 | 284=>375 | 285=>376 | 286=>377 | 129=>318 | 317=>389 | 318=>390 | 319=>391 | 320=>234 | 337=>315 | 338=>316 | n=>n,λ | 9=>9 | 3=>3 | 75=>62 | 76=>63 | 4=>4 | 5=>5 | 167=>220 | 37=>57 | 0=>0 | 85=>221 | 2=>2 | 168=>223 | 53=>92 | 175=>283 | 46=>52 | 210=>286 | 127=>95 | 145=>358 | 143=>356 | 21=>21 | 171=>408 | 173=>410 | 212=>423 | 51=>89 | 20=>20 | 213=>424 | 232=>394 | 233=>395 | 80=>66 | n=>n,λ | 15=>3 | 16=>4 | 17=>7 | 18=>5 | 19=>6 | n=>n⟩
theorem Tryz.laysC172:Go.Proofs.LaysC.n172 Tryz.prog Tryz.laysC172_ren:={
 mixed:=by kernel_rfl
 f129:=Tryz.func318.trans (congrArg some (by kernel_rfl))
 f171:=Tryz.func226.trans (congrArg some (by kernel_rfl))
 f172:=Tryz.func62.trans (congrArg some (by kernel_rfl))
 f205:=Tryz.func225.trans (congrArg some (by kernel_rfl))
 f243:=Tryz.func311.trans (congrArg some (by kernel_rfl))
 f244:=Tryz.func93.trans (congrArg some (by kernel_rfl))
 f245:=Tryz.func94.trans (congrArg some (by kernel_rfl))
 f246:=Tryz.func353.trans (congrArg some (by kernel_rfl))
 f247:=Tryz.func142.trans (congrArg some (by kernel_rfl))
 f279:=Tryz.func143.trans (congrArg some (by kernel_rfl))
 f280:=Tryz.func144.trans (congrArg some (by kernel_rfl))
 f281:=Tryz.func145.trans (congrArg some (by kernel_rfl))
 f282:=Tryz.func146.trans (congrArg some (by kernel_rfl))
 f283:=Tryz.func374.trans (congrArg some (by kernel_rfl))
 f284:=Tryz.func375.trans (congrArg some (by kernel_rfl))
 f285:=Tryz.func376.trans (congrArg some (by kernel_rfl))
 f286:=Tryz.func377.trans (congrArg some (by kernel_rfl))
 f287:=Tryz.func223.trans (congrArg some (by kernel_rfl))
 f316:=Tryz.func224.trans (congrArg some (by kernel_rfl))
 f317:=Tryz.func389.trans (congrArg some (by kernel_rfl))
 f318:=Tryz.func390.trans (congrArg some (by kernel_rfl))
 f319:=Tryz.func391.trans (congrArg some (by kernel_rfl))
 f320:=Tryz.func234.trans (congrArg some (by kernel_rfl))
 f321:=Tryz.func309.trans (congrArg some (by kernel_rfl))
 f322:=Tryz.func310.trans (congrArg some (by kernel_rfl))
 f337:=Tryz.func315.trans (congrArg some (by kernel_rfl))
 f338:=Tryz.func316.trans (congrArg some (by kernel_rfl))
 t0:=Tryz.underlying0
 a0:=Tryz.isAgg0
 z0:=Tryz.sizeOf0
 v0:=Tryz.zeroValue0
 t2:=Tryz.underlying2
 a2:=Tryz.isAgg2
 z2:=Tryz.sizeOf2
 v2:=Tryz.zeroValue2
 t3:=Tryz.underlying3
 a3:=Tryz.isAgg3
 z3:=Tryz.sizeOf3
 v3:=Tryz.zeroValue3
 t4:=Tryz.underlying4
 a4:=Tryz.isAgg4
 z4:=Tryz.sizeOf4
 v4:=Tryz.zeroValue4
 t5:=Tryz.underlying5
 a5:=Tryz.isAgg5
 z5:=Tryz.sizeOf5
 v5:=Tryz.zeroValue5
 t9:=Tryz.underlying9
 a9:=Tryz.isAgg9
 z9:=Tryz.sizeOf9
 v9:=Tryz.zeroValue9
 t20:=Tryz.underlying20
 a20:=Tryz.isAgg20
 z20:=Tryz.sizeOf20
 v20:=Tryz.zeroValue20
 t21:=Tryz.underlying21
 a21:=Tryz.isAgg21
 z21:=Tryz.sizeOf21
 v21:=Tryz.zeroValue21
 t37:=Tryz.underlying57
 a37:=Tryz.isAgg57
 z37:=Tryz.sizeOf57
 v37:=Tryz.zeroValue57
 t46:=Tryz.underlying52
 a46:=Tryz.isAgg52
 z46:=Tryz.sizeOf52
 v46:=Tryz.zeroValue52
 t51:=Tryz.underlying89
 a51:=Tryz.isAgg89
 z51:=Tryz.sizeOf89
 v51:=Tryz.zeroValue89
 t53:=Tryz.underlying92
 a53:=Tryz.isAgg92
 z53:=Tryz.sizeOf92
 v53:=Tryz.zeroValue92
 t75:=Tryz.underlying62
 a75:=Tryz.isAgg62
 z75:=Tryz.sizeOf62
 v75:=Tryz.zeroValue62
 t76:=Tryz.underlying63
 a76:=Tryz.isAgg63
 z76:=Tryz.sizeOf63
 v76:=Tryz.zeroValue63
 t85:=Tryz.underlying221
 a85:=Tryz.isAgg221
 z85:=Tryz.sizeOf221
 v85:=Tryz.zeroValue221
 t127:=Tryz.underlying95
 a127:=Tryz.isAgg95
 z127:=Tryz.sizeOf95
 v127:=Tryz.zeroValue95
 t143:=Tryz.underlying356
 a143:=Tryz.isAgg356
 z143:=Tryz.sizeOf356
 v143:=Tryz.zeroValue356
 t145:=Tryz.underlying358
 a145:=Tryz.isAgg358
 z145:=Tryz.sizeOf358
 v145:=Tryz.zeroValue358
 t167:=Tryz.underlying220
 a167:=Tryz.isAgg220
 z167:=Tryz.sizeOf220
 v167:=Tryz.zeroValue220
 t168:=Tryz.underlying223
 a168:=Tryz.isAgg223
 z168:=Tryz.sizeOf223
 v168:=Tryz.zeroValue223
 t171:=Tryz.underlying408
 a171:=Tryz.isAgg408
 z171:=Tryz.sizeOf408
 v171:=Tryz.zeroValue408
 t173:=Tryz.underlying410
 a173:=Tryz.isAgg410
 z173:=Tryz.sizeOf410
 v173:=Tryz.zeroValue410
 t175:=Tryz.underlying283
 a175:=Tryz.isAgg283
 z175:=Tryz.sizeOf283
 v175:=Tryz.zeroValue283
 t210:=Tryz.underlying286
 a210:=Tryz.isAgg286
 z210:=Tryz.sizeOf286
 v210:=Tryz.zeroValue286
 t212:=Tryz.underlying423
 a212:=Tryz.isAgg423
 z212:=Tryz.sizeOf423
 v212:=Tryz.zeroValue423
 t213:=Tryz.underlying424
 a213:=Tryz.isAgg424
 z213:=Tryz.sizeOf424
 t232:=Tryz.underlying394
 a232:=Tryz.isAgg394
 z232:=Tryz.sizeOf394
 v232:=Tryz.zeroValue394
 t233:=Tryz.underlying395
 a233:=Tryz.isAgg395
 z233:=Tryz.sizeOf395
 v233:=Tryz.zeroValue395
 g15:=by kernel_rfl
 g16:=by kernel_rfl
 g17:=by kernel_rfl
 g18:=by kernel_rfl
 g19:=by kernel_rfl
 t80:=Tryz.underlying66
 a80:=Tryz.isAgg66
 z80:=Tryz.sizeOf66
 v80:=Tryz.zeroValue66
 i0:=by kernel_rfl
 i2:=by kernel_rfl
 i3:=by kernel_rfl
 i4:=by kernel_rfl
 i5:=by kernel_rfl
 i9:=by kernel_rfl
 i20:=by kernel_rfl
 i21:=by kernel_rfl
 i37:=by kernel_rfl
 i46:=by kernel_rfl
 i51:=by kernel_rfl
 i53:=by kernel_rfl
 i75:=by kernel_rfl
 i76:=by kernel_rfl
 i80:=by kernel_rfl
 i85:=by kernel_rfl
 i127:=by kernel_rfl
 i143:=by kernel_rfl
 i145:=by kernel_rfl
 i167:=by kernel_rfl
 i168:=by kernel_rfl
 i171:=by kernel_rfl
 i173:=by kernel_rfl
 i175:=by kernel_rfl
 i210:=by kernel_rfl
 i212:=by kernel_rfl
 i232:=by kernel_rfl
 i233:=by kernel_rfl
 m15:=by kernel_rfl
 m16:=by kernel_rfl
 m17:=by kernel_rfl
 m18:=by kernel_rfl
 m19:=by kernel_rfl
 c0:=by kernel_rfl
 c2:=by kernel_rfl
 c3:=by kernel_rfl
 c4:=by kernel_rfl
 c5:=by kernel_rfl
 c9:=by kernel_rfl
 c20:=by kernel_rfl
 c21:=by kernel_rfl
 c37:=by kernel_rfl
 c46:=by kernel_rfl
 c51:=by kernel_rfl
 c53:=by kernel_rfl
 c75:=by kernel_rfl
 c76:=by kernel_rfl
 c80:=by kernel_rfl
 c85:=by kernel_rfl
 c127:=by kernel_rfl
 c143:=by kernel_rfl
 c145:=by kernel_rfl
 c167:=by kernel_rfl
 c168:=by kernel_rfl
 c171:=by kernel_rfl
 c173:=by kernel_rfl
 c175:=by kernel_rfl
 c210:=by kernel_rfl
 c212:=by kernel_rfl
 c213:=by kernel_rfl
 c232:=by kernel_rfl
 c233:=by kernel_rfl }
open Go.RowKit in
theorem Tryz.strconv_Atoi_ok (s:ByteArray) (hmax:s.size≤9223372036854775806) (v:Int) (h:Lib.atoiAll s.data.toList=.ok v) (w:World) :
  Calls Tryz.prog 62 #[.string s] w λ e w'=>e=.returned (.tuple #[.int .i64 v,.nilIface])∧(w'=w ∨ ∃ t,w'=Lib.bytesWorld w 5 t):=Any.strconv_Atoi_ok Tryz.laysC172 s hmax v h w
open Go.RowKit in
theorem Tryz.strconv_Atoi_range (s:ByteArray) (hlim:s.size≤281474976710656) (h:Lib.atoiAll s.data.toList=.range) (ev:Value) (w:World) (hv:w.cell? ⟨4,0,none⟩=some ev) (hev:ev=.nilIface ∨ ∃ te pe,ev=.iface te pe) :
  Calls Tryz.prog 62 #[.string s] w λ e w'=>∃ N,e=.returned (.tuple #[.int .i64 (Lib.atoiSat s.data.toList),.iface 223 (.pointer (some ⟨N,0,none⟩))])∧w.heap.size≤N∧w'.heap[N]?=some (.cells #[.string ⟨#[65,116,111,105]⟩,.string s,ev] 286 (0,0))∧Below w.heap.size w w':=Any.strconv_Atoi_range Tryz.laysC172 s hlim h ev w hv hev
def Tryz.lays100_ren:Go.Shelf.Ren:=⟨λ | 100=>63 | 207=>95 | n=>n,λ | 9=>9 | 4=>4 | 3=>3 | n=>n,λ | n=>n⟩
theorem Tryz.lays100:Go.Proofs.Lays.n100 Tryz.prog Tryz.lays100_ren:={
 mixed:=by kernel_rfl
 f100:=Tryz.func63.trans (congrArg some (by kernel_rfl))
 f207:=Tryz.func95.trans (congrArg some (by kernel_rfl))
 t3:=Tryz.underlying3
 a3:=Tryz.isAgg3
 z3:=Tryz.sizeOf3
 v3:=Tryz.zeroValue3
 t4:=Tryz.underlying4
 a4:=Tryz.isAgg4
 z4:=Tryz.sizeOf4
 v4:=Tryz.zeroValue4
 t9:=Tryz.underlying9
 a9:=Tryz.isAgg9
 z9:=Tryz.sizeOf9
 v9:=Tryz.zeroValue9 }
open Go.RowKit Go.Lib in
theorem Tryz.strings_HasSuffix (s p:ByteArray) (w:World) (hs:s.size≤9223372036854775807) :
  Calls Tryz.prog 63 #[.string s,.string p] w λ e w'=>e=.returned (.bool (Lib.hasSuffix s.data.toList p.data.toList))∧w'=w:=Any.strings_HasSuffix Tryz.lays100 s p w hs
def Tryz.lays146_ren:Go.Shelf.Ren:=⟨λ | 146=>16 | 221=>34 | 268=>61 | 138=>51 | 143=>52 | 195=>71 | 197=>53 | 218=>72 | 219=>73 | 260=>74 | 217=>96 | 225=>97 | 224=>98 | 267=>99 | 266=>147 | 314=>148 | n=>n,λ | 9=>9 | 31=>30 | 3=>3 | 4=>4 | 0=>0 | 105=>97 | 21=>21 | 5=>5 | 46=>52 | 119=>166 | 139=>169 | 138=>168 | 146=>90 | 51=>89 | n=>n,λ | 1=>0 | 3=>1 | 4=>2 | n=>n⟩
theorem Tryz.lays146:Go.Proofs.Lays.n146 Tryz.prog Tryz.lays146_ren:={
 mixed:=by kernel_rfl
 f138:=Tryz.func51.trans (congrArg some (by kernel_rfl))
 f143:=Tryz.func52.trans (congrArg some (by kernel_rfl))
 f146:=Tryz.func16.trans (congrArg some (by kernel_rfl))
 f195:=Tryz.func71.trans (congrArg some (by kernel_rfl))
 f197:=Tryz.func53.trans (congrArg some (by kernel_rfl))
 f217:=Tryz.func96.trans (congrArg some (by kernel_rfl))
 f218:=Tryz.func72.trans (congrArg some (by kernel_rfl))
 f219:=Tryz.func73.trans (congrArg some (by kernel_rfl))
 f221:=Tryz.func34.trans (congrArg some (by kernel_rfl))
 f224:=Tryz.func98.trans (congrArg some (by kernel_rfl))
 f225:=Tryz.func97.trans (congrArg some (by kernel_rfl))
 f260:=Tryz.func74.trans (congrArg some (by kernel_rfl))
 f266:=Tryz.func147.trans (congrArg some (by kernel_rfl))
 f267:=Tryz.func99.trans (congrArg some (by kernel_rfl))
 f268:=Tryz.func61.trans (congrArg some (by kernel_rfl))
 f314:=Tryz.func148.trans (congrArg some (by kernel_rfl))
 t0:=Tryz.underlying0
 a0:=Tryz.isAgg0
 z0:=Tryz.sizeOf0
 v0:=Tryz.zeroValue0
 t3:=Tryz.underlying3
 a3:=Tryz.isAgg3
 z3:=Tryz.sizeOf3
 v3:=Tryz.zeroValue3
 t4:=Tryz.underlying4
 a4:=Tryz.isAgg4
 z4:=Tryz.sizeOf4
 v4:=Tryz.zeroValue4
 t5:=Tryz.underlying5
 a5:=Tryz.isAgg5
 z5:=Tryz.sizeOf5
 v5:=Tryz.zeroValue5
 t9:=Tryz.underlying9
 a9:=Tryz.isAgg9
 z9:=Tryz.sizeOf9
 v9:=Tryz.zeroValue9
 t21:=Tryz.underlying21
 a21:=Tryz.isAgg21
 z21:=Tryz.sizeOf21
 v21:=Tryz.zeroValue21
 t31:=Tryz.underlying30
 a31:=Tryz.isAgg30
 z31:=Tryz.sizeOf30
 v31:=Tryz.zeroValue30
 t46:=Tryz.underlying52
 a46:=Tryz.isAgg52
 z46:=Tryz.sizeOf52
 v46:=Tryz.zeroValue52
 t51:=Tryz.underlying89
 a51:=Tryz.isAgg89
 z51:=Tryz.sizeOf89
 v51:=Tryz.zeroValue89
 t105:=Tryz.underlying97
 a105:=Tryz.isAgg97
 z105:=Tryz.sizeOf97
 v105:=Tryz.zeroValue97
 t119:=Tryz.underlying166
 a119:=Tryz.isAgg166
 z119:=Tryz.sizeOf166
 t138:=Tryz.underlying168
 a138:=Tryz.isAgg168
 z138:=Tryz.sizeOf168
 v138:=Tryz.zeroValue168
 t139:=Tryz.underlying169
 a139:=Tryz.isAgg169
 z139:=Tryz.sizeOf169
 v139:=Tryz.zeroValue169
 t146:=Tryz.underlying90
 a146:=Tryz.isAgg90
 z146:=Tryz.sizeOf90
 v146:=Tryz.zeroValue90
 g1:=by kernel_rfl
 g3:=by kernel_rfl
 g4:=by kernel_rfl }
open Go.RowKit Go.Lib in
theorem Tryz.strings_Split (s sep:ByteArray) (m:Int) (w:World) (hs:s.size < 4294967281) (hm:w.cell? ⟨0,0,none⟩=some (.int .i64 m)) (h1:1≤sep.size) :
  Calls Tryz.prog 16 #[.string s,.string sep] w λ e w' =>
   e=.returned (.slice (some ⟨w.heap.size,0,none⟩) (Lib.countB s sep + 1) (Lib.countB s sep + 1))∧w'=w.alloc (.cells ((Lib.splitB sep 0 (Lib.countB s sep) s).map Value.string).toArray 9):=Any.strings_Split Tryz.lays146 (by kernel_rfl) s sep m w hs hm h1
def Tryz.lays155_ren:Go.Shelf.Ren:=⟨λ | 155=>12 | 154=>31 | 138=>51 | 165=>27 | 143=>52 | 166=>28 | 197=>53 | 169=>30 | 195=>71 | 218=>72 | 240=>49 | 241=>50 | 219=>73 | 260=>74 | 276=>69 | 277=>70 | 217=>96 | 225=>97 | 224=>98 | 267=>99 | 266=>147 | 314=>148 | n=>n,λ | 9=>9 | 3=>3 | 4=>4 | 72=>59 | 0=>0 | 76=>63 | 105=>97 | 21=>21 | 5=>5 | 70=>56 | 20=>20 | 37=>57 | 75=>62 | 127=>95 | 164=>116 | 46=>52 | 119=>166 | 139=>169 | 138=>168 | 146=>90 | 51=>89 | 80=>66 | n=>n,λ | 1=>0 | 3=>1 | 4=>2 | n=>n⟩
theorem Tryz.lays155:Go.Proofs.Lays.n155 Tryz.prog Tryz.lays155_ren:={
 mixed:=by kernel_rfl
 f138:=Tryz.func51.trans (congrArg some (by kernel_rfl))
 f143:=Tryz.func52.trans (congrArg some (by kernel_rfl))
 f154:=Tryz.func31.trans (congrArg some (by kernel_rfl))
 f155:=Tryz.func12.trans (congrArg some (by kernel_rfl))
 f165:=Tryz.func27.trans (congrArg some (by kernel_rfl))
 f166:=Tryz.func28.trans (congrArg some (by kernel_rfl))
 f169:=Tryz.func30.trans (congrArg some (by kernel_rfl))
 f195:=Tryz.func71.trans (congrArg some (by kernel_rfl))
 f197:=Tryz.func53.trans (congrArg some (by kernel_rfl))
 f217:=Tryz.func96.trans (congrArg some (by kernel_rfl))
 f218:=Tryz.func72.trans (congrArg some (by kernel_rfl))
 f219:=Tryz.func73.trans (congrArg some (by kernel_rfl))
 f224:=Tryz.func98.trans (congrArg some (by kernel_rfl))
 f225:=Tryz.func97.trans (congrArg some (by kernel_rfl))
 f240:=Tryz.func49.trans (congrArg some (by kernel_rfl))
 f241:=Tryz.func50.trans (congrArg some (by kernel_rfl))
 f260:=Tryz.func74.trans (congrArg some (by kernel_rfl))
 f266:=Tryz.func147.trans (congrArg some (by kernel_rfl))
 f267:=Tryz.func99.trans (congrArg some (by kernel_rfl))
 f276:=Tryz.func69.trans (congrArg some (by kernel_rfl))
 f277:=Tryz.func70.trans (congrArg some (by kernel_rfl))
 f314:=Tryz.func148.trans (congrArg some (by kernel_rfl))
 t0:=Tryz.underlying0
 a0:=Tryz.isAgg0
 z0:=Tryz.sizeOf0
 v0:=Tryz.zeroValue0
 t3:=Tryz.underlying3
 a3:=Tryz.isAgg3
 z3:=Tryz.sizeOf3
 v3:=Tryz.zeroValue3
 t4:=Tryz.underlying4
 a4:=Tryz.isAgg4
 z4:=Tryz.sizeOf4
 v4:=Tryz.zeroValue4
 t5:=Tryz.underlying5
 a5:=Tryz.isAgg5
 z5:=Tryz.sizeOf5
 v5:=Tryz.zeroValue5
 t9:=Tryz.underlying9
 a9:=Tryz.isAgg9
 z9:=Tryz.sizeOf9
 v9:=Tryz.zeroValue9
 t20:=Tryz.underlying20
 a20:=Tryz.isAgg20
 z20:=Tryz.sizeOf20
 v20:=Tryz.zeroValue20
 t21:=Tryz.underlying21
 a21:=Tryz.isAgg21
 z21:=Tryz.sizeOf21
 v21:=Tryz.zeroValue21
 t37:=Tryz.underlying57
 a37:=Tryz.isAgg57
 z37:=Tryz.sizeOf57
 v37:=Tryz.zeroValue57
 t46:=Tryz.underlying52
 a46:=Tryz.isAgg52
 z46:=Tryz.sizeOf52
 v46:=Tryz.zeroValue52
 t51:=Tryz.underlying89
 a51:=Tryz.isAgg89
 z51:=Tryz.sizeOf89
 v51:=Tryz.zeroValue89
 t70:=Tryz.underlying56
 a70:=Tryz.isAgg56
 z70:=Tryz.sizeOf56
 v70:=Tryz.zeroValue56
 t72:=Tryz.underlying59
 a72:=Tryz.isAgg59
 z72:=Tryz.sizeOf59
 v72:=Tryz.zeroValue59
 t75:=Tryz.underlying62
 a75:=Tryz.isAgg62
 z75:=Tryz.sizeOf62
 v75:=Tryz.zeroValue62
 t76:=Tryz.underlying63
 a76:=Tryz.isAgg63
 z76:=Tryz.sizeOf63
 v76:=Tryz.zeroValue63
 t105:=Tryz.underlying97
 a105:=Tryz.isAgg97
 z105:=Tryz.sizeOf97
 v105:=Tryz.zeroValue97
 t119:=Tryz.underlying166
 a119:=Tryz.isAgg166
 z119:=Tryz.sizeOf166
 t127:=Tryz.underlying95
 a127:=Tryz.isAgg95
 z127:=Tryz.sizeOf95
 v127:=Tryz.zeroValue95
 t138:=Tryz.underlying168
 a138:=Tryz.isAgg168
 z138:=Tryz.sizeOf168
 v138:=Tryz.zeroValue168
 t139:=Tryz.underlying169
 a139:=Tryz.isAgg169
 z139:=Tryz.sizeOf169
 v139:=Tryz.zeroValue169
 t146:=Tryz.underlying90
 a146:=Tryz.isAgg90
 z146:=Tryz.sizeOf90
 v146:=Tryz.zeroValue90
 t164:=Tryz.underlying116
 a164:=Tryz.isAgg116
 z164:=Tryz.sizeOf116
 v164:=Tryz.zeroValue116
 g1:=by kernel_rfl
 g3:=by kernel_rfl
 g4:=by kernel_rfl }
theorem Tryz.Builder_Extra_155:Builder.Extra Tryz.prog Tryz.lays155_ren:={
 sizeBuilder:=by kernel_rfl
 liesBuilder:=by kernel_rfl
 t5:=Tryz.underlying5
 a5:=Tryz.isAgg5
 z5:=Tryz.sizeOf5
 v5:=Tryz.zeroValue5
 infoByte:=by kernel_rfl
 cellsByte:=by kernel_rfl
 sizeByte:=by kernel_rfl
 neB5:=by decide }
open Go.RowKit Go.Lib in
theorem Tryz.strings_ReplaceAll (s old new:ByteArray) (m:Int) (w:World) (hs:s.size < 4294967281) (hm:w.cell? ⟨0,0,none⟩=some (.int .i64 m)) (h1:1≤old.size) (hlen:s.size + Lib.countB s old * new.size≤140737488355328) :
  Calls Tryz.prog 12 #[.string s,.string old,.string new] w λ e w' =>
   e=.returned (.string ⟨(Lib.replaceAll s.data.toList old.data.toList new.data.toList).toArray⟩)∧Below w.heap.size w w':=Any.strings_ReplaceAll Tryz.lays155 Tryz.Builder_Extra_155 s old new m w hs hm h1 hlen
def Tryz.lays105_ren:Go.Shelf.Ren:=⟨λ | 105=>11 | 212=>25 | 99=>26 | 165=>27 | 166=>28 | 170=>29 | 169=>30 | 263=>46 | 264=>47 | 206=>48 | 240=>49 | 241=>50 | 276=>69 | 277=>70 | n=>n,λ | 9=>9 | 3=>3 | 4=>4 | 20=>20 | 0=>0 | 46=>52 | 109=>53 | 5=>5 | 72=>59 | 76=>63 | 51=>89 | 146=>90 | 53=>92 | 148=>93 | 70=>56 | 37=>57 | 75=>62 | 127=>95 | 164=>116 | 80=>66 | n=>n,λ | n=>n⟩
theorem Tryz.lays105:Go.Proofs.Lays.n105 Tryz.prog Tryz.lays105_ren:={
 mixed:=by kernel_rfl
 f99:=Tryz.func26.trans (congrArg some (by kernel_rfl))
 f105:=Tryz.func11.trans (congrArg some (by kernel_rfl))
 f165:=Tryz.func27.trans (congrArg some (by kernel_rfl))
 f166:=Tryz.func28.trans (congrArg some (by kernel_rfl))
 f169:=Tryz.func30.trans (congrArg some (by kernel_rfl))
 f170:=Tryz.func29.trans (congrArg some (by kernel_rfl))
 f206:=Tryz.func48.trans (congrArg some (by kernel_rfl))
 f212:=Tryz.func25.trans (congrArg some (by kernel_rfl))
 f240:=Tryz.func49.trans (congrArg some (by kernel_rfl))
 f241:=Tryz.func50.trans (congrArg some (by kernel_rfl))
 f263:=Tryz.func46.trans (congrArg some (by kernel_rfl))
 f264:=Tryz.func47.trans (congrArg some (by kernel_rfl))
 f276:=Tryz.func69.trans (congrArg some (by kernel_rfl))
 f277:=Tryz.func70.trans (congrArg some (by kernel_rfl))
 t0:=Tryz.underlying0
 a0:=Tryz.isAgg0
 z0:=Tryz.sizeOf0
 v0:=Tryz.zeroValue0
 t3:=Tryz.underlying3
 a3:=Tryz.isAgg3
 z3:=Tryz.sizeOf3
 v3:=Tryz.zeroValue3
 t4:=Tryz.underlying4
 a4:=Tryz.isAgg4
 z4:=Tryz.sizeOf4
 v4:=Tryz.zeroValue4
 t5:=Tryz.underlying5
 a5:=Tryz.isAgg5
 z5:=Tryz.sizeOf5
 v5:=Tryz.zeroValue5
 t9:=Tryz.underlying9
 a9:=Tryz.isAgg9
 z9:=Tryz.sizeOf9
 v9:=Tryz.zeroValue9
 t20:=Tryz.underlying20
 a20:=Tryz.isAgg20
 z20:=Tryz.sizeOf20
 v20:=Tryz.zeroValue20
 t37:=Tryz.underlying57
 a37:=Tryz.isAgg57
 z37:=Tryz.sizeOf57
 v37:=Tryz.zeroValue57
 t46:=Tryz.underlying52
 a46:=Tryz.isAgg52
 z46:=Tryz.sizeOf52
 v46:=Tryz.zeroValue52
 t51:=Tryz.underlying89
 a51:=Tryz.isAgg89
 z51:=Tryz.sizeOf89
 v51:=Tryz.zeroValue89
 t53:=Tryz.underlying92
 a53:=Tryz.isAgg92
 z53:=Tryz.sizeOf92
 v53:=Tryz.zeroValue92
 t70:=Tryz.underlying56
 a70:=Tryz.isAgg56
 z70:=Tryz.sizeOf56
 v70:=Tryz.zeroValue56
 t72:=Tryz.underlying59
 a72:=Tryz.isAgg59
 z72:=Tryz.sizeOf59
 v72:=Tryz.zeroValue59
 t75:=Tryz.underlying62
 a75:=Tryz.isAgg62
 z75:=Tryz.sizeOf62
 v75:=Tryz.zeroValue62
 t76:=Tryz.underlying63
 a76:=Tryz.isAgg63
 z76:=Tryz.sizeOf63
 v76:=Tryz.zeroValue63
 t109:=Tryz.underlying53
 a109:=Tryz.isAgg53
 z109:=Tryz.sizeOf53
 v109:=Tryz.zeroValue53
 t127:=Tryz.underlying95
 a127:=Tryz.isAgg95
 z127:=Tryz.sizeOf95
 v127:=Tryz.zeroValue95
 t146:=Tryz.underlying90
 a146:=Tryz.isAgg90
 z146:=Tryz.sizeOf90
 v146:=Tryz.zeroValue90
 t148:=Tryz.underlying93
 a148:=Tryz.isAgg93
 z148:=Tryz.sizeOf93
 v148:=Tryz.zeroValue93
 t164:=Tryz.underlying116
 a164:=Tryz.isAgg116
 z164:=Tryz.sizeOf116
 v164:=Tryz.zeroValue116 }
theorem Tryz.Builder_Extra_105:Builder.Extra Tryz.prog Tryz.lays105_ren:={
 sizeBuilder:=by kernel_rfl
 liesBuilder:=by kernel_rfl
 t5:=Tryz.underlying5
 a5:=Tryz.isAgg5
 z5:=Tryz.sizeOf5
 v5:=Tryz.zeroValue5
 infoByte:=by kernel_rfl
 cellsByte:=by kernel_rfl
 sizeByte:=by kernel_rfl
 neB5:=by decide }
open Go.RowKit Go.Lib in
theorem Tryz.strings_Repeat (s:ByteArray) (c:Nat) (w:World) (hc:c≤9223372036854775807) (hlen:s.size * c≤140737488355328) :
  Calls Tryz.prog 11 #[.string s,.int .i64 c] w λ e w'=>e=.returned (.string ⟨(Lib.repeatL s.data.toList c).toArray⟩)∧Below w.heap.size w w':=Any.strings_Repeat Tryz.lays105 Tryz.Builder_Extra_105 s c w hc hlen
def Tryz.lays229_ren:Go.Shelf.Ren:=⟨λ | 229=>35 | n=>n,λ | 9=>9 | 40=>71 | 31=>30 | 152=>109 | 3=>3 | 0=>0 | 4=>4 | 21=>21 | 154=>111 | n=>n,λ | n=>n⟩
theorem Tryz.lays229:Go.Proofs.Lays.n229 Tryz.prog Tryz.lays229_ren:={
 mixed:=by kernel_rfl
 f229:=Tryz.func35.trans (congrArg some (by kernel_rfl))
 t0:=Tryz.underlying0
 a0:=Tryz.isAgg0
 z0:=Tryz.sizeOf0
 v0:=Tryz.zeroValue0
 t3:=Tryz.underlying3
 a3:=Tryz.isAgg3
 z3:=Tryz.sizeOf3
 v3:=Tryz.zeroValue3
 t4:=Tryz.underlying4
 a4:=Tryz.isAgg4
 z4:=Tryz.sizeOf4
 v4:=Tryz.zeroValue4
 t9:=Tryz.underlying9
 a9:=Tryz.isAgg9
 z9:=Tryz.sizeOf9
 v9:=Tryz.zeroValue9
 t21:=Tryz.underlying21
 a21:=Tryz.isAgg21
 z21:=Tryz.sizeOf21
 v21:=Tryz.zeroValue21
 t31:=Tryz.underlying30
 a31:=Tryz.isAgg30
 z31:=Tryz.sizeOf30
 v31:=Tryz.zeroValue30
 t40:=Tryz.underlying71
 a40:=Tryz.isAgg71
 z40:=Tryz.sizeOf71
 v40:=Tryz.zeroValue71
 t152:=Tryz.underlying109
 a152:=Tryz.isAgg109
 z152:=Tryz.sizeOf109
 v152:=Tryz.zeroValue109
 t154:=Tryz.underlying111
 a154:=Tryz.isAgg111
 z154:=Tryz.sizeOf111
 v154:=Tryz.zeroValue111 }
open Go.RowKit Go.Lib in
theorem Tryz.strings_FieldsFunc_runes (g:Nat) (lb:Array Value) (eg:∀ args w,(callFunc g args).run Tryz.prog w=.ok (.enter g args) w) (p:Nat→Bool) (s:ByteArray) (w:World) (hs:s.size≤4294967296) (hp:PredAtRunes Tryz.prog g lb p w) :
  Calls Tryz.prog 35 #[.string s,.func (.func g) #[] lb] w λ e w'=>∃ A,e=.returned (.slice (some ⟨A,0,none⟩) (Lib.goFieldsP p s).length (Lib.goFieldsP p s).length)∧w.heap.size≤A ∧
   w'.ownsRow w.heap.size 9 1 (.slice (some ⟨A,0,none⟩) (Lib.goFieldsP p s).length (Lib.goFieldsP p s).length) (Lib.goFieldsP p s).length ((Lib.goFieldsP p s).map Value.string)∧Below w.heap.size w w':=Any.strings_FieldsFunc_runes Tryz.lays229 g lb eg p s w hs hp (by kernel_rfl) (by kernel_rfl)
end Go.Proofs
namespace Go.Ev
open Go F Go.Proofs Go.RowKit
set_option linter.unusedVariables false
set_option maxRecDepth 100000
theorem VR.str (ρ:Ren) (s:ByteArray):VR ρ (.string s) (.string s):=.of1 rfl
theorem qc {s:Bs}:Lib.countB ⟨⟨s⟩⟩ ⟨#[10]⟩ + 1=(aR s).length:=by
 have h:=ju ⟨⟨s⟩⟩
 rw [← show (aR (ByteArray.mk ⟨s⟩).data.toList)=aR s from rfl,← h,List.length_map]
 exact (Lib.splitB_all ⟨#[10]⟩ (by decide) 0 _ ⟨⟨s⟩⟩ rfl).symm
noncomputable def pH (args:List Value) (h:H):Option (Value × H) :=
 match args with
 | [.string ⟨⟨s⟩⟩,.string ⟨⟨[10]⟩⟩]=>(match cell0 h 0 with
  | some (.int .i64 m)=>bif Nat.ble s.length 4000000000 && room h then some (.slice (some ⟨h.next,0,none⟩) (aR s).length (2 * (aR s).length),h.push (.row 9 (aR s).length false false 0 (T.ofList unk ((aR s).map aF)))) else none
  | _=>none)
 | _=>none
theorem yl:dk Tryz.prog 16 pH:=by
 intro ρ h w args args' v h' hr ha he
 unfold pH at he
 split at he
 ·rename_i s
  split at he
  ·rename_i m hm
   cases hb:(Nat.ble s.length 4000000000 && room h) with
   | false=>rw [hb] at he; exact nomatch he
   | true =>
    rw [hb] at he
    cases he
    rw [Bool.and_eq_true] at hb
    have hs:=Nat.le_of_ble_eq_true hb.1
    obtain ⟨u,u2,rfl,hu,hu2⟩:=fp ha
    rw [hu.string,hu2.string]
    obtain ⟨v',hc,hv⟩:=ng hr (by decide) hm
    have hv:v'=.int .i64 m:=by
     rcases hv with e | e
     ·exact nomatch e
     ·simp only [bY,bW,Option.some.injEq] at e; exact e.symm
    subst hv
    refine cN.of_grow hr Tryz.func16 (by kernel_rfl) (by kernel_rfl) hb.2 ?_
    refine (Tryz.strings_Split ⟨⟨s⟩⟩ ⟨#[10]⟩ m w (by show s.length < _; omega) hc (by decide)).mono ?_
    rintro e w' ⟨rfl,rfl⟩
    refine ⟨_,w.heap.size,0,rfl,(Below.refl _ _).alloc (Nat.le_refl _) _,Nat.le_refl _,by simp,λ ρ' _=>?_,?_⟩
    ·have hl:=ju ⟨⟨s⟩⟩
     refine ru (fr:=(0,0)) (aR s) (heap_alloc_new w _) ?_ (Nat.le_refl _) λ i=>?_
     ·rw [List.size_toArray,List.length_map,Lib.splitB_all ⟨#[10]⟩ (by decide) 0 _ ⟨⟨s⟩⟩ rfl,qc]
     ·rw [List.getElem?_toArray,wg,hl]
    ·rw [qc]; exact ov
  ·exact nomatch he
 ·exact nomatch he
theorem SE (x:Nat) (W:World):Calls Tryz.prog 36 #[.int .i32 (x:Int)] W λ e w'=>e=.returned (.bool (lS x))∧∃ q,w'=W.drewN q:=by
 go_enter Tryz.func36,Tryz.ntmps36
 go_wp2
 go_ret
 refine ⟨?_,0,rfl⟩
 show Ending.returned (Value.bool (((x:Int)) == 32))=_
 congr 2
 unfold lS
 by_cases q:x=32
 ·subst q; rfl
 ·rw [show Nat.beq x 32=false from fT q]
  exact beq_eq_false_iff_ne.2 (by omega)
noncomputable def l5 (args:List Value) (h:H):Option (Value × H) :=
 match args with
 | [.string ⟨⟨s⟩⟩,.func (.func 36) ⟨[]⟩ ⟨[]⟩]=>bif Nat.ble s.length 4000000000 && room h then some (.slice (some ⟨h.next,0,none⟩) (bd s).length (2 * (bd s).length),h.push (.row 9 (bd s).length false false 0 (T.ofList unk ((bd s).map aF)))) else none
 | _=>none
theorem sZ:dk Tryz.prog 35 l5:=by
 intro ρ h w args args' v h' hr ha he
 unfold l5 at he
 split at he
 ·rename_i s
  cases hb:(Nat.ble s.length 4000000000 && room h) with
  | false=>rw [hb] at he; exact nomatch he
  | true =>
   rw [hb] at he
   cases he
   rw [Bool.and_eq_true] at hb
   have hs:=Nat.le_of_ble_eq_true hb.1
   obtain ⟨u,u2,rfl,hu,hu2⟩:=fp ha
   rw [hu.string]
   obtain ⟨x,y,hx,hy,rfl⟩:=hu2.func
   cases hx
   cases hy
   refine cN.of_grow hr Tryz.func35 (by kernel_rfl) (by kernel_rfl) hb.2 ?_
   have hp:PredAtRunes Tryz.prog 36 #[] lS w:=λ W x _ _=>SE x W
   refine (Tryz.strings_FieldsFunc_runes 36 #[] (enters_of Tryz.func36 (by kernel_rfl) rfl) lS ⟨⟨s⟩⟩ w (by show s.length≤_; omega) hp).mono ?_
   rintro e w' ⟨A,rfl,hA,hown,hb'⟩
   have hf:=pF ⟨⟨s⟩⟩
   have hf:(Lib.goFieldsP lS ⟨⟨s⟩⟩).map (λ x=>x.data.toList)=bd s:=hf
   have hlen:(Lib.goFieldsP lS ⟨⟨s⟩⟩).length=(bd s).length:=by rw [← hf,List.length_map]
   obtain ⟨hl1,h2⟩:=hown
   rcases h2 with ⟨h2,_⟩ | ⟨g,cap,cur,h2,h3,h4,h5,h6,h7,h8⟩
   ·exact nomatch h2
   ·simp only [Value.slice.injEq,Option.some.injEq,Addr.mk.injEq,and_true,true_and] at h2
    obtain ⟨rfl,rfl⟩:=h2
    have hcur:cur.toList=(Lib.goFieldsP lS ⟨⟨s⟩⟩).map Value.string:=by
     rw [← h8,List.take_of_length_le]
     rw [Array.length_toList,h7]
     exact Nat.le_refl _
    refine ⟨_,A,0,rfl,hb',hA,(Array.getElem?_eq_some_iff.1 h4).1,λ ρ' _=>?_,?_⟩
    ·refine ru (fr:=(0,0)) (bd s) h4 (by rw [h7,hlen,Nat.mul_one]) (Nat.le_refl _) λ i=>?_
     rw [← Array.getElem?_toList,hcur,wg,hf]
    ·rw [hlen]; exact ov
 ·exact nomatch he
def Dh (args:List Value) (h:H):Option (Value × H) :=
 match args with
 | [.string ⟨⟨s⟩⟩,.string ⟨⟨p⟩⟩]=>bif Nat.ble s.length 4000000000 then some (.bool (Lib.hasSuffix s p),h) else none
 | _=>none
theorem EO:dk Tryz.prog 63 Dh:=by
 intro ρ h w args args' v h' hr ha he
 unfold Dh at he
 split at he
 ·rename_i s p
  cases hb:Nat.ble s.length 4000000000 with
  | false=>rw [hb] at he; exact nomatch he
  | true =>
   rw [hb] at he
   cases he
   have hs:=Nat.le_of_ble_eq_true hb
   obtain ⟨u,u2,rfl,hu,hu2⟩:=fp ha
   rw [hu.string,hu2.string]
   refine cN.of_calls hr Tryz.func63 (by kernel_rfl) (by kernel_rfl) (.of1 rfl) ((Tryz.strings_HasSuffix ⟨⟨s⟩⟩ ⟨⟨p⟩⟩ w (by show s.length≤_; omega)).mono ?_)
   rintro e w' ⟨rfl,rfl⟩
   exact ⟨rfl,Below.refl _ _⟩
 ·exact nomatch he
def HZ (args:List Value) (h:H):Option (Value × H) :=
 match args with
 | [.string ⟨⟨s⟩⟩,.int .i64 (.ofNat n)]=>bif Nat.ble n 1000000 && Nat.ble s.length 1000000 then some (.string ⟨⟨Lib.repeatL s n⟩⟩,h) else none
 | _=>none
theorem I9:dk Tryz.prog 11 HZ:=by
 intro ρ h w args args' v h' hr ha he
 unfold HZ at he
 split at he
 ·rename_i s n
  cases hb:(Nat.ble n 1000000 && Nat.ble s.length 1000000) with
  | false=>rw [hb] at he; exact nomatch he
  | true =>
   rw [hb] at he
   cases he
   rw [Bool.and_eq_true] at hb
   have b1:=Nat.le_of_ble_eq_true hb.1
   have b2:=Nat.le_of_ble_eq_true hb.2
   obtain ⟨u,u2,rfl,hu,hu2⟩:=fp ha
   rw [hu.string,hu2.int]
   exact cN.of_calls hr Tryz.func11 (by kernel_rfl) (by kernel_rfl) (.of1 rfl) (Tryz.strings_Repeat ⟨⟨s⟩⟩ n w (by omega) (Nat.le_trans (Nat.mul_le_mul b2 b1) (by decide)))
 ·exact nomatch he
def AW (args:List Value) (h:H):Option (Value × H) :=
 match args with
 | [.string ⟨⟨s⟩⟩,.string ⟨⟨a⟩⟩,.string ⟨⟨b⟩⟩]=>(match cell0 h 0 with
  | some (.int .i64 m)=>bif Nat.ble s.length 1000000 && Nat.ble 1 a.length && Nat.ble b.length 1000000 then some (.string ⟨⟨Lib.replaceAll s a b⟩⟩,h) else none
  | _=>none)
 | _=>none
theorem tD {r:Value→Value→Prop} {a a2 a3:Value} {l:List Value} (h:bi r [a,a2,a3] l):∃ b b2 b3,l=[b,b2,b3]∧r a b∧r a2 b2∧r a3 b3:=by
 cases l with
 | nil=>exact h.elim
 | cons b l =>
  obtain ⟨b2,b3,rfl,h2,h3⟩:=fp h.2
  exact ⟨b,b2,b3,rfl,h.1,h2,h3⟩
theorem Ao:dk Tryz.prog 12 AW:=by
 intro ρ h w args args' v h' hr ha he
 unfold AW at he
 split at he
 ·rename_i s a b
  split at he
  ·rename_i m hm
   cases hb:(Nat.ble s.length 1000000 && Nat.ble 1 a.length && Nat.ble b.length 1000000) with
   | false=>rw [hb] at he; exact nomatch he
   | true =>
    rw [hb] at he
    cases he
    rw [Bool.and_eq_true,Bool.and_eq_true] at hb
    have b1:=Nat.le_of_ble_eq_true hb.1.1
    have b2:1≤a.length:=Nat.le_of_ble_eq_true hb.1.2
    have b3:=Nat.le_of_ble_eq_true hb.2
    obtain ⟨u,u2,u3,rfl,hu,hu2,hu3⟩:=tD ha
    rw [hu.string,hu2.string,hu3.string]
    obtain ⟨v',hc,hv⟩:=ng hr (by decide) hm
    have hv:v'=.int .i64 m:=by
     rcases hv with e | e
     ·exact nomatch e
     ·simp only [bY,bW,Option.some.injEq] at e; exact e.symm
    subst hv
    have hcnt:=Lib.countB_le ⟨⟨a⟩⟩ b2 s.length ⟨⟨s⟩⟩ (Nat.le_refl _)
    refine cN.of_calls hr Tryz.func12 (by kernel_rfl) (by kernel_rfl) (.of1 rfl) (Tryz.strings_ReplaceAll ⟨⟨s⟩⟩ ⟨⟨a⟩⟩ ⟨⟨b⟩⟩ m w (by show s.length < _; omega) hc b2 ?_)
    have hcnt:Lib.countB ⟨⟨s⟩⟩ ⟨⟨a⟩⟩≤s.length:=hcnt
    show s.length + Lib.countB ⟨⟨s⟩⟩ ⟨⟨a⟩⟩ * b.length≤_
    have:Lib.countB ⟨⟨s⟩⟩ ⟨⟨a⟩⟩ * b.length≤1000000 * 1000000:=Nat.mul_le_mul (by omega) b3
    omega
  ·exact nomatch he
 ·exact nomatch he
noncomputable def vb (args:List Value) (h:H):Option (Value × H) :=
 match args with
 | [.string ⟨⟨s⟩⟩]=>bif Nat.ble s.length 1000000 then (match Lib.atoiAll s with
  | .ok v=>some (.tuple ⟨[.int .i64 v,.nilIface]⟩,h)
  | .range=>(match cell0 h 4 with
   | some (.iface t a)=>bif room h then some (.tuple ⟨[.int .i64 (Lib.atoiSat s),.iface 223 (.pointer (some ⟨h.next,0,none⟩))]⟩,h.push .dead) else none
   | _=>none)
  | _=>none) else none
 | _=>none
theorem zM:dk Tryz.prog 62 vb:=by
 intro ρ h w args args' v h' hr ha he
 unfold vb at he
 split at he
 ·rename_i s
  cases hb:Nat.ble s.length 1000000 with
  | false=>rw [hb] at he; exact nomatch he
  | true =>
   rw [hb] at he
   have hs:=Nat.le_of_ble_eq_true hb
   rw [cond_true] at he
   obtain ⟨u,rfl,hu⟩:=jn ha
   rw [hu.string]
   split at he
   ·rename_i v0 hv
    cases he
    refine cN.of_calls hr Tryz.func62 (by kernel_rfl) (by kernel_rfl) (v':=.tuple #[.int .i64 v0,.nilIface]) (.inr ⟨_,_,rfl,rfl,.inl (.inr rfl),.inl (.inr rfl),trivial⟩) ((Tryz.strconv_Atoi_ok ⟨⟨s⟩⟩ (by show s.length≤_; omega) v0 hv w).mono ?_)
    rintro e w' ⟨rfl,rfl | ⟨t,rfl⟩⟩
    ·exact ⟨rfl,Below.refl _ _⟩
    ·exact ⟨rfl,Lib.bytesWorld_below _ _ _⟩
   ·rename_i hv
    split at he
    ·rename_i t a hc
     cases hroom:room h with
     | false=>rw [hroom] at he; exact nomatch he
     | true =>
      rw [hroom] at he
      cases he
      obtain ⟨v',hcell,hvr⟩:=ng hr (by decide) hc
      have hev:v'=.nilIface ∨ ∃ te pe,v'=.iface te pe:=by
       rcases hvr with e | e
       ·exact nomatch e
       ·simp only [bY] at e
        split at e
        ·simp only [Option.some.injEq] at e; exact .inr ⟨_,_,e.symm⟩
        ·exact nomatch e
      refine cN.of_grow hr Tryz.func62 (by kernel_rfl) (by kernel_rfl) hroom ((Tryz.strconv_Atoi_range ⟨⟨s⟩⟩ (by show s.length≤_; omega) hv v' w hcell hev).mono ?_)
      rintro e w' ⟨N,rfl,hN,hcells,hb'⟩
      refine ⟨_,N,0,rfl,hb',hN,(Array.getElem?_eq_some_iff.1 hcells).1,λ _ _=>trivial,?_⟩
      refine .inr ⟨_,_,rfl,rfl,.inl (.inr rfl),.inl (.inr ?_),trivial⟩
      simp [bY,bW,Ren.upd_same]
    ·exact nomatch he
   ·exact nomatch he
 ·exact nomatch he
end Go.Ev
