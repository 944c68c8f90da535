/-
  A SCRIPT's PARSER, in the environment of TraceBack.
-/
import Derived.Test.YtglmdggjibmjcaaGreatDoorYf
import Derived.Test.YtglmdggjibmjcaaGreatDoorYj
import Derived.Lib.OthersKept
import Derived.Lib.AtoiErrMem
import Derived.RowKit3
import Derived.Below
import Derived.Lib.AtoiAllCases
noncomputable section
set_option linter.all false
set_option maxRecDepth 100000
set_option exponentiation.threshold 3000
open Nat (ble beq)
namespace Go.Proofs
open Go.Shelf
def Tryz.laysC172_ren:Go.Shelf.Ren:=⟨λ| 172=>67 | 244=>82 | 245=>83 | 247=>109 | 279=>110 | 280=>111 | 281=>112 | 282=>113 | 287=>172 | 316=>173 | 171=>26 | 205=>174 | 321=>255 | 322=>256 | 243=>54 | 246=>74 | 283=>95 | 284=>96 | 285=>97 | 286=>98 | 129=>164 | 317=>163 | 318=>165 | 319=>166 | 320=>167 | 337=>253 | 338=>254 | n=>n,λ| 9=>9 | 3=>3 | 75=>46 | 76=>47 | 4=>4 | 5=>5 | 167=>154 | 37=>42 | 0=>0 | 85=>155 | 2=>2 | 168=>157 | 53=>131 | 175=>238 | 46=>153 | 210=>241 | 127=>75 | 145=>334 | 143=>332 | 21=>21 | 171=>140 | 173=>143 | 212=>227 | 51=>228 | 20=>20 | 213=>229 | 232=>403 | 233=>404 | 80=>52 | n=>n,λ| 15=>4 | 16=>5 | 17=>1 | 18=>6 | 19=>7 | n=>n⟩
def Tryz.laysC172:Go.Proofs.LaysC.n172 Tryz.prog Tryz.laysC172_ren:={
 mixed:=by kernel_rfl
 f129:=Tryz.func164.trans (congrArg some (by kernel_rfl))
 f171:=Tryz.func26.trans (congrArg some (by kernel_rfl))
 f172:=Tryz.func67.trans (congrArg some (by kernel_rfl))
 f205:=Tryz.func174.trans (congrArg some (by kernel_rfl))
 f243:=Tryz.func54.trans (congrArg some (by kernel_rfl))
 f244:=Tryz.func82.trans (congrArg some (by kernel_rfl))
 f245:=Tryz.func83.trans (congrArg some (by kernel_rfl))
 f246:=Tryz.func74.trans (congrArg some (by kernel_rfl))
 f247:=Tryz.func109.trans (congrArg some (by kernel_rfl))
 f279:=Tryz.func110.trans (congrArg some (by kernel_rfl))
 f280:=Tryz.func111.trans (congrArg some (by kernel_rfl))
 f281:=Tryz.func112.trans (congrArg some (by kernel_rfl))
 f282:=Tryz.func113.trans (congrArg some (by kernel_rfl))
 f283:=Tryz.func95.trans (congrArg some (by kernel_rfl))
 f284:=Tryz.func96.trans (congrArg some (by kernel_rfl))
 f285:=Tryz.func97.trans (congrArg some (by kernel_rfl))
 f286:=Tryz.func98.trans (congrArg some (by kernel_rfl))
 f287:=Tryz.func172.trans (congrArg some (by kernel_rfl))
 f316:=Tryz.func173.trans (congrArg some (by kernel_rfl))
 f317:=Tryz.func163.trans (congrArg some (by kernel_rfl))
 f318:=Tryz.func165.trans (congrArg some (by kernel_rfl))
 f319:=Tryz.func166.trans (congrArg some (by kernel_rfl))
 f320:=Tryz.func167.trans (congrArg some (by kernel_rfl))
 f321:=Tryz.func255.trans (congrArg some (by kernel_rfl))
 f322:=Tryz.func256.trans (congrArg some (by kernel_rfl))
 f337:=Tryz.func253.trans (congrArg some (by kernel_rfl))
 f338:=Tryz.func254.trans (congrArg some (by kernel_rfl))
 t0:=Tryz.underlying0
 a0:=Tryz.isAgg0
 z0:=Tryz.sizeOf0
 v0:=Tryz.zeroValue0
 t2:=Tryz.underlying2
 a2:=Tryz.isAgg2
 z2:=Tryz.sizeOf2
 v2:=Tryz.zeroValue2
 t3:=Tryz.underlying3
 a3:=Tryz.isAgg3
 z3:=Tryz.sizeOf3
 v3:=Tryz.zeroValue3
 t4:=Tryz.underlying4
 a4:=Tryz.isAgg4
 z4:=Tryz.sizeOf4
 v4:=Tryz.zeroValue4
 t5:=Tryz.underlying5
 a5:=Tryz.isAgg5
 z5:=Tryz.sizeOf5
 v5:=Tryz.zeroValue5
 t9:=Tryz.underlying9
 a9:=Tryz.isAgg9
 z9:=Tryz.sizeOf9
 v9:=Tryz.zeroValue9
 t20:=Tryz.underlying20
 a20:=Tryz.isAgg20
 z20:=Tryz.sizeOf20
 v20:=Tryz.zeroValue20
 t21:=Tryz.underlying21
 a21:=Tryz.isAgg21
 z21:=Tryz.sizeOf21
 v21:=Tryz.zeroValue21
 t37:=Tryz.underlying42
 a37:=Tryz.isAgg42
 z37:=Tryz.sizeOf42
 v37:=Tryz.zeroValue42
 t46:=Tryz.underlying153
 a46:=Tryz.isAgg153
 z46:=Tryz.sizeOf153
 v46:=Tryz.zeroValue153
 t51:=Tryz.underlying228
 a51:=Tryz.isAgg228
 z51:=Tryz.sizeOf228
 v51:=Tryz.zeroValue228
 t53:=Tryz.underlying131
 a53:=Tryz.isAgg131
 z53:=Tryz.sizeOf131
 v53:=Tryz.zeroValue131
 t75:=Tryz.underlying46
 a75:=Tryz.isAgg46
 z75:=Tryz.sizeOf46
 v75:=Tryz.zeroValue46
 t76:=Tryz.underlying47
 a76:=Tryz.isAgg47
 z76:=Tryz.sizeOf47
 v76:=Tryz.zeroValue47
 t85:=Tryz.underlying155
 a85:=Tryz.isAgg155
 z85:=Tryz.sizeOf155
 v85:=Tryz.zeroValue155
 t127:=Tryz.underlying75
 a127:=Tryz.isAgg75
 z127:=Tryz.sizeOf75
 v127:=Tryz.zeroValue75
 t143:=Tryz.underlying332
 a143:=Tryz.isAgg332
 z143:=Tryz.sizeOf332
 v143:=Tryz.zeroValue332
 t145:=Tryz.underlying334
 a145:=Tryz.isAgg334
 z145:=Tryz.sizeOf334
 v145:=Tryz.zeroValue334
 t167:=Tryz.underlying154
 a167:=Tryz.isAgg154
 z167:=Tryz.sizeOf154
 v167:=Tryz.zeroValue154
 t168:=Tryz.underlying157
 a168:=Tryz.isAgg157
 z168:=Tryz.sizeOf157
 v168:=Tryz.zeroValue157
 t171:=Tryz.underlying140
 a171:=Tryz.isAgg140
 z171:=Tryz.sizeOf140
 v171:=Tryz.zeroValue140
 t173:=Tryz.underlying143
 a173:=Tryz.isAgg143
 z173:=Tryz.sizeOf143
 v173:=Tryz.zeroValue143
 t175:=Tryz.underlying238
 a175:=Tryz.isAgg238
 z175:=Tryz.sizeOf238
 v175:=Tryz.zeroValue238
 t210:=Tryz.underlying241
 a210:=Tryz.isAgg241
 z210:=Tryz.sizeOf241
 v210:=Tryz.zeroValue241
 t212:=Tryz.underlying227
 a212:=Tryz.isAgg227
 z212:=Tryz.sizeOf227
 v212:=Tryz.zeroValue227
 t213:=Tryz.underlying229
 a213:=Tryz.isAgg229
 z213:=Tryz.sizeOf229
 t232:=Tryz.underlying403
 a232:=Tryz.isAgg403
 z232:=Tryz.sizeOf403
 v232:=Tryz.zeroValue403
 t233:=Tryz.underlying404
 a233:=Tryz.isAgg404
 z233:=Tryz.sizeOf404
 v233:=Tryz.zeroValue404
 g15:=by kernel_rfl
 g16:=by kernel_rfl
 g17:=by kernel_rfl
 g18:=by kernel_rfl
 g19:=by kernel_rfl
 t80:=Tryz.underlying52
 a80:=Tryz.isAgg52
 z80:=Tryz.sizeOf52
 v80:=Tryz.zeroValue52
 i0:=by kernel_rfl
 i2:=by kernel_rfl
 i3:=by kernel_rfl
 i4:=by kernel_rfl
 i5:=by kernel_rfl
 i9:=by kernel_rfl
 i20:=by kernel_rfl
 i21:=by kernel_rfl
 i37:=by kernel_rfl
 i46:=by kernel_rfl
 i51:=by kernel_rfl
 i53:=by kernel_rfl
 i75:=by kernel_rfl
 i76:=by kernel_rfl
 i80:=by kernel_rfl
 i85:=by kernel_rfl
 i127:=by kernel_rfl
 i143:=by kernel_rfl
 i145:=by kernel_rfl
 i167:=by kernel_rfl
 i168:=by kernel_rfl
 i171:=by kernel_rfl
 i173:=by kernel_rfl
 i175:=by kernel_rfl
 i210:=by kernel_rfl
 i212:=by kernel_rfl
 i232:=by kernel_rfl
 i233:=by kernel_rfl
 m15:=by kernel_rfl
 m16:=by kernel_rfl
 m17:=by kernel_rfl
 m18:=by kernel_rfl
 m19:=by kernel_rfl
 c0:=by kernel_rfl
 c2:=by kernel_rfl
 c3:=by kernel_rfl
 c4:=by kernel_rfl
 c5:=by kernel_rfl
 c9:=by kernel_rfl
 c20:=by kernel_rfl
 c21:=by kernel_rfl
 c37:=by kernel_rfl
 c46:=by kernel_rfl
 c51:=by kernel_rfl
 c53:=by kernel_rfl
 c75:=by kernel_rfl
 c76:=by kernel_rfl
 c80:=by kernel_rfl
 c85:=by kernel_rfl
 c127:=by kernel_rfl
 c143:=by kernel_rfl
 c145:=by kernel_rfl
 c167:=by kernel_rfl
 c168:=by kernel_rfl
 c171:=by kernel_rfl
 c173:=by kernel_rfl
 c175:=by kernel_rfl
 c210:=by kernel_rfl
 c212:=by kernel_rfl
 c213:=by kernel_rfl
 c232:=by kernel_rfl
 c233:=by kernel_rfl }
open Go.RowKit in
def Tryz.strconv_Atoi_ok (s:ByteArray) (hmax:s.size<=9223372036854775806) (v:Int) (h:Lib.atoiAll s.data.toList=.ok v) (w:World):
  Calls Tryz.prog 67 #[.string s] w λe w'=>e=.returned (.tuple #[.int .i64 v,.nilIface])/\(w'=w \/ ∃t,w'=Lib.bytesWorld w 5 t):=Any.strconv_Atoi_ok Tryz.laysC172 s hmax v h w
open Go.RowKit in
def Tryz.strconv_Atoi_range (s:ByteArray) (hlim:s.size<=281474976710656) (h:Lib.atoiAll s.data.toList=.range) (ev:Value) (w:World) (hv:w.cell? ⟨5,0,none⟩=some ev) (hev:ev=.nilIface \/ ∃te pe,ev=.iface te pe):
  Calls Tryz.prog 67 #[.string s] w λe w'=>∃N,e=.returned (.tuple #[.int .i64 (Lib.atoiSat s.data.toList),.iface 157 (.pointer (some ⟨N,0,none⟩))])/\w.heap.size<=N/\w'.heap[N]?=some (.cells #[.string ⟨#[65,116,111,105]⟩,.string s,ev] 241 (0,0))/\Below w.heap.size w w':=Any.strconv_Atoi_range Tryz.laysC172 s hlim h ev w hv hev
def Tryz.lays146_ren:Go.Shelf.Ren:=⟨λ| 146=>21 | 221=>42 | 268=>65 | 138=>56 | 143=>66 | 195=>75 | 197=>80 | 218=>76 | 219=>81 | 260=>104 | 217=>105 | 225=>106 | 224=>107 | 267=>108 | 266=>170 | 314=>171 | n=>n,λ| 9=>9 | 31=>37 | 3=>3 | 4=>4 | 0=>0 | 105=>121 | 21=>21 | 5=>5 | 46=>153 | 119=>232 | 139=>235 | 138=>234 | 146=>236 | 51=>228 | n=>n,λ| 1=>0 | 3=>2 | 4=>3 | n=>n⟩
def Tryz.lays146:Go.Proofs.Lays.n146 Tryz.prog Tryz.lays146_ren:={
 mixed:=by kernel_rfl
 f138:=Tryz.func56.trans (congrArg some (by kernel_rfl))
 f143:=Tryz.func66.trans (congrArg some (by kernel_rfl))
 f146:=Tryz.func21.trans (congrArg some (by kernel_rfl))
 f195:=Tryz.func75.trans (congrArg some (by kernel_rfl))
 f197:=Tryz.func80.trans (congrArg some (by kernel_rfl))
 f217:=Tryz.func105.trans (congrArg some (by kernel_rfl))
 f218:=Tryz.func76.trans (congrArg some (by kernel_rfl))
 f219:=Tryz.func81.trans (congrArg some (by kernel_rfl))
 f221:=Tryz.func42.trans (congrArg some (by kernel_rfl))
 f224:=Tryz.func107.trans (congrArg some (by kernel_rfl))
 f225:=Tryz.func106.trans (congrArg some (by kernel_rfl))
 f260:=Tryz.func104.trans (congrArg some (by kernel_rfl))
 f266:=Tryz.func170.trans (congrArg some (by kernel_rfl))
 f267:=Tryz.func108.trans (congrArg some (by kernel_rfl))
 f268:=Tryz.func65.trans (congrArg some (by kernel_rfl))
 f314:=Tryz.func171.trans (congrArg some (by kernel_rfl))
 t0:=Tryz.underlying0
 a0:=Tryz.isAgg0
 z0:=Tryz.sizeOf0
 v0:=Tryz.zeroValue0
 t3:=Tryz.underlying3
 a3:=Tryz.isAgg3
 z3:=Tryz.sizeOf3
 v3:=Tryz.zeroValue3
 t4:=Tryz.underlying4
 a4:=Tryz.isAgg4
 z4:=Tryz.sizeOf4
 v4:=Tryz.zeroValue4
 t5:=Tryz.underlying5
 a5:=Tryz.isAgg5
 z5:=Tryz.sizeOf5
 v5:=Tryz.zeroValue5
 t9:=Tryz.underlying9
 a9:=Tryz.isAgg9
 z9:=Tryz.sizeOf9
 v9:=Tryz.zeroValue9
 t21:=Tryz.underlying21
 a21:=Tryz.isAgg21
 z21:=Tryz.sizeOf21
 v21:=Tryz.zeroValue21
 t31:=Tryz.underlying37
 a31:=Tryz.isAgg37
 z31:=Tryz.sizeOf37
 v31:=Tryz.zeroValue37
 t46:=Tryz.underlying153
 a46:=Tryz.isAgg153
 z46:=Tryz.sizeOf153
 v46:=Tryz.zeroValue153
 t51:=Tryz.underlying228
 a51:=Tryz.isAgg228
 z51:=Tryz.sizeOf228
 v51:=Tryz.zeroValue228
 t105:=Tryz.underlying121
 a105:=Tryz.isAgg121
 z105:=Tryz.sizeOf121
 v105:=Tryz.zeroValue121
 t119:=Tryz.underlying232
 a119:=Tryz.isAgg232
 z119:=Tryz.sizeOf232
 t138:=Tryz.underlying234
 a138:=Tryz.isAgg234
 z138:=Tryz.sizeOf234
 v138:=Tryz.zeroValue234
 t139:=Tryz.underlying235
 a139:=Tryz.isAgg235
 z139:=Tryz.sizeOf235
 v139:=Tryz.zeroValue235
 t146:=Tryz.underlying236
 a146:=Tryz.isAgg236
 z146:=Tryz.sizeOf236
 v146:=Tryz.zeroValue236
 g1:=by kernel_rfl
 g3:=by kernel_rfl
 g4:=by kernel_rfl }
open Go.RowKit Go.Lib in
def Tryz.strings_Split (s sep:ByteArray) (m:Int) (w:World) (hs:s.size<4294967281) (hm:w.cell? ⟨0,0,none⟩=some (.int .i64 m)) (h1:1<=sep.size):
  Calls Tryz.prog 21 #[.string s,.string sep] w λe w'=>
   e=.returned (.slice (some ⟨w.heap.size,0,none⟩) (Lib.countB s sep+1) (Lib.countB s sep+1))/\w'=w.alloc (.cells ((Lib.splitB sep 0 (Lib.countB s sep) s).map Value.string).toArray 9):=Any.strings_Split Tryz.lays146 (by kernel_rfl) s sep m w hs hm h1
def Tryz.lays229_ren:Go.Shelf.Ren:=⟨λ| 229=>43 | n=>n,λ| 9=>9 | 40=>87 | 31=>37 | 152=>110 | 3=>3 | 0=>0 | 4=>4 | 21=>21 | 154=>112 | n=>n,λ| n=>n⟩
def Tryz.lays229:Go.Proofs.Lays.n229 Tryz.prog Tryz.lays229_ren:={
 mixed:=by kernel_rfl
 f229:=Tryz.func43.trans (congrArg some (by kernel_rfl))
 t0:=Tryz.underlying0
 a0:=Tryz.isAgg0
 z0:=Tryz.sizeOf0
 v0:=Tryz.zeroValue0
 t3:=Tryz.underlying3
 a3:=Tryz.isAgg3
 z3:=Tryz.sizeOf3
 v3:=Tryz.zeroValue3
 t4:=Tryz.underlying4
 a4:=Tryz.isAgg4
 z4:=Tryz.sizeOf4
 v4:=Tryz.zeroValue4
 t9:=Tryz.underlying9
 a9:=Tryz.isAgg9
 z9:=Tryz.sizeOf9
 v9:=Tryz.zeroValue9
 t21:=Tryz.underlying21
 a21:=Tryz.isAgg21
 z21:=Tryz.sizeOf21
 v21:=Tryz.zeroValue21
 t31:=Tryz.underlying37
 a31:=Tryz.isAgg37
 z31:=Tryz.sizeOf37
 v31:=Tryz.zeroValue37
 t40:=Tryz.underlying87
 a40:=Tryz.isAgg87
 z40:=Tryz.sizeOf87
 v40:=Tryz.zeroValue87
 t152:=Tryz.underlying110
 a152:=Tryz.isAgg110
 z152:=Tryz.sizeOf110
 v152:=Tryz.zeroValue110
 t154:=Tryz.underlying112
 a154:=Tryz.isAgg112
 z154:=Tryz.sizeOf112
 v154:=Tryz.zeroValue112 }
open Go.RowKit Go.Lib in
def Tryz.strings_FieldsFunc_runes (g:Nat) (lb:Array Value) (eg:∀args w,(callFunc g args).run Tryz.prog w=.ok (.enter g args) w) (p:Nat->Bool) (s:ByteArray) (w:World) (hs:s.size<=4294967296) (hp:PredAtRunes Tryz.prog g lb p w):
  Calls Tryz.prog 43 #[.string s,.func (.func g) #[] lb] w λe w'=>∃A,e=.returned (.slice (some ⟨A,0,none⟩) (Lib.goFieldsP p s).length (Lib.goFieldsP p s).length)/\w.heap.size<=A /\
   w'.ownsRow w.heap.size 9 1 (.slice (some ⟨A,0,none⟩) (Lib.goFieldsP p s).length (Lib.goFieldsP p s).length) (Lib.goFieldsP p s).length ((Lib.goFieldsP p s).map Value.string)/\Below w.heap.size w w':=Any.strings_FieldsFunc_runes Tryz.lays229 g lb eg p s w hs hp (by kernel_rfl) (by kernel_rfl)
end Go.Proofs
namespace Go.Ev
open Go F Go.Proofs Go.RowKit
def Step.adopt {P:Program} {ρ:Ren} {h:H} {w w':World} (hr:eZ P ρ h w) (hroom:room h=true) {A x:Nat} {ob:AO} (b:Below w.heap.size w w') (hA:w.heap.size<=A) (hA2:A<w'.heap.size)
  (hob:∀ρ',ρ.le ρ'->eV P ρ' w' (A,x) ob):Step P ρ h w (ρ.upd h.next (A,x)) (h.push ob) w':=by
 have hroom:=I7 hroom;exact Step.give hr (id:=h.next) (p:=(A,x)) (O:=h.objs) (w':=w') (ob:=ob) (hr.unmapped (Jd _)) rfl (dX (by omega)) (λ_=>.inl rfl)
  (λj q hq hl=>by
   have hlt:=hr.inside j q hq hl
   exact⟨by show q.1≠A;omega,b.block _ hlt⟩) hA2 hob (λk hk _=>b.block k hk) (λhl=>absurd hl (by show ¬ A<w.heap.size;omega)) b.size b.tape b.os b.output
def dL.of_grow {P : Program} {ρ : Ren} {h : H} {w : World} {f : FuncId} {args' : List Value} {v : Value} {fn : Func} {ob : AO} (hr : eZ P ρ h w) (h1 : P.funcs[f]? = some fn) (h2 : fn.body.isNone = false) (h3 : (fn.name== "runtime.NumGoroutine") = false) (hroom : room h = true)
  (c:Calls P f ⟨args'⟩ w λe w'=>∃v' A x,e=.returned v'/\Below w.heap.size w w'/\w.heap.size<=A/\A<w'.heap.size/\(∀ρ',ρ.le ρ'->eV P ρ' w' (A,x) ob)/\VR (ρ.upd h.next (A,x)) v v'):dL P ρ h w f args' v (h.push ob):=
 .inr ⟨fn,h1,h2,h3,c.mono λe w' hq=>by
  obtain⟨v',A,x,e1,b,a1,a2,ho,hv⟩:=hq
  exact⟨_,v',e1,hv,Step.adopt hr hroom b a1 a2 ho⟩⟩
def cell0 (h:H) (g:Nat):Option Value:=match h.objs.get g with
 |.row _ 1 false _ _ c=>some (c.get 0)
 | _=>none
def uY {P:Program} {ρ:Ren} {h:H} {w:World} (hr:eZ P ρ h w) {g:Nat} (hg:g<16) {v:Value} (e:cell0 h g=some v):∃v',w.cell? ⟨g,0,none⟩=some v'/\ga ρ v v':=by
 unfold cell0 at e;have ho:=hr.obj g (g,0) (hr.glob g hg);split at e
 ·rename_i hq;cases e;rw[hq] at ho;obtain⟨cs,fr,k1,k2,k3,k4,k5,k6⟩:=ho;obtain⟨v',a,b⟩:=k5 0 (by omega);refine⟨v',?_,b⟩;unfold World.cell?;simp only[Option.isSome_none,J1,if_false];rw[show w.heap[g]?=_ from k1];exact a
 ·exact nomatch e
def vE {P:Program} {ρ:Ren} {w:World} {A:Nat} {fr:Nat × Nat} {e:TypeId} {cs:Array Value} (xs:List (List UInt8)) (hh:w.heap[A]?=some (.cells cs e fr)) (hsz:cs.size=xs.length) (hfr:fr.2<=0)
  (hc:∀i:Nat,cs[i]?=(xs.map λs=>Value.string ⟨⟨s⟩⟩)[i]?):eV P ρ w (A,0) (.row e xs.length false false 0 (T.ofList unk (xs.map λs=>Value.string ⟨⟨s⟩⟩))):=by
 refine⟨cs,fr,hh,by omega,λ_=>⟨hsz,rfl⟩,λq=>(nomatch q),λi hi=>?_,.inr hfr⟩;have h1:(xs.map λs=>Value.string ⟨⟨s⟩⟩)[i]?=some (Value.string ⟨⟨xs[i]⟩⟩):=by simp[hi]
 refine⟨Value.string ⟨⟨xs[i]⟩⟩,(hc i).trans h1,?_⟩;rw[T.get_ofList,Jc,h1];exact .inr rfl
def sx {ρ:Ren} {id A n:Nat}:VR (ρ.upd id (A,0)) (.slice (some ⟨id,0,none⟩) n (2*n)) (.slice (some ⟨A,0,none⟩) n n):=by
 have e1:2*n%2=0:=by omega
 have e2:2*n / 2=n:=by omega
 exact VR.of1 (by simp[cW,cU,Ren.upd_same,e1,e2])
def B9 (l:List ByteArray):l.map Value.string=(l.map λx=>x.data.toList).map λs=>Value.string ⟨⟨s⟩⟩:=by rw[List.map_map];rfl
def vX {s:Bs}:Lib.countB ⟨⟨s⟩⟩ ⟨#[10]⟩+1=(aU s).length:=by have h:=lO ⟨⟨s⟩⟩;rw[<-show (aU (ByteArray.mk ⟨s⟩).data.toList)=aU s from rfl,<-h,Kx];exact (Lib.splitB_all ⟨#[10]⟩ (by decide) 0 _ ⟨⟨s⟩⟩ rfl).symm
def uF (args:List Value) (h:H):Option (Value × H):=
 match args with
 | [.string ⟨⟨s⟩⟩,.string ⟨⟨[10]⟩⟩]=>(match cell0 h 0 with
  | some (.int .i64 m)=>bif ble s.length 4000000000&&room h then some (.slice (some ⟨h.next,0,none⟩) (aU s).length (2*(aU s).length),h.push (.row 9 (aU s).length false false 0 (T.ofList unk ((aU s).map ak)))) else none
  | _=>none)
 | _=>none
def Dt:dC Tryz.prog 21 uF:=by
 intro ρ h w args args' v h' hr ha he;unfold uF at he;split at he
 ·rename_i s;split at he
  ·rename_i m hm;cases hb:(ble s.length 4000000000&&room h) with
   | false=>rw[hb] at he;exact nomatch he
   | true=>
    rw[hb] at he;cases he;rw[Ja] at hb;have hs:=I7 hb.1;obtain⟨u,u2,rfl,hu,hu2⟩:=fI ha;rw[hu.string,hu2.string];obtain⟨v',hc,hv⟩:=uY hr (by decide) hm;have hv:v'=.int .i64 m:=by
     rcases hv with e | e
     ·exact nomatch e
     ·simp only[cW,cU,I9] at e;exact e.symm
    subst hv;refine dL.of_grow hr Tryz.func21 (by kernel_rfl) (by kernel_rfl) hb.2 ?_;refine (Tryz.strings_Split ⟨⟨s⟩⟩ ⟨#[10]⟩ m w (by show s.length<_;omega) hc (by decide)).mono ?_;rintro e w' ⟨rfl,rfl⟩;refine⟨_,w.heap.size,0,rfl,(Below.refl _ _).alloc (Jd _) _,Jd _,by simp,λρ' _=>?_,?_⟩
    ·have hl:=lO ⟨⟨s⟩⟩;refine vE (fr:=(0,0)) (aU s) (heap_alloc_new w _) ?_ (Jd _) λi=>?_
     ·rw[List.size_toArray,Kx,Lib.splitB_all ⟨#[10]⟩ (by decide) 0 _ ⟨⟨s⟩⟩ rfl,vX]
     ·rw[KL,B9,hl]
    ·rw[vX];exact sx
  ·exact nomatch he
 ·exact nomatch he
def aeI (x:Nat) (W:World):Calls Tryz.prog 44 #[.int .i32 (x:Int)] W λe w'=>e=.returned (.bool (pk x))/\∃q,w'=W.drewN q:=by
 go_enter Tryz.func44,Tryz.ntmps44
 go_wp2
 go_ret
 refine⟨?_,0,rfl⟩;show Ending.returned (Value.bool (((x:Int))==32))=_
 congr 2
 unfold pk;by_cases q:x=32
 ·subst q;rfl
 ·rw[show beq x 32=false from dB q];exact JM.2 (by omega)
def pD (args:List Value) (h:H):Option (Value × H):=
 match args with
 | [.string ⟨⟨s⟩⟩,.func (.func 44) ⟨[]⟩ ⟨[]⟩]=>bif ble s.length 4000000000&&room h then some (.slice (some ⟨h.next,0,none⟩) (bO s).length (2*(bO s).length),h.push (.row 9 (bO s).length false false 0 (T.ofList unk ((bO s).map ak)))) else none
 | _=>none
def zF:dC Tryz.prog 43 pD:=by
 intro ρ h w args args' v h' hr ha he;unfold pD at he;split at he
 ·rename_i s;cases hb:(ble s.length 4000000000&&room h) with
  | false=>rw[hb] at he;exact nomatch he
  | true=>
   rw[hb] at he;cases he;rw[Ja] at hb;have hs:=I7 hb.1;obtain⟨u,u2,rfl,hu,hu2⟩:=fI ha;rw[hu.string];obtain⟨x,y,hx,hy,rfl⟩:=hu2.func;cases hx;cases hy;refine dL.of_grow hr Tryz.func43 (by kernel_rfl) (by kernel_rfl) hb.2 ?_;have hp:PredAtRunes Tryz.prog 44 #[] pk w:=λW x _ _=>aeI x W;refine (Tryz.strings_FieldsFunc_runes 44 #[] (enters_of Tryz.func44 (by kernel_rfl) rfl) pk ⟨⟨s⟩⟩ w (by show s.length<=_;omega) hp).mono ?_;rintro e w' ⟨A,rfl,hA,hown,hb'⟩;have hf:=tM ⟨⟨s⟩⟩;have hf:(Lib.goFieldsP pk ⟨⟨s⟩⟩).map (λx=>x.data.toList)=bO s:=hf;have hlen:(Lib.goFieldsP pk ⟨⟨s⟩⟩).length=(bO s).length:=by rw[<-hf,Kx]
   obtain⟨hl1,h2⟩:=hown;rcases h2 with ⟨h2,_⟩ | ⟨g,cap,cur,h2,h3,h4,h5,h6,h7,h8⟩
   ·exact nomatch h2
   ·simp only[Value.slice.injEq,I9,Addr.mk.injEq,and_true,true_and] at h2;obtain⟨rfl,rfl⟩:=h2;have hcur:cur.toList=(Lib.goFieldsP pk ⟨⟨s⟩⟩).map Value.string:=by rw[<-h8,List.take_of_length_le];rw[Array.length_toList,h7];exact Jd _
    refine⟨_,A,0,rfl,hb',hA,(Jw.1 h4).1,λρ' _=>?_,?_⟩
    ·refine vE (fr:=(0,0)) (bO s) h4 (by rw[h7,hlen,Nat.mul_one]) (Jd _) λi=>?_;rw[<-Kb,hcur,B9,hf]
    ·rw[hlen];exact sx
 ·exact nomatch he
def Kq (args:List Value) (h:H):Option (Value × H):=
 match args with
 | [.string ⟨⟨s⟩⟩,.string ⟨⟨p⟩⟩]=>bif ble s.length 4000000000 then some (.bool (Lib.hasSuffix s p),h) else none
 | _=>none
def Oq:dC Tryz.prog 57 Kq:=by
 intro ρ h w args args' v h' hr ha he;unfold Kq at he;split at he
 ·rename_i s p;cases hb:ble s.length 4000000000 with
  | false=>rw[hb] at he;exact nomatch he
  | true=> rw[hb] at he;cases he;have hs:=I7 hb;obtain⟨u,u2,rfl,hu,hu2⟩:=fI ha;rw[hu.string,hu2.string];refine dL.of_calls hr Tryz.func57 (by kernel_rfl) (by kernel_rfl) (.of1 rfl) ((Tryz.strings_HasSuffix ⟨⟨s⟩⟩ ⟨⟨p⟩⟩ w (by show s.length<=_;omega)).mono ?_);rintro e w' ⟨rfl,rfl⟩;exact⟨rfl,Below.refl _ _⟩
 ·exact nomatch he
def Cl (args:List Value) (h:H):Option (Value × H):=
 match args with
 | [.string ⟨⟨s⟩⟩]=>bif ble s.length 1000000 then (match Lib.atoiAll s with
  |.ok v=>some (.tuple ⟨[.int .i64 v,.nilIface]⟩,h)
  |.range=>(match cell0 h 5 with
   | some (.iface t a)=>bif room h then some (.tuple ⟨[.int .i64 (Lib.atoiSat s),.iface 157 (.pointer (some ⟨h.next,0,none⟩))]⟩,h.push .dead) else none
   | _=>none)
  | _=>none) else none
 | _=>none
def Gk:dC Tryz.prog 67 Cl:=by
 intro ρ h w args args' v h' hr ha he;unfold Cl at he;split at he
 ·rename_i s;cases hb:ble s.length 1000000 with
  | false=>rw[hb] at he;exact nomatch he
  | true=>
   rw[hb] at he;have hs:=I7 hb;rw[Jo] at he;obtain⟨u,rfl,hu⟩:=kW ha;rw[hu.string];split at he
   ·rename_i v0 hv;cases he;refine dL.of_calls hr Tryz.func67 (by kernel_rfl) (by kernel_rfl) (v':=.tuple #[.int .i64 v0,.nilIface]) (.inr ⟨_,_,rfl,rfl,.inl (.inr rfl),.inl (.inr rfl),trivial⟩) ((Tryz.strconv_Atoi_ok ⟨⟨s⟩⟩ (by show s.length<=_;omega) v0 hv w).mono ?_);rintro e w' ⟨rfl,rfl | ⟨t,rfl⟩⟩
    ·exact⟨rfl,Below.refl _ _⟩
    ·exact⟨rfl,Lib.bytesWorld_below _ _ _⟩
   ·rename_i hv;split at he
    ·rename_i t a hc;cases hroom:room h with
     | false=>rw[hroom] at he;exact nomatch he
     | true=>
      rw[hroom] at he;cases he;obtain⟨v',hcell,hvr⟩:=uY hr (by decide) hc;have hev:v'=.nilIface \/ ∃te pe,v'=.iface te pe:=by
       rcases hvr with e | e
       ·exact nomatch e
       ·simp only[cW] at e;split at e
        ·simp only[I9] at e;exact .inr ⟨_,_,e.symm⟩
        ·exact nomatch e
      refine dL.of_grow hr Tryz.func67 (by kernel_rfl) (by kernel_rfl) hroom ((Tryz.strconv_Atoi_range ⟨⟨s⟩⟩ (by show s.length<=_;omega) hv v' w hcell hev).mono ?_);rintro e w' ⟨N,rfl,hN,hcells,hb'⟩;refine⟨_,N,0,rfl,hb',hN,(Jw.1 hcells).1,λ_ _=>trivial,?_⟩;refine .inr ⟨_,_,rfl,rfl,.inl (.inr rfl),.inl (.inr ?_),trivial⟩;simp[cW,cU,Ren.upd_same]
    ·exact nomatch he
   ·exact nomatch he
 ·exact nomatch he
def nv (h:H) (i:Nat):h.objs.get i=hget h i:=(bv h i).symm
class HS (hS:H):Prop where
 n:16<=hS.next
 m:∃m,cell0 hS 0=some (.int .i64 m)
 e:∃t a,cell0 hS 5=some (.iface t a)
 g:dO glob 0 hS=true
def qu {hS h:H} (f:bu hS h) {g:Nat} (hg:g<hS.next):cell0 h g=cell0 hS g:=by unfold cell0;rw[nv,nv,f.old g hg]
def qC {hS h:H} (f:bu hS h):∀(gl:List AO) (i:Nat),i+gl.length<=hS.next->dO gl i hS=true->dO gl i h=true
 | [],_,_,_=>rfl
 | o :: l,i,hi,hs=>by unfold dO at hs ⊢;rw[Ja] at hs;rw[nv,f.old i (by simp at hi;omega),<-nv,hs.1,qC f l (i+1) (by simp at hi;omega) hs.2];rfl
def qI {hS h:H} [hs:HS hS] (f:bu hS h):dO glob 0 h=true:=qC f glob 0 (show 0+8<=hS.next by have:=hs.n;omega) hs.g
end Go.Ev
namespace Go.Ev
open Go F Go.Proofs
def Step.loneB {P:Program} {ρ ρ0 ρ':Ren} {h h0 h':H} {w w':World} (hr:eZ P ρ h w) (hw:∀b,¬ Wr ρ0 h0 b) (s:Step P ρ0 h0 w ρ' h' w'):Step P ρ h w ρ h w' where
 ext:=ρ.le_refl
 old:=λ_ _ e _=>e
 next:=Jd _
 keep:=λ_ _ _=>rfl
 rel:=⟨hr.dom,hr.inj,λid p e=>eV.same (hr.obj id p e) λhl=>s.same _ (hr.inside id p e hl) (hw _),hr.small,hr.fresh,hr.glob,λid p e hl=>Jp (hr.inside id p e hl) s.size⟩
 same:=λb hb _=>s.same b hb (hw b)
 own:=λ_ e _=>e
 size:=s.size
 tape:=s.tape
 os:=s.os
 output:=s.output
def C8 {cells:T Value} {n o j:Nat} {L:List Value} (e:ae cells n o=L) (hj:j<n):cells.get (o+j)=L.getD j unk:=by
 rw[<-e,dK];have hl:j<(bq cells o n).length:=by rw[gP];exact hj
 rw[Jc,Jn hl,gN _ _ _ _ hl];rfl
def BS {P:Program} {ρ:Ren} {h:H} {w:World} (hr:eZ P ρ h w) {v v':Value} {l:List Bs} (o:WL h v l) (hv:ga ρ v v'):ng w v' l:=by
 cases o with
 | nil=> have:=(VR.of0 hv).nilslice;subst this;exact .nil
 | gar ha=>
  rename_i a;obtain⟨b,o,s⟩:=a;cases s with
  | none=>exact nomatch ha
  | some s=>
   rcases (VR.of0 hv).slice2 with ⟨p,_,q,_⟩ | ⟨_,_,_,q⟩
   ·exact nomatch q
   ·subst q;exact .gar
 | row hb hq hm hcap hc=>
  rename_i b o e m c fz op ro cells;obtain⟨p,hp,_,rfl⟩:=(VR.of0 hv).slice (.inr (.inr rfl));have hcap':l.length<=if c%2=0 then c / 2 else c / 2+p.2:=by split <;> omega
  by_cases q:l=[]
  ·subst q;exact .row (cs:=#[]) (t:=0) (fr:=(0,0)) (λq=>absurd rfl q) (λi hi=>absurd hi (Jy _)) hcap'
  ·have ho:=hr.obj b p hp;have hq':=hq q;rw[bv] at hq';rw[hq'] at ho;obtain⟨cs,fr,k1,k2,k3,k4,k5,k6⟩:=ho;refine .row (cs:=cs) (t:=e) (fr:=fr) (λ_=>k1) (λi hi=>?_) hcap';obtain⟨v',e1,e2⟩:=k5 (o+i) (by omega);have:=hc i hi;rw[bI] at this;rw[this] at e2;rw[e1];exact congrArg some (VR.of0 e2).string
def nD:Value->Prop
 |.slice _ n c=>n<=c / 2
 | _=>True
def Mb {P:Program} {ρ:Ren} {h:H} {w:World} (hr:eZ P ρ h w) {v v':Value} {l:List bV} (hl:l.length<=1001) (o:CW WL h v l) (hk:nD v) (hv:ga ρ v v'):∃ons txs,uU w ons txs v' l:=by
 cases o with
 | nil=> have:=(VR.of0 hv).nilslice;subst this;exact⟨λ_=>.nilFunc,λ_=>.nilFunc,.nil⟩
 | row hb hq hm hc=>
  rename_i b o e m c fz op ro cells;have hk:l.length<=c / 2:=hk;obtain⟨p,hp,_,rfl⟩:=(VR.of0 hv).slice (.inr (.inr rfl));by_cases q:l=[]
  ·subst q;exact⟨λ_=>.nilFunc,λ_=>.nilFunc,.row (cs:=#[]) (t:=0) (fr:=(0,0)) (λq=>absurd rfl q) (λi hi=>absurd hi (Jy _)) (by split <;> omega)⟩
  ·have ho:=hr.obj b p hp;have hq':=hq q;rw[bv] at hq';rw[hq'] at ho;obtain⟨cs,fr,k1,k2,k3,k4,k5,k6⟩:=ho;refine⟨λi=>(cs[o+i*9+3]?).getD .nilFunc,λi=>(cs[o+i*9+8]?).getD .nilFunc,.row (cs:=cs) (t:=e) (fr:=fr) (λ_=>k1) (λi hi=>?_) (by split <;> omega)⟩;obtain⟨ln,von,vtx,e0,w1,w2⟩:=hc i hi (by omega);have hget:∀j,j<9->∃u,cs[o+i*9+j]?=some u/\ga ρ ((aO ln l[i] von vtx).getD j unk) u:=λj hj=>by obtain⟨u,q1,q2⟩:=k5 (o+i*9+j) (by omega);rw[C8 e0 hj] at q2;exact⟨u,q1,q2⟩
   obtain⟨u3,q3,r3⟩:=hget 3 (by omega);obtain⟨u8,q8,r8⟩:=hget 8 (by omega);refine⟨⟨ln,λj hj=>?_⟩,by simp only[q3,KH];exact BS hr w1 r3,by simp only[q8,KH];exact BS hr w2 r8⟩;simp only[q3,q8,KH];obtain⟨u,q1,q2⟩:=hget j hj;rw[q1]
   match j,hj with
   | 0,_=>exact congrArg some (VR.of0 q2).int
   | 1,_=>exact congrArg some (VR.of0 q2).int
   | 2,_=>exact congrArg some (VR.of0 q2).string
   | 3,_=>exact q1.symm.trans q3
   | 4,_=>exact congrArg some (VR.of0 q2).int
   | 5,_=>exact congrArg some (VR.of0 q2).int
   | 6,_=>exact congrArg some (VR.of0 q2).int
   | 7,_=>exact congrArg some (VR.of0 q2).int
   | 8,_=>exact q1.symm.trans q8
   | n+9,hj=>omega
def IU {h:H} {v:Value} {l l':List Bs} (o:WL h v l) (o':WL h v l'):l=l':=by
 cases o with
 | nil=>cases o';rfl
 | gar ha=>
  rename_i a;generalize hv:Value.slice (some a) 0 0=v at o';cases o' with
  | nil=>rfl
  | gar=>rfl
  | row=>
   injection hv with h1 h2 h3
   injection h1 with h1
   subst h1;exact nomatch ha
 | row hb hq hm hcap hc=>
  rename_i b o e m c fz op ro cells;generalize hn:l.length=n at o';generalize hv:Value.slice (some ⟨b,o,none⟩) n c=v at o';cases o' with
  | nil=>exact nomatch hv
  | gar ha=>cases hv;exact nomatch ha
  | row hb' hq' hm' hcap' hc'=>
   injection hv with h1 h2 h3
   injection h1 with h1
   injection h1 with h1 h4
   subst h1 h4 h2;refine List.ext_getElem hn λi hi hi'=>?_;have ne:l ≠ []:=λq=>by rw[q] at hi;exact absurd hi (Jy _)
   have ne':l' ≠ []:=λq=>by rw[q] at hi';exact absurd hi' (Jy _)
   have e:=(hq ne).symm.trans (hq' ne');injection e with e1 e2 e3 e4 e5 e6
   have c1:=hc i hi;have c2:=hc' i hi';rw[e6,c2] at c1;unfold ak at c1;injection c1 with c1
   injection c1 with c1
   injection c1 with c1
   exact c1.symm
def strip (c:bV):bV:={ c with line:=0 }
def ahn {h:H} {v:Value} {l l':List bV} (hl:l.length<=1001) (o:CW WL h v l) (o':CW WL h v l'):l.map strip=l'.map strip:=by
 cases o with
 | nil=>cases o';rfl
 | row hb hq hm hc=>
  rename_i b o e m c fz op ro cells;generalize hn:l.length=n at o';generalize hv:Value.slice (some ⟨b,o,none⟩) n c=v at o';cases o' with
  | nil=>exact nomatch hv
  | row hb' hq' hm' hc'=>
   injection hv with h1 h2 h3
   injection h1 with h1
   injection h1 with h1 h4
   subst h1 h4 h2;refine List.ext_getElem (by simpa using hn) λi hi hi'=>?_;rw[Kx] at hi hi';have ne:l ≠ []:=λq=>by rw[q] at hi;exact absurd hi (Jy _)
   have ne':l' ≠ []:=λq=>by rw[q] at hi';exact absurd hi' (Jy _)
   have e:=(hq ne).symm.trans (hq' ne');injection e with e1 e2 e3 e4 e5 e6
   obtain⟨ln,von,vtx,c1,a1,a2⟩:=hc i hi (by omega);obtain⟨ln',von',vtx',c2,b1,b2⟩:=hc' i hi' (by omega);rw[e6,c2] at c1;unfold aO ak at c1;simp only[List.cons.injEq,Value.int.injEq,Value.string.injEq,ByteArray.mk.injEq,Array.mk.injEq,Int.ofNat.injEq,true_and,and_true] at c1;obtain⟨_,g1,g2,rfl,g4,g5,g6,g7,rfl⟩:=c1;rw[List.getElem_map,List.getElem_map];have g3:=IU a1 b1;have g8:=IU a2 b2;generalize l[i]=x at *;generalize l'[i]=y at *;obtain⟨x1,x2,x3,x4,x5,x6,x7,x8,x9⟩:=x;obtain⟨y1,y2,y3,y4,y5,y6,y7,y8,y9⟩:=y;simp only at g1 g2 g3 g4 g5 g6 g7 g8;subst g1 g2 g3 g4 g5 g6 g7 g8;rfl
def qj (c:bV):∀(rs:Bs) (st:List Bs × List Bs × List Bs),gb (strip c) rs st=gb c rs st
 | [],_=>rfl
 | r :: rs,st=>qj c rs _
def xm (c:bV):dw (strip c)=dw c:=by unfold dw;rw[qj];rfl
def ku:∀l:List bV,iP (l.map strip)=iP l
 | []=>rfl
 | c :: l=>by
  show (if (dw (strip c)).2 then (iP (l.map strip)).map ((dw (strip c)).1 ++ ·) else none)=if (dw c).2 then (iP l).map ((dw c).1 ++ ·) else none
  rw[xm,ku l]
def uk {cap keeps:Int} {l l':List bV} (e:l.map strip=l'.map strip):eK cap keeps l=eK cap keeps l':=by
 have h1:l.length=l'.length:=by have:=congrArg List.length e;simpa using this
 have h2:iP l=iP l':=by rw[<-ku l,e,ku]
 unfold eK;rw[h1,h2]
structure rv (cap keeps:Int) (l:List bV):Prop where
 c:eX cap
 k:eX keeps
 n:l.length<=1001
 ok:∀c∈l,Hx c
 ln:∀c∈l,oX c
def H2 {ρ ρ':Ren} {s:ByteArray} {n:Int} {v:Value} (h:VR ρ (.tuple ⟨[.string s,.int .i64 n]⟩) v):VR ρ' (.tuple ⟨[.string s,.int .i64 n]⟩) v:=by obtain⟨l',rfl,hl⟩:=h.tuple;obtain⟨a,b,rfl,h1,h2⟩:=fI hl;have e1:=VR.string (.inl h1);have e2:=VR.int (.inl h2);subst e1 e2;exact .inr ⟨_,_,rfl,rfl,.inl (.inr rfl),.inl (.inr rfl),trivial⟩
open Classical in
def qO (args:List Value) (h:H):Option (Value × H):=
 match args with
 | [.int .i64 cap,.int .i64 keeps,v]=>if hx:dO glob 0 h=true/\∃l,CW WL h v l/\rv cap keeps l/\nD v then
   some (.tuple ⟨[ak (eK cap keeps (Classical.choose hx.2)).1,.int .i64 (.ofNat (eK cap keeps (Classical.choose hx.2)).2)]⟩,h) else none
 | _=>none
open Classical in
def C7 {h:H} (hs:dO glob 0 h=true) {v:Value} {l:List bV} (o:CW WL h v l) (hk:nD v) {cap keeps:Int} (g:rv cap keeps l):
  qO [.int .i64 cap,.int .i64 keeps,v] h=some (.tuple ⟨[ak (eK cap keeps l).1,.int .i64 (.ofNat (eK cap keeps l).2)]⟩,h):=by
 have hx:dO glob 0 h=true/\∃l,CW WL h v l/\rv cap keeps l/\nD v:=⟨hs,l,o,g,hk⟩
 show (if hx:dO glob 0 h=true/\∃l,CW WL h v l/\rv cap keeps l/\nD v then
   some (Value.tuple ⟨[ak (eK cap keeps (Classical.choose hx.2)).1,.int .i64 (.ofNat (eK cap keeps (Classical.choose hx.2)).2)]⟩,h) else none)=_
 rw[dif_pos hx];have hc:=Classical.choose_spec hx.2;rw[uk (ahn hc.2.1.n hc.1 o)]
def CW.sl {W:H->Value->List Bs->Prop} {h:H} {v:Value} {l:List bV} (o:CW W h v l):∃a n c,v=.slice a n c:=by cases o <;> exact⟨_,_,_,rfl⟩
def Dx (ht:aJ qL):dC Tryz.prog 7 qO:=by
 intro ρ h w args args' v h' hr ha he;unfold qO at he;split at he
 ·rename_i cap keeps v0;split at he
  ·rename_i hx;cases he;obtain⟨hs,hx⟩:=hx;have hc:=Classical.choose_spec hx;generalize Classical.choose hx=l at hc ⊢;obtain⟨o,g,hk⟩:=hc;obtain⟨u1,r1,rfl,hu1,ha2⟩:∃u r,args'=u :: r/\VR ρ (.int .i64 cap) u/\bT (VR ρ) [.int .i64 keeps,v0] r:=by
    cases args' with
    | nil=>exact ha.elim
    | cons u r=>exact⟨u,r,rfl,ha.1,ha.2⟩
   obtain⟨u2,u3,rfl,hu2,hu3⟩:=fI ha2;have e1:=hu1.int;have e2:=hu2.int;subst e1 e2;obtain⟨a,n,c,rfl⟩:=o.sl;have hu3':ga ρ (.slice a n c) u3:=hu3.scalar (λl q=>nomatch q) (λl q=>nomatch q);obtain⟨ons,txs,A⟩:=Mb hr g.n o hk hu3';have hr0:=As gM hr hs;have hcw:CW WLc (j8 glob w (pj u3 ons txs l.length)) (iu (pj u3 ons txs l.length) u3) l:=awF gM sa hr0 A;have hlen:=xn u3 ons txs l.length;have hnd:(pj u3 ons txs l.length).Nodup:=nJ _;generalize pj u3 ons txs l.length=bs at hcw hlen hnd;have hrB:=aov (bs:=bs) (show glob.length<=16 by decide) hr0 hnd (by omega)
   have hfrom:bu (iL glob) (j8 glob w bs):=⟨show 16<=16+bs.length from KC _ _,λid hid=>by
    have hid:id<16:=hid
    rw[bv,bv,fA,if_pos hid,iS,Jc]⟩
   obtain⟨h2,e,_⟩:=C4 0 hfrom hcw (λ_=>g.ok) (λ_=>g.ln) g.c g.k (show 16+bs.length<=300000000 by omega) (λv h=>some (v,h)) _ rfl;obtain⟨N,v0,h3,hcall,he'⟩:=dp e;cases he';rcases pw (fM pm (HZ ht)) (ly (fM pm (HZ ht)).toTypesOK) N 7 _ _ _ _ hcall (jU bs) w [.int .i64 cap,.int .i64 keeps,u3] hrB ⟨.of1 rfl,.of1 rfl,.of0 (uy bs u3),trivial⟩ with ⟨v',ρ',w',q1,q2,q3⟩ | ⟨fn,q1,q2,q3,q4⟩
   ·exact .inl ⟨v',ρ,w',q1,H2 q2,Step.loneB hr (apm gM w bs) q3⟩
   ·refine .inr ⟨fn,q1,q2,q3,q4.mono λe w' hq=>?_⟩;obtain⟨ρ',v',e1,e2,e3⟩:=hq;exact⟨ρ,v',e1,H2 e2,Step.loneB hr (apm gM w bs) e3⟩
  ·exact nomatch he
 ·exact nomatch he
end Go.Ev
namespace Go.Ev.Pa
open Go F Go.Proofs
section
def tB:aN:=((((qL.ins 40 21 (some uF)).ins 40 43 (some pD)).ins 40 57 (some Kq)).ins 40 67 (some Cl)).ins 40 7 (some qO)
def tB_ok (h:aJ qL):aJ tB:=aB (aB (aB (aB (aB h (by decide) Dt) (by decide) zF) (by decide) Oq) (by decide) Gk) (by decide) (Dx h)
def EB:Env:=EX tB
def yg:EB=EX tB:=rfl
def us:US EB:=⟨by kernel_rfl,by kernel_rfl,by kernel_rfl⟩
def t30:ug EB 37 9 1 ((EB.info 9).getD default) [.string ⟨⟨[]⟩⟩]:=⟨by kernel_rfl,by kernel_rfl,by kernel_rfl,of_decide_eq_true (by kernel_rfl),by kernel_rfl,rfl,by decide,by decide⟩
def t23:ug EB 22 39 9 ((EB.info 39).getD default) br:=⟨by kernel_rfl,by kernel_rfl,by kernel_rfl,of_decide_eq_true (by kernel_rfl),by kernel_rfl,rfl,by decide,by decide⟩
def Pz {ty:TypeId} {d:TypeDesc} (hu:EB.und ty=some d) (ha:iY d=true) (hz:EB.size ty=some 9):∀(h:H) (b:Nat) (op ro:Bool) (fz:Nat) (cells:T Value),hget h b=.row ty 9 op ro fz cells->bD EB h ty ⟨b,0,none⟩=some (.agg ⟨ae cells 9 0⟩):=by intro h b op ro fz cells e;rw[bv] at e;unfold bD;simp only[hu,hz,e,ha,Jo,dK];rfl
def F8:CE EB 39:={ us with
 u24:=by kernel_rfl
 u30:=by kernel_rfl
 z9:=by kernel_rfl
 load:=Pz (d:=(EB.und 39).getD .bool) (by kernel_rfl) (by kernel_rfl) (by kernel_rfl)
 build:=λa c=>by kernel_rfl }
def u62:∃mi,EB.und 46=some (.interface mi):=⟨_,(by kernel_rfl:EB.und 46=some (.interface (match EB.und 46 with | some (.interface m)=>m | _=>default)))⟩
def tc0 {f:FuncId} {x:List Value->H->Option (Value × H)} (e:bR EB KK f=⟨λ_ args h c=>cE (x args h) c⟩) (m:Nat) (args:List Value) (h:H) (k:Value->H->R) {v:Value} {h':H} (hx:x args h=some (v,h')):ar EB KK (m+1) f args h k=k v h':=by show (bR EB KK f).run _ _ _ _=_;rw[e];show cE (x args h) k=_;rw[hx];rfl
def aww:bR EB KK 21=⟨λ_ args h c=>cE (uF args h) c⟩:=by kernel_rfl
def awO:bR EB KK 43=⟨λ_ args h c=>cE (pD args h) c⟩:=by kernel_rfl
def awq:bR EB KK 57=⟨λ_ args h c=>cE (Kq args h) c⟩:=by kernel_rfl
def aqW:bR EB KK 67=⟨λ_ args h c=>cE (Cl args h) c⟩:=by kernel_rfl
def awG (m:Nat) (a0:Value) (h:H) (k:Value->H->R):ar EB KK (m+1) 45 [a0] h k=p45 EB (ar EB KK m) a0 h k:=by show (bR EB KK 45).run _ _ _ _=_;rw[show bR EB KK 45=cf EB KK 45 from bY (by kernel_rfl),yg];exact adG tB _ a0 h k
def awm (m:Nat) (a0:Value) (a1:Value) (h:H) (k:Value->H->R):ar EB KK (m+1) 46 [a0,a1] h k=p46 EB (ar EB KK m) a0 a1 h k:=by show (bR EB KK 46).run _ _ _ _=_;rw[show bR EB KK 46=cf EB KK 46 from bY (by kernel_rfl),yg];exact afI tB _ a0 a1 h k
def awu (m:Nat) (h:H) (k:Value->H->R):ar EB KK (m+1) 47 [] h k=p47 EB (ar EB KK m)  h k:=by show (bR EB KK 47).run _ _ _ _=_;rw[show bR EB KK 47=cf EB KK 47 from bY (by kernel_rfl),yg];exact ZG tB _  h k
def avI (m:Nat) (a0:Value) (a1:Value) (h:H) (k:Value->H->R):ar EB KK (m+1) 48 [a0,a1] h k=p48 EB (ar EB KK m) a0 a1 h k:=by show (bR EB KK 48).run _ _ _ _=_;rw[show bR EB KK 48=cf EB KK 48 from bY (by kernel_rfl),yg];exact W8 tB _ a0 a1 h k
def av9 (m:Nat) (a0:Value) (a1:Value) (h:H) (k:Value->H->R):ar EB KK (m+1) 49 [a0,a1] h k=p49 EB (ar EB KK m) a0 a1 h k:=by show (bR EB KK 49).run _ _ _ _=_;rw[show bR EB KK 49=cf EB KK 49 from bY (by kernel_rfl),yg];exact aaX tB _ a0 a1 h k
def avS (m:Nat) (a0:Value) (a1:Value) (a2:Value) (h:H) (k:Value->H->R):ar EB KK (m+1) 50 [a0,a1,a2] h k=p50 EB (ar EB KK m) a0 a1 a2 h k:=by show (bR EB KK 50).run _ _ _ _=_;rw[show bR EB KK 50=cf EB KK 50 from bY (by kernel_rfl),yg];exact aja tB _ a0 a1 a2 h k
def av1 (m:Nat) (a0:Value) (a1:Value) (h:H) (k:Value->H->R):ar EB KK (m+1) 68 [a0,a1] h k=p68 EB (ar EB KK m) a0 a1 h k:=by show (bR EB KK 68).run _ _ _ _=_;rw[show bR EB KK 68=cf EB KK 68 from bY (by kernel_rfl),yg];exact aec tB _ a0 a1 h k
def avO (m:Nat) (h:H) (k:Value->H->R):ar EB KK (m+1) 69 [] h k=p69 EB (ar EB KK m)  h k:=by show (bR EB KK 69).run _ _ _ _=_;rw[show bR EB KK 69=cf EB KK 69 from bY (by kernel_rfl),yg];exact akS tB _  h k
def awP (m:Nat) (a0:Value) (h:H) (k:Value->H->R):ar EB KK (m+1) 70 [a0] h k=p70 EB (ar EB KK m) a0 h k:=by show (bR EB KK 70).run _ _ _ _=_;rw[show bR EB KK 70=cf EB KK 70 from bY (by kernel_rfl),yg];exact aby tB _ a0 h k
def aw1 (m:Nat) (a0:Value) (h:H) (k:Value->H->R):ar EB KK (m+1) 22 [a0] h k=p22 EB (ar EB KK m) a0 h k:=by show (bR EB KK 22).run _ _ _ _=_;rw[show bR EB KK 22=cf EB KK 22 from bY (by kernel_rfl),yg];exact acq tB _ a0 h k
def awa (m:Nat) (a0:Value) (h:H) (k:Value->H->R):ar EB KK (m+1) 23 [a0] h k=p23 EB (ar EB KK m) a0 h k:=by show (bR EB KK 23).run _ _ _ _=_;rw[show bR EB KK 23=cf EB KK 23 from bY (by kernel_rfl),yg];exact aj6 tB _ a0 h k
def awT (m:Nat) (a0:Value) (a1:Value) (h:H) (k:Value->H->R):ar EB KK (m+1) 24 [a0,a1] h k=p24 EB (ar EB KK m) a0 a1 h k:=by show (bR EB KK 24).run _ _ _ _=_;rw[show bR EB KK 24=cf EB KK 24 from bY (by kernel_rfl),yg];exact aaR tB _ a0 a1 h k
def tc7 (m:Nat) (a0:Value) (h:H) (k:Value->H->R):ar EB KK (m+1) 11 [a0] h k=p11 EB (ar EB KK m) a0 h k:=by show (bR EB KK 11).run _ _ _ _=_;rw[show bR EB KK 11=cf EB KK 11 from bY (by kernel_rfl),yg];exact alz tB _ a0 h k
def BQ:∀(w:Bs) (n:Nat),n<=fp n w
 | [],n=>Jd _
 | b :: w,n=>by unfold fp;have:=BQ w (10*n+(b.toNat-48));omega
def CP:∀(w:Bs) (acc:Nat),w.all dR=true->acc<18446744073709551616->Lib.parseUint10 acc w=if fp acc w<18446744073709551616 then .ok (fp acc w) else .range
 | [],acc,_,ha=>by unfold Lib.parseUint10 fp;rw[if_pos ha]
 | c :: r,acc,hd,ha=>by
  rw[JZ,Ja] at hd;have hc:48<=c.toNat/\c.toNat<=57:=by have:=hd.1;unfold dR at this;rw[Ja] at this;exact⟨I7 this.1,I7 this.2⟩
  unfold Lib.parseUint10 fp;rw[if_pos hc];have hge:=BQ r (10*acc+(c.toNat-48));by_cases q1:1844674407370955162<=acc
  ·rw[if_pos q1,if_neg (by omega)]
  ·rw[if_neg q1];by_cases q2:18446744073709551616<=acc*10+(c.toNat-48)
   ·rw[if_pos q2,if_neg (by omega)]
   ·rw[if_neg q2,CP r _ hd.2 (by omega),show acc*10+(c.toNat-48)=10*acc+(c.toNat-48) by omega]
def rY {w:Bs} (hne:w ≠ []) (hd:w.all dR=true):Lib.atoiAll w=if fp 0 w<=9223372036854775807 then .ok (fp 0 w:Int) else .range:=by
 cases w with
 | nil=>exact absurd rfl hne
 | cons c r=>
  have hc:48<=c.toNat:=by rw[JZ,Ja] at hd;have:=hd.1;unfold dR at this;rw[Ja] at this;exact I7 this.1
  have hp:Lib.parseMag (c :: r)=if fp 0 (c :: r)<18446744073709551616 then .ok (fp 0 (c :: r)) else .range:=by unfold Lib.parseMag;rw[if_neg (by simp)];exact CP _ 0 hd (by decide)
  have h43:¬ (c.toNat=43 \/ c.toNat=45):=by omega
  have h45:¬ c.toNat=45:=by omega
  unfold Lib.atoiAll;simp only[if_neg h43,hp];by_cases q:fp 0 (c :: r)<18446744073709551616
  ·rw[if_pos q];simp only;by_cases q2:fp 0 (c :: r)<=9223372036854775807
   ·rw[if_pos q2,if_neg (by omega),if_neg (by omega),if_neg h45]
   ·rw[if_neg q2,if_pos ⟨h45,by omega⟩]
  ·rw[if_neg q,if_neg (by omega)]
variable {hS : H} [hs : HS hS]
include hs
theorem r62 (m:Nat):z6 (ar EB KK (m+1)) (bu hS):=by
 intro w h hl hne hd hq hn;have hb:ble w.length 1000000=true:=aM (by omega);by_cases q:fp 0 w<=9223372036854775807
 ·refine .inl ⟨q,λk=>tc0 aqW m _ h k ?_⟩;show (bif ble w.length 1000000 then _ else none)=_;rw[hb,Jo,rY hne hd,if_pos q];rfl
 ·refine .inr ⟨by omega,Lib.atoiSat w,157,.pointer (some ⟨h.next,0,none⟩),λk=>?_⟩;obtain⟨t,a,hc⟩:=hs.e;have hc':cell0 h 5=some (.iface t a):=(qu hq (by have:=hs.n;omega)).trans hc;have hroom:room h=true:=aM (by omega);refine tc0 aqW m _ h k (h':=ag h .dead) ?_;show (bif ble w.length 1000000 then _ else none)=_;rw[hb,Jo,rY hne hd,if_neg q,cY];simp only[hc',hroom,Jo]
theorem r37 (m:Nat):EC (ar EB KK (m+2)) (bu hS):=by intro w h hl hq hn k X e;obtain⟨mi,hu⟩:=u62;exact aoL us (rc:=ar EB KK (m+1)) (r62 m) hu hl hq hn k X ((awG (m+1) _ h k).symm.trans e)
omit hs in
theorem r65 (m:Nat) (h:H) (k:Value->H->R) (hn:h.next<=900000000):ar EB KK (m+1) 69 [] h k=k (.slice (some ⟨h.next,0,none⟩) 5 10) (ag h (.row 9 5 false false 0 (T.ofList unk (aZ.map ak)))):=by rw[avO];unfold p69;rw[aj (show h.1<=1000000000 by show h.next<=_;omega),aD];rfl
omit hs in
theorem ahC {w:Bs} {h:H} {tb:Nat} (hq:hget h tb=.row 9 5 false false 0 (T.ofList unk (aZ.map ak))) (k:Value->H->R) (k':aa [4]->H->R):
  ∀(d i N:Nat) (x:Value),i+d=5->d<N ->
   loopF (ks:=[4,8]) (xz EB (.int .i64 (.ofNat 5)) (.slice (some ⟨tb,0,none⟩) 5 10) (ak w) k k') N (x,(.int .i64 (.ofNat i),())) h=if gD w (aZ.drop i)<d then k (.int .i64 (.ofNat (i+gD w (aZ.drop i)))) h else k' (x,()) h:=by
 have u3:=us.u3;intro d
 induction d with
 | zero=> intro i N x hi hN;obtain⟨N,rfl⟩:∃M,N=M+1:=⟨N-1,by omega⟩;rw[aT];unfold xz;dsimp only;rw[fj u3 (show 5<=i by omega),ah,if_neg (Jy _)];rfl
 | succ d ih=>
  intro i N x hi hN;obtain⟨N,rfl⟩:∃M,N=M+1:=⟨N-1,by omega⟩;have hlt:i<5:=by omega
  have hlt':i<aZ.length:=hlt;have key:=ih (i+1) N x (by omega) (by omega);have hqr:∀KK,onRow (hget h tb) KK=KK 9 5 false false 0 (T.ofList unk (aZ.map ak)):=λKK=>by rw[hq];rfl
  have hcell:getF (T.ofList unk (aZ.map ak)) i=ak (aZ[i]'hlt'):=by rw[aI,Jc,JX,Jn hlt'];rfl
  rw[aT];generalize loopF (ks:=[4,8]) (xz EB (.int .i64 (.ofNat 5)) (.slice (some ⟨tb,0,none⟩) 5 10) (ak w) k k') N=L at key ⊢;unfold xz;dsimp only;rw[gt u3 hlt,ah,aA];dsimp only;rw[ah,bC,bp,aj (show i+1<=5 by omega),bw,au];dsimp only;rw[hqr,aj (show 0+i.mul 1+1<=5 by show 0+i*1+1<=5;omega),show 0+i.mul 1=i by show 0+i*1=i;omega,hcell];unfold ak;rw[rQ us,ah,JR hlt'];unfold gD;by_cases q:aZ[i]=w
  ·rw[show (w==aZ[i])=true by rw[q];exact beq_self_eq_true _,if_pos q,if_pos (by omega)];rfl
  ·rw[show (w==aZ[i])=false from JM.2 (Ne.symm q),if_neg q,ax];dsimp only;rw[dr u3 (by omega),key];by_cases q2:gD w (aZ.drop (i+1))<d
   ·rw[if_pos q2,if_pos (by omega),show i+1+gD w (aZ.drop (i+1))=i+(gD w (aZ.drop (i+1))+1) by omega]
   ·rw[if_neg q2,if_neg (by omega)]
omit hs in
theorem r64 (m:Nat) (h:H) (tb:Nat) (w:Bs) (k:Value->H->R) (hq:hget h tb=.row 9 5 false false 0 (T.ofList unk (aZ.map ak))):
  ar EB KK (m+1) 68 [.slice (some ⟨tb,0,none⟩) 5 10,ak w] h k=k (if gD w aZ<5 then .int .i64 (.ofNat (gD w aZ)) else .int .i64 (.negSucc 0)) h:=by
 rw[av1];unfold p68;rw[aW,bp];dsimp only;rw[ah,ahC hq k _ 5 0 cM _ rfl (by unfold cM;omega),List.drop_zero,JN];split <;> rfl
theorem an1 (m:Nat):kP (ar EB KK (m+2)) (bu hS) where
 num:=r37 m
 kinds:=λh k hn=>r65 (m+1) h k hn
 index:=λh tb w k hq=>r64 (m+1) h tb w k hq
 plain:=λw h k=>(awP (m+1) _ h k).trans (ac6 us k)
theorem r42 (m:Nat):uO (ar EB KK (m+3)) (bu hS):=λB b h x w c k X cr hq hn hw h1 h2 e=>
 aqw us t30 (rc:=ar EB KK (m+2)) (an1 m) cr hq hn hw h1 h2 c ((avS (m+2) _ _ _ h k).symm.trans e)
omit hs in
theorem r39 (m:Nat):Gm (ar EB KK (m+1)):=λh k hn=>by rw[awu,Jh,aj (show h.1<=1000000000 by show h.next<=_;omega),aD]
omit hs in
theorem r38 (m:Nat):Uk (ar EB KK (m+2)):=λh pb tb w0 l k X lv ht hlt hn e=>
 apc us (rc:=ar EB KK (m+1)) (h:=h) (λa b g hf hg k X e=>atB us (rc:=ar EB KK m) (lv.from hf) hg a b k X ((avI m _ _ g k).symm.trans e)) ht hlt hn k X ((awm (m+1) _ _ h k).symm.trans e)
omit hs in
theorem r63 (m:Nat):Uf (ar EB KK (m+1)):=λs p h hl k=>tc0 awq m _ h k (by
 show (bif ble s.length 4000000000 then _ else none)=_
 rw[aM (by omega)];rfl)
omit hs in
theorem r41 (m:Nat):T9 (ar EB KK (m+2)):=λh a r n k X hn hr e=>GD us (rc:=ar EB KK (m+1)) (r63 m) hn hr n k X ((av9 (m+1) _ _ h k).symm.trans e)
theorem r19 (m:Nat):Ib (ar EB KK (m+4)) (bu hS):=λline v w0 l h k X hq hn o cl hsm hl e=>
 atl F8 (rc:=ar EB KK (m+3)) (r39 (m+2)) (r38 (m+1)) (r41 (m+1)) (r42 m) hq hn o (.inl cl) hsm hl line k X ((awT (m+3) _ _ h k).symm.trans e)
omit hs in
theorem r35 (m:Nat):vV (ar EB KK (m+1)):=λs h hl hn k=>tc0 awO m _ h k (by
 have hr:room h=true:=aM (by omega);show (bif ble s.length 4000000000&&room h then _ else none)=_
 rw[aM (by omega),hr,cY];rfl)
omit hs in
theorem r17 (m:Nat):uG (ar EB KK (m+2)):=λs h k X hl hn e=>GT us (rc:=ar EB KK (m+1)) (r35 m) F8.u30 hl hn k X ((aw1 (m+1) _ h k).symm.trans e)
theorem r18 (m:Nat):tA (ar EB KK (m+3)) (bu hS):=λv l h k X o hsm hq hn e=>
 an5 us (rc:=ar EB KK (m+2)) (λh h' n q f=>q.trans f.from) (r37 m) F8.u24 F8.u30 o hsm hq hn k X ((awa (m+2) _ h k).symm.trans e)
theorem r16 (m:Nat):Ch (ar EB KK (m+1)) (bu hS):=λs h hl hq hn k=>tc0 aww m _ h k (by
 have hr:room h=true:=aM (by omega);obtain⟨mm,hm⟩:=hs.m;have hc:cell0 h 0=some (.int .i64 mm):=(qu hq (by have:=hs.n;omega)).trans hm
 show (match cell0 h 0 with
  | some (.int .i64 m)=>bif ble s.length 4000000000&&room h then some (Value.slice (some ⟨h.next,0,none⟩) (aU s).length (2*(aU s).length),h.push (.row 9 (aU s).length false false 0 (T.ofList unk ((aU s).map ak)))) else none
  | _=>none)=_
 rw[hc,aM (by omega),hr,cY];rfl)
theorem parse_run (m:Nat) {s:Bs} (hl:s.length<=70000) (hls:okLines (aU s)) {h:H} (hq:bu hS h) (hn:h.next<=600000000) (k:Value->H->R) (X:R) (e:ar EB KK (m+5) 11 [ak s] h k=X):
  x0 39 h.next h (80*(s.length+2)) k X (gJ s):=
 aev F8 (rc:=ar EB KK (m+4)) t23 (by kernel_rfl) (r16 (m+3)) (r17 (m+2)) (r18 (m+1)) (r19 m) hl hls hq hn k X ((tc7 (m+4) _ h k).symm.trans e)
end
end Go.Ev.Pa
