/-
  THE EXAMPLES OF A LAYER answer true.
-/
import Derived.Test.YtlahhbdihpbbgaaGreatDoorLb
noncomputable section
set_option linter.unusedVariables false
set_option linter.unusedSimpArgs false
set_option maxRecDepth 100000
open Nat (ble beq)
namespace Go.Ev
open Go F Go.Proofs
def gS:Code->Code
 |.seq a _=>a
 |.block _ a=>a
 |.loop a=>a
 |.rangeFunc _ _ a _=>a
 | c=>c
def kN:Code->Code
 |.seq _ b=>b
 |.rangeFunc _ _ _ b=>b
 | c=>c
def lU:Code->Array Oper
 |.region _ ops _=>ops
 | _=>#[]
def PX:Code:=Tryz.f451.body.getD .skip
def Pv:Code:=gS (gS (kN PX))
def BG:Code:=gS (kN Pv)
def mR:Array Oper:=lU (gS (gS (kN BG)))
def O2:jp where
 f:=451
 nt:=24
 i0:=0
 i1:=1
 i2:=2
 i3:=3
 i4:=4
 b:=0
 b1:=1
 c:=10
 y:=14
 a:=15
 e:=18
 z:=19
 d:=20
 r0:=lU (gS PX)
 r1:=lU (gS (gS Pv))
 r2:=lU (gS BG)
 r4:=lU (kN (kN BG))
 mv:=mR[0]!
 o1:=mR[1]!
 o2:=mR[2]!
 o3:=mR[3]!
 o4:=mR[4]!
 cl:=mR[5]!
 o6:=mR[6]!
def ws:Code:=Tryz.f430.body.getD .skip
def PY:Code:=gS (kN (kN ws))
def yV:Code:=gS (kN PY)
def Pu:eW where
 k:=0
 k':=1
 i0:=0
 i1:=1
 i2:=2
 ia:=3
 ib:=4
 ic:=5
 i6:=6
 g:=7
 p:=8
 q:=9
 r0:=lU (gS ws)
 r1:=lU (gS (kN ws))
 r2:=lU (gS PY)
 ra:=lU (gS (gS yV))
 rb:=lU (kN (gS yV))
 rc:=lU (gS (kN yV))
 r6:=lU (gS (kN (kN (kN ws))))
theorem NV:O2.OK Tryz.prog where
 fn:=⟨Tryz.f451,Tryz.func451,by kernel_rfl,by kernel_rfl,by decide,by kernel_rfl⟩
 small:=by decide
 d0:=by kernel_rfl
 d1:=by kernel_rfl
 d2:=by kernel_rfl
 d3:=by kernel_rfl
 d4:=by kernel_rfl
 y:=by decide
 s0:=by kernel_rfl
 s1:=by kernel_rfl
 s2:=by kernel_rfl
 s3:=by kernel_rfl
 sy:=by kernel_rfl
 s4:=by kernel_rfl
 l3:=by kernel_rfl
 l6:=by kernel_rfl
 mv:=⟨by kernel_rfl,by kernel_rfl,by kernel_rfl⟩
 cl:=⟨⟨#[3,3],by kernel_rfl⟩,by kernel_rfl,by kernel_rfl⟩
theorem NU:Pu.OK Tryz.f430.ntmps where
 small:=by decide
 d0:=by kernel_rfl
 d1:=by kernel_rfl
 d2:=by kernel_rfl
 da:=by kernel_rfl
 db:=by kernel_rfl
 dc:=by kernel_rfl
 d6:=by kernel_rfl
 p:=by decide
 q:=by decide
 la:=by kernel_rfl
 lb:=by kernel_rfl
 lc:=by kernel_rfl
def Pf:List Value->H->Option (Value × H):=tW EE (cf EE 1000) O2 Pu [.tmp 2] 10
theorem zL:dk Tryz.prog 430 Pf:=
 yY eR.toTypesOK (sound eR 1000) NV Tryz.func430 (by kernel_rfl) (by kernel_rfl) NU 10
def CM:ak:=ajc.ins 40 430 (some Pf)
theorem LO:aA CM:=ar Px (by decide) zL
theorem amH:ay CM 413:=by
 unfold ay
 kernel_rfl
theorem bT:dk Tryz.prog 413 (aV glob):=qG (fU CM LO) (qU CM 1000) vT amH
end Go.Ev
namespace Go.Ev
theorem Wv:ay ahw 403:=by
 unfold ay
 kernel_rfl
theorem RJ:ay BO 388:=by
 unfold ay
 kernel_rfl
theorem RD:ay ZU 373:=by
 unfold ay
 kernel_rfl
theorem WJ:ay AZ 352:=by
 unfold ay
 kernel_rfl
theorem Y5:ay V9 305:=by
 unfold ay
 kernel_rfl
theorem adG:ay z8 220:=by
 unfold ay
 kernel_rfl
theorem XK:ay afj 139:=by
 unfold ay
 kernel_rfl
theorem ac6:ay zS 552:=by
 unfold ay
 kernel_rfl
theorem ady:ay Vb 550:=by
 unfold ay
 kernel_rfl
theorem U5:ay AG 553:=by
 unfold ay
 kernel_rfl
theorem X5:ay ajg 551:=by
 unfold ay
 kernel_rfl
theorem acK:ay zZ 548:=by
 unfold ay
 kernel_rfl
theorem agH:ay acp 544:=by
 unfold ay
 kernel_rfl
theorem aer:ay Ba 542:=by
 unfold ay
 kernel_rfl
theorem Qp:ay aeD 540:=by
 unfold ay
 kernel_rfl
theorem aaV:ay Cb 539:=by
 unfold ay
 kernel_rfl
theorem TA:ay aju 536:=by
 unfold ay
 kernel_rfl
end Go.Ev
