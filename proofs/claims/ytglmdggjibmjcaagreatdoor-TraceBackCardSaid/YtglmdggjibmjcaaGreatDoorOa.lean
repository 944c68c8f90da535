/-
  THE EXAMPLES OF A LAYER answer true.
-/
import Derived.Test.YtglmdggjibmjcaaGreatDoorHb
noncomputable section
set_option linter.all false
set_option maxRecDepth 100000
open Nat (ble beq)
namespace Go.Ev
open Go F Go.Proofs
def jO:Code->Code
 |.seq a _=>a
 |.block _ a=>a
 |.loop a=>a
 |.rangeFunc _ _ a _=>a
 | c=>c
def nf:Code->Code
 |.seq _ b=>b
 |.rangeFunc _ _ _ b=>b
 | c=>c
def pd:Code->Array Oper
 |.region _ ops _=>ops
 | _=>#[]
def Ut:Code:=Tryz.f577.body.getD .skip
def UA:Code:=jO (jO (nf Ut))
def ES:Code:=jO (nf UA)
def pM:Array Oper:=pd (jO (jO (nf ES)))
def UI:lF where
 f:=577
 nt:=24
 i0:=0
 i1:=1
 i2:=2
 i3:=3
 i4:=4
 b:=0
 b1:=1
 c:=10
 y:=14
 a:=15
 e:=18
 z:=19
 d:=20
 r0:=pd (jO Ut)
 r1:=pd (jO (jO UA))
 r2:=pd (jO ES)
 r4:=pd (nf (nf ES))
 mv:=pM[0]!
 o1:=pM[1]!
 o2:=pM[2]!
 o3:=pM[3]!
 o4:=pM[4]!
 cl:=pM[5]!
 o6:=pM[6]!
def AB:Code:=Tryz.f569.body.getD .skip
def UN:Code:=jO (nf (nf AB))
def Fj:Code:=jO (nf UN)
def Ub:gC where
 k:=0
 k':=1
 i0:=0
 i1:=1
 i2:=2
 ia:=3
 ib:=4
 ic:=5
 i6:=6
 g:=7
 p:=8
 q:=9
 r0:=pd (jO AB)
 r1:=pd (jO (nf AB))
 r2:=pd (jO UN)
 ra:=pd (jO (jO Fj))
 rb:=pd (nf (jO Fj))
 rc:=pd (jO (nf Fj))
 r6:=pd (jO (nf (nf (nf AB))))
def Rr:UI.OK Tryz.prog where
 fn:=⟨Tryz.f577,Tryz.func577,by kernel_rfl,by kernel_rfl,by decide,by kernel_rfl⟩
 small:=by decide
 d0:=by kernel_rfl
 d1:=by kernel_rfl
 d2:=by kernel_rfl
 d3:=by kernel_rfl
 d4:=by kernel_rfl
 y:=by decide
 s0:=by kernel_rfl
 s1:=by kernel_rfl
 s2:=by kernel_rfl
 s3:=by kernel_rfl
 sy:=by kernel_rfl
 s4:=by kernel_rfl
 l3:=by kernel_rfl
 l6:=by kernel_rfl
 mv:=⟨by kernel_rfl,by kernel_rfl,by kernel_rfl⟩
 cl:=⟨⟨#[3,3],by kernel_rfl⟩,by kernel_rfl,by kernel_rfl⟩
def TV:Ub.OK Tryz.f569.ntmps where
 small:=by decide
 d0:=by kernel_rfl
 d1:=by kernel_rfl
 d2:=by kernel_rfl
 da:=by kernel_rfl
 db:=by kernel_rfl
 dc:=by kernel_rfl
 d6:=by kernel_rfl
 p:=by decide
 q:=by decide
 la:=by kernel_rfl
 lb:=by kernel_rfl
 lc:=by kernel_rfl
def T5:List Value->H->Option (Value × H):=zf EE (cZ EE 1000) UI Ub [.tmp 2] 10
def Fy:dC Tryz.prog 569 T5:=
 Hw gd.toTypesOK (sound gd 1000) Rr Tryz.func569 (by kernel_rfl) (by kernel_rfl) TV 10
def QN:aN:=agw.ins 40 569 (some T5)
def Tm:aJ QN:=aB UX (by decide) Fy
def apk:aH QN 562:=by
 unfold aH
 kernel_rfl
def cN:dC Tryz.prog 562 (bA glob):=xd (fM QN Tm) (xV QN 1000) gM apk
end Go.Ev
namespace Go.Ev
def aga:aH aix 558:=by
 unfold aH
 kernel_rfl
def alR:aH Gj 553:=by
 unfold aH
 kernel_rfl
def ajC:aH aea 547:=by
 unfold aH
 kernel_rfl
def Z1:aH F5 538:=by
 unfold aH
 kernel_rfl
def acC:aH aad 528:=by
 unfold aH
 kernel_rfl
def af5:aH EH 501:=by
 unfold aH
 kernel_rfl
def VM:aH Zu 444:=by
 unfold aH
 kernel_rfl
def amC:aH Iz 650:=by
 unfold aH
 kernel_rfl
def ag2:aH aeK 648:=by
 unfold aH
 kernel_rfl
def aiK:aH Hg 651:=by
 unfold aH
 kernel_rfl
def ahi:aH Zq 649:=by
 unfold aH
 kernel_rfl
def aem:aH Gt 646:=by
 unfold aH
 kernel_rfl
def akf:aH ags 642:=by
 unfold aH
 kernel_rfl
def al0:aH He 640:=by
 unfold aH
 kernel_rfl
def aiw:aH abr 638:=by
 unfold aH
 kernel_rfl
def ab5:aH GX 637:=by
 unfold aH
 kernel_rfl
def Z5:aH abS 634:=by
 unfold aH
 kernel_rfl
end Go.Ev
