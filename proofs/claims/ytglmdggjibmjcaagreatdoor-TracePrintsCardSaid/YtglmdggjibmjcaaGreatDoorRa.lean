/-
  THE EXAMPLES OF A LAYER answer true.
-/
import Derived.Test.YtglmdggjibmjcaaGreatDoorLb
noncomputable section
set_option linter.unusedVariables false
set_option linter.unusedSimpArgs false
set_option maxRecDepth 100000
open Nat (ble beq)
namespace Go.Ev
open Go F Go.Proofs
def jc:Code->Code
 |.seq a _=>a
 |.block _ a=>a
 |.loop a=>a
 |.rangeFunc _ _ a _=>a
 | c=>c
def lQ:Code->Code
 |.seq _ b=>b
 |.rangeFunc _ _ _ b=>b
 | c=>c
def nM:Code->Array Oper
 |.region _ ops _=>ops
 | _=>#[]
def SA:Code:=Tryz.f577.body.getD .skip
def Sy:Code:=jc (jc (lQ SA))
def Df:Code:=jc (lQ Sy)
def o0:Array Oper:=nM (jc (jc (lQ Df)))
def S9:kv where
 f:=577
 nt:=24
 i0:=0
 i1:=1
 i2:=2
 i3:=3
 i4:=4
 b:=0
 b1:=1
 c:=10
 y:=14
 a:=15
 e:=18
 z:=19
 d:=20
 r0:=nM (jc SA)
 r1:=nM (jc (jc Sy))
 r2:=nM (jc Df)
 r4:=nM (lQ (lQ Df))
 mv:=o0[0]!
 o1:=o0[1]!
 o2:=o0[2]!
 o3:=o0[3]!
 o4:=o0[4]!
 cl:=o0[5]!
 o6:=o0[6]!
def yn:Code:=Tryz.f569.body.getD .skip
def SY:Code:=jc (lQ (lQ yn))
def Ch:Code:=jc (lQ SY)
def Su:fG where
 k:=0
 k':=1
 i0:=0
 i1:=1
 i2:=2
 ia:=3
 ib:=4
 ic:=5
 i6:=6
 g:=7
 p:=8
 q:=9
 r0:=nM (jc yn)
 r1:=nM (jc (lQ yn))
 r2:=nM (jc SY)
 ra:=nM (jc (jc Ch))
 rb:=nM (lQ (jc Ch))
 rc:=nM (jc (lQ Ch))
 r6:=nM (jc (lQ (lQ (lQ yn))))
theorem OI:S9.OK Tryz.prog where
 fn:=⟨Tryz.f577,Tryz.func577,by kernel_rfl,by kernel_rfl,by decide,by kernel_rfl⟩
 small:=by decide
 d0:=by kernel_rfl
 d1:=by kernel_rfl
 d2:=by kernel_rfl
 d3:=by kernel_rfl
 d4:=by kernel_rfl
 y:=by decide
 s0:=by kernel_rfl
 s1:=by kernel_rfl
 s2:=by kernel_rfl
 s3:=by kernel_rfl
 sy:=by kernel_rfl
 s4:=by kernel_rfl
 l3:=by kernel_rfl
 l6:=by kernel_rfl
 mv:=⟨by kernel_rfl,by kernel_rfl,by kernel_rfl⟩
 cl:=⟨⟨#[3,3],by kernel_rfl⟩,by kernel_rfl,by kernel_rfl⟩
theorem OP:Su.OK Tryz.f569.ntmps where
 small:=by decide
 d0:=by kernel_rfl
 d1:=by kernel_rfl
 d2:=by kernel_rfl
 da:=by kernel_rfl
 db:=by kernel_rfl
 dc:=by kernel_rfl
 d6:=by kernel_rfl
 p:=by decide
 q:=by decide
 la:=by kernel_rfl
 lb:=by kernel_rfl
 lc:=by kernel_rfl
def Sp:List Value->H->Option (Value × H):=wz EE (cF EE 1000) S9 Su [.tmp 2] 10
theorem Co:dt Tryz.prog 569 Sp:=
 Dw fy.toTypesOK (sound fy 1000) OI Tryz.func569 (by kernel_rfl) (by kernel_rfl) OP 10
def OB:ak:=aas.ins 40 569 (some Sp)
theorem FY:aI OB:=ay S6 (by decide) Co
theorem aqa:aG OB 562:=by
 unfold aG
 kernel_rfl
theorem ci:dt Tryz.prog 562 (be glob):=uw (fF OB FY) (tZ OB 1000) gX aqa
end Go.Ev
namespace Go.Ev
theorem an8:aG Wh 558:=by
 unfold aG
 kernel_rfl
theorem amw:aG Em 553:=by
 unfold aG
 kernel_rfl
theorem aat:aG abj 547:=by
 unfold aG
 kernel_rfl
theorem ZI:aG Ef 538:=by
 unfold aG
 kernel_rfl
theorem ah6:aG ahp 528:=by
 unfold aG
 kernel_rfl
theorem Yc:aG EU 501:=by
 unfold aG
 kernel_rfl
theorem ak9:aG Z7 444:=by
 unfold aG
 kernel_rfl
theorem amU:aG Cb 650:=by
 unfold aG
 kernel_rfl
theorem aa6:aG XY 648:=by
 unfold aG
 kernel_rfl
theorem acF:aG CO 651:=by
 unfold aG
 kernel_rfl
theorem alJ:aG WF 649:=by
 unfold aG
 kernel_rfl
theorem agu:aG C4 646:=by
 unfold aG
 kernel_rfl
theorem ami:aG am8 642:=by
 unfold aG
 kernel_rfl
theorem XJ:aG D7 640:=by
 unfold aG
 kernel_rfl
theorem aao:aG abD 638:=by
 unfold aG
 kernel_rfl
theorem agT:aG DL 637:=by
 unfold aG
 kernel_rfl
theorem alR:aG ae3 634:=by
 unfold aG
 kernel_rfl
end Go.Ev
