/-
  THE EXAMPLES OF ALL LAYERS answer true.
-/
import Derived.Test.YtglmdggjibmjcaaGreatDoorRa
import Derived.Test.YtglmdggjibmjcaaGreatDoorRb
import Derived.Test.YtglmdggjibmjcaaGreatDoorRe
import Derived.Test.YtglmdggjibmjcaaGreatDoorRc
import Derived.Test.YtglmdggjibmjcaaGreatDoorRd
import Derived.Test.YtglmdggjibmjcaaGreatDoorRf
import Derived.Test.YtglmdggjibmjcaaGreatDoorRg
import Derived.Test.YtglmdggjibmjcaaGreatDoorRh
import Derived.Test.YtglmdggjibmjcaaGreatDoorRi
import Derived.Test.YtglmdggjibmjcaaGreatDoorRj
import Derived.Test.YtglmdggjibmjcaaGreatDoorRl
noncomputable section
set_option linter.unusedVariables false
set_option linter.unusedSimpArgs false
open Nat (ble beq)
namespace Go.Ev
open Go F Go.Proofs
section
theorem aN {t:ak} (ht:aI t) {f:FuncId} (h:aG t f):dt Tryz.prog f (be glob):=uw (fF t ht) (tZ t 1000) gX h
variable (ci : dt Tryz.prog 562 (be glob))
include ci
theorem yZ:aI Wh:=ay S6 (by decide) ci
theorem vu:aI Em:=ay (yZ ci) (by decide) (aN (yZ ci) an8)
theorem yl:aI abj:=ay (vu ci) (by decide) (aN (vu ci) amw)
theorem uc:aI Ef:=ay (yl ci) (by decide) (aN (yl ci) aat)
theorem xX:aI ahp:=ay (uc ci) (by decide) (aN (uc ci) ZI)
theorem tD:aI EU:=ay (xX ci) (by decide) (aN (xX ci) ah6)
theorem yF:aI Z7:=ay (tD ci) (by decide) (aN (tD ci) Yc)
theorem uK:aI Cb:=ay (yF ci) (by decide) (aN (yF ci) ak9)
theorem yU:aI XY:=ay (uK ci) (by decide) (aN (uK ci) amU)
theorem t8:aI CO:=ay (yU ci) (by decide) (aN (yU ci) aa6)
theorem zR:aI WF:=ay (t8 ci) (by decide) (aN (t8 ci) acF)
theorem tz:aI C4:=ay (zR ci) (by decide) (aN (zR ci) alJ)
theorem zV:aI am8:=ay (tz ci) (by decide) (aN (tz ci) agu)
theorem tc:aI D7:=ay (zV ci) (by decide) (aN (zV ci) ami)
theorem xU:aI abD:=ay (tc ci) (by decide) (aN (tc ci) XJ)
theorem vQ:aI DL:=ay (xU ci) (by decide) (aN (xU ci) aao)
theorem ya:aI ae3:=ay (vQ ci) (by decide) (aN (vQ ci) agT)
theorem vP:aI Cr:=ay (ya ci) (by decide) (aN (ya ci) alR)
theorem yR:aI ali:=ay (vP ci) (by decide) (aN (vP ci) anl)
theorem tJ:aI FJ:=ay (yR ci) (by decide) (aN (yR ci) aji)
theorem zN:aI aey:=ay (tJ ci) (by decide) (aN (tJ ci) acg)
theorem tk:aI CB:=ay (zN ci) (by decide) (aN (zN ci) anU)
theorem y9:aI ag3:=ay (tk ci) (by decide) (aN (tk ci) Yw)
theorem vA:aI Dn:=ay (y9 ci) (by decide) (aN (y9 ci) Ym)
theorem Ae:aI Wj:=ay (vA ci) (by decide) (aN (vA ci) Yy)
theorem vG:aI Dj:=ay (Ae ci) (by decide) (aN (Ae ci) Vx)
theorem zJ:aI ae4:=ay (vG ci) (by decide) (aN (vG ci) anM)
theorem tW:aI Eh:=ay (zJ ci) (by decide) (aN (zJ ci) ak0)
theorem zX:aI Uu:=ay (tW ci) (by decide) (aN (tW ci) adq)
theorem tP:aI DR:=ay (zX ci) (by decide) (aN (zX ci) XP)
theorem ze:aI afr:=ay (tP ci) (by decide) (aN (tP ci) ahf)
theorem vt:aI C7:=ay (ze ci) (by decide) (aN (ze ci) Y0)
theorem zj:aI adA:=ay (vt ci) (by decide) (aN (vt ci) YF)
theorem sW:aI FM:=ay (zj ci) (by decide) (aN (zj ci) XX)
theorem ye:aI acA:=ay (sW ci) (by decide) (aN (sW ci) afz)
theorem uP:aI BE:=ay (ye ci) (by decide) (aN (ye ci) agU)
theorem yx:aI acz:=ay (uP ci) (by decide) (aN (uP ci) agn)
theorem tU:aI DN:=ay (yx ci) (by decide) (aN (yx ci) akr)
theorem zB:aI Ye:=ay (tU ci) (by decide) (aN (tU ci) ah1)
theorem sS:aI C2:=ay (zB ci) (by decide) (aN (zB ci) agX)
theorem yN:aI Wx:=ay (sS ci) (by decide) (aN (sS ci) Vp)
theorem uR:aI Fe:=ay (yN ci) (by decide) (aN (yN ci) Y1)
theorem yX:aI ah3:=ay (uR ci) (by decide) (aN (uR ci) ajq)
theorem uA:aI El:=ay (yX ci) (by decide) (aN (yX ci) aa0)
theorem yu:aI aaY:=ay (uA ci) (by decide) (aN (uA ci) WU)
theorem tN:aI Fg:=ay (yu ci) (by decide) (aN (yu ci) ah9)
theorem zp:aI aam:=ay (tN ci) (by decide) (aN (tN ci) VT)
theorem vB:aI CY:=ay (zp ci) (by decide) (aN (zp ci) ak7)
theorem yp:aI aeS:=ay (vB ci) (by decide) (aN (vB ci) ad9)
theorem uq:aI Di:=ay (yp ci) (by decide) (aN (yp ci) anE)
theorem yo:aI ac2:=ay (uq ci) (by decide) (aN (uq ci) Vz)
theorem ul:aI B4:=ay (yo ci) (by decide) (aN (yo ci) an0)
theorem yS:aI ak5:=ay (ul ci) (by decide) (aN (ul ci) aiV)
theorem uC:aI ER:=ay (yS ci) (by decide) (aN (yS ci) aet)
theorem yf:aI amL:=ay (uC ci) (by decide) (aN (uC ci) akU)
theorem tw:aI C6:=ay (yf ci) (by decide) (aN (yf ci) adt)
theorem x0:aI afO:=ay (tw ci) (by decide) (aN (tw ci) VY)
theorem tp:aI DI:=ay (x0 ci) (by decide) (aN (x0 ci) Vh)
theorem zI:aI ac3:=ay (tp ci) (by decide) (aN (tp ci) afq)
theorem tj:aI EA:=ay (zI ci) (by decide) (aN (zI ci) YP)
theorem zu:aI X4:=ay (tj ci) (by decide) (aN (tj ci) XV)
theorem te:aI Cd:=ay (zu ci) (by decide) (aN (zu ci) ak8)
theorem zW:aI TR:=ay (te ci) (by decide) (aN (te ci) alk)
theorem tn:aI BF:=ay (zW ci) (by decide) (aN (zW ci) U8)
theorem Qc:aI uz:=ay (tn ci) (by decide) (aN (tn ci) alq)
end
theorem aeX:aI uz:=Qc ci
end Go.Ev
