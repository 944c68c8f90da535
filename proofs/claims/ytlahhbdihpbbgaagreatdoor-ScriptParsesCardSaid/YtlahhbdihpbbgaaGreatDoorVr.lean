/-
  THE EXAMPLES OF ALL LAYERS up to 32 answer true.
-/
import Derived.Test.YtlahhbdihpbbgaaGreatDoorRa
import Derived.Test.YtlahhbdihpbbgaaGreatDoorRb
import Derived.Test.YtlahhbdihpbbgaaGreatDoorRe
import Derived.Test.YtlahhbdihpbbgaaGreatDoorRc
import Derived.Test.YtlahhbdihpbbgaaGreatDoorRd
import Derived.Test.YtlahhbdihpbbgaaGreatDoorRf
import Derived.Test.YtlahhbdihpbbgaaGreatDoorRg
import Derived.Test.YtlahhbdihpbbgaaGreatDoorRh
import Derived.Test.YtlahhbdihpbbgaaGreatDoorRi
import Derived.Test.YtlahhbdihpbbgaaGreatDoorRj
import Derived.Test.YtlahhbdihpbbgaaGreatDoorRl
noncomputable section
set_option linter.unusedVariables false
set_option linter.unusedSimpArgs false
open Nat (ble beq)
namespace Go.Ev
open Go F Go.Proofs
section
theorem aE {t:ak} (ht:aA t) {f:FuncId} (h:ay t f):dk Tryz.prog f (aV glob):=qG (fU t ht) (qU t 1000) vT h
variable (bT : dk Tryz.prog 413 (aV glob))
include bT
theorem vH:aA ahw:=ar Px (by decide) bT
theorem qJ:aA BO:=ar (vH bT) (by decide) (aE (vH bT) Wv)
theorem vY:aA ZU:=ar (qJ bT) (by decide) (aE (qJ bT) RJ)
theorem rP:aA AZ:=ar (vY bT) (by decide) (aE (vY bT) RD)
theorem wX:aA V9:=ar (rP bT) (by decide) (aE (rP bT) WJ)
theorem qM:aA z8:=ar (wX bT) (by decide) (aE (wX bT) Y5)
theorem vQ:aA afj:=ar (qM bT) (by decide) (aE (qM bT) adG)
theorem ri:aA zS:=ar (vQ bT) (by decide) (aE (vQ bT) XK)
theorem vC:aA Vb:=ar (ri bT) (by decide) (aE (ri bT) ac6)
theorem rr:aA AG:=ar (vC bT) (by decide) (aE (vC bT) ady)
theorem vL:aA ajg:=ar (rr bT) (by decide) (aE (rr bT) U5)
theorem qE:aA zZ:=ar (vL bT) (by decide) (aE (vL bT) X5)
theorem wk:aA acp:=ar (qE bT) (by decide) (aE (qE bT) acK)
theorem qi:aA Ba:=ar (wk bT) (by decide) (aE (wk bT) agH)
theorem vo:aA aeD:=ar (qi bT) (by decide) (aE (qi bT) aer)
theorem pW:aA Cb:=ar (vo bT) (by decide) (aE (vo bT) Qp)
theorem vd:aA aju:=ar (pW bT) (by decide) (aE (pW bT) aaV)
theorem qy:aA ze:=ar (vd bT) (by decide) (aE (vd bT) TA)
theorem wi:aA Ur:=ar (qy bT) (by decide) (aE (qy bT) Qq)
theorem qB:aA Ax:=ar (wi bT) (by decide) (aE (wi bT) SK)
theorem vG:aA acy:=ar (qB bT) (by decide) (aE (qB bT) V0)
theorem rT:aA Ay:=ar (vG bT) (by decide) (aE (vG bT) agm)
theorem uY:aA ahP:=ar (rT bT) (by decide) (aE (rT bT) TW)
theorem sF:aA Bt:=ar (uY bT) (by decide) (aE (uY bT) ajd)
theorem wT:aA ajx:=ar (sF bT) (by decide) (aE (sF bT) Vs)
theorem qQ:aA BB:=ar (wT bT) (by decide) (aE (wT bT) aaa)
theorem wF:aA Qi:=ar (qQ bT) (by decide) (aE (qQ bT) afY)
theorem rj:aA zj:=ar (wF bT) (by decide) (aE (wF bT) afT)
theorem vX:aA ack:=ar (rj bT) (by decide) (aE (rj bT) SG)
theorem rY:aA Bz:=ar (vX bT) (by decide) (aE (vX bT) VM)
theorem vK:aA YB:=ar (rY bT) (by decide) (aE (rY bT) VN)
theorem qp:aA A8:=ar (vK bT) (by decide) (aE (vK bT) ahx)
theorem vp:aA acU:=ar (qp bT) (by decide) (aE (qp bT) VH)
theorem sH:aA BL:=ar (vp bT) (by decide) (aE (vp bT) ahT)
theorem uU:aA Tp:=ar (sH bT) (by decide) (aE (sH bT) ags)
theorem sA:aA Aa:=ar (uU bT) (by decide) (aE (uU bT) RU)
theorem vz:aA ag5:=ar (sA bT) (by decide) (aE (sA bT) agI)
theorem rZ:aA yC:=ar (vz bT) (by decide) (aE (vz bT) Yf)
theorem uS:aA Zv:=ar (rZ bT) (by decide) (aE (rZ bT) SI)
theorem ry:aA BW:=ar (uS bT) (by decide) (aE (uS bT) ai0)
theorem wu:aA ajC:=ar (ry bT) (by decide) (aE (ry bT) WU)
theorem rX:aA BF:=ar (wu bT) (by decide) (aE (wu bT) U2)
theorem xj:aA aci:=ar (rX bT) (by decide) (aE (rX bT) Y0)
theorem rh:aA yG:=ar (xj bT) (by decide) (aE (xj bT) ab3)
theorem vI:aA RP:=ar (rh bT) (by decide) (aE (rh bT) WV)
theorem rD:aA zm:=ar (vI bT) (by decide) (aE (vI bT) Wa)
theorem vV:aA To:=ar (rD bT) (by decide) (aE (rD bT) RG)
theorem qz:aA B6:=ar (vV bT) (by decide) (aE (vV bT) QM)
theorem vg:aA aiL:=ar (qz bT) (by decide) (aE (qz bT) aio)
theorem rC:aA B7:=ar (vg bT) (by decide) (aE (vg bT) ac1)
theorem wO:aA ZQ:=ar (rC bT) (by decide) (aE (rC bT) ZO)
theorem rF:aA Aw:=ar (wO bT) (by decide) (aE (wO bT) Zh)
theorem uZ:aA Rn:=ar (rF bT) (by decide) (aE (rF bT) UI)
theorem pX:aA yA:=ar (uZ bT) (by decide) (aE (uZ bT) Xk)
theorem uN:aA akk:=ar (pX bT) (by decide) (aE (pX bT) Tm)
theorem rl:aA y6:=ar (uN bT) (by decide) (aE (uN bT) afz)
theorem uV:aA Rt:=ar (rl bT) (by decide) (aE (rl bT) Qk)
theorem sh:aA yK:=ar (uV bT) (by decide) (aE (uV bT) aiN)
theorem vP:aA aja:=ar (sh bT) (by decide) (aE (sh bT) ajQ)
theorem si:aA Bv:=ar (vP bT) (by decide) (aE (vP bT) aiW)
theorem F5:aA xR:=ar (si bT) (by decide) (aE (si bT) VD)
end
theorem Zx:aA xR:=F5 bT
end Go.Ev
