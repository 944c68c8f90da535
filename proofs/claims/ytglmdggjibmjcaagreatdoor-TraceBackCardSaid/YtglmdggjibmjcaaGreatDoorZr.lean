/-
  THE EXAMPLES OF ALL LAYERS answer true.
-/
import Derived.Test.YtglmdggjibmjcaaGreatDoorOa
import Derived.Test.YtglmdggjibmjcaaGreatDoorOb
import Derived.Test.YtglmdggjibmjcaaGreatDoorOe
import Derived.Test.YtglmdggjibmjcaaGreatDoorOc
import Derived.Test.YtglmdggjibmjcaaGreatDoorOd
import Derived.Test.YtglmdggjibmjcaaGreatDoorOf
import Derived.Test.YtglmdggjibmjcaaGreatDoorOg
import Derived.Test.YtglmdggjibmjcaaGreatDoorOh
import Derived.Test.YtglmdggjibmjcaaGreatDoorOi
import Derived.Test.YtglmdggjibmjcaaGreatDoorOj
import Derived.Test.YtglmdggjibmjcaaGreatDoorOl
noncomputable section
set_option linter.all false
open Nat (ble beq)
namespace Go.Ev
open Go F Go.Proofs
section
def aL {t:aN} (ht:aJ t) {f:FuncId} (h:aH t f):dC Tryz.prog f (bA glob):=xd (fM t ht) (xV t 1000) gM h
variable (cN : dC Tryz.prog 562 (bA glob))
include cN
theorem BD:aJ aix:=aB UX (by decide) cN
theorem xT:aJ Gj:=aB (BD cN) (by decide) (aL (BD cN) aga)
theorem BW:aJ aea:=aB (xT cN) (by decide) (aL (xT cN) alR)
theorem xk:aJ F5:=aB (BW cN) (by decide) (aL (BW cN) ajC)
theorem CS:aJ aad:=aB (xk cN) (by decide) (aL (xk cN) Z1)
theorem xa:aJ EH:=aB (CS cN) (by decide) (aL (CS cN) acC)
theorem Ce:aJ Zu:=aB (xa cN) (by decide) (aL (xa cN) af5)
theorem wF:aJ Iz:=aB (Ce cN) (by decide) (aL (Ce cN) VM)
theorem Bt:aJ aeK:=aB (wF cN) (by decide) (aL (wF cN) amC)
theorem xb:aJ Hg:=aB (Bt cN) (by decide) (aL (Bt cN) ag2)
theorem Ca:aJ Zq:=aB (xb cN) (by decide) (aL (xb cN) aiK)
theorem xj:aJ Gt:=aB (Ca cN) (by decide) (aL (Ca cN) ahi)
theorem CI:aJ ags:=aB (xj cN) (by decide) (aL (xj cN) aem)
theorem wO:aJ He:=aB (CI cN) (by decide) (aL (CI cN) akf)
theorem Bf:aJ abr:=aB (wO cN) (by decide) (aL (wO cN) al0)
theorem vN:aJ GX:=aB (Bf cN) (by decide) (aL (Bf cN) aiw)
theorem Bi:aJ abS:=aB (vN cN) (by decide) (aL (vN cN) ab5)
theorem xI:aJ Fe:=aB (Bi cN) (by decide) (aL (Bi cN) Z5)
theorem Ax:aJ WX:=aB (xI cN) (by decide) (aL (xI cN) aeV)
theorem wI:aJ EG:=aB (Ax cN) (by decide) (aL (Ax cN) Zh)
theorem CU:aJ aeB:=aB (wI cN) (by decide) (aL (wI cN) adl)
theorem ye:aJ Ig:=aB (CU cN) (by decide) (aL (CU cN) ac4)
theorem AY:aJ ajV:=aB (ye cN) (by decide) (aL (ye cN) Z3)
theorem xA:aJ Hd:=aB (AY cN) (by decide) (aL (AY cN) afQ)
theorem AH:aJ am1:=aB (xA cN) (by decide) (aL (xA cN) ZJ)
theorem yk:aJ Gq:=aB (AH cN) (by decide) (aL (AH cN) ahf)
theorem CO:aJ abW:=aB (yk cN) (by decide) (aL (yk cN) ahE)
theorem wv:aJ Fi:=aB (CO cN) (by decide) (aL (CO cN) WE)
theorem BE:aJ Y7:=aB (wv cN) (by decide) (aL (wv cN) afF)
theorem xw:aJ FH:=aB (BE cN) (by decide) (aL (BE cN) alG)
theorem BZ:aJ adg:=aB (xw cN) (by decide) (aL (xw cN) am5)
theorem vI:aJ IM:=aB (BZ cN) (by decide) (aL (BZ cN) amd)
theorem AV:aJ acJ:=aB (vI cN) (by decide) (aL (vI cN) aaN)
theorem vY:aJ ER:=aB (AV cN) (by decide) (aL (AV cN) adN)
theorem A0:aJ afn:=aB (vY cN) (by decide) (aL (vY cN) ZR)
theorem vG:aJ Gz:=aB (A0 cN) (by decide) (aL (A0 cN) Zi)
theorem Bl:aJ amo:=aB (vG cN) (by decide) (aL (vG cN) aiY)
theorem wJ:aJ IJ:=aB (Bl cN) (by decide) (aL (Bl cN) ab2)
theorem CQ:aJ XM:=aB (wJ cN) (by decide) (aL (wJ cN) ahF)
theorem xX:aJ HM:=aB (CQ cN) (by decide) (aL (CQ cN) agt)
theorem AA:aJ aeN:=aB (xX cN) (by decide) (aL (xX cN) acY)
theorem vQ:aJ Il:=aB (AA cN) (by decide) (aL (AA cN) al7)
theorem B6:aJ ahB:=aB (vQ cN) (by decide) (aL (vQ cN) al1)
theorem xu:aJ Hl:=aB (B6 cN) (by decide) (aL (B6 cN) YN)
theorem Br:aJ aeW:=aB (xu cN) (by decide) (aL (xu cN) WI)
theorem wn:aJ F4:=aB (Br cN) (by decide) (aL (Br cN) ZY)
theorem CG:aJ anE:=aB (wn cN) (by decide) (aL (wn cN) akC)
theorem wH:aJ II:=aB (CG cN) (by decide) (aL (CG cN) aeq)
theorem Bd:aJ agR:=aB (wH cN) (by decide) (aL (wH cN) abg)
theorem vy:aJ GQ:=aB (Bd cN) (by decide) (aL (Bd cN) acX)
theorem Cc:aJ Yj:=aB (vy cN) (by decide) (aL (vy cN) adY)
theorem xo:aJ Fl:=aB (Cc cN) (by decide) (aL (Cc cN) Yo)
theorem Aw:aJ aji:=aB (xo cN) (by decide) (aL (xo cN) aaq)
theorem ya:aJ FK:=aB (Aw cN) (by decide) (aL (Aw cN) ahZ)
theorem Bh:aJ VV:=aB (ya cN) (by decide) (aL (ya cN) amh)
theorem vf:aJ Fw:=aB (Bh cN) (by decide) (aL (Bh cN) abi)
theorem B2:aJ Xq:=aB (vf cN) (by decide) (aL (vf cN) aiQ)
theorem uZ:aJ EQ:=aB (B2 cN) (by decide) (aL (B2 cN) aa9)
theorem BB:aJ Yn:=aB (uZ cN) (by decide) (aL (uZ cN) adb)
theorem wP:aJ H1:=aB (BB cN) (by decide) (aL (BB cN) ag5)
theorem An:aJ V9:=aB (wP cN) (by decide) (aL (wP cN) aj0)
theorem vt:aJ H6:=aB (An cN) (by decide) (aL (An cN) anF)
theorem BN:aJ ank:=aB (vt cN) (by decide) (aL (vt cN) acT)
theorem xB:aJ Ga:=aB (BN cN) (by decide) (aL (BN cN) abe)
theorem NK:aJ qL:=aB (xB cN) (by decide) (aL (xB cN) agv)
end
def aek:aJ qL:=NK cN
end Go.Ev
