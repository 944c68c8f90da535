/-
  THE EXAMPLE OF LAYER 2: its rows come of a range over a function.
-/
import Derived.Test.YtdibeojmiobklaaGreatDoorLb
import Derived.Test.YtdibeojmiobklaaGreatDoorEc
import Derived.KernelRfl
set_option linter.unusedVariables false
set_option linter.unusedSimpArgs false
namespace Go.Ev
open Go F Go.Proofs
set_option maxRecDepth 100000
noncomputable def seqL:Code→Code
  | .seq a _=>a
  | .block _ a=>a
  | .loop a=>a
  | .rangeFunc _ _ a _=>a
  | c=>c
noncomputable def seqR:Code→Code
  | .seq _ b=>b
  | .rangeFunc _ _ _ b=>b
  | c=>c
noncomputable def regO:Code→Array Oper
  | .region _ ops _=>ops
  | _=>#[]
noncomputable def c611:Code:=Tryz.f611.body.getD .skip
noncomputable def l611:Code:=seqL (seqL (seqR c611))
noncomputable def b611:Code:=seqL (seqR l611)
noncomputable def r611:Array Oper:=regO (seqL (seqL (seqR b611)))
noncomputable def I611:Iter where
  f:=611
  nt:=24
  i0:=0
  i1:=1
  i2:=2
  i3:=3
  i4:=4
  b:=0
  b1:=1
  c:=10
  y:=14
  a:=15
  e:=18
  z:=19
  d:=20
  r0:=regO (seqL c611)
  r1:=regO (seqL (seqL l611))
  r2:=regO (seqL b611)
  r4:=regO (seqR (seqR b611))
  mv:=r611[0]!
  o1:=r611[1]!
  o2:=r611[2]!
  o3:=r611[3]!
  o4:=r611[4]!
  cl:=r611[5]!
  o6:=r611[6]!
noncomputable def c590:Code:=Tryz.f590.body.getD .skip
noncomputable def m590:Code:=seqL (seqR (seqR c590))
noncomputable def g590:Code:=seqL (seqR m590)
noncomputable def C590:Ranger where
  k:=0
  k':=1
  i0:=0
  i1:=1
  i2:=2
  ia:=3
  ib:=4
  ic:=5
  i6:=6
  g:=7
  p:=8
  q:=9
  r0:=regO (seqL c590)
  r1:=regO (seqL (seqR c590))
  r2:=regO (seqL m590)
  ra:=regO (seqL (seqL g590))
  rb:=regO (seqR (seqL g590))
  rc:=regO (seqL (seqR g590))
  r6:=regO (seqL (seqR (seqR (seqR c590))))
theorem I611_ok:I611.OK Tryz.prog where
  fn:=⟨Tryz.f611,Tryz.func611,by kernel_rfl,by kernel_rfl,by decide,by kernel_rfl⟩
  small:=by decide
  d0:=by kernel_rfl
  d1:=by kernel_rfl
  d2:=by kernel_rfl
  d3:=by kernel_rfl
  d4:=by kernel_rfl
  y:=by decide
  s0:=by kernel_rfl
  s1:=by kernel_rfl
  s2:=by kernel_rfl
  s3:=by kernel_rfl
  sy:=by kernel_rfl
  s4:=by kernel_rfl
  l3:=by kernel_rfl
  l6:=by kernel_rfl
  mv:=⟨by kernel_rfl,by kernel_rfl,by kernel_rfl⟩
  cl:=⟨⟨#[3,3],by kernel_rfl⟩,by kernel_rfl,by kernel_rfl⟩
theorem C590_ok:C590.OK Tryz.f590.ntmps where
  small:=by decide
  d0:=by kernel_rfl
  d1:=by kernel_rfl
  d2:=by kernel_rfl
  da:=by kernel_rfl
  db:=by kernel_rfl
  dc:=by kernel_rfl
  d6:=by kernel_rfl
  p:=by decide
  q:=by decide
  la:=by kernel_rfl
  lb:=by kernel_rfl
  lc:=by kernel_rfl
noncomputable def rowsX:List Value→H→Option (Value × H):=rangeX EE (exec EE 1000) I611 C590 [.tmp 2] 10
theorem rowsX_ok:ExtOK Tryz.prog 590 rowsX :=
  range_ok EE_ok.toTypesOK (sound EE_ok 1000) I611_ok Tryz.func590 (by kernel_rfl) (by kernel_rfl) C590_ok 10
noncomputable def aw00:ExtT:=ext8.ins 40 590 (some rowsX)
theorem aw00_ok:ExtAll aw00:=ext_ins e8_ok (by decide) rowsX_ok
theorem run00:runAt aw00 580:=by
  unfold runAt
  kernel_rfl
theorem h02:ExtOK Tryz.prog 580 (trueG glob):=trueG_ok (env_of aw00 aw00_ok) (callS_ok aw00 1000) glob_ok run00
end Go.Ev
namespace Go.Ev
set_option maxRecDepth 100000
theorem run02A:runAt aw02 573:=by
  unfold runAt
  kernel_rfl
end Go.Ev
namespace Go.Ev
set_option maxRecDepth 100000
theorem run03a:runAt aw02w 557:=by
  unfold runAt
  kernel_rfl
theorem run03A:runAt aw03 541:=by
  unfold runAt
  kernel_rfl
end Go.Ev
namespace Go.Ev
set_option maxRecDepth 100000
theorem run04a:runAt aw03w 515:=by
  unfold runAt
  kernel_rfl
theorem run04A:runAt aw04 465:=by
  unfold runAt
  kernel_rfl
end Go.Ev
namespace Go.Ev
set_option maxRecDepth 100000
theorem run05a:runAt aw04w 389:=by
  unfold runAt
  kernel_rfl
theorem run05A:runAt aw05 327:=by
  unfold runAt
  kernel_rfl
end Go.Ev
namespace Go.Ev
set_option maxRecDepth 100000
theorem run06a:runAt aw05w 644:=by
  unfold runAt
  kernel_rfl
theorem run06A:runAt aw06 642:=by
  unfold runAt
  kernel_rfl
end Go.Ev
namespace Go.Ev
set_option maxRecDepth 100000
theorem run07a:runAt aw06w 645:=by
  unfold runAt
  kernel_rfl
theorem run07A:runAt aw07 643:=by
  unfold runAt
  kernel_rfl
end Go.Ev
namespace Go.Ev
set_option maxRecDepth 100000
theorem run08a:runAt aw07w 640:=by
  unfold runAt
  kernel_rfl
theorem run08A:runAt aw08 636:=by
  unfold runAt
  kernel_rfl
end Go.Ev
namespace Go.Ev
set_option maxRecDepth 100000
theorem run09a:runAt aw08w 634:=by
  unfold runAt
  kernel_rfl
theorem run09A:runAt aw09 632:=by
  unfold runAt
  kernel_rfl
end Go.Ev
namespace Go.Ev
set_option maxRecDepth 100000
theorem run10a:runAt aw09w 631:=by
  unfold runAt
  kernel_rfl
theorem run10A:runAt aw10 628:=by
  unfold runAt
  kernel_rfl
end Go.Ev
