/-
  THE EXAMPLE OF LAYER 2: its rows come of a range over a function.
-/
import Derived.Test.YtpdachddebkebaaGreatDoorLb
import Derived.Test.YtpdachddebkebaaGreatDoorEc
import Derived.KernelRfl
set_option linter.unusedVariables false
set_option linter.unusedSimpArgs false
namespace Go.Ev
open Go F Go.Proofs
set_option maxRecDepth 100000
noncomputable def seqL : Code → Code
  | .seq a _ => a
  | .block _ a => a
  | .loop a => a
  | .rangeFunc _ _ a _ => a
  | c => c
noncomputable def seqR : Code → Code
  | .seq _ b => b
  | .rangeFunc _ _ _ b => b
  | c => c
noncomputable def regO : Code → Array Oper
  | .region _ ops _ => ops
  | _ => #[]
noncomputable def c438 : Code := Tryz.f438.body.getD .skip
noncomputable def l438 : Code := seqL (seqL (seqR c438))
noncomputable def b438 : Code := seqL (seqR l438)
noncomputable def r438 : Array Oper := regO (seqL (seqL (seqR b438)))
noncomputable def I438 : Iter where
  f := 438
  nt := 24
  i0 := 0
  i1 := 1
  i2 := 2
  i3 := 3
  i4 := 4
  b := 0
  b1 := 1
  c := 10
  y := 14
  a := 15
  e := 18
  z := 19
  d := 20
  r0 := regO (seqL c438)
  r1 := regO (seqL (seqL l438))
  r2 := regO (seqL b438)
  r4 := regO (seqR (seqR b438))
  mv := r438[0]!
  o1 := r438[1]!
  o2 := r438[2]!
  o3 := r438[3]!
  o4 := r438[4]!
  cl := r438[5]!
  o6 := r438[6]!
noncomputable def c420 : Code := Tryz.f420.body.getD .skip
noncomputable def m420 : Code := seqL (seqR (seqR c420))
noncomputable def g420 : Code := seqL (seqR m420)
noncomputable def C420 : Ranger where
  k := 0
  k' := 1
  i0 := 0
  i1 := 1
  i2 := 2
  ia := 3
  ib := 4
  ic := 5
  i6 := 6
  g := 7
  p := 8
  q := 9
  r0 := regO (seqL c420)
  r1 := regO (seqL (seqR c420))
  r2 := regO (seqL m420)
  ra := regO (seqL (seqL g420))
  rb := regO (seqR (seqL g420))
  rc := regO (seqL (seqR g420))
  r6 := regO (seqL (seqR (seqR (seqR c420))))
theorem I438_ok : I438.OK Tryz.prog where
  fn := ⟨Tryz.f438, Tryz.func438, by kernel_rfl, by kernel_rfl, by decide, by kernel_rfl⟩
  small := by decide
  d0 := by kernel_rfl
  d1 := by kernel_rfl
  d2 := by kernel_rfl
  d3 := by kernel_rfl
  d4 := by kernel_rfl
  y := by decide
  s0 := by kernel_rfl
  s1 := by kernel_rfl
  s2 := by kernel_rfl
  s3 := by kernel_rfl
  sy := by kernel_rfl
  s4 := by kernel_rfl
  l3 := by kernel_rfl
  l6 := by kernel_rfl
  mv := ⟨by kernel_rfl, by kernel_rfl, by kernel_rfl⟩
  cl := ⟨⟨#[3, 3], by kernel_rfl⟩, by kernel_rfl, by kernel_rfl⟩
theorem C420_ok : C420.OK Tryz.f420.ntmps where
  small := by decide
  d0 := by kernel_rfl
  d1 := by kernel_rfl
  d2 := by kernel_rfl
  da := by kernel_rfl
  db := by kernel_rfl
  dc := by kernel_rfl
  d6 := by kernel_rfl
  p := by decide
  q := by decide
  la := by kernel_rfl
  lb := by kernel_rfl
  lc := by kernel_rfl
noncomputable def rowsX : List Value → H → Option (Value × H) := rangeX EE (exec EE 1000) I438 C420 [.tmp 2] 10
theorem rowsX_ok : ExtOK Tryz.prog 420 rowsX :=
  range_ok EE_ok.toTypesOK (sound EE_ok 1000) I438_ok Tryz.func420 (by kernel_rfl) (by kernel_rfl) C420_ok 10
noncomputable def aw00 : ExtT := ext7.ins 40 420 (some rowsX)
theorem aw00_ok : ExtAll aw00 := ext_ins e7_ok (by decide) rowsX_ok
theorem run00 : runAt aw00 410 := by
  unfold runAt
  kernel_rfl
theorem h02 : ExtOK Tryz.prog 410 (trueG glob) := trueG_ok (env_of aw00 aw00_ok) (callS_ok aw00 1000) glob_ok run00
end Go.Ev
namespace Go.Ev
set_option maxRecDepth 100000
theorem run02A : runAt aw02 406 := by
  unfold runAt
  kernel_rfl
end Go.Ev
namespace Go.Ev
set_option maxRecDepth 100000
theorem run03a : runAt aw02w 399 := by
  unfold runAt
  kernel_rfl
theorem run03A : runAt aw03 388 := by
  unfold runAt
  kernel_rfl
end Go.Ev
namespace Go.Ev
set_option maxRecDepth 100000
theorem run04a : runAt aw03w 365 := by
  unfold runAt
  kernel_rfl
theorem run04A : runAt aw04 341 := by
  unfold runAt
  kernel_rfl
end Go.Ev
namespace Go.Ev
set_option maxRecDepth 100000
theorem run05a : runAt aw04w 300 := by
  unfold runAt
  kernel_rfl
theorem run05A : runAt aw05 234 := by
  unfold runAt
  kernel_rfl
end Go.Ev
namespace Go.Ev
set_option maxRecDepth 100000
theorem run06a : runAt aw05w 505 := by
  unfold runAt
  kernel_rfl
theorem run06A : runAt aw06 503 := by
  unfold runAt
  kernel_rfl
end Go.Ev
namespace Go.Ev
set_option maxRecDepth 100000
theorem run07a : runAt aw06w 506 := by
  unfold runAt
  kernel_rfl
theorem run07A : runAt aw07 504 := by
  unfold runAt
  kernel_rfl
end Go.Ev
namespace Go.Ev
set_option maxRecDepth 100000
theorem run08a : runAt aw07w 501 := by
  unfold runAt
  kernel_rfl
theorem run08A : runAt aw08 497 := by
  unfold runAt
  kernel_rfl
end Go.Ev
namespace Go.Ev
set_option maxRecDepth 100000
theorem run09a : runAt aw08w 495 := by
  unfold runAt
  kernel_rfl
theorem run09A : runAt aw09 493 := by
  unfold runAt
  kernel_rfl
end Go.Ev
namespace Go.Ev
set_option maxRecDepth 100000
theorem run10a : runAt aw09w 492 := by
  unfold runAt
  kernel_rfl
theorem run10A : runAt aw10 489 := by
  unfold runAt
  kernel_rfl
end Go.Ev
