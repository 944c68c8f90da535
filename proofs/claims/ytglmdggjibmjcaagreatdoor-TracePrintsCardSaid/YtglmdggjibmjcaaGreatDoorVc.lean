/-
  CLOSED FACTS OF THE PROGRAM.
-/
import Derived.Test.YtglmdggjibmjcaaGreatDoorVb
import Derived.Test.YtglmdggjibmjcaaGreatDoorFb
import Derived.SevenTiedAt
noncomputable section
set_option linter.unusedVariables false
set_option linter.unusedSimpArgs false
set_option maxRecDepth 100000
open Nat (ble beq)
namespace Go.Proofs.YtglmdggjibmjcaaGreatDoor
open Go Go.Ev
theorem k7:(Tryz.prog.stops==[])=true:=by kernel_rfl
theorem k9:(Tryz.prog.stopKnobs==[])=true:=by kernel_rfl
theorem k25:Tryz.prog.stopsHeard=true:=by kernel_rfl
theorem k26:Tryz.prog.mayEnter=true:=by kernel_rfl
theorem By:Tryz.prog.funcs.toList.all (λfn=>!fn.goes)=true:=by kernel_rfl
theorem xR (g:FuncId):(Tryz.prog.funcs[g]?).any Func.goes=false:=by
 cases h:Tryz.prog.funcs[g]? with
 | none=>rfl
 | some fn=> have:=List.all_eq_true.1 By fn (Array.mem_of_getElem? h).val;simpa using this
theorem xh (f:FuncId):Tryz.prog.goes f=false:=by
 unfold Program.goes;rw[Bool.or_eq_false_iff];constructor
 ·rw[List.any_eq_false];intro g _;simp[xR g]
 ·have:Tryz.prog.funcs.any Func.goes=false:=by rw[Array.any_eq_false];intro i hi;have:=xR i;rw[Array.getElem?_eq_getElem hi] at this;simpa using this
  rw[this,Bool.and_false]
theorem rO (c:OpenClaim) (h:c.start=.entering):c.goesBy Tryz.prog=false:=by
 unfold OpenClaim.goesBy Program.goesAt Program.goesFrom;rw[h];cases Tryz.prog.funcNamed c.func with
 | none=>rfl
 | some f=>simp[xh]
theorem La : Tryz.prog.mainIs = some (true, ("aefb225947cbaca8860191d3e476af16fab6a947a4f6e23959123672f71205bc" : String).toList):= by kernel_rfl
theorem Fb:true=Tryz.prog.looks []:=by kernel_rfl
end Go.Proofs.YtglmdggjibmjcaaGreatDoor
