/-
  CLOSED FACTS OF THE PROGRAM.
-/
import Derived.Test.YtlahhbdihpbbgaaGreatDoorVb
import Derived.Test.YtlahhbdihpbbgaaGreatDoorFb
import Derived.SevenTiedAt
noncomputable section
set_option linter.unusedVariables false
set_option linter.unusedSimpArgs false
set_option maxRecDepth 100000
open Nat (ble beq)
namespace Go.Proofs.YtlahhbdihpbbgaaGreatDoor
open Go Go.Ev
theorem k7:(Tryz.prog.stops==[])=true:=by kernel_rfl
theorem k9:(Tryz.prog.stopKnobs==[])=true:=by kernel_rfl
theorem k25:Tryz.prog.stopsHeard=true:=by kernel_rfl
theorem k26:Tryz.prog.mayEnter=true:=by kernel_rfl
theorem xu:Tryz.prog.funcs.toList.all (λfn=>!fn.goes)=true:=by kernel_rfl
theorem wc (g:FuncId):(Tryz.prog.funcs[g]?).any Func.goes=false:=by
 cases h:Tryz.prog.funcs[g]? with
 | none=>rfl
 | some fn=> have:=List.all_eq_true.1 xu fn (Array.mem_of_getElem? h).val;simpa using this
theorem tz (f:FuncId):Tryz.prog.goes f=false:=by
 unfold Program.goes;rw[Bool.or_eq_false_iff];constructor
 ·rw[List.any_eq_false];intro g _;simp[wc g]
 ·have:Tryz.prog.funcs.any Func.goes=false:=by rw[Array.any_eq_false];intro i hi;have:=wc i;rw[Array.getElem?_eq_getElem hi] at this;simpa using this
  rw[this,Bool.and_false]
theorem pn (c:OpenClaim) (h:c.start=.entering):c.goesBy Tryz.prog=false:=by
 unfold OpenClaim.goesBy Program.goesAt Program.goesFrom;rw[h];cases Tryz.prog.funcNamed c.func with
 | none=>rfl
 | some f=>simp[tz]
theorem Er : Tryz.prog.mainIs = some (true, ("5fe46451c2cbd181532991d06a1f7b402d91d19bbe861a335abeaf86e72637c5" : String).toList):= by kernel_rfl
theorem Cc:true=Tryz.prog.looks []:=by kernel_rfl
end Go.Proofs.YtlahhbdihpbbgaaGreatDoor
