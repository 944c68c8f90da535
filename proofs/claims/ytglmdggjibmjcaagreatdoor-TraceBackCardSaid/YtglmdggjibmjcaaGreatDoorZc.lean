/-
  CLOSED FACTS OF THE PROGRAM.
-/
import Derived.Test.YtglmdggjibmjcaaGreatDoorZb
import Derived.Test.YtglmdggjibmjcaaGreatDoorQb
import Derived.SevenTiedAt
noncomputable section
set_option linter.all false
set_option maxRecDepth 100000
open Nat (ble beq)
namespace Go.Proofs.YtglmdggjibmjcaaGreatDoor
open Go Go.Ev
def k7:(Tryz.prog.stops==[])=true:=by kernel_rfl
def k9:(Tryz.prog.stopKnobs==[])=true:=by kernel_rfl
def k25:Tryz.prog.stopsHeard=true:=by kernel_rfl
def k26:Tryz.prog.mayEnter=true:=by kernel_rfl
def Dg:Tryz.prog.funcs.toList.all (λfn=>!fn.goes)=true:=by kernel_rfl
def AS (g:FuncId):(Tryz.prog.funcs[g]?).any Func.goes=false:=by
 cases h:Tryz.prog.funcs[g]? with
 | none=>rfl
 | some fn=> have:=Jv.1 Dg fn (Array.mem_of_getElem? h).val;simpa using this
def Ad (f:FuncId):Tryz.prog.goes f=false:=by
 unfold Program.goes;rw[Bool.or_eq_false_iff];constructor
 ·rw[List.any_eq_false];intro g _;simp[AS g]
 ·have:Tryz.prog.funcs.any Func.goes=false:=by rw[Array.any_eq_false];intro i hi;have:=AS i;rw[Kk hi] at this;simpa using this
  rw[this,Bool.and_false]
def tQ (c:OpenClaim) (h:c.start=.entering):c.goesBy Tryz.prog=false:=by
 unfold OpenClaim.goesBy Program.goesAt Program.goesFrom;rw[h];cases Tryz.prog.funcNamed c.func with
 | none=>rfl
 | some f=>simp[Ad]
def Rt : Tryz.prog.mainIs = some (true, ("aefb225947cbaca8860191d3e476af16fab6a947a4f6e23959123672f71205bc" : String).toList):= by kernel_rfl
def FU:true=Tryz.prog.looks []:=by kernel_rfl
end Go.Proofs.YtglmdggjibmjcaaGreatDoor
