/-
  CLOSED FACTS OF THE PROGRAM.
-/
import Derived.Test.YtdibeojmiobklaaGreatDoorWt
import Derived.Test.YtdibeojmiobklaaGreatDoorFb
import Derived.SevenTiedAt
set_option linter.unusedVariables false
set_option linter.unusedSimpArgs false
namespace Go.Proofs.YtdibeojmiobklaaGreatDoor
open Go Go.Ev
set_option maxRecDepth 100000
theorem k7:(Tryz.prog.stops == [])=true:=by kernel_rfl
theorem k9:(Tryz.prog.stopKnobs == [])=true:=by kernel_rfl
theorem k25:Tryz.prog.stopsHeard=true:=by kernel_rfl
theorem k26:Tryz.prog.mayEnter=true:=by kernel_rfl
theorem goes_none:Tryz.prog.funcs.toList.all (λ fn=>!fn.goes)=true:=by kernel_rfl
theorem goes_at (g:FuncId):(Tryz.prog.funcs[g]?).any Func.goes=false:=by
  cases h:Tryz.prog.funcs[g]? with
  | none=>rfl
  | some fn =>
    have:=List.all_eq_true.1 goes_none fn (Array.mem_of_getElem? h).val
    simpa using this
theorem goes_false (f:FuncId):Tryz.prog.goes f=false:=by
  unfold Program.goes
  rw [Bool.or_eq_false_iff]
  constructor
  · rw [List.any_eq_false]
    intro g _
    simp [goes_at g]
  · have:Tryz.prog.funcs.any Func.goes=false:=by
      rw [Array.any_eq_false]
      intro i hi
      have:=goes_at i
      rw [Array.getElem?_eq_getElem hi] at this
      simpa using this
    rw [this,Bool.and_false]
theorem goesBy_false (c:OpenClaim) (h:c.start=.entering):c.goesBy Tryz.prog=false:=by
  unfold OpenClaim.goesBy Program.goesAt Program.goesFrom
  rw [h]
  cases Tryz.prog.funcNamed c.func with
  | none=>rfl
  | some f=>simp [goes_false]
theorem main_is : Tryz.prog.mainIs = some (true, ("590e491c29d3ed7d7fe38958fc11b25b58687ca7d13068f9b3c078e5d8b96114" : String).toList) := by kernel_rfl
theorem looks_is:true=Tryz.prog.looks []:=by kernel_rfl
end Go.Proofs.YtdibeojmiobklaaGreatDoor
