/-
  ScriptParses: for every input that the card lets in the law answers true: any text is parsed as the document says; the examples of all layers are run by the kernel. Conditions: those of the card (the tables and errors of the library are tied to the text); no others.
-/
import Derived.Test.YtlahhbdihpbbgaaGreatDoorVf
import Derived.Test.YtlahhbdihpbbgaaGreatDoorVg
import Derived.Test.YtlahhbdihpbbgaaGreatDoorCards
noncomputable section
set_option linter.unusedVariables false
set_option linter.unusedSimpArgs false
set_option maxRecDepth 100000
open Nat (ble beq)
namespace Go.Proofs.YtlahhbdihpbbgaaGreatDoor
open Go Go.Ev
namespace ScriptParses
theorem aaA:Tryz.prog.wantsStandIn 9=false:=by kernel_rfl
theorem RB:Rows.scriptParsesRow.wfByText (OpenSpec.ofChange Rows.scriptParsesSpec)=true:=by kernel_rfl
end ScriptParses
open ScriptParses in
theorem scriptParses_card:Rows.ScriptParsesCardSaid:=
 Claim7.holds_tied_plain_at .later [] [.pinned, .data, .sentinel, .sentinel, .data, .data, .data] true (true, "5fe46451c2cbd181532991d06a1f7b402d91d19bbe861a335abeaf86e72637c5") true
  said (λ_ h=>by cases h) RB (λ_ h=>by cases h) X1 rfl ⟨rfl,rfl⟩ Er rfl
  (λf fn hf hfn=>by
   obtain rfl:f=3:=Option.some.inj ((show Tryz.prog.funcNamed Rows.scriptParsesRow.func=some 3 by kernel_rfl).symm.trans hf) |>.symm;obtain rfl:fn=Tryz.f3:=(Option.some.inj (Tryz.func3.symm.trans hfn)).symm
   exact⟨Cc,λj t ht=>by
    rw[show Tryz.f3.params=#[9] by kernel_rfl] at ht
    match j,ht with
    | 0,ht=>cases ht;exact aaA⟩)
  (pn _ rfl).symm
end Go.Proofs.YtlahhbdihpbbgaaGreatDoor
