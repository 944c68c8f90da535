/-
  ScriptLong: for every input that the card lets in the law answers true: a text of more than 65536 bytes is too long, the 1001st command is one too many; the examples of all layers are run by the kernel.
  Conditions: those of the card (the tables and errors of the library are tied to the text); no others.
-/
import Derived.Test.YtlahhbdihpbbgaaGreatDoorWf
import Derived.Test.YtlahhbdihpbbgaaGreatDoorWg
import Derived.Test.YtlahhbdihpbbgaaGreatDoorCards
import Derived.SevenTiedAt
set_option linter.unusedVariables false
set_option linter.unusedSimpArgs false
namespace Go.Proofs.YtlahhbdihpbbgaaGreatDoor
open Go Go.Ev
set_option maxRecDepth 100000
namespace ScriptLong
theorem aaA:Tryz.prog.wantsStandIn 5=false:=by kernel_rfl
theorem RB:Rows.scriptLongRow.wfByText (OpenSpec.ofChange Rows.scriptLongSpec)=true:=by kernel_rfl
end ScriptLong
open ScriptLong in
theorem scriptLong_card:Rows.ScriptLongCardSaid :=
 Claim7.holds_tied_plain_at .later [] [.pinned, .data, .sentinel, .sentinel, .data, .data, .data] true (true, "5fe46451c2cbd181532991d06a1f7b402d91d19bbe861a335abeaf86e72637c5") true
  said (λ _ h=>by cases h) RB (λ _ h=>by cases h) jB rfl ⟨rfl,rfl⟩ Er rfl
  (λ f fn hf hfn=>by
   obtain rfl:f=4:=Option.some.inj ((show Tryz.prog.funcNamed Rows.scriptLongRow.func=some 4 by kernel_rfl).symm.trans hf) |>.symm
   obtain rfl:fn=Tryz.f4:=(Option.some.inj (Tryz.func4.symm.trans hfn)).symm
   exact ⟨Cc,λ j t ht=>by
    rw [show Tryz.f4.params=#[5] by kernel_rfl] at ht
    match j,ht with
    | 0,ht=>cases ht; exact aaA⟩)
  (pn _ rfl).symm
end Go.Proofs.YtlahhbdihpbbgaaGreatDoor
