/-
  ScriptBlanks: for every input that the card lets in the law answers true: more blanks change no command of any text; the examples of all layers are run by the kernel.
  Conditions: those of the card (the tables and errors of the library are tied to the text); no others.
-/
import Derived.Test.YtlahhbdihpbbgaaGreatDoorXf
import Derived.Test.YtlahhbdihpbbgaaGreatDoorXg
import Derived.Test.YtlahhbdihpbbgaaGreatDoorCards
import Derived.SevenTiedAt
set_option linter.unusedVariables false
set_option linter.unusedSimpArgs false
namespace Go.Proofs.YtlahhbdihpbbgaaGreatDoor
open Go Go.Ev
set_option maxRecDepth 100000
namespace ScriptBlanks
theorem aaA:Tryz.prog.wantsStandIn 9=false:=by kernel_rfl
theorem RB:Rows.scriptBlanksRow.wfByText (OpenSpec.ofChange Rows.scriptBlanksSpec)=true:=by kernel_rfl
end ScriptBlanks
open ScriptBlanks in
theorem scriptBlanks_card:Rows.ScriptBlanksCardSaid :=
 Claim7.holds_tied_plain_at .later [] [.pinned, .data, .sentinel, .sentinel, .data, .data, .data] true (true, "5fe46451c2cbd181532991d06a1f7b402d91d19bbe861a335abeaf86e72637c5") true
  said (λ _ h=>by cases h) RB (λ _ h=>by cases h) s6 rfl ⟨rfl,rfl⟩ Er rfl
  (λ f fn hf hfn=>by
   obtain rfl:f=5:=Option.some.inj ((show Tryz.prog.funcNamed Rows.scriptBlanksRow.func=some 5 by kernel_rfl).symm.trans hf) |>.symm
   obtain rfl:fn=Tryz.f5:=(Option.some.inj (Tryz.func5.symm.trans hfn)).symm
   exact ⟨Cc,λ j t ht=>by
    rw [show Tryz.f5.params=#[9] by kernel_rfl] at ht
    match j,ht with
    | 0,ht=>cases ht; exact aaA⟩)
  (pn _ rfl).symm
end Go.Proofs.YtlahhbdihpbbgaaGreatDoor
