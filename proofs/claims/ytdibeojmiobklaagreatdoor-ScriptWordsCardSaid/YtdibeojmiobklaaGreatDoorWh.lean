/-
  ScriptWords: for every input that the card lets in the law answers true: the words of any two texts are told apart; the examples of all layers are run by the kernel.
  Conditions: those of the card (the tables and errors of the library are tied to the text); no others.
-/
import Derived.Test.YtdibeojmiobklaaGreatDoorWf
import Derived.Test.YtdibeojmiobklaaGreatDoorWg
import Derived.Test.YtdibeojmiobklaaGreatDoorCards
import Derived.SevenTiedAt
set_option linter.unusedVariables false
set_option linter.unusedSimpArgs false
namespace Go.Proofs.YtdibeojmiobklaaGreatDoor
open Go Go.Ev
set_option maxRecDepth 100000
namespace ScriptWords
theorem wants9:Tryz.prog.wantsStandIn 9=false:=by kernel_rfl
theorem wfText:Rows.scriptWordsRow.wfByText (OpenSpec.ofChange Rows.scriptWordsSpec)=true:=by kernel_rfl
end ScriptWords
open ScriptWords in
theorem scriptWords_card:Rows.ScriptWordsCardSaid :=
  Claim7.holds_tied_plain_at .later [] [.pinned, .data, .sentinel, .sentinel, .data, .data, .data] true (true, "590e491c29d3ed7d7fe38958fc11b25b58687ca7d13068f9b3c078e5d8b96114") true
    said (λ _ h=>by cases h) wfText (λ _ h=>by cases h) scriptWords_row_tie rfl ⟨rfl,rfl⟩ main_is rfl
    (λ f fn hf hfn=>by
      obtain rfl:f=4:=Option.some.inj ((show Tryz.prog.funcNamed Rows.scriptWordsRow.func=some 4 by kernel_rfl).symm.trans hf) |>.symm
      obtain rfl:fn=Tryz.f4:=(Option.some.inj (Tryz.func4.symm.trans hfn)).symm
      exact ⟨looks_is,λ j t ht=>by
        rw [show Tryz.f4.params=#[9,9] by kernel_rfl] at ht
        match j,ht with
        | 0,ht=>cases ht; exact wants9
        | 1,ht=>cases ht; exact wants9⟩)
    (goesBy_false _ rfl).symm
end Go.Proofs.YtdibeojmiobklaaGreatDoor
