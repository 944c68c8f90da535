/-
  UsageLines: for every input that the card lets in the law answers true: the program's lines of any rows are the document's; the examples of all layers are run by the kernel.
  Conditions: those of the card (the tables of the library are tied to the text); no others.
-/
import Derived.Test.YtdibeojmiobklaaGreatDoorVf
import Derived.Test.YtdibeojmiobklaaGreatDoorVg
import Derived.Test.YtdibeojmiobklaaGreatDoorCards
import Derived.SevenTiedAt
set_option linter.unusedVariables false
set_option linter.unusedSimpArgs false
namespace Go.Proofs.YtdibeojmiobklaaGreatDoor
open Go Go.Ev
set_option maxRecDepth 100000
namespace UsageLines
theorem wants22:Tryz.prog.wantsStandIn 22=false:=by kernel_rfl
theorem wfText:Rows.usageLinesRow.wfByText (OpenSpec.ofChange Rows.usageLinesSpec)=true:=by kernel_rfl
end UsageLines
open UsageLines in
theorem usageLines_card:Rows.UsageLinesCardSaid :=
  Claim7.holds_tied_plain_at .later [] [.data, .data, .data] true (true, "590e491c29d3ed7d7fe38958fc11b25b58687ca7d13068f9b3c078e5d8b96114") true
    said (λ _ h=>by cases h) wfText (λ _ h=>by cases h) usageLines_row_tie rfl ⟨rfl,rfl⟩ main_is rfl
    (λ f fn hf hfn=>by
      obtain rfl:f=3:=Option.some.inj ((show Tryz.prog.funcNamed Rows.usageLinesRow.func=some 3 by kernel_rfl).symm.trans hf) |>.symm
      obtain rfl:fn=Tryz.f3:=(Option.some.inj (Tryz.func3.symm.trans hfn)).symm
      exact ⟨looks_is,λ j t ht=>by
        rw [show Tryz.f3.params=#[22] by kernel_rfl] at ht
        match j,ht with
        | 0,ht=>cases ht; exact wants22⟩)
    (goesBy_false _ rfl).symm
end Go.Proofs.YtdibeojmiobklaaGreatDoor
