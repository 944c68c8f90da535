/-
  TraceAgrees: for every input that the card lets in the law answers true: the two agree on every two lists of lines; the examples of all layers are run by the kernel.
  Conditions: those of the card (the tables and errors of the library are tied to the text); no others.
-/
import Derived.Test.YtdibeojmiobklaaGreatDoorFf
import Derived.Test.YtdibeojmiobklaaGreatDoorFg
import Derived.Test.YtdibeojmiobklaaGreatDoorCards
import Derived.SevenTiedAt
set_option linter.unusedVariables false
set_option linter.unusedSimpArgs false
namespace Go.Proofs.YtdibeojmiobklaaGreatDoor
open Go Go.Ev
set_option maxRecDepth 100000
namespace TraceAgrees
theorem wants33:Tryz.prog.wantsStandIn 33=false:=by kernel_rfl
theorem wfText:Rows.traceAgreesRow.wfByText (OpenSpec.ofChange Rows.traceAgreesSpec)=true:=by kernel_rfl
end TraceAgrees
open TraceAgrees in
theorem traceAgrees_card:Rows.TraceAgreesCardSaid :=
  Claim7.holds_tied_plain_at .later [] [.data, .data, .data, .pinned, .data, .sentinel, .sentinel] true (true, "590e491c29d3ed7d7fe38958fc11b25b58687ca7d13068f9b3c078e5d8b96114") true
    said (λ _ h=>by cases h) wfText (λ _ h=>by cases h) traceAgrees_row_tie rfl ⟨rfl,rfl⟩ main_is rfl
    (λ f fn hf hfn=>by
      obtain rfl:f=5:=Option.some.inj ((show Tryz.prog.funcNamed Rows.traceAgreesRow.func=some 5 by kernel_rfl).symm.trans hf) |>.symm
      obtain rfl:fn=Tryz.f5:=(Option.some.inj (Tryz.func5.symm.trans hfn)).symm
      exact ⟨looks_is,λ j t ht=>by
        rw [show Tryz.f5.params=#[33,33] by kernel_rfl] at ht
        match j,ht with
        | 0,ht=>cases ht; exact wants33
        | 1,ht=>cases ht; exact wants33⟩)
    (goesBy_false _ rfl).symm
end Go.Proofs.YtdibeojmiobklaaGreatDoor
