/-
  TracePrints: for every input that the card lets in the law answers true: any commands are printed as the document says, or refused for the same reason; the examples of all layers are run by the kernel. Conditions: those of the card (the tables and errors of the library are tied to the text); no othe
-/
import Derived.Test.YtglmdggjibmjcaaGreatDoorVf
import Derived.Test.YtglmdggjibmjcaaGreatDoorVg
import Derived.Test.YtglmdggjibmjcaaGreatDoorCards
noncomputable section
set_option linter.unusedVariables false
set_option linter.unusedSimpArgs false
set_option maxRecDepth 100000
open Nat (ble beq)
namespace Go.Proofs.YtglmdggjibmjcaaGreatDoor
open Go Go.Ev
namespace TracePrints
theorem Ds:Tryz.prog.wantsStandIn 3=false:=by kernel_rfl
theorem Rj:Tryz.prog.wantsStandIn 22=false:=by kernel_rfl
theorem Wp:Rows.tracePrintsRow.wfByText (OpenSpec.ofChange Rows.tracePrintsSpec)=true:=by kernel_rfl
end TracePrints
open TracePrints in
theorem tracePrints_card:Rows.TracePrintsCardSaid:=
 Claim7.holds_tied_plain_at .later [] [.data, .data, .data, .pinned, .data, .sentinel, .sentinel] true (true, "aefb225947cbaca8860191d3e476af16fab6a947a4f6e23959123672f71205bc") true
  said (λ_ h=>by cases h) Wp (λ_ h=>by cases h) kp rfl ⟨rfl,rfl⟩ La rfl
  (λf fn hf hfn=>by
   obtain rfl:f=3:=Option.some.inj ((show Tryz.prog.funcNamed Rows.tracePrintsRow.func=some 3 by kernel_rfl).symm.trans hf) |>.symm;obtain rfl:fn=Tryz.f3:=(Option.some.inj (Tryz.func3.symm.trans hfn)).symm
   exact⟨Fb,λj t ht=>by
    rw[show Tryz.f3.params=#[3,3,22] by kernel_rfl] at ht
    match j,ht with
    | 0,ht=>cases ht;exact Ds
    | 1,ht=>cases ht;exact Ds
    | 2,ht=>cases ht;exact Rj⟩)
  (rO _ rfl).symm
end Go.Proofs.YtglmdggjibmjcaaGreatDoor
