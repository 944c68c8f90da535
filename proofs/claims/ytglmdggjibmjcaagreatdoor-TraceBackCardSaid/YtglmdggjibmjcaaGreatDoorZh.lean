/-
  TraceBack: for every input that the card lets in the law answers true: what is printed is parsed as it was, and what is parsed of any text is printed, and parsed again, the same, but for lines; the examples of all layers are run by the kernel. Conditions: those of the card (the tables and errors of 
-/
import Derived.Test.YtglmdggjibmjcaaGreatDoorZf
import Derived.Test.YtglmdggjibmjcaaGreatDoorZg
import Derived.Test.YtglmdggjibmjcaaGreatDoorCards
noncomputable section
set_option linter.all false
set_option maxRecDepth 100000
open Nat (ble beq)
namespace Go.Proofs.YtglmdggjibmjcaaGreatDoor
open Go Go.Ev
namespace TraceBack
def HX:Tryz.prog.wantsStandIn 3=false:=by kernel_rfl
def aei:Tryz.prog.wantsStandIn 9=false:=by kernel_rfl
def My:Tryz.prog.wantsStandIn 22=false:=by kernel_rfl
def Yu:Rows.traceBackRow.wfByText (OpenSpec.ofChange Rows.traceBackSpec)=true:=by kernel_rfl
end TraceBack
open TraceBack in
theorem traceBack_card:Rows.TraceBackCardSaid:=
 Claim7.holds_tied_plain_at .later [] [.data, .data, .data, .pinned, .data, .sentinel, .sentinel] true (true, "aefb225947cbaca8860191d3e476af16fab6a947a4f6e23959123672f71205bc") true
  said (λ_ h=>by cases h) Yu (λ_ h=>by cases h) mQ rfl ⟨rfl,rfl⟩ Rt rfl
  (λf fn hf hfn=>by
   obtain rfl:f=4:=JJ ((show Tryz.prog.funcNamed Rows.traceBackRow.func=some 4 by kernel_rfl).symm.trans hf) |>.symm;obtain rfl:fn=Tryz.f4:=(JJ (Tryz.func4.symm.trans hfn)).symm
   exact⟨FU,λj t ht=>by
    rw[show Tryz.f4.params=#[3,3,22,9] by kernel_rfl] at ht
    match j,ht with
    | 0,ht=>cases ht;exact HX
    | 1,ht=>cases ht;exact HX
    | 2,ht=>cases ht;exact My
    | 3,ht=>cases ht;exact aei⟩)
  (tQ _ rfl).symm
end Go.Proofs.YtglmdggjibmjcaaGreatDoor
