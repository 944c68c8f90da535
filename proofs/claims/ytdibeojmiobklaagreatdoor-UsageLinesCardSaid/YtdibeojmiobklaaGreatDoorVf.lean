/-
  UsageLines: for every input that the card lets in the law answers true: the program's lines of any rows are the document's; the examples of all layers are run by the kernel.
  Conditions: those of the card (the tables of the library are tied to the text); no others.
-/
import Derived.Test.YtdibeojmiobklaaGreatDoorVc
import Derived.Test.YtdibeojmiobklaaGreatDoorVr
import Derived.Test.YtdibeojmiobklaaGreatDoorVd
set_option linter.unusedVariables false
set_option linter.unusedSimpArgs false
namespace Go.Proofs.YtdibeojmiobklaaGreatDoor
open Go Go.Ev Go.ChangeShapes Go.WideShapes Go.ChangeAt Go.RowKit
set_option maxRecDepth 100000
namespace UsageLines
theorem k1:(Rows.usageLinesRow.wf (OpenSpec.ofChange Rows.usageLinesSpec))=true:=by kernel_rfl
theorem k4:(Tryz.f3.params.all (Tryz.prog.readableRec ·))=true:=by kernel_rfl
theorem k5:(namedTie Tryz.prog Rows.usageLinesRow.named Rows.usageLinesSpec.vars)=true:=by kernel_rfl
theorem k6:((Rows.usageLinesRow.stops == []))=true:=by kernel_rfl
theorem k8:((Rows.usageLinesRow.knobs == []))=true:=by kernel_rfl
theorem k10:((Rows.usageLinesRow.inPlace == Tryz.prog.inPlace 3))=true:=by
  unfold Program.inPlace
  rw [closure3]
  kernel_rfl
theorem k11:((Rows.usageLinesRow.unfollowed == Tryz.prog.unfollowed 3))=true:=by
  unfold Program.unfollowed
  rw [closure3]
  kernel_rfl
theorem k12:((Rows.usageLinesRow.recurses == Tryz.prog.recurses 3))=true:=by
  unfold Program.recurses Program.unfollowed
  rw [closure3]
  kernel_rfl
theorem k13:((Rows.usageLinesRow.named == Tryz.prog.varsNamed 3))=true:=by
  unfold Program.varsNamed
  rw [closure3]
  kernel_rfl
theorem k14:((Rows.usageLinesRow.maps == (Tryz.f3.params.toList ++ Rows.usageLinesSpec.plain.varTypes Tryz.prog).any (Tryz.prog.mapsRec ·)))=true:=by kernel_rfl
theorem k15:((Rows.usageLinesRow.ifaces == (Tryz.f3.params.toList ++ Rows.usageLinesSpec.plain.varTypes Tryz.prog).any (Tryz.prog.ifacesRec ·)))=true:=by kernel_rfl
theorem k16:((Rows.usageLinesRow.mapsOut == Tryz.prog.mapsAmong Tryz.f3.resultTypes.toList))=true:=by kernel_rfl
theorem k17:((Rows.usageLinesRow.loops == (Tryz.f3.params.toList ++ Rows.usageLinesSpec.plain.varTypes Tryz.prog).any (Tryz.prog.loopsFrom ·)))=true:=by kernel_rfl
theorem k18:((Rows.usageLinesRow.wideKeys == (Tryz.f3.params.toList ++ Rows.usageLinesSpec.plain.varTypes Tryz.prog ++ Tryz.f3.resultTypes.toList).any (Tryz.prog.wideKeysFrom ·)))=true:=by kernel_rfl
theorem k19:(Rows.usageLinesSpec.vars.all (Tryz.prog.varReadable ·))=true:=by kernel_rfl
theorem k20:(Tryz.f3.resultTypes.all (λ t=>Tryz.prog.readableRec t && decide (t < Tryz.prog.types.size)))=true:=by kernel_rfl
theorem k21:((Rows.usageLinesRow.ifacesOut == Tryz.f3.resultTypes.toList.any (Tryz.prog.ifacesRec ·)))=true:=by kernel_rfl
theorem k22:((Rows.usageLinesRow.loopsOut == Tryz.f3.resultTypes.toList.any (Tryz.prog.loopsFrom ·)))=true:=by kernel_rfl
theorem k23:((Rows.usageLinesRow.plainKeys == Tryz.prog.plainKeys))=true:=by kernel_rfl
theorem k24:(Rows.usageLinesRow.shortTexts.isNone)=true:=by kernel_rfl
theorem k27:((Rows.usageLinesRow.lifted == Tryz.prog.liftsFinal))=true:=by kernel_rfl
theorem k28:((Tryz.prog.make == some Rows.usageLinesRow.make))=true:=by kernel_rfl
theorem k29:((Rows.usageLinesRow.kinds == (if Rows.usageLinesRow.domain.isEmpty then [] else Tryz.f3.params.toList.map λ t=>match Tryz.prog.underlying t with | some (.int k)=>some k | _=>none)))=true:=by kernel_rfl
theorem k30:((Rows.usageLinesRow.pinned == Rows.usageLinesRow.pinnedBy))=true:=by kernel_rfl
theorem k31:((Rows.usageLinesRow.veiled == (Tryz.f3.params.toList ++ Rows.usageLinesSpec.plain.varTypes Tryz.prog ++ Tryz.f3.resultTypes.toList).any (Tryz.prog.veiledRec ·)))=true:=by kernel_rfl
theorem k32:(Rows.usageLinesRow.veiledFits Tryz.prog Tryz.f3.params.toList (Tryz.f3.params.toList ++ Rows.usageLinesSpec.plain.varTypes Tryz.prog ++ Tryz.f3.resultTypes.toList))=true:=by kernel_rfl
theorem facts:joinedFacts Tryz.prog 3 Tryz.f3 Rows.usageLinesSpec Rows.usageLinesRow=true:=by
  simp only [joinedFacts,Bool.and_eq_true]
  exact ⟨⟨⟨⟨⟨⟨⟨⟨⟨⟨⟨⟨⟨⟨⟨⟨⟨⟨⟨⟨⟨⟨⟨⟨⟨⟨⟨⟨⟨⟨⟨k1,k2⟩,k3⟩,k4⟩,k5⟩,k6⟩,k7⟩,k8⟩,k9⟩,k10⟩,k11⟩,k12⟩,k13⟩,k14⟩,k15⟩,k16⟩,k17⟩,k18⟩,k19⟩,k20⟩,k21⟩,k22⟩,k23⟩,k24⟩,k25⟩,k26⟩,k27⟩,k28⟩,k29⟩,k30⟩,k31⟩,k32⟩
theorem said:Rows.UsageLinesSaid :=
  OpenClaim.holds_of_wide 3 Tryz.f3 rfl rfl rfl rfl rfl rfl rfl ⟨rfl,rfl,rfl,rfl,rfl⟩ rfl rfl rfl rfl rfl (by kernel_rfl) Tryz.func3 facts
    (of_decide_eq_true (by kernel_rfl)) (by unfold Func.isWrapper; first | (rw [if_pos (by decide +kernel)]; kernel_rfl) | (rw [if_neg (by decide +kernel)]; exact ⟨rfl,rfl⟩))
    (λ os started H enc _=>lifted1 (s:=Rows.usageLinesSpec) ⟨rfl,λ _ _=>rfl⟩ Tryz.func3 (by kernel_rfl) (by kernel_rfl) (by kernel_rfl) (λ _ hr _ _ a k=>calls_lines aw_all hr a k Tryz.func3 (by kernel_rfl) (by kernel_rfl)) os started H enc (by kernel_rfl) (by kernel_rfl) (by kernel_rfl))
end UsageLines
end Go.Proofs.YtdibeojmiobklaaGreatDoor
