/-
  TraceAgrees: for every input that the card lets in the law answers true: the two agree on every two lists of lines; the examples of all layers are run by the kernel.
  Conditions: those of the card (the tables and errors of the library are tied to the text); no others.
-/
import Derived.Test.YtdibeojmiobklaaGreatDoorFc
import Derived.Test.YtdibeojmiobklaaGreatDoorFe
import Derived.Test.YtdibeojmiobklaaGreatDoorFd
set_option linter.unusedVariables false
set_option linter.unusedSimpArgs false
namespace Go.Proofs.YtdibeojmiobklaaGreatDoor
open Go Go.Ev Go.ChangeShapes Go.WideShapes Go.ChangeAt Go.RowKit
set_option maxRecDepth 100000
namespace TraceAgrees
theorem k1:(Rows.traceAgreesRow.wf (OpenSpec.ofChange Rows.traceAgreesSpec))=true:=by kernel_rfl
theorem k4:(Tryz.f5.params.all (Tryz.prog.readableRec ·))=true:=by kernel_rfl
theorem k5:(namedTie Tryz.prog Rows.traceAgreesRow.named Rows.traceAgreesSpec.vars)=true:=by kernel_rfl
theorem k6:((Rows.traceAgreesRow.stops == []))=true:=by kernel_rfl
theorem k8:((Rows.traceAgreesRow.knobs == []))=true:=by kernel_rfl
theorem k10:((Rows.traceAgreesRow.inPlace == Tryz.prog.inPlace 5))=true:=by
  unfold Program.inPlace
  rw [closure5]
  kernel_rfl
theorem k11:((Rows.traceAgreesRow.unfollowed == Tryz.prog.unfollowed 5))=true:=by
  unfold Program.unfollowed
  rw [closure5]
  kernel_rfl
theorem k12:((Rows.traceAgreesRow.recurses == Tryz.prog.recurses 5))=true:=by
  unfold Program.recurses Program.unfollowed
  rw [closure5]
  kernel_rfl
theorem k13:((Rows.traceAgreesRow.named == Tryz.prog.varsNamed 5))=true:=by
  unfold Program.varsNamed
  rw [closure5]
  kernel_rfl
theorem k14:((Rows.traceAgreesRow.maps == (Tryz.f5.params.toList ++ Rows.traceAgreesSpec.plain.varTypes Tryz.prog).any (Tryz.prog.mapsRec ·)))=true:=by kernel_rfl
theorem k15:((Rows.traceAgreesRow.ifaces == (Tryz.f5.params.toList ++ Rows.traceAgreesSpec.plain.varTypes Tryz.prog).any (Tryz.prog.ifacesRec ·)))=true:=by kernel_rfl
theorem k16:((Rows.traceAgreesRow.mapsOut == Tryz.prog.mapsAmong Tryz.f5.resultTypes.toList))=true:=by kernel_rfl
theorem k17:((Rows.traceAgreesRow.loops == (Tryz.f5.params.toList ++ Rows.traceAgreesSpec.plain.varTypes Tryz.prog).any (Tryz.prog.loopsFrom ·)))=true:=by kernel_rfl
theorem k18:((Rows.traceAgreesRow.wideKeys == (Tryz.f5.params.toList ++ Rows.traceAgreesSpec.plain.varTypes Tryz.prog ++ Tryz.f5.resultTypes.toList).any (Tryz.prog.wideKeysFrom ·)))=true:=by kernel_rfl
theorem k19:(Rows.traceAgreesSpec.vars.all (Tryz.prog.varReadable ·))=true:=by kernel_rfl
theorem k20:(Tryz.f5.resultTypes.all (λ t=>Tryz.prog.readableRec t && decide (t < Tryz.prog.types.size)))=true:=by kernel_rfl
theorem k21:((Rows.traceAgreesRow.ifacesOut == Tryz.f5.resultTypes.toList.any (Tryz.prog.ifacesRec ·)))=true:=by kernel_rfl
theorem k22:((Rows.traceAgreesRow.loopsOut == Tryz.f5.resultTypes.toList.any (Tryz.prog.loopsFrom ·)))=true:=by kernel_rfl
theorem k23:((Rows.traceAgreesRow.plainKeys == Tryz.prog.plainKeys))=true:=by kernel_rfl
theorem k24:(Rows.traceAgreesRow.shortTexts.isNone)=true:=by kernel_rfl
theorem k27:((Rows.traceAgreesRow.lifted == Tryz.prog.liftsFinal))=true:=by kernel_rfl
theorem k28:((Tryz.prog.make == some Rows.traceAgreesRow.make))=true:=by kernel_rfl
theorem k29:((Rows.traceAgreesRow.kinds == (if Rows.traceAgreesRow.domain.isEmpty then [] else Tryz.f5.params.toList.map λ t=>match Tryz.prog.underlying t with | some (.int k)=>some k | _=>none)))=true:=by kernel_rfl
theorem k30:((Rows.traceAgreesRow.pinned == Rows.traceAgreesRow.pinnedBy))=true:=by kernel_rfl
theorem k31:((Rows.traceAgreesRow.veiled == (Tryz.f5.params.toList ++ Rows.traceAgreesSpec.plain.varTypes Tryz.prog ++ Tryz.f5.resultTypes.toList).any (Tryz.prog.veiledRec ·)))=true:=by kernel_rfl
theorem k32:(Rows.traceAgreesRow.veiledFits Tryz.prog Tryz.f5.params.toList (Tryz.f5.params.toList ++ Rows.traceAgreesSpec.plain.varTypes Tryz.prog ++ Tryz.f5.resultTypes.toList))=true:=by kernel_rfl
theorem facts:joinedFacts Tryz.prog 5 Tryz.f5 Rows.traceAgreesSpec Rows.traceAgreesRow=true:=by
  simp only [joinedFacts,Bool.and_eq_true]
  exact ⟨⟨⟨⟨⟨⟨⟨⟨⟨⟨⟨⟨⟨⟨⟨⟨⟨⟨⟨⟨⟨⟨⟨⟨⟨⟨⟨⟨⟨⟨⟨k1,k2⟩,k3⟩,k4⟩,k5⟩,k6⟩,k7⟩,k8⟩,k9⟩,k10⟩,k11⟩,k12⟩,k13⟩,k14⟩,k15⟩,k16⟩,k17⟩,k18⟩,k19⟩,k20⟩,k21⟩,k22⟩,k23⟩,k24⟩,k25⟩,k26⟩,k27⟩,k28⟩,k29⟩,k30⟩,k31⟩,k32⟩
theorem said:Rows.TraceAgreesSaid :=
  OpenClaim.holds_of_wide 5 Tryz.f5 rfl rfl rfl rfl rfl rfl rfl ⟨rfl,rfl,rfl,rfl,rfl⟩ rfl rfl rfl rfl rfl (by kernel_rfl) Tryz.func5 facts
    (of_decide_eq_true (by kernel_rfl)) (by unfold Func.isWrapper; first | (rw [if_pos (by decide +kernel)]; kernel_rfl) | (rw [if_neg (by decide +kernel)]; exact ⟨rfl,rfl⟩))
    (λ os started H enc _=>lifted2 (s:=Rows.traceAgreesSpec) ⟨rfl,λ _ _ _=>rfl⟩ Tryz.func5 (by kernel_rfl) (by kernel_rfl) (by kernel_rfl) (λ _ hr _ _ _ _ a a'=>calls_agrees aw_all hr a a' Tryz.func5 (by kernel_rfl) (by kernel_rfl)) os started H enc (by kernel_rfl) (by kernel_rfl) (by kernel_rfl))
end TraceAgrees
end Go.Proofs.YtdibeojmiobklaaGreatDoor
