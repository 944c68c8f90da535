/-
  ScriptWords: for every input that the card lets in the law answers true: the words of any two texts are told apart; the examples of all layers are run by the kernel.
  Conditions: those of the card (the tables and errors of the library are tied to the text); no others.
-/
import Derived.Test.YtdibeojmiobklaaGreatDoorWc
import Derived.Test.YtdibeojmiobklaaGreatDoorWr
import Derived.Test.YtdibeojmiobklaaGreatDoorWd
set_option linter.unusedVariables false
set_option linter.unusedSimpArgs false
namespace Go.Proofs.YtdibeojmiobklaaGreatDoor
open Go Go.Ev Go.ChangeShapes Go.WideShapes Go.ChangeAt Go.RowKit
set_option maxRecDepth 100000
namespace ScriptWords
theorem k1:(Rows.scriptWordsRow.wf (OpenSpec.ofChange Rows.scriptWordsSpec))=true:=by kernel_rfl
theorem k4:(Tryz.f4.params.all (Tryz.prog.readableRec ·))=true:=by kernel_rfl
theorem k5:(namedTie Tryz.prog Rows.scriptWordsRow.named Rows.scriptWordsSpec.vars)=true:=by kernel_rfl
theorem k6:((Rows.scriptWordsRow.stops == []))=true:=by kernel_rfl
theorem k8:((Rows.scriptWordsRow.knobs == []))=true:=by kernel_rfl
theorem k10:((Rows.scriptWordsRow.inPlace == Tryz.prog.inPlace 4))=true:=by
  unfold Program.inPlace
  rw [closure4]
  kernel_rfl
theorem k11:((Rows.scriptWordsRow.unfollowed == Tryz.prog.unfollowed 4))=true:=by
  unfold Program.unfollowed
  rw [closure4]
  kernel_rfl
theorem k12:((Rows.scriptWordsRow.recurses == Tryz.prog.recurses 4))=true:=by
  unfold Program.recurses Program.unfollowed
  rw [closure4]
  kernel_rfl
theorem k13:((Rows.scriptWordsRow.named == Tryz.prog.varsNamed 4))=true:=by
  unfold Program.varsNamed
  rw [closure4]
  kernel_rfl
theorem k14:((Rows.scriptWordsRow.maps == (Tryz.f4.params.toList ++ Rows.scriptWordsSpec.plain.varTypes Tryz.prog).any (Tryz.prog.mapsRec ·)))=true:=by kernel_rfl
theorem k15:((Rows.scriptWordsRow.ifaces == (Tryz.f4.params.toList ++ Rows.scriptWordsSpec.plain.varTypes Tryz.prog).any (Tryz.prog.ifacesRec ·)))=true:=by kernel_rfl
theorem k16:((Rows.scriptWordsRow.mapsOut == Tryz.prog.mapsAmong Tryz.f4.resultTypes.toList))=true:=by kernel_rfl
theorem k17:((Rows.scriptWordsRow.loops == (Tryz.f4.params.toList ++ Rows.scriptWordsSpec.plain.varTypes Tryz.prog).any (Tryz.prog.loopsFrom ·)))=true:=by kernel_rfl
theorem k18:((Rows.scriptWordsRow.wideKeys == (Tryz.f4.params.toList ++ Rows.scriptWordsSpec.plain.varTypes Tryz.prog ++ Tryz.f4.resultTypes.toList).any (Tryz.prog.wideKeysFrom ·)))=true:=by kernel_rfl
theorem k19:(Rows.scriptWordsSpec.vars.all (Tryz.prog.varReadable ·))=true:=by kernel_rfl
theorem k20:(Tryz.f4.resultTypes.all (λ t=>Tryz.prog.readableRec t && decide (t < Tryz.prog.types.size)))=true:=by kernel_rfl
theorem k21:((Rows.scriptWordsRow.ifacesOut == Tryz.f4.resultTypes.toList.any (Tryz.prog.ifacesRec ·)))=true:=by kernel_rfl
theorem k22:((Rows.scriptWordsRow.loopsOut == Tryz.f4.resultTypes.toList.any (Tryz.prog.loopsFrom ·)))=true:=by kernel_rfl
theorem k23:((Rows.scriptWordsRow.plainKeys == Tryz.prog.plainKeys))=true:=by kernel_rfl
theorem k24:(Rows.scriptWordsRow.shortTexts.isNone)=true:=by kernel_rfl
theorem k27:((Rows.scriptWordsRow.lifted == Tryz.prog.liftsFinal))=true:=by kernel_rfl
theorem k28:((Tryz.prog.make == some Rows.scriptWordsRow.make))=true:=by kernel_rfl
theorem k29:((Rows.scriptWordsRow.kinds == (if Rows.scriptWordsRow.domain.isEmpty then [] else Tryz.f4.params.toList.map λ t=>match Tryz.prog.underlying t with | some (.int k)=>some k | _=>none)))=true:=by kernel_rfl
theorem k30:((Rows.scriptWordsRow.pinned == Rows.scriptWordsRow.pinnedBy))=true:=by kernel_rfl
theorem k31:((Rows.scriptWordsRow.veiled == (Tryz.f4.params.toList ++ Rows.scriptWordsSpec.plain.varTypes Tryz.prog ++ Tryz.f4.resultTypes.toList).any (Tryz.prog.veiledRec ·)))=true:=by kernel_rfl
theorem k32:(Rows.scriptWordsRow.veiledFits Tryz.prog Tryz.f4.params.toList (Tryz.f4.params.toList ++ Rows.scriptWordsSpec.plain.varTypes Tryz.prog ++ Tryz.f4.resultTypes.toList))=true:=by kernel_rfl
theorem facts:joinedFacts Tryz.prog 4 Tryz.f4 Rows.scriptWordsSpec Rows.scriptWordsRow=true:=by
  simp only [joinedFacts,Bool.and_eq_true]
  exact ⟨⟨⟨⟨⟨⟨⟨⟨⟨⟨⟨⟨⟨⟨⟨⟨⟨⟨⟨⟨⟨⟨⟨⟨⟨⟨⟨⟨⟨⟨⟨k1,k2⟩,k3⟩,k4⟩,k5⟩,k6⟩,k7⟩,k8⟩,k9⟩,k10⟩,k11⟩,k12⟩,k13⟩,k14⟩,k15⟩,k16⟩,k17⟩,k18⟩,k19⟩,k20⟩,k21⟩,k22⟩,k23⟩,k24⟩,k25⟩,k26⟩,k27⟩,k28⟩,k29⟩,k30⟩,k31⟩,k32⟩
theorem said:Rows.ScriptWordsSaid :=
  OpenClaim.holds_of_wide 4 Tryz.f4 rfl rfl rfl rfl rfl rfl rfl ⟨rfl,rfl,rfl,rfl,rfl⟩ rfl rfl rfl rfl rfl (by kernel_rfl) Tryz.func4 facts
    (of_decide_eq_true (by kernel_rfl)) (by unfold Func.isWrapper; first | (rw [if_pos (by decide +kernel)]; kernel_rfl) | (rw [if_neg (by decide +kernel)]; exact ⟨rfl,rfl⟩))
    (λ os started H enc _=>lifted2 (s:=Rows.scriptWordsSpec) ⟨rfl,λ _ _ _=>rfl⟩ Tryz.func4 (by kernel_rfl) (by kernel_rfl) (by kernel_rfl) (λ _ hr s t=>calls_words aw_all hr s t Tryz.func4 (by kernel_rfl) (by kernel_rfl)) os started H enc (by kernel_rfl) (by kernel_rfl) (by kernel_rfl))
end ScriptWords
end Go.Proofs.YtdibeojmiobklaaGreatDoor
