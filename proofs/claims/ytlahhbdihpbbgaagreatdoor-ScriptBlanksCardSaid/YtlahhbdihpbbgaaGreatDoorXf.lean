/-
  ScriptBlanks: for every input that the card lets in the law answers true: more blanks change no command of any text; the examples of all layers are run by the kernel.
  Conditions: those of the card (the tables and errors of the library are tied to the text); no others.
-/
import Derived.Test.YtlahhbdihpbbgaaGreatDoorXc
import Derived.Test.YtlahhbdihpbbgaaGreatDoorWr
import Derived.Test.YtlahhbdihpbbgaaGreatDoorXd
set_option linter.unusedVariables false
set_option linter.unusedSimpArgs false
namespace Go.Proofs.YtlahhbdihpbbgaaGreatDoor
open Go Go.Ev Go.ChangeShapes Go.WideShapes Go.ChangeAt Go.RowKit
set_option maxRecDepth 100000
namespace ScriptBlanks
theorem k1:(Rows.scriptBlanksRow.wf (OpenSpec.ofChange Rows.scriptBlanksSpec))=true:=by kernel_rfl
theorem k4:(Tryz.f5.params.all (Tryz.prog.readableRec ·))=true:=by kernel_rfl
theorem k5:(namedTie Tryz.prog Rows.scriptBlanksRow.named Rows.scriptBlanksSpec.vars)=true:=by kernel_rfl
theorem k6:((Rows.scriptBlanksRow.stops == []))=true:=by kernel_rfl
theorem k8:((Rows.scriptBlanksRow.knobs == []))=true:=by kernel_rfl
theorem k10:((Rows.scriptBlanksRow.inPlace == Tryz.prog.inPlace 5))=true:=by
 unfold Program.inPlace
 rw [j3]
 kernel_rfl
theorem k11:((Rows.scriptBlanksRow.unfollowed == Tryz.prog.unfollowed 5))=true:=by
 unfold Program.unfollowed
 rw [j3]
 kernel_rfl
theorem k12:((Rows.scriptBlanksRow.recurses == Tryz.prog.recurses 5))=true:=by
 unfold Program.recurses Program.unfollowed
 rw [j3]
 kernel_rfl
theorem k13:((Rows.scriptBlanksRow.named == Tryz.prog.varsNamed 5))=true:=by
 unfold Program.varsNamed
 rw [j3]
 kernel_rfl
theorem k14:((Rows.scriptBlanksRow.maps == (Tryz.f5.params.toList ++ Rows.scriptBlanksSpec.plain.varTypes Tryz.prog).any (Tryz.prog.mapsRec ·)))=true:=by kernel_rfl
theorem k15:((Rows.scriptBlanksRow.ifaces == (Tryz.f5.params.toList ++ Rows.scriptBlanksSpec.plain.varTypes Tryz.prog).any (Tryz.prog.ifacesRec ·)))=true:=by kernel_rfl
theorem k16:((Rows.scriptBlanksRow.mapsOut == Tryz.prog.mapsAmong Tryz.f5.resultTypes.toList))=true:=by kernel_rfl
theorem k17:((Rows.scriptBlanksRow.loops == (Tryz.f5.params.toList ++ Rows.scriptBlanksSpec.plain.varTypes Tryz.prog).any (Tryz.prog.loopsFrom ·)))=true:=by kernel_rfl
theorem k18:((Rows.scriptBlanksRow.wideKeys == (Tryz.f5.params.toList ++ Rows.scriptBlanksSpec.plain.varTypes Tryz.prog ++ Tryz.f5.resultTypes.toList).any (Tryz.prog.wideKeysFrom ·)))=true:=by kernel_rfl
theorem k19:(Rows.scriptBlanksSpec.vars.all (Tryz.prog.varReadable ·))=true:=by kernel_rfl
theorem k20:(Tryz.f5.resultTypes.all (λ t=>Tryz.prog.readableRec t && decide (t < Tryz.prog.types.size)))=true:=by kernel_rfl
theorem k21:((Rows.scriptBlanksRow.ifacesOut == Tryz.f5.resultTypes.toList.any (Tryz.prog.ifacesRec ·)))=true:=by kernel_rfl
theorem k22:((Rows.scriptBlanksRow.loopsOut == Tryz.f5.resultTypes.toList.any (Tryz.prog.loopsFrom ·)))=true:=by kernel_rfl
theorem k23:((Rows.scriptBlanksRow.plainKeys == Tryz.prog.plainKeys))=true:=by kernel_rfl
theorem k24:(Rows.scriptBlanksRow.shortTexts.isNone)=true:=by kernel_rfl
theorem k27:((Rows.scriptBlanksRow.lifted == Tryz.prog.liftsFinal))=true:=by kernel_rfl
theorem k28:((Tryz.prog.make == some Rows.scriptBlanksRow.make))=true:=by kernel_rfl
theorem k29:((Rows.scriptBlanksRow.kinds == (if Rows.scriptBlanksRow.domain.isEmpty then [] else Tryz.f5.params.toList.map λ t=>match Tryz.prog.underlying t with | some (.int k)=>some k | _=>none)))=true:=by kernel_rfl
theorem k30:((Rows.scriptBlanksRow.pinned == Rows.scriptBlanksRow.pinnedBy))=true:=by kernel_rfl
theorem k31:((Rows.scriptBlanksRow.veiled == (Tryz.f5.params.toList ++ Rows.scriptBlanksSpec.plain.varTypes Tryz.prog ++ Tryz.f5.resultTypes.toList).any (Tryz.prog.veiledRec ·)))=true:=by kernel_rfl
theorem k32:(Rows.scriptBlanksRow.veiledFits Tryz.prog Tryz.f5.params.toList (Tryz.f5.params.toList ++ Rows.scriptBlanksSpec.plain.varTypes Tryz.prog ++ Tryz.f5.resultTypes.toList))=true:=by kernel_rfl
theorem facts:joinedFacts Tryz.prog 5 Tryz.f5 Rows.scriptBlanksSpec Rows.scriptBlanksRow=true:=by
 simp only [joinedFacts,Bool.and_eq_true]
 exact ⟨⟨⟨⟨⟨⟨⟨⟨⟨⟨⟨⟨⟨⟨⟨⟨⟨⟨⟨⟨⟨⟨⟨⟨⟨⟨⟨⟨⟨⟨⟨k1,k2⟩,k3⟩,k4⟩,k5⟩,k6⟩,k7⟩,k8⟩,k9⟩,k10⟩,k11⟩,k12⟩,k13⟩,k14⟩,k15⟩,k16⟩,k17⟩,k18⟩,k19⟩,k20⟩,k21⟩,k22⟩,k23⟩,k24⟩,k25⟩,k26⟩,k27⟩,k28⟩,k29⟩,k30⟩,k31⟩,k32⟩
theorem said:Rows.ScriptBlanksSaid :=
 OpenClaim.holds_of_wide 5 Tryz.f5 rfl rfl rfl rfl rfl rfl rfl ⟨rfl,rfl,rfl,rfl,rfl⟩ rfl rfl rfl rfl rfl (by kernel_rfl) Tryz.func5 facts
  (of_decide_eq_true (by kernel_rfl)) (by unfold Func.isWrapper; first | (rw [if_pos (by decide +kernel)]; kernel_rfl) | (rw [if_neg (by decide +kernel)]; exact ⟨rfl,rfl⟩))
  (λ os started H enc _=>Lo (s:=Rows.scriptBlanksSpec) ⟨rfl,λ _ _=>rfl⟩ Tryz.func5 (by kernel_rfl) (by kernel_rfl) (by kernel_rfl) (λ W m u off B hr s _=>ahi Zx hr s Tryz.func5 (by kernel_rfl) (by kernel_rfl)) os started H enc (by kernel_rfl) (by kernel_rfl) (by kernel_rfl))
end ScriptBlanks
end Go.Proofs.YtlahhbdihpbbgaaGreatDoor
