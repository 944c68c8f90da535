/-
  ScriptLong: for every input that the card lets in the law answers true: a text of more than 65536 bytes is too long, the 1001st command is one too many; the examples of all layers are run by the kernel.
  Conditions: those of the card (the tables and errors of the library are tied to the text); no others.
-/
import Derived.Test.YtlahhbdihpbbgaaGreatDoorWc
import Derived.Test.YtlahhbdihpbbgaaGreatDoorWr
import Derived.Test.YtlahhbdihpbbgaaGreatDoorWd
set_option linter.unusedVariables false
set_option linter.unusedSimpArgs false
namespace Go.Proofs.YtlahhbdihpbbgaaGreatDoor
open Go Go.Ev Go.ChangeShapes Go.WideShapes Go.ChangeAt Go.RowKit
set_option maxRecDepth 100000
namespace ScriptLong
theorem k1:(Rows.scriptLongRow.wf (OpenSpec.ofChange Rows.scriptLongSpec))=true:=by kernel_rfl
theorem k4:(Tryz.f4.params.all (Tryz.prog.readableRec ·))=true:=by kernel_rfl
theorem k5:(namedTie Tryz.prog Rows.scriptLongRow.named Rows.scriptLongSpec.vars)=true:=by kernel_rfl
theorem k6:((Rows.scriptLongRow.stops == []))=true:=by kernel_rfl
theorem k8:((Rows.scriptLongRow.knobs == []))=true:=by kernel_rfl
theorem k10:((Rows.scriptLongRow.inPlace == Tryz.prog.inPlace 4))=true:=by
 unfold Program.inPlace
 rw [j3]
 kernel_rfl
theorem k11:((Rows.scriptLongRow.unfollowed == Tryz.prog.unfollowed 4))=true:=by
 unfold Program.unfollowed
 rw [j3]
 kernel_rfl
theorem k12:((Rows.scriptLongRow.recurses == Tryz.prog.recurses 4))=true:=by
 unfold Program.recurses Program.unfollowed
 rw [j3]
 kernel_rfl
theorem k13:((Rows.scriptLongRow.named == Tryz.prog.varsNamed 4))=true:=by
 unfold Program.varsNamed
 rw [j3]
 kernel_rfl
theorem k14:((Rows.scriptLongRow.maps == (Tryz.f4.params.toList ++ Rows.scriptLongSpec.plain.varTypes Tryz.prog).any (Tryz.prog.mapsRec ·)))=true:=by kernel_rfl
theorem k15:((Rows.scriptLongRow.ifaces == (Tryz.f4.params.toList ++ Rows.scriptLongSpec.plain.varTypes Tryz.prog).any (Tryz.prog.ifacesRec ·)))=true:=by kernel_rfl
theorem k16:((Rows.scriptLongRow.mapsOut == Tryz.prog.mapsAmong Tryz.f4.resultTypes.toList))=true:=by kernel_rfl
theorem k17:((Rows.scriptLongRow.loops == (Tryz.f4.params.toList ++ Rows.scriptLongSpec.plain.varTypes Tryz.prog).any (Tryz.prog.loopsFrom ·)))=true:=by kernel_rfl
theorem k18:((Rows.scriptLongRow.wideKeys == (Tryz.f4.params.toList ++ Rows.scriptLongSpec.plain.varTypes Tryz.prog ++ Tryz.f4.resultTypes.toList).any (Tryz.prog.wideKeysFrom ·)))=true:=by kernel_rfl
theorem k19:(Rows.scriptLongSpec.vars.all (Tryz.prog.varReadable ·))=true:=by kernel_rfl
theorem k20:(Tryz.f4.resultTypes.all (λ t=>Tryz.prog.readableRec t && decide (t < Tryz.prog.types.size)))=true:=by kernel_rfl
theorem k21:((Rows.scriptLongRow.ifacesOut == Tryz.f4.resultTypes.toList.any (Tryz.prog.ifacesRec ·)))=true:=by kernel_rfl
theorem k22:((Rows.scriptLongRow.loopsOut == Tryz.f4.resultTypes.toList.any (Tryz.prog.loopsFrom ·)))=true:=by kernel_rfl
theorem k23:((Rows.scriptLongRow.plainKeys == Tryz.prog.plainKeys))=true:=by kernel_rfl
theorem k24:(Rows.scriptLongRow.shortTexts.isNone)=true:=by kernel_rfl
theorem k27:((Rows.scriptLongRow.lifted == Tryz.prog.liftsFinal))=true:=by kernel_rfl
theorem k28:((Tryz.prog.make == some Rows.scriptLongRow.make))=true:=by kernel_rfl
theorem k29:((Rows.scriptLongRow.kinds == (if Rows.scriptLongRow.domain.isEmpty then [] else Tryz.f4.params.toList.map λ t=>match Tryz.prog.underlying t with | some (.int k)=>some k | _=>none)))=true:=by kernel_rfl
theorem k30:((Rows.scriptLongRow.pinned == Rows.scriptLongRow.pinnedBy))=true:=by kernel_rfl
theorem k31:((Rows.scriptLongRow.veiled == (Tryz.f4.params.toList ++ Rows.scriptLongSpec.plain.varTypes Tryz.prog ++ Tryz.f4.resultTypes.toList).any (Tryz.prog.veiledRec ·)))=true:=by kernel_rfl
theorem k32:(Rows.scriptLongRow.veiledFits Tryz.prog Tryz.f4.params.toList (Tryz.f4.params.toList ++ Rows.scriptLongSpec.plain.varTypes Tryz.prog ++ Tryz.f4.resultTypes.toList))=true:=by kernel_rfl
theorem facts:joinedFacts Tryz.prog 4 Tryz.f4 Rows.scriptLongSpec Rows.scriptLongRow=true:=by
 simp only [joinedFacts,Bool.and_eq_true]
 exact ⟨⟨⟨⟨⟨⟨⟨⟨⟨⟨⟨⟨⟨⟨⟨⟨⟨⟨⟨⟨⟨⟨⟨⟨⟨⟨⟨⟨⟨⟨⟨k1,k2⟩,k3⟩,k4⟩,k5⟩,k6⟩,k7⟩,k8⟩,k9⟩,k10⟩,k11⟩,k12⟩,k13⟩,k14⟩,k15⟩,k16⟩,k17⟩,k18⟩,k19⟩,k20⟩,k21⟩,k22⟩,k23⟩,k24⟩,k25⟩,k26⟩,k27⟩,k28⟩,k29⟩,k30⟩,k31⟩,k32⟩
theorem said:Rows.ScriptLongSaid :=
 OpenClaim.holds_of_wide 4 Tryz.f4 rfl rfl rfl rfl rfl rfl rfl ⟨rfl,rfl,rfl,rfl,rfl⟩ rfl rfl rfl rfl rfl (by kernel_rfl) Tryz.func4 facts
  (of_decide_eq_true (by kernel_rfl)) (by unfold Func.isWrapper; first | (rw [if_pos (by decide +kernel)]; kernel_rfl) | (rw [if_neg (by decide +kernel)]; exact ⟨rfl,rfl⟩))
  (λ os started H enc _=>Lo (s:=Rows.scriptLongSpec) ⟨rfl,λ _ _=>rfl⟩ Tryz.func4 (by kernel_rfl) (by kernel_rfl) (by kernel_rfl) (λ W m u off B hr n hn=>uw Zx hr n hn Tryz.func4 (by kernel_rfl) (by kernel_rfl)) os started H enc (by kernel_rfl) (by kernel_rfl) (by kernel_rfl))
end ScriptLong
end Go.Proofs.YtlahhbdihpbbgaaGreatDoor
