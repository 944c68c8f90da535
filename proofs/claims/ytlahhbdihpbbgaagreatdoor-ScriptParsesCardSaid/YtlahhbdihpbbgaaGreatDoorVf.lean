/-
  ScriptParses: for every input that the card lets in the law answers true: any text is parsed as the document says; the examples of all layers are run 
-/
import Derived.Test.YtlahhbdihpbbgaaGreatDoorVc
import Derived.Test.YtlahhbdihpbbgaaGreatDoorVr
import Derived.Test.YtlahhbdihpbbgaaGreatDoorVd
noncomputable section
set_option linter.unusedVariables false
set_option linter.unusedSimpArgs false
set_option maxRecDepth 100000
open Nat (ble beq)
namespace Go.Proofs.YtlahhbdihpbbgaaGreatDoor
open Go Go.Ev Go.ChangeShapes Go.WideShapes Go.ChangeAt Go.RowKit
namespace ScriptParses
theorem k1:(Rows.scriptParsesRow.wf (OpenSpec.ofChange Rows.scriptParsesSpec))=true:=by kernel_rfl
theorem k4:(Tryz.f3.params.all (Tryz.prog.readableRec ·))=true:=by kernel_rfl
theorem k5:(namedTie Tryz.prog Rows.scriptParsesRow.named Rows.scriptParsesSpec.vars)=true:=by kernel_rfl
theorem k6:((Rows.scriptParsesRow.stops==[]))=true:=by kernel_rfl
theorem k8:((Rows.scriptParsesRow.knobs==[]))=true:=by kernel_rfl
theorem k10:((Rows.scriptParsesRow.inPlace==Tryz.prog.inPlace 3))=true:=by
 unfold Program.inPlace;rw[j3]
 kernel_rfl
theorem k11:((Rows.scriptParsesRow.unfollowed==Tryz.prog.unfollowed 3))=true:=by
 unfold Program.unfollowed;rw[j3]
 kernel_rfl
theorem k12:((Rows.scriptParsesRow.recurses==Tryz.prog.recurses 3))=true:=by
 unfold Program.recurses Program.unfollowed;rw[j3]
 kernel_rfl
theorem k13:((Rows.scriptParsesRow.named==Tryz.prog.varsNamed 3))=true:=by
 unfold Program.varsNamed;rw[j3]
 kernel_rfl
theorem k14:((Rows.scriptParsesRow.maps==(Tryz.f3.params.toList++Rows.scriptParsesSpec.plain.varTypes Tryz.prog).any (Tryz.prog.mapsRec ·)))=true:=by kernel_rfl
theorem k15:((Rows.scriptParsesRow.ifaces==(Tryz.f3.params.toList++Rows.scriptParsesSpec.plain.varTypes Tryz.prog).any (Tryz.prog.ifacesRec ·)))=true:=by kernel_rfl
theorem k16:((Rows.scriptParsesRow.mapsOut==Tryz.prog.mapsAmong Tryz.f3.resultTypes.toList))=true:=by kernel_rfl
theorem k17:((Rows.scriptParsesRow.loops==(Tryz.f3.params.toList++Rows.scriptParsesSpec.plain.varTypes Tryz.prog).any (Tryz.prog.loopsFrom ·)))=true:=by kernel_rfl
theorem k18:((Rows.scriptParsesRow.wideKeys==(Tryz.f3.params.toList++Rows.scriptParsesSpec.plain.varTypes Tryz.prog++Tryz.f3.resultTypes.toList).any (Tryz.prog.wideKeysFrom ·)))=true:=by kernel_rfl
theorem k19:(Rows.scriptParsesSpec.vars.all (Tryz.prog.varReadable ·))=true:=by kernel_rfl
theorem k20:(Tryz.f3.resultTypes.all (λt=>Tryz.prog.readableRec t&&decide (t<Tryz.prog.types.size)))=true:=by kernel_rfl
theorem k21:((Rows.scriptParsesRow.ifacesOut==Tryz.f3.resultTypes.toList.any (Tryz.prog.ifacesRec ·)))=true:=by kernel_rfl
theorem k22:((Rows.scriptParsesRow.loopsOut==Tryz.f3.resultTypes.toList.any (Tryz.prog.loopsFrom ·)))=true:=by kernel_rfl
theorem k23:((Rows.scriptParsesRow.plainKeys==Tryz.prog.plainKeys))=true:=by kernel_rfl
theorem k24:(Rows.scriptParsesRow.shortTexts.isNone)=true:=by kernel_rfl
theorem k27:((Rows.scriptParsesRow.lifted==Tryz.prog.liftsFinal))=true:=by kernel_rfl
theorem k28:((Tryz.prog.make==some Rows.scriptParsesRow.make))=true:=by kernel_rfl
theorem k29:((Rows.scriptParsesRow.kinds==(if Rows.scriptParsesRow.domain.isEmpty then [] else Tryz.f3.params.toList.map λt=>match Tryz.prog.underlying t with | some (.int k)=>some k | _=>none)))=true:=by kernel_rfl
theorem k30:((Rows.scriptParsesRow.pinned==Rows.scriptParsesRow.pinnedBy))=true:=by kernel_rfl
theorem k31:((Rows.scriptParsesRow.veiled==(Tryz.f3.params.toList++Rows.scriptParsesSpec.plain.varTypes Tryz.prog++Tryz.f3.resultTypes.toList).any (Tryz.prog.veiledRec ·)))=true:=by kernel_rfl
theorem k32:(Rows.scriptParsesRow.veiledFits Tryz.prog Tryz.f3.params.toList (Tryz.f3.params.toList++Rows.scriptParsesSpec.plain.varTypes Tryz.prog++Tryz.f3.resultTypes.toList))=true:=by kernel_rfl
theorem facts:joinedFacts Tryz.prog 3 Tryz.f3 Rows.scriptParsesSpec Rows.scriptParsesRow=true:=by simp only[joinedFacts,Bool.and_eq_true];exact⟨⟨⟨⟨⟨⟨⟨⟨⟨⟨⟨⟨⟨⟨⟨⟨⟨⟨⟨⟨⟨⟨⟨⟨⟨⟨⟨⟨⟨⟨⟨k1,k2⟩,k3⟩,k4⟩,k5⟩,k6⟩,k7⟩,k8⟩,k9⟩,k10⟩,k11⟩,k12⟩,k13⟩,k14⟩,k15⟩,k16⟩,k17⟩,k18⟩,k19⟩,k20⟩,k21⟩,k22⟩,k23⟩,k24⟩,k25⟩,k26⟩,k27⟩,k28⟩,k29⟩,k30⟩,k31⟩,k32⟩
theorem said:Rows.ScriptParsesSaid:=
 OpenClaim.holds_of_wide 3 Tryz.f3 rfl rfl rfl rfl rfl rfl rfl ⟨rfl,rfl,rfl,rfl,rfl⟩ rfl rfl rfl rfl rfl (by kernel_rfl) Tryz.func3 facts
  (of_decide_eq_true (by kernel_rfl)) (by unfold Func.isWrapper;first | (rw[if_pos (by decide +kernel)];kernel_rfl) | (rw[if_neg (by decide +kernel)];exact⟨rfl,rfl⟩))
  (λos started H enc _=>Lo (s:=Rows.scriptParsesSpec) ⟨rfl,λ_ _=>rfl⟩ Tryz.func3 (by kernel_rfl) (by kernel_rfl) (by kernel_rfl) (λW m u off B hr s _=>arq Zx hr s Tryz.func3 (by kernel_rfl) (by kernel_rfl)) os started H enc (by kernel_rfl) (by kernel_rfl) (by kernel_rfl))
end ScriptParses
end Go.Proofs.YtlahhbdihpbbgaaGreatDoor
