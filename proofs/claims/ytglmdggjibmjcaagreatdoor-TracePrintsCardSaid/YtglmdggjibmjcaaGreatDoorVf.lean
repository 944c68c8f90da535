/-
  TracePrints: for every input that the card lets in the law answers true: any commands are printed as the document says, or refused for the same reason; the examples of all layers are run by the kernel. Conditions: those of the card (the tables and errors of the library are tied to the text); no othe
-/
import Derived.Test.YtglmdggjibmjcaaGreatDoorVc
import Derived.Test.YtglmdggjibmjcaaGreatDoorVr
import Derived.Test.YtglmdggjibmjcaaGreatDoorVd
noncomputable section
set_option linter.unusedVariables false
set_option linter.unusedSimpArgs false
set_option maxRecDepth 100000
open Nat (ble beq)
namespace Go.Proofs.YtglmdggjibmjcaaGreatDoor
open Go Go.Ev Go.ChangeShapes Go.WideShapes Go.ChangeAt Go.RowKit
namespace TracePrints
theorem k1:(Rows.tracePrintsRow.wf (OpenSpec.ofChange Rows.tracePrintsSpec))=true:=by kernel_rfl
theorem k4:(Tryz.f3.params.all (Tryz.prog.readableRec ·))=true:=by kernel_rfl
theorem k5:(namedTie Tryz.prog Rows.tracePrintsRow.named Rows.tracePrintsSpec.vars)=true:=by kernel_rfl
theorem k6:((Rows.tracePrintsRow.stops==[]))=true:=by kernel_rfl
theorem k8:((Rows.tracePrintsRow.knobs==[]))=true:=by kernel_rfl
theorem k10:((Rows.tracePrintsRow.inPlace==Tryz.prog.inPlace 3))=true:=by
 unfold Program.inPlace;rw[lU]
 kernel_rfl
theorem k11:((Rows.tracePrintsRow.unfollowed==Tryz.prog.unfollowed 3))=true:=by
 unfold Program.unfollowed;rw[lU]
 kernel_rfl
theorem k12:((Rows.tracePrintsRow.recurses==Tryz.prog.recurses 3))=true:=by
 unfold Program.recurses Program.unfollowed;rw[lU]
 kernel_rfl
theorem k13:((Rows.tracePrintsRow.named==Tryz.prog.varsNamed 3))=true:=by
 unfold Program.varsNamed;rw[lU]
 kernel_rfl
theorem k14:((Rows.tracePrintsRow.maps==(Tryz.f3.params.toList++Rows.tracePrintsSpec.plain.varTypes Tryz.prog).any (Tryz.prog.mapsRec ·)))=true:=by kernel_rfl
theorem k15:((Rows.tracePrintsRow.ifaces==(Tryz.f3.params.toList++Rows.tracePrintsSpec.plain.varTypes Tryz.prog).any (Tryz.prog.ifacesRec ·)))=true:=by kernel_rfl
theorem k16:((Rows.tracePrintsRow.mapsOut==Tryz.prog.mapsAmong Tryz.f3.resultTypes.toList))=true:=by kernel_rfl
theorem k17:((Rows.tracePrintsRow.loops==(Tryz.f3.params.toList++Rows.tracePrintsSpec.plain.varTypes Tryz.prog).any (Tryz.prog.loopsFrom ·)))=true:=by kernel_rfl
theorem k18:((Rows.tracePrintsRow.wideKeys==(Tryz.f3.params.toList++Rows.tracePrintsSpec.plain.varTypes Tryz.prog++Tryz.f3.resultTypes.toList).any (Tryz.prog.wideKeysFrom ·)))=true:=by kernel_rfl
theorem k19:(Rows.tracePrintsSpec.vars.all (Tryz.prog.varReadable ·))=true:=by kernel_rfl
theorem k20:(Tryz.f3.resultTypes.all (λt=>Tryz.prog.readableRec t&&decide (t<Tryz.prog.types.size)))=true:=by kernel_rfl
theorem k21:((Rows.tracePrintsRow.ifacesOut==Tryz.f3.resultTypes.toList.any (Tryz.prog.ifacesRec ·)))=true:=by kernel_rfl
theorem k22:((Rows.tracePrintsRow.loopsOut==Tryz.f3.resultTypes.toList.any (Tryz.prog.loopsFrom ·)))=true:=by kernel_rfl
theorem k23:((Rows.tracePrintsRow.plainKeys==Tryz.prog.plainKeys))=true:=by kernel_rfl
theorem k24:(Rows.tracePrintsRow.shortTexts.isNone)=true:=by kernel_rfl
theorem k27:((Rows.tracePrintsRow.lifted==Tryz.prog.liftsFinal))=true:=by kernel_rfl
theorem k28:((Tryz.prog.make==some Rows.tracePrintsRow.make))=true:=by kernel_rfl
theorem k29:((Rows.tracePrintsRow.kinds==(if Rows.tracePrintsRow.domain.isEmpty then [] else Tryz.f3.params.toList.map λt=>match Tryz.prog.underlying t with | some (.int k)=>some k | _=>none)))=true:=by kernel_rfl
theorem k30:((Rows.tracePrintsRow.pinned==Rows.tracePrintsRow.pinnedBy))=true:=by kernel_rfl
theorem k31:((Rows.tracePrintsRow.veiled==(Tryz.f3.params.toList++Rows.tracePrintsSpec.plain.varTypes Tryz.prog++Tryz.f3.resultTypes.toList).any (Tryz.prog.veiledRec ·)))=true:=by kernel_rfl
theorem k32:(Rows.tracePrintsRow.veiledFits Tryz.prog Tryz.f3.params.toList (Tryz.f3.params.toList++Rows.tracePrintsSpec.plain.varTypes Tryz.prog++Tryz.f3.resultTypes.toList))=true:=by kernel_rfl
theorem facts:joinedFacts Tryz.prog 3 Tryz.f3 Rows.tracePrintsSpec Rows.tracePrintsRow=true:=by simp only[joinedFacts,Bool.and_eq_true];exact⟨⟨⟨⟨⟨⟨⟨⟨⟨⟨⟨⟨⟨⟨⟨⟨⟨⟨⟨⟨⟨⟨⟨⟨⟨⟨⟨⟨⟨⟨⟨k1,k2⟩,k3⟩,k4⟩,k5⟩,k6⟩,k7⟩,k8⟩,k9⟩,k10⟩,k11⟩,k12⟩,k13⟩,k14⟩,k15⟩,k16⟩,k17⟩,k18⟩,k19⟩,k20⟩,k21⟩,k22⟩,k23⟩,k24⟩,k25⟩,k26⟩,k27⟩,k28⟩,k29⟩,k30⟩,k31⟩,k32⟩
theorem said:Rows.TracePrintsSaid:=
 OpenClaim.holds_of_wide 3 Tryz.f3 rfl rfl rfl rfl rfl rfl rfl ⟨rfl,rfl,rfl,rfl,rfl⟩ rfl rfl rfl rfl rfl (by kernel_rfl) Tryz.func3 facts
  (of_decide_eq_true (by kernel_rfl)) (by unfold Func.isWrapper;first | (rw[if_pos (by decide +kernel)];kernel_rfl) | (rw[if_neg (by decide +kernel)];exact⟨rfl,rfl⟩))
  (λos started H enc _=>Pq (s:=Rows.tracePrintsSpec) ⟨rfl,λ_ _ _ _=>rfl⟩ Tryz.func3 (by kernel_rfl) (by kernel_rfl) (by kernel_rfl) (λ_ hr _ _ _ _ _ _ z0 z1 a z2=>rS aeX hr a z2 z0 z1 Tryz.func3 (by kernel_rfl) (by kernel_rfl)) os started H enc (by kernel_rfl) (by kernel_rfl) (by kernel_rfl))
end TracePrints
end Go.Proofs.YtglmdggjibmjcaaGreatDoor
