/-
  TraceBack: for every input that the card lets in the law answers true: what is printed is parsed as it was, and what is parsed of any text is printed, and parsed again, the same, but for lines; the examples of all layers are run by the kernel. Conditions: those of the card (the tables and errors of 
-/
import Derived.Test.YtglmdggjibmjcaaGreatDoorZc
import Derived.Test.YtglmdggjibmjcaaGreatDoorZd
noncomputable section
set_option linter.all false
set_option maxRecDepth 100000
open Nat (ble beq)
namespace Go.Proofs.YtglmdggjibmjcaaGreatDoor
open Go Go.Ev Go.ChangeShapes Go.WideShapes Go.ChangeAt Go.RowKit
namespace TraceBack
def k1:(Rows.traceBackRow.wf (OpenSpec.ofChange Rows.traceBackSpec))=true:=by kernel_rfl
def k4:(Tryz.f4.params.all (Tryz.prog.readableRec ·))=true:=by kernel_rfl
def k5:(namedTie Tryz.prog Rows.traceBackRow.named Rows.traceBackSpec.vars)=true:=by kernel_rfl
def k6:((Rows.traceBackRow.stops==[]))=true:=by kernel_rfl
def k8:((Rows.traceBackRow.knobs==[]))=true:=by kernel_rfl
def k10:((Rows.traceBackRow.inPlace==Tryz.prog.inPlace 4))=true:=by
 unfold Program.inPlace;rw[nE]
 kernel_rfl
def k11:((Rows.traceBackRow.unfollowed==Tryz.prog.unfollowed 4))=true:=by
 unfold Program.unfollowed;rw[nE]
 kernel_rfl
def k12:((Rows.traceBackRow.recurses==Tryz.prog.recurses 4))=true:=by
 unfold Program.recurses Program.unfollowed;rw[nE]
 kernel_rfl
def k13:((Rows.traceBackRow.named==Tryz.prog.varsNamed 4))=true:=by
 unfold Program.varsNamed;rw[nE]
 kernel_rfl
def k14:((Rows.traceBackRow.maps==(Tryz.f4.params.toList++Rows.traceBackSpec.plain.varTypes Tryz.prog).any (Tryz.prog.mapsRec ·)))=true:=by kernel_rfl
def k15:((Rows.traceBackRow.ifaces==(Tryz.f4.params.toList++Rows.traceBackSpec.plain.varTypes Tryz.prog).any (Tryz.prog.ifacesRec ·)))=true:=by kernel_rfl
def k16:((Rows.traceBackRow.mapsOut==Tryz.prog.mapsAmong Tryz.f4.resultTypes.toList))=true:=by kernel_rfl
def k17:((Rows.traceBackRow.loops==(Tryz.f4.params.toList++Rows.traceBackSpec.plain.varTypes Tryz.prog).any (Tryz.prog.loopsFrom ·)))=true:=by kernel_rfl
def k18:((Rows.traceBackRow.wideKeys==(Tryz.f4.params.toList++Rows.traceBackSpec.plain.varTypes Tryz.prog++Tryz.f4.resultTypes.toList).any (Tryz.prog.wideKeysFrom ·)))=true:=by kernel_rfl
def k19:(Rows.traceBackSpec.vars.all (Tryz.prog.varReadable ·))=true:=by kernel_rfl
def k20:(Tryz.f4.resultTypes.all (λt=>Tryz.prog.readableRec t&&decide (t<Tryz.prog.types.size)))=true:=by kernel_rfl
def k21:((Rows.traceBackRow.ifacesOut==Tryz.f4.resultTypes.toList.any (Tryz.prog.ifacesRec ·)))=true:=by kernel_rfl
def k22:((Rows.traceBackRow.loopsOut==Tryz.f4.resultTypes.toList.any (Tryz.prog.loopsFrom ·)))=true:=by kernel_rfl
def k23:((Rows.traceBackRow.plainKeys==Tryz.prog.plainKeys))=true:=by kernel_rfl
def k24:(Rows.traceBackRow.shortTexts.isNone)=true:=by kernel_rfl
def k27:((Rows.traceBackRow.lifted==Tryz.prog.liftsFinal))=true:=by kernel_rfl
def k28:((Tryz.prog.make==some Rows.traceBackRow.make))=true:=by kernel_rfl
def k29:((Rows.traceBackRow.kinds==(if Rows.traceBackRow.domain.isEmpty then [] else Tryz.f4.params.toList.map λt=>match Tryz.prog.underlying t with | some (.int k)=>some k | _=>none)))=true:=by kernel_rfl
def k30:((Rows.traceBackRow.pinned==Rows.traceBackRow.pinnedBy))=true:=by kernel_rfl
def k31:((Rows.traceBackRow.veiled==(Tryz.f4.params.toList++Rows.traceBackSpec.plain.varTypes Tryz.prog++Tryz.f4.resultTypes.toList).any (Tryz.prog.veiledRec ·)))=true:=by kernel_rfl
def k32:(Rows.traceBackRow.veiledFits Tryz.prog Tryz.f4.params.toList (Tryz.f4.params.toList++Rows.traceBackSpec.plain.varTypes Tryz.prog++Tryz.f4.resultTypes.toList))=true:=by kernel_rfl
def facts:joinedFacts Tryz.prog 4 Tryz.f4 Rows.traceBackSpec Rows.traceBackRow=true:=by simp only[joinedFacts,Ja];exact⟨⟨⟨⟨⟨⟨⟨⟨⟨⟨⟨⟨⟨⟨⟨⟨⟨⟨⟨⟨⟨⟨⟨⟨⟨⟨⟨⟨⟨⟨⟨k1,k2⟩,k3⟩,k4⟩,k5⟩,k6⟩,k7⟩,k8⟩,k9⟩,k10⟩,k11⟩,k12⟩,k13⟩,k14⟩,k15⟩,k16⟩,k17⟩,k18⟩,k19⟩,k20⟩,k21⟩,k22⟩,k23⟩,k24⟩,k25⟩,k26⟩,k27⟩,k28⟩,k29⟩,k30⟩,k31⟩,k32⟩
def said:Rows.TraceBackSaid:=
 OpenClaim.holds_of_wide 4 Tryz.f4 rfl rfl rfl rfl rfl rfl rfl ⟨rfl,rfl,rfl,rfl,rfl⟩ rfl rfl rfl rfl rfl (by kernel_rfl) Tryz.func4 facts
  (of_decide_eq_true (by kernel_rfl)) (by unfold Func.isWrapper;first | (rw[if_pos (by decide +kernel)];kernel_rfl) | (rw[if_neg (by decide +kernel)];exact⟨rfl,rfl⟩))
  (λos started H enc _=>Ru (s:=Rows.traceBackSpec) ⟨rfl,λ_ _ _ _ _=>rfl⟩ Tryz.func4 (by kernel_rfl) (by kernel_rfl) (by kernel_rfl) (λ_ _ _ _ _ st _ _ _ _ _ _ z0 z1 a z2 s=>zO aek st a z2 z0 z1 s Tryz.func4 (by kernel_rfl) (by kernel_rfl)) os started H enc (by kernel_rfl) (by kernel_rfl) (by kernel_rfl))
end TraceBack
end Go.Proofs.YtglmdggjibmjcaaGreatDoor
