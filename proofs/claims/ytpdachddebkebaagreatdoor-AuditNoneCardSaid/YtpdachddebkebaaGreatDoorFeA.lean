/-
  AuditNone: for every input that the card lets in the law answers true: the examples of all layers are run by the kernel.
  Conditions: those of the card (the three tables of the library are tied to the text); no others.
-/
import Derived.Test.YtpdachddebkebaaGreatDoorFb
import Derived.Test.YtpdachddebkebaaGreatDoorFdA
import Derived.Test.YtpdachddebkebaaGreatDoorFcA
set_option linter.unusedVariables false
set_option linter.unusedSimpArgs false
namespace Go.Proofs.YtpdachddebkebaaGreatDoor
open Go Go.Ev Go.ChangeShapes Go.WideShapes Go.ChangeAt Go.RowKit
set_option maxRecDepth 100000
namespace AuditNone
theorem k1 : (Rows.auditNoneRow.wf (OpenSpec.ofChange Rows.auditNoneSpec)) = true := by kernel_rfl
theorem k4 : (Tryz.f3.params.all (Tryz.prog.readableRec ·)) = true := by kernel_rfl
theorem k5 : (namedTie Tryz.prog Rows.auditNoneRow.named Rows.auditNoneSpec.vars) = true := by kernel_rfl
theorem k6 : ((Rows.auditNoneRow.stops == [])) = true := by kernel_rfl
theorem k8 : ((Rows.auditNoneRow.knobs == [])) = true := by kernel_rfl
theorem k10 : ((Rows.auditNoneRow.inPlace == Tryz.prog.inPlace 3)) = true := by
  unfold Program.inPlace
  rw [closure3]
  kernel_rfl
theorem k11 : ((Rows.auditNoneRow.unfollowed == Tryz.prog.unfollowed 3)) = true := by
  unfold Program.unfollowed
  rw [closure3]
  kernel_rfl
theorem k12 : ((Rows.auditNoneRow.recurses == Tryz.prog.recurses 3)) = true := by
  unfold Program.recurses Program.unfollowed
  rw [closure3]
  kernel_rfl
theorem k13 : ((Rows.auditNoneRow.named == Tryz.prog.varsNamed 3)) = true := by
  unfold Program.varsNamed
  rw [closure3]
  kernel_rfl
theorem k14 : ((Rows.auditNoneRow.maps == (Tryz.f3.params.toList ++ Rows.auditNoneSpec.plain.varTypes Tryz.prog).any (Tryz.prog.mapsRec ·))) = true := by kernel_rfl
theorem k15 : ((Rows.auditNoneRow.ifaces == (Tryz.f3.params.toList ++ Rows.auditNoneSpec.plain.varTypes Tryz.prog).any (Tryz.prog.ifacesRec ·))) = true := by kernel_rfl
theorem k16 : ((Rows.auditNoneRow.mapsOut == Tryz.prog.mapsAmong Tryz.f3.resultTypes.toList)) = true := by kernel_rfl
theorem k17 : ((Rows.auditNoneRow.loops == (Tryz.f3.params.toList ++ Rows.auditNoneSpec.plain.varTypes Tryz.prog).any (Tryz.prog.loopsFrom ·))) = true := by kernel_rfl
theorem k18 : ((Rows.auditNoneRow.wideKeys == (Tryz.f3.params.toList ++ Rows.auditNoneSpec.plain.varTypes Tryz.prog ++ Tryz.f3.resultTypes.toList).any (Tryz.prog.wideKeysFrom ·))) = true := by kernel_rfl
theorem k19 : (Rows.auditNoneSpec.vars.all (Tryz.prog.varReadable ·)) = true := by kernel_rfl
theorem k20 : (Tryz.f3.resultTypes.all (fun t => Tryz.prog.readableRec t && decide (t < Tryz.prog.types.size))) = true := by kernel_rfl
theorem k21 : ((Rows.auditNoneRow.ifacesOut == Tryz.f3.resultTypes.toList.any (Tryz.prog.ifacesRec ·))) = true := by kernel_rfl
theorem k22 : ((Rows.auditNoneRow.loopsOut == Tryz.f3.resultTypes.toList.any (Tryz.prog.loopsFrom ·))) = true := by kernel_rfl
theorem k23 : ((Rows.auditNoneRow.plainKeys == Tryz.prog.plainKeys)) = true := by kernel_rfl
theorem k24 : (Rows.auditNoneRow.shortTexts.isNone) = true := by kernel_rfl
theorem k27 : ((Rows.auditNoneRow.lifted == Tryz.prog.liftsFinal)) = true := by kernel_rfl
theorem k28 : ((Tryz.prog.make == some Rows.auditNoneRow.make)) = true := by kernel_rfl
theorem k29 : ((Rows.auditNoneRow.kinds == (if Rows.auditNoneRow.domain.isEmpty then [] else Tryz.f3.params.toList.map fun t => match Tryz.prog.underlying t with | some (.int k) => some k | _ => none))) = true := by kernel_rfl
theorem k30 : ((Rows.auditNoneRow.pinned == Rows.auditNoneRow.pinnedBy)) = true := by kernel_rfl
theorem k31 : ((Rows.auditNoneRow.veiled == (Tryz.f3.params.toList ++ Rows.auditNoneSpec.plain.varTypes Tryz.prog ++ Tryz.f3.resultTypes.toList).any (Tryz.prog.veiledRec ·))) = true := by kernel_rfl
theorem k32 : (Rows.auditNoneRow.veiledFits Tryz.prog Tryz.f3.params.toList (Tryz.f3.params.toList ++ Rows.auditNoneSpec.plain.varTypes Tryz.prog ++ Tryz.f3.resultTypes.toList)) = true := by kernel_rfl
theorem facts : joinedFacts Tryz.prog 3 Tryz.f3 Rows.auditNoneSpec Rows.auditNoneRow = true := by
  simp only [joinedFacts, Bool.and_eq_true]
  exact ⟨⟨⟨⟨⟨⟨⟨⟨⟨⟨⟨⟨⟨⟨⟨⟨⟨⟨⟨⟨⟨⟨⟨⟨⟨⟨⟨⟨⟨⟨⟨k1, k2⟩, k3⟩, k4⟩, k5⟩, k6⟩, k7⟩, k8⟩, k9⟩, k10⟩, k11⟩, k12⟩, k13⟩, k14⟩, k15⟩, k16⟩, k17⟩, k18⟩, k19⟩, k20⟩, k21⟩, k22⟩, k23⟩, k24⟩, k25⟩, k26⟩, k27⟩, k28⟩, k29⟩, k30⟩, k31⟩, k32⟩
theorem said : Rows.AuditNoneSaid :=
  OpenClaim.holds_of_wide 3 Tryz.f3 rfl rfl rfl rfl rfl rfl rfl ⟨rfl, rfl, rfl, rfl, rfl⟩ rfl rfl rfl rfl rfl (by kernel_rfl) Tryz.func3 facts
    (of_decide_eq_true (by kernel_rfl)) (by unfold Func.isWrapper; first | (rw [if_pos (by decide +kernel)]; kernel_rfl) | (rw [if_neg (by decide +kernel)]; exact ⟨rfl, rfl⟩))
    (fun os started H enc _ => lifted (s := Rows.auditNoneSpec) ⟨rfl, fun _ => rfl⟩ Tryz.func3 (by kernel_rfl) (by kernel_rfl) (by kernel_rfl) (fun _ hr => calls_true aw_all Tryz.func3 (by kernel_rfl) (by kernel_rfl) run3 hr) os started H enc (by kernel_rfl) (by kernel_rfl) (by kernel_rfl))
theorem wfText : Rows.auditNoneRow.wfByText (OpenSpec.ofChange Rows.auditNoneSpec) = true := by kernel_rfl
theorem no_unsafe : Rows.auditNoneRow.laidByTextAt .later Tryz.pinned [.data, .data, .data] true := auditNone_row_tie
end AuditNone
open AuditNone in
theorem auditNone_card : Rows.AuditNoneCardSaid :=
  Claim7.holds_tied_plain_at .later [] [.data, .data, .data] true (true, "ed260643e8181424af6a8976aa74d9678ce98d18d4587771e0ca06a1b02d0706") false
    said (fun _ h => by cases h) wfText (fun _ h => by cases h) auditNone_row_tie rfl ⟨rfl, rfl⟩ main_is rfl
    (fun f fn hf hfn => by
      obtain rfl : f = 3 := Option.some.inj ((show Tryz.prog.funcNamed Rows.auditNoneRow.func = some 3 by kernel_rfl).symm.trans hf) |>.symm
      obtain rfl : fn = Tryz.f3 := (Option.some.inj (Tryz.func3.symm.trans hfn)).symm
      exact ⟨looks_none, fun j t ht => by
        rw [show Tryz.f3.params = #[] by kernel_rfl] at ht
        simp at ht⟩)
    (goesBy_false _ rfl).symm
end Go.Proofs.YtpdachddebkebaaGreatDoor
