/-
  TallocNone: for every input that the card lets in the law answers true: the examples of all layers are run by the kernel.
  Conditions: those of the card (the three tables of the library are tied to the text); no others.
-/
import Derived.Test.YtpdachddebkebaaGreatDoorFb
import Derived.Test.YtpdachddebkebaaGreatDoorFdT
import Derived.Test.YtpdachddebkebaaGreatDoorFcT
set_option linter.unusedVariables false
set_option linter.unusedSimpArgs false
namespace Go.Proofs.YtpdachddebkebaaGreatDoor
open Go Go.Ev Go.ChangeShapes Go.WideShapes Go.ChangeAt Go.RowKit
set_option maxRecDepth 100000
namespace TallocNone
theorem k1 : (Rows.tallocNoneRow.wf (OpenSpec.ofChange Rows.tallocNoneSpec)) = true := by kernel_rfl
theorem k4 : (Tryz.f4.params.all (Tryz.prog.readableRec ·)) = true := by kernel_rfl
theorem k5 : (namedTie Tryz.prog Rows.tallocNoneRow.named Rows.tallocNoneSpec.vars) = true := by kernel_rfl
theorem k6 : ((Rows.tallocNoneRow.stops == [])) = true := by kernel_rfl
theorem k8 : ((Rows.tallocNoneRow.knobs == [])) = true := by kernel_rfl
theorem k10 : ((Rows.tallocNoneRow.inPlace == Tryz.prog.inPlace 4)) = true := by
  unfold Program.inPlace
  rw [closure4]
  kernel_rfl
theorem k11 : ((Rows.tallocNoneRow.unfollowed == Tryz.prog.unfollowed 4)) = true := by
  unfold Program.unfollowed
  rw [closure4]
  kernel_rfl
theorem k12 : ((Rows.tallocNoneRow.recurses == Tryz.prog.recurses 4)) = true := by
  unfold Program.recurses Program.unfollowed
  rw [closure4]
  kernel_rfl
theorem k13 : ((Rows.tallocNoneRow.named == Tryz.prog.varsNamed 4)) = true := by
  unfold Program.varsNamed
  rw [closure4]
  kernel_rfl
theorem k14 : ((Rows.tallocNoneRow.maps == (Tryz.f4.params.toList ++ Rows.tallocNoneSpec.plain.varTypes Tryz.prog).any (Tryz.prog.mapsRec ·))) = true := by kernel_rfl
theorem k15 : ((Rows.tallocNoneRow.ifaces == (Tryz.f4.params.toList ++ Rows.tallocNoneSpec.plain.varTypes Tryz.prog).any (Tryz.prog.ifacesRec ·))) = true := by kernel_rfl
theorem k16 : ((Rows.tallocNoneRow.mapsOut == Tryz.prog.mapsAmong Tryz.f4.resultTypes.toList)) = true := by kernel_rfl
theorem k17 : ((Rows.tallocNoneRow.loops == (Tryz.f4.params.toList ++ Rows.tallocNoneSpec.plain.varTypes Tryz.prog).any (Tryz.prog.loopsFrom ·))) = true := by kernel_rfl
theorem k18 : ((Rows.tallocNoneRow.wideKeys == (Tryz.f4.params.toList ++ Rows.tallocNoneSpec.plain.varTypes Tryz.prog ++ Tryz.f4.resultTypes.toList).any (Tryz.prog.wideKeysFrom ·))) = true := by kernel_rfl
theorem k19 : (Rows.tallocNoneSpec.vars.all (Tryz.prog.varReadable ·)) = true := by kernel_rfl
theorem k20 : (Tryz.f4.resultTypes.all (fun t => Tryz.prog.readableRec t && decide (t < Tryz.prog.types.size))) = true := by kernel_rfl
theorem k21 : ((Rows.tallocNoneRow.ifacesOut == Tryz.f4.resultTypes.toList.any (Tryz.prog.ifacesRec ·))) = true := by kernel_rfl
theorem k22 : ((Rows.tallocNoneRow.loopsOut == Tryz.f4.resultTypes.toList.any (Tryz.prog.loopsFrom ·))) = true := by kernel_rfl
theorem k23 : ((Rows.tallocNoneRow.plainKeys == Tryz.prog.plainKeys)) = true := by kernel_rfl
theorem k24 : (Rows.tallocNoneRow.shortTexts.isNone) = true := by kernel_rfl
theorem k27 : ((Rows.tallocNoneRow.lifted == Tryz.prog.liftsFinal)) = true := by kernel_rfl
theorem k28 : ((Tryz.prog.make == some Rows.tallocNoneRow.make)) = true := by kernel_rfl
theorem k29 : ((Rows.tallocNoneRow.kinds == (if Rows.tallocNoneRow.domain.isEmpty then [] else Tryz.f4.params.toList.map fun t => match Tryz.prog.underlying t with | some (.int k) => some k | _ => none))) = true := by kernel_rfl
theorem k30 : ((Rows.tallocNoneRow.pinned == Rows.tallocNoneRow.pinnedBy)) = true := by kernel_rfl
theorem k31 : ((Rows.tallocNoneRow.veiled == (Tryz.f4.params.toList ++ Rows.tallocNoneSpec.plain.varTypes Tryz.prog ++ Tryz.f4.resultTypes.toList).any (Tryz.prog.veiledRec ·))) = true := by kernel_rfl
theorem k32 : (Rows.tallocNoneRow.veiledFits Tryz.prog Tryz.f4.params.toList (Tryz.f4.params.toList ++ Rows.tallocNoneSpec.plain.varTypes Tryz.prog ++ Tryz.f4.resultTypes.toList)) = true := by kernel_rfl
theorem facts : joinedFacts Tryz.prog 4 Tryz.f4 Rows.tallocNoneSpec Rows.tallocNoneRow = true := by
  simp only [joinedFacts, Bool.and_eq_true]
  exact ⟨⟨⟨⟨⟨⟨⟨⟨⟨⟨⟨⟨⟨⟨⟨⟨⟨⟨⟨⟨⟨⟨⟨⟨⟨⟨⟨⟨⟨⟨⟨k1, k2⟩, k3⟩, k4⟩, k5⟩, k6⟩, k7⟩, k8⟩, k9⟩, k10⟩, k11⟩, k12⟩, k13⟩, k14⟩, k15⟩, k16⟩, k17⟩, k18⟩, k19⟩, k20⟩, k21⟩, k22⟩, k23⟩, k24⟩, k25⟩, k26⟩, k27⟩, k28⟩, k29⟩, k30⟩, k31⟩, k32⟩
theorem said : Rows.TallocNoneSaid :=
  OpenClaim.holds_of_wide 4 Tryz.f4 rfl rfl rfl rfl rfl rfl rfl ⟨rfl, rfl, rfl, rfl, rfl⟩ rfl rfl rfl rfl rfl (by kernel_rfl) Tryz.func4 facts
    (of_decide_eq_true (by kernel_rfl)) (by unfold Func.isWrapper; first | (rw [if_pos (by decide +kernel)]; kernel_rfl) | (rw [if_neg (by decide +kernel)]; exact ⟨rfl, rfl⟩))
    (fun os started H enc _ => lifted (s := Rows.tallocNoneSpec) ⟨rfl, fun _ => rfl⟩ Tryz.func4 (by kernel_rfl) (by kernel_rfl) (by kernel_rfl) (fun _ hr => calls_true aw_all Tryz.func4 (by kernel_rfl) (by kernel_rfl) run4 hr) os started H enc (by kernel_rfl) (by kernel_rfl) (by kernel_rfl))
theorem wfText : Rows.tallocNoneRow.wfByText (OpenSpec.ofChange Rows.tallocNoneSpec) = true := by kernel_rfl
theorem no_unsafe : Rows.tallocNoneRow.laidByTextAt .later Tryz.pinned [.data, .data, .data] true := tallocNone_row_tie
end TallocNone
open TallocNone in
theorem tallocNone_card : Rows.TallocNoneCardSaid :=
  Claim7.holds_tied_plain_at .later [] [.data, .data, .data] true (true, "ed260643e8181424af6a8976aa74d9678ce98d18d4587771e0ca06a1b02d0706") false
    said (fun _ h => by cases h) wfText (fun _ h => by cases h) tallocNone_row_tie rfl ⟨rfl, rfl⟩ main_is rfl
    (fun f fn hf hfn => by
      obtain rfl : f = 4 := Option.some.inj ((show Tryz.prog.funcNamed Rows.tallocNoneRow.func = some 4 by kernel_rfl).symm.trans hf) |>.symm
      obtain rfl : fn = Tryz.f4 := (Option.some.inj (Tryz.func4.symm.trans hfn)).symm
      exact ⟨looks_none, fun j t ht => by
        rw [show Tryz.f4.params = #[] by kernel_rfl] at ht
        simp at ht⟩)
    (goesBy_false _ rfl).symm
end Go.Proofs.YtpdachddebkebaaGreatDoor
