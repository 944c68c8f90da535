/-
  DERIVED. GIVEN WITH THE SEED: THE CARDS: each row of YtpdachddebkebaaGreatDoorRows.lean that lists a variable, with what it lists TIED to the program's text (the seventh form; the later family's looks); each row that meets fmt, with fmt's text TOLD by the authors' own Lean function (tested against real Go, not proved from fmt's source: count such statements apart). THE CARD IS WHAT COUNTS. Prove the row's statement (the work); the ties are given (YtpdachddebkebaaGreatDoorTie.lean); close each card by the builder's one call (the guide's Derived/Test/ToyasCard.lean, 'card_holds'). Laid BY PROGRAM, IN A SANDBOX (cutbox-door.mjs). By AI agents, Wed Nov 11 2026. No macro, syntax, notation, axiom, sorry.
-/
import Derived.Test.YtpdachddebkebaaGreatDoorRows
import GoSem.ClaimSeven
namespace Go.Proofs.YtpdachddebkebaaGreatDoor
namespace Rows

/-- THE TIED CARD OF 'millpondlaw30.AuditNone'. -/
def auditNoneCard : Claim7 := { stood := { row := auditNoneRow, standIns := [], harness := (true, "ed260643e8181424af6a8976aa74d9678ce98d18d4587771e0ca06a1b02d0706"), looks := false }, kinds := [], alts := [], laidByText := true, laidKinds := [.data, .data, .data], laidTests := true, laidLooks := .later }
def AuditNoneCardSaid : Prop := Claim7.holds Tryz.pinned (.plain (OpenSpec.ofChange auditNoneSpec)) auditNoneCard

/-- THE TIED CARD OF 'millpondlaw31.TallocNone'. -/
def tallocNoneCard : Claim7 := { stood := { row := tallocNoneRow, standIns := [], harness := (true, "ed260643e8181424af6a8976aa74d9678ce98d18d4587771e0ca06a1b02d0706"), looks := false }, kinds := [], alts := [], laidByText := true, laidKinds := [.data, .data, .data], laidTests := true, laidLooks := .later }
def TallocNoneCardSaid : Prop := Claim7.holds Tryz.pinned (.plain (OpenSpec.ofChange tallocNoneSpec)) tallocNoneCard

/-- THE SECOND FORM's CARD OF 'millpondlaw30.AuditNone'. -/
def auditNoneUptoCard : Claim7 := { stood := { row := auditNoneUptoRow, standIns := [], harness := (true, "ed260643e8181424af6a8976aa74d9678ce98d18d4587771e0ca06a1b02d0706"), looks := false }, kinds := [], alts := [], laidByText := true, laidKinds := [.data, .data, .data], laidTests := true, laidLooks := .later }
def AuditNoneUptoCardSaid : Prop := Claim7.holds Tryz.pinned (.plain (OpenSpec.upto auditNoneSpec)) auditNoneUptoCard

/-- THE SECOND FORM's CARD OF 'millpondlaw31.TallocNone'. -/
def tallocNoneUptoCard : Claim7 := { stood := { row := tallocNoneUptoRow, standIns := [], harness := (true, "ed260643e8181424af6a8976aa74d9678ce98d18d4587771e0ca06a1b02d0706"), looks := false }, kinds := [], alts := [], laidByText := true, laidKinds := [.data, .data, .data], laidTests := true, laidLooks := .later }
def TallocNoneUptoCardSaid : Prop := Claim7.holds Tryz.pinned (.plain (OpenSpec.upto tallocNoneSpec)) tallocNoneUptoCard
end Rows
end Go.Proofs.YtpdachddebkebaaGreatDoor
