/-
  DERIVED. GIVEN WITH THE SEED: THE CARDS: each row of YtdibeojmiobklaaGreatDoorRows.lean that lists a variable, with what it lists TIED to the program's text (the seventh form; the later family's looks); each row that meets fmt, with fmt's text TOLD by the authors' own Lean function (tested against real Go, not proved from fmt's source: count such statements apart). THE CARD IS WHAT COUNTS. Prove the row's statement (the work); the ties are given (YtdibeojmiobklaaGreatDoorTie.lean); close each card by the builder's one call (the guide's Derived/Test/ToyasCard.lean, 'card_holds'). Laid BY PROGRAM, IN A SANDBOX (cutbox-door.mjs). By AI agents, Wed Nov 11 2026. No macro, syntax, notation, axiom, sorry.
-/
import Derived.Test.YtdibeojmiobklaaGreatDoorRows
import GoSem.ClaimSeven
namespace Go.Proofs.YtdibeojmiobklaaGreatDoor
namespace Rows

/-- THE TIED CARD OF 'millpondlaw29.UsageLines'. -/
def usageLinesCard : Claim7 := { stood := { row := usageLinesRow, standIns := [], harness := (true, "590e491c29d3ed7d7fe38958fc11b25b58687ca7d13068f9b3c078e5d8b96114"), looks := true }, kinds := [], alts := [], laidByText := true, laidKinds := [.data, .data, .data], laidTests := true, laidLooks := .later }
def UsageLinesCardSaid : Prop := Claim7.holds Tryz.pinned (.plain (OpenSpec.ofChange usageLinesSpec)) usageLinesCard

/-- THE TIED CARD OF 'millpondlaw32.ScriptWords'. -/
def scriptWordsCard : Claim7 := { stood := { row := scriptWordsRow, standIns := [], harness := (true, "590e491c29d3ed7d7fe38958fc11b25b58687ca7d13068f9b3c078e5d8b96114"), looks := true }, kinds := [], alts := [], laidByText := true, laidKinds := [.pinned, .data, .sentinel, .sentinel, .data, .data, .data], laidTests := true, laidLooks := .later }
def ScriptWordsCardSaid : Prop := Claim7.holds Tryz.pinned (.plain (OpenSpec.ofChange scriptWordsSpec)) scriptWordsCard

/-- THE TIED CARD OF 'millpondlaw34.TraceAgrees'. -/
def traceAgreesCard : Claim7 := { stood := { row := traceAgreesRow, standIns := [], harness := (true, "590e491c29d3ed7d7fe38958fc11b25b58687ca7d13068f9b3c078e5d8b96114"), looks := true }, kinds := [], alts := [], laidByText := true, laidKinds := [.data, .data, .data, .pinned, .data, .sentinel, .sentinel], laidTests := true, laidLooks := .later }
def TraceAgreesCardSaid : Prop := Claim7.holds Tryz.pinned (.plain (OpenSpec.ofChange traceAgreesSpec)) traceAgreesCard

/-- THE SECOND FORM's CARD OF 'millpondlaw29.UsageLines'. -/
def usageLinesUptoCard : Claim7 := { stood := { row := usageLinesUptoRow, standIns := [], harness := (true, "590e491c29d3ed7d7fe38958fc11b25b58687ca7d13068f9b3c078e5d8b96114"), looks := true }, kinds := [], alts := [], laidByText := true, laidKinds := [.data, .data, .data], laidTests := true, laidLooks := .later }
def UsageLinesUptoCardSaid : Prop := Claim7.holds Tryz.pinned (.plain (OpenSpec.upto usageLinesSpec)) usageLinesUptoCard

/-- THE SECOND FORM's CARD OF 'millpondlaw32.ScriptWords'. -/
def scriptWordsUptoCard : Claim7 := { stood := { row := scriptWordsUptoRow, standIns := [], harness := (true, "590e491c29d3ed7d7fe38958fc11b25b58687ca7d13068f9b3c078e5d8b96114"), looks := true }, kinds := [], alts := [], laidByText := true, laidKinds := [.pinned, .data, .sentinel, .sentinel, .data, .data, .data], laidTests := true, laidLooks := .later }
def ScriptWordsUptoCardSaid : Prop := Claim7.holds Tryz.pinned (.plain (OpenSpec.upto scriptWordsSpec)) scriptWordsUptoCard

/-- THE SECOND FORM's CARD OF 'millpondlaw34.TraceAgrees'. -/
def traceAgreesUptoCard : Claim7 := { stood := { row := traceAgreesUptoRow, standIns := [], harness := (true, "590e491c29d3ed7d7fe38958fc11b25b58687ca7d13068f9b3c078e5d8b96114"), looks := true }, kinds := [], alts := [], laidByText := true, laidKinds := [.data, .data, .data, .pinned, .data, .sentinel, .sentinel], laidTests := true, laidLooks := .later }
def TraceAgreesUptoCardSaid : Prop := Claim7.holds Tryz.pinned (.plain (OpenSpec.upto traceAgreesSpec)) traceAgreesUptoCard
end Rows
end Go.Proofs.YtdibeojmiobklaaGreatDoor
