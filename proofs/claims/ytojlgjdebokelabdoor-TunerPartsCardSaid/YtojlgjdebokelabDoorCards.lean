/-
  DERIVED. GIVEN WITH THE SEED: THE CARDS: each row of YtojlgjdebokelabDoorRows.lean that lists a variable, with what it lists TIED to the program's text (the seventh form; the later family's looks); each row that meets fmt, with fmt's text TOLD by the authors' own Lean function (tested against real Go, not proved from fmt's source: count such statements apart). THE CARD IS WHAT COUNTS. Prove the row's statement (the work); the ties are given (YtojlgjdebokelabDoorTie.lean); close each card by the builder's one call (the guide's Derived/Test/ToyasCard.lean, 'card_holds'). Laid BY PROGRAM, IN A SANDBOX (cutbox-door.mjs). By AI agents, Wed Nov 11 2026. No macro, syntax, notation, axiom, sorry.
-/
import Derived.Test.YtojlgjdebokelabDoorRows
import GoSem.ClaimSeven
namespace Go.Proofs.YtojlgjdebokelabDoor
namespace Rows

/-- THE TIED CARD OF 'psalterylaw37.TunerParts'. -/
def tunerPartsCard : Claim7 := { stood := { row := tunerPartsRow, standIns := [], harness := (true, "cbbd4716eca6dd27ae533c27ec26ee7dab42df61acf19b8f6f0f700b1c2677b4"), looks := false }, kinds := [], alts := [], laidByText := true, laidKinds := [.data, .data, .data], laidTests := true, laidLooks := .later }
def TunerPartsCardSaid : Prop := Claim7.holds Tryd.pinned (.plain (OpenSpec.ofChange tunerPartsSpec)) tunerPartsCard

/-- THE SECOND FORM's CARD OF 'psalterylaw37.TunerParts'. -/
def tunerPartsUptoCard : Claim7 := { stood := { row := tunerPartsUptoRow, standIns := [], harness := (true, "cbbd4716eca6dd27ae533c27ec26ee7dab42df61acf19b8f6f0f700b1c2677b4"), looks := false }, kinds := [], alts := [], laidByText := true, laidKinds := [.data, .data, .data], laidTests := true, laidLooks := .later }
def TunerPartsUptoCardSaid : Prop := Claim7.holds Tryd.pinned (.plain (OpenSpec.upto tunerPartsSpec)) tunerPartsUptoCard
end Rows
end Go.Proofs.YtojlgjdebokelabDoor
