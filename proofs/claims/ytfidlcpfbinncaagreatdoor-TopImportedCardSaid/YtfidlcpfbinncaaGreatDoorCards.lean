/-
  DERIVED. GIVEN WITH THE SEED: THE CARDS: each row of YtfidlcpfbinncaaGreatDoorRows.lean that lists a variable, with what it lists TIED to the program's text (the seventh form; the later family's looks); each row that meets fmt, with fmt's text TOLD by the authors' own Lean function (tested against real Go, not proved from fmt's source: count such statements apart). THE CARD IS WHAT COUNTS. Prove the row's statement (the work); the ties are given (YtfidlcpfbinncaaGreatDoorTie.lean); close each card by the builder's one call (the guide's Derived/Test/ToyasCard.lean, 'card_holds'). Laid BY PROGRAM, IN A SANDBOX (cutbox-door.mjs). By AI agents, Wed Nov 11 2026. No macro, syntax, notation, axiom, sorry.
-/
import Derived.Test.YtfidlcpfbinncaaGreatDoorRows
import GoSem.ClaimSeven
namespace Go.Proofs.YtfidlcpfbinncaaGreatDoor
namespace Rows

/-- THE TIED CARD OF 'pillarboxtop.TopImported'. -/
def topImportedCard : Claim7 := { stood := { row := topImportedRow, standIns := [], harness := (true, "04707f940b08c1c35aee4d5dc557cfcce6918e9fb4bdb4dbb348dcb8ed340b80"), looks := true }, kinds := [], alts := [], laidByText := true, laidKinds := [.pinned, .data, .data, .data, .data, .pinned], laidTests := true, laidLooks := .later }
def TopImportedCardSaid : Prop := Claim7.holds Tryz.pinned (.plain (OpenSpec.ofChange topImportedSpec)) topImportedCard

/-- THE SECOND FORM's CARD OF 'pillarboxtop.TopImported'. -/
def topImportedUptoCard : Claim7 := { stood := { row := topImportedUptoRow, standIns := [], harness := (true, "04707f940b08c1c35aee4d5dc557cfcce6918e9fb4bdb4dbb348dcb8ed340b80"), looks := true }, kinds := [], alts := [], laidByText := true, laidKinds := [.pinned, .data, .data, .data, .data, .pinned], laidTests := true, laidLooks := .later }
def TopImportedUptoCardSaid : Prop := Claim7.holds Tryz.pinned (.plain (OpenSpec.upto topImportedSpec)) topImportedUptoCard
end Rows
end Go.Proofs.YtfidlcpfbinncaaGreatDoor
