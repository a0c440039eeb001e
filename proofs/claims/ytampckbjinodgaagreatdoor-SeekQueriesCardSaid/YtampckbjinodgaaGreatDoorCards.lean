/-
  DERIVED. GIVEN WITH THE SEED: THE CARDS: each row of YtampckbjinodgaaGreatDoorRows.lean that lists a variable, with what it lists TIED to the program's text (the seventh form; the later family's looks); each row that meets fmt, with fmt's text TOLD by the authors' own Lean function (tested against real Go, not proved from fmt's source: count such statements apart). THE CARD IS WHAT COUNTS. Prove the row's statement (the work); the ties are given (YtampckbjinodgaaGreatDoorTie.lean); close each card by the builder's one call (the guide's Derived/Test/ToyasCard.lean, 'card_holds'). Laid BY PROGRAM, IN A SANDBOX (cutbox-door.mjs). By AI agents, Wed Nov 11 2026. No macro, syntax, notation, axiom, sorry.
-/
import Derived.Test.YtampckbjinodgaaGreatDoorRows
import GoSem.ClaimSeven
namespace Go.Proofs.YtampckbjinodgaaGreatDoor
namespace Rows

/-- THE TIED CARD OF 'pillarboxlaw19.SeekTrees'. -/
def seekTreesCard : Claim7 := { stood := { row := seekTreesRow, standIns := [], harness := (true, "8e2a9972be6b11311d427d95e051dc8f61394c1ad94614f72db94521fbfbf98d"), looks := true }, kinds := [], alts := [], laidByText := true, laidKinds := [.data, .pinned], laidTests := true, laidLooks := .later }
def SeekTreesCardSaid : Prop := Claim7.holds Tryz.pinned (.plain (OpenSpec.ofChange seekTreesSpec)) seekTreesCard

/-- THE TIED CARD OF 'pillarboxlaw19.SeekTexts'. -/
def seekTextsCard : Claim7 := { stood := { row := seekTextsRow, standIns := [], harness := (true, "8e2a9972be6b11311d427d95e051dc8f61394c1ad94614f72db94521fbfbf98d"), looks := true }, kinds := [], alts := [], laidByText := true, laidKinds := [.data, .pinned], laidTests := true, laidLooks := .later }
def SeekTextsCardSaid : Prop := Claim7.holds Tryz.pinned (.plain (OpenSpec.ofChange seekTextsSpec)) seekTextsCard

/-- THE TIED CARD OF 'pillarboxlaw19.SeekBounds'. -/
def seekBoundsCard : Claim7 := { stood := { row := seekBoundsRow, standIns := [], harness := (true, "8e2a9972be6b11311d427d95e051dc8f61394c1ad94614f72db94521fbfbf98d"), looks := true }, kinds := [], alts := [], laidByText := true, laidKinds := [.data, .pinned], laidTests := true, laidLooks := .later }
def SeekBoundsCardSaid : Prop := Claim7.holds Tryz.pinned (.plain (OpenSpec.ofChange seekBoundsSpec)) seekBoundsCard

/-- THE TIED CARD OF 'pillarboxlaw19.SeekBoxes'. -/
def seekBoxesCard : Claim7 := { stood := { row := seekBoxesRow, standIns := [], harness := (true, "8e2a9972be6b11311d427d95e051dc8f61394c1ad94614f72db94521fbfbf98d"), looks := true }, kinds := [], alts := [], laidByText := true, laidKinds := [.data, .pinned], laidTests := true, laidLooks := .later }
def SeekBoxesCardSaid : Prop := Claim7.holds Tryz.pinned (.plain (OpenSpec.ofChange seekBoxesSpec)) seekBoxesCard

/-- THE TIED CARD OF 'pillarboxlaw19.SeekQueries'. -/
def seekQueriesCard : Claim7 := { stood := { row := seekQueriesRow, standIns := [], harness := (true, "8e2a9972be6b11311d427d95e051dc8f61394c1ad94614f72db94521fbfbf98d"), looks := true }, kinds := [], alts := [], laidByText := true, laidKinds := [.data, .pinned], laidTests := true, laidLooks := .later }
def SeekQueriesCardSaid : Prop := Claim7.holds Tryz.pinned (.plain (OpenSpec.ofChange seekQueriesSpec)) seekQueriesCard

/-- THE TIED CARD OF 'pillarboxlaw19.SeekSorts'. -/
def seekSortsCard : Claim7 := { stood := { row := seekSortsRow, standIns := [], harness := (true, "8e2a9972be6b11311d427d95e051dc8f61394c1ad94614f72db94521fbfbf98d"), looks := true }, kinds := [], alts := [], laidByText := true, laidKinds := [.data, .pinned], laidTests := true, laidLooks := .later }
def SeekSortsCardSaid : Prop := Claim7.holds Tryz.pinned (.plain (OpenSpec.ofChange seekSortsSpec)) seekSortsCard

/-- THE SECOND FORM's CARD OF 'pillarboxlaw19.SeekTrees'. -/
def seekTreesUptoCard : Claim7 := { stood := { row := seekTreesUptoRow, standIns := [], harness := (true, "8e2a9972be6b11311d427d95e051dc8f61394c1ad94614f72db94521fbfbf98d"), looks := true }, kinds := [], alts := [], laidByText := true, laidKinds := [.data, .pinned], laidTests := true, laidLooks := .later }
def SeekTreesUptoCardSaid : Prop := Claim7.holds Tryz.pinned (.plain (OpenSpec.upto seekTreesSpec)) seekTreesUptoCard

/-- THE SECOND FORM's CARD OF 'pillarboxlaw19.SeekTexts'. -/
def seekTextsUptoCard : Claim7 := { stood := { row := seekTextsUptoRow, standIns := [], harness := (true, "8e2a9972be6b11311d427d95e051dc8f61394c1ad94614f72db94521fbfbf98d"), looks := true }, kinds := [], alts := [], laidByText := true, laidKinds := [.data, .pinned], laidTests := true, laidLooks := .later }
def SeekTextsUptoCardSaid : Prop := Claim7.holds Tryz.pinned (.plain (OpenSpec.upto seekTextsSpec)) seekTextsUptoCard

/-- THE SECOND FORM's CARD OF 'pillarboxlaw19.SeekBounds'. -/
def seekBoundsUptoCard : Claim7 := { stood := { row := seekBoundsUptoRow, standIns := [], harness := (true, "8e2a9972be6b11311d427d95e051dc8f61394c1ad94614f72db94521fbfbf98d"), looks := true }, kinds := [], alts := [], laidByText := true, laidKinds := [.data, .pinned], laidTests := true, laidLooks := .later }
def SeekBoundsUptoCardSaid : Prop := Claim7.holds Tryz.pinned (.plain (OpenSpec.upto seekBoundsSpec)) seekBoundsUptoCard

/-- THE SECOND FORM's CARD OF 'pillarboxlaw19.SeekBoxes'. -/
def seekBoxesUptoCard : Claim7 := { stood := { row := seekBoxesUptoRow, standIns := [], harness := (true, "8e2a9972be6b11311d427d95e051dc8f61394c1ad94614f72db94521fbfbf98d"), looks := true }, kinds := [], alts := [], laidByText := true, laidKinds := [.data, .pinned], laidTests := true, laidLooks := .later }
def SeekBoxesUptoCardSaid : Prop := Claim7.holds Tryz.pinned (.plain (OpenSpec.upto seekBoxesSpec)) seekBoxesUptoCard

/-- THE SECOND FORM's CARD OF 'pillarboxlaw19.SeekQueries'. -/
def seekQueriesUptoCard : Claim7 := { stood := { row := seekQueriesUptoRow, standIns := [], harness := (true, "8e2a9972be6b11311d427d95e051dc8f61394c1ad94614f72db94521fbfbf98d"), looks := true }, kinds := [], alts := [], laidByText := true, laidKinds := [.data, .pinned], laidTests := true, laidLooks := .later }
def SeekQueriesUptoCardSaid : Prop := Claim7.holds Tryz.pinned (.plain (OpenSpec.upto seekQueriesSpec)) seekQueriesUptoCard

/-- THE SECOND FORM's CARD OF 'pillarboxlaw19.SeekSorts'. -/
def seekSortsUptoCard : Claim7 := { stood := { row := seekSortsUptoRow, standIns := [], harness := (true, "8e2a9972be6b11311d427d95e051dc8f61394c1ad94614f72db94521fbfbf98d"), looks := true }, kinds := [], alts := [], laidByText := true, laidKinds := [.data, .pinned], laidTests := true, laidLooks := .later }
def SeekSortsUptoCardSaid : Prop := Claim7.holds Tryz.pinned (.plain (OpenSpec.upto seekSortsSpec)) seekSortsUptoCard
end Rows
end Go.Proofs.YtampckbjinodgaaGreatDoor
