/-
  DERIVED. GIVEN WITH THE SEED: THE CARDS: each row of YtmnkkliibjlefaaDoorRows.lean that lists a variable, with what it lists TIED to the program's text (the seventh form; the later family's looks); each row that meets fmt, with fmt's text TOLD by the authors' own Lean function (tested against real Go, not proved from fmt's source: count such statements apart). THE CARD IS WHAT COUNTS. Prove the row's statement (the work); the ties are given (YtmnkkliibjlefaaDoorTie.lean); close each card by the builder's one call (the guide's Derived/Test/ToyasCard.lean, 'card_holds'). Laid BY PROGRAM, IN A SANDBOX (cutbox-door.mjs). By AI agents, Wed Nov 11 2026. No macro, syntax, notation, axiom, sorry.
-/
import Derived.Test.YtmnkkliibjlefaaDoorRows
import GoSem.ClaimSeven
namespace Go.Proofs.YtmnkkliibjlefaaDoor
namespace Rows

/-- THE TIED CARD OF 'pillarboxlaw5.SevenJoins'. -/
def sevenJoinsCard : Claim7 := { stood := { row := sevenJoinsRow, standIns := [], harness := (true, "c05f79452515728f39c7acf434dc30b9e452325e67cd841d591e88e45ed79628"), looks := false }, kinds := [], alts := [], laidByText := true, laidKinds := [.data, .pinned], laidTests := true, laidLooks := .later }
def SevenJoinsCardSaid : Prop := Claim7.holds Tryd.pinned (.plain (OpenSpec.ofChange sevenJoinsSpec)) sevenJoinsCard

/-- THE TIED CARD OF 'pillarboxlaw5.SevenBad'. -/
def sevenBadCard : Claim7 := { stood := { row := sevenBadRow, standIns := [], harness := (true, "c05f79452515728f39c7acf434dc30b9e452325e67cd841d591e88e45ed79628"), looks := false }, kinds := [], alts := [], laidByText := true, laidKinds := [.data, .pinned], laidTests := true, laidLooks := .later }
def SevenBadCardSaid : Prop := Claim7.holds Tryd.pinned (.plain (OpenSpec.ofChange sevenBadSpec)) sevenBadCard

/-- THE TIED CARD OF 'pillarboxlaw5.SevenAll'. -/
def sevenAllCard : Claim7 := { stood := { row := sevenAllRow, standIns := [], harness := (true, "c05f79452515728f39c7acf434dc30b9e452325e67cd841d591e88e45ed79628"), looks := false }, kinds := [], alts := [], laidByText := true, laidKinds := [.data, .pinned], laidTests := true, laidLooks := .later }
def SevenAllCardSaid : Prop := Claim7.holds Tryd.pinned (.plain (OpenSpec.ofChange sevenAllSpec)) sevenAllCard

/-- THE TIED CARD OF 'pillarboxlaw5.SevenBack'. -/
def sevenBackCard : Claim7 := { stood := { row := sevenBackRow, standIns := [], harness := (true, "c05f79452515728f39c7acf434dc30b9e452325e67cd841d591e88e45ed79628"), looks := false }, kinds := [], alts := [], laidByText := true, laidKinds := [.data, .pinned], laidTests := true, laidLooks := .later }
def SevenBackCardSaid : Prop := Claim7.holds Tryd.pinned (.plain (OpenSpec.ofChange sevenBackSpec)) sevenBackCard

/-- THE TIED CARD OF 'pillarboxlaw5.SevenPoints'. -/
def sevenPointsCard : Claim7 := { stood := { row := sevenPointsRow, standIns := [], harness := (true, "c05f79452515728f39c7acf434dc30b9e452325e67cd841d591e88e45ed79628"), looks := false }, kinds := [], alts := [], laidByText := true, laidKinds := [.data, .pinned], laidTests := true, laidLooks := .later }
def SevenPointsCardSaid : Prop := Claim7.holds Tryd.pinned (.plain (OpenSpec.ofChange sevenPointsSpec)) sevenPointsCard

/-- THE TIED CARD OF 'pillarboxlaw5.SevenPlain'. -/
def sevenPlainCard : Claim7 := { stood := { row := sevenPlainRow, standIns := [], harness := (true, "c05f79452515728f39c7acf434dc30b9e452325e67cd841d591e88e45ed79628"), looks := false }, kinds := [], alts := [], laidByText := true, laidKinds := [.data, .pinned], laidTests := true, laidLooks := .later }
def SevenPlainCardSaid : Prop := Claim7.holds Tryd.pinned (.plain (OpenSpec.ofChange sevenPlainSpec)) sevenPlainCard

/-- THE SECOND FORM's CARD OF 'pillarboxlaw5.SevenJoins'. -/
def sevenJoinsUptoCard : Claim7 := { stood := { row := sevenJoinsUptoRow, standIns := [], harness := (true, "c05f79452515728f39c7acf434dc30b9e452325e67cd841d591e88e45ed79628"), looks := false }, kinds := [], alts := [], laidByText := true, laidKinds := [.data, .pinned], laidTests := true, laidLooks := .later }
def SevenJoinsUptoCardSaid : Prop := Claim7.holds Tryd.pinned (.plain (OpenSpec.upto sevenJoinsSpec)) sevenJoinsUptoCard

/-- THE SECOND FORM's CARD OF 'pillarboxlaw5.SevenBad'. -/
def sevenBadUptoCard : Claim7 := { stood := { row := sevenBadUptoRow, standIns := [], harness := (true, "c05f79452515728f39c7acf434dc30b9e452325e67cd841d591e88e45ed79628"), looks := false }, kinds := [], alts := [], laidByText := true, laidKinds := [.data, .pinned], laidTests := true, laidLooks := .later }
def SevenBadUptoCardSaid : Prop := Claim7.holds Tryd.pinned (.plain (OpenSpec.upto sevenBadSpec)) sevenBadUptoCard

/-- THE SECOND FORM's CARD OF 'pillarboxlaw5.SevenAll'. -/
def sevenAllUptoCard : Claim7 := { stood := { row := sevenAllUptoRow, standIns := [], harness := (true, "c05f79452515728f39c7acf434dc30b9e452325e67cd841d591e88e45ed79628"), looks := false }, kinds := [], alts := [], laidByText := true, laidKinds := [.data, .pinned], laidTests := true, laidLooks := .later }
def SevenAllUptoCardSaid : Prop := Claim7.holds Tryd.pinned (.plain (OpenSpec.upto sevenAllSpec)) sevenAllUptoCard

/-- THE SECOND FORM's CARD OF 'pillarboxlaw5.SevenBack'. -/
def sevenBackUptoCard : Claim7 := { stood := { row := sevenBackUptoRow, standIns := [], harness := (true, "c05f79452515728f39c7acf434dc30b9e452325e67cd841d591e88e45ed79628"), looks := false }, kinds := [], alts := [], laidByText := true, laidKinds := [.data, .pinned], laidTests := true, laidLooks := .later }
def SevenBackUptoCardSaid : Prop := Claim7.holds Tryd.pinned (.plain (OpenSpec.upto sevenBackSpec)) sevenBackUptoCard

/-- THE SECOND FORM's CARD OF 'pillarboxlaw5.SevenPoints'. -/
def sevenPointsUptoCard : Claim7 := { stood := { row := sevenPointsUptoRow, standIns := [], harness := (true, "c05f79452515728f39c7acf434dc30b9e452325e67cd841d591e88e45ed79628"), looks := false }, kinds := [], alts := [], laidByText := true, laidKinds := [.data, .pinned], laidTests := true, laidLooks := .later }
def SevenPointsUptoCardSaid : Prop := Claim7.holds Tryd.pinned (.plain (OpenSpec.upto sevenPointsSpec)) sevenPointsUptoCard

/-- THE SECOND FORM's CARD OF 'pillarboxlaw5.SevenPlain'. -/
def sevenPlainUptoCard : Claim7 := { stood := { row := sevenPlainUptoRow, standIns := [], harness := (true, "c05f79452515728f39c7acf434dc30b9e452325e67cd841d591e88e45ed79628"), looks := false }, kinds := [], alts := [], laidByText := true, laidKinds := [.data, .pinned], laidTests := true, laidLooks := .later }
def SevenPlainUptoCardSaid : Prop := Claim7.holds Tryd.pinned (.plain (OpenSpec.upto sevenPlainSpec)) sevenPlainUptoCard
end Rows
end Go.Proofs.YtmnkkliibjlefaaDoor
