/-
  Lifted functions, and facts about them.
-/
import Derived.Test.YtoanepondbagcaaGreatDoorRows
import Derived.Test.YtoanepondbagcaaGreatDoorAmC
import Derived.Test.YtoanepondbagcaaGreatDoorC16
import Derived.Test.YtoanepondbagcaaGreatDoorC01
import Derived.Test.YtoanepondbagcaaGreatDoorC21
import Derived.Test.YtoanepondbagcaaGreatDoorC14
import Derived.Test.YtoanepondbagcaaGreatDoorC17
namespace Go.Proofs.YtoanepondbagcaaGreatDoor
open Go Go.Am
set_option linter.unusedVariables false
/-! The code points of a text. -/
end Go.Proofs.YtoanepondbagcaaGreatDoor
namespace Go.Proofs.YtoanepondbagcaaGreatDoor
open Go Go.Am
set_option linter.unusedVariables false
/-! A preview is valid, short, and its blanks stand alone. -/
/-! ### Blanks -/
def nb : Bool → List UInt8 → Bool
  | _, [] => true
  | b, c :: r => decide (32 ≤ c.toNat) && (if c = 32 then !b && nb true r else nb false r)








end Go.Proofs.YtoanepondbagcaaGreatDoor
namespace Go.Proofs.YtoanepondbagcaaGreatDoor
open Go Go.Am
set_option linter.unusedVariables false
/-! What was encoded is told as it was. -/
theorem whole_lines (s : List UInt8) : linesN s 0 s.length = lnF [] 0 s := by unfold linesN; rw [List.take_length]; rfl
theorem whole_split (s : List UInt8) : splitS s 0 s.length = (fieldsS (gathS (lnF [] 0 s) s.length []).1, (gathS (lnF [] 0 s) s.length []).2) := by
  unfold splitS
  rw [if_neg (by omega), Int.toNat_natCast, show ((0 : Int)).toNat = 0 from rfl, whole_lines]
def textP : List UInt8 := [116, 101, 120, 116, 47, 112, 108, 97, 105, 110]
end Go.Proofs.YtoanepondbagcaaGreatDoor
