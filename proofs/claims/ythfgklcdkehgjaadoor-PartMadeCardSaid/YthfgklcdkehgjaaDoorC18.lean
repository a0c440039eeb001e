/-
  Lifted functions, and facts about them.
-/
import Derived.Test.YthfgklcdkehgjaaDoorRows
import Derived.Test.YthfgklcdkehgjaaDoorAmC
import Derived.Test.YthfgklcdkehgjaaDoorC01
import Derived.Test.YthfgklcdkehgjaaDoorC16
import Derived.Test.YthfgklcdkehgjaaDoorC17
namespace Go.Proofs.YthfgklcdkehgjaaDoor
open Go Go.Am
set_option linter.unusedVariables false
/-! quoted.Encode. -/
















/-! What QEncode and RQuoted compute. -/






end Go.Proofs.YthfgklcdkehgjaaDoor
namespace Go.Proofs.YthfgklcdkehgjaaDoor
open Go Go.Am
set_option linter.unusedVariables false
/-! QPlain facts on what is told and what is said. -/



end Go.Proofs.YthfgklcdkehgjaaDoor
namespace Go.Proofs.YthfgklcdkehgjaaDoor
open Go Go.Am
set_option linter.unusedVariables false
/-! What was encoded is told as it was. -/










theorem whole_lines (s : List UInt8) : linesN s 0 s.length = lnF [] 0 s := by unfold linesN; rw [List.take_length]; rfl
theorem whole_split (s : List UInt8) : splitS s 0 s.length = (fieldsS (gathS (lnF [] 0 s) s.length []).1, (gathS (lnF [] 0 s) s.length []).2) := by
  unfold splitS
  rw [if_neg (by omega), Int.toNat_natCast, show ((0 : Int)).toNat = 0 from rfl, whole_lines]
def textP : List UInt8 := [116, 101, 120, 116, 47, 112, 108, 97, 105, 110]
end Go.Proofs.YthfgklcdkehgjaaDoor
