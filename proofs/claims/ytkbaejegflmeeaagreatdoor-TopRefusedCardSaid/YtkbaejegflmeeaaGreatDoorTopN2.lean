/-
  Runs of this program on known data, checked by the kernel; no condition of its own.
-/
import Derived.Test.YtkbaejegflmeeaaGreatDoorRows
import Derived.JoinedOf
import Derived.LaidByTextLater
import Derived.SevenTiedAt
import Derived.Test.YtkbaejegflmeeaaGreatDoorBmD
import Derived.Test.YtkbaejegflmeeaaGreatDoorTopL
import Derived.Test.YtkbaejegflmeeaaGreatDoorTopM
import Derived.Test.YtkbaejegflmeeaaGreatDoorTopN1
/-! Closed facts of the row and of the tie. -/
namespace Go.Proofs.YtkbaejegflmeeaaGreatDoor.topRefused
open Go Go.Bm
set_option maxRecDepth 100000
theorem j26 : Tryz.prog.mayEnter = true := by
  unfold Program.mayEnter
  rw [later0]
  kernel_rfl
end Go.Proofs.YtkbaejegflmeeaaGreatDoor.topRefused
