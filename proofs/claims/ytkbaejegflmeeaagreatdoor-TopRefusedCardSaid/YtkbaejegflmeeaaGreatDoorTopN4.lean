/-
  Runs of this program on known data, checked by the kernel; no condition of its own.
-/
import Derived.Test.YtkbaejegflmeeaaGreatDoorRows
import Derived.JoinedOf
import Derived.Test.YtkbaejegflmeeaaGreatDoorTopL
import Derived.Test.YtkbaejegflmeeaaGreatDoorTopM
/-! Closed facts of the row. -/
namespace Go.Proofs.YtkbaejegflmeeaaGreatDoor.topRefused
open Go Go.Bm
set_option maxRecDepth 100000
theorem j2 : laidOutB Tryz.prog = true := laidOut3
theorem p10 : Tryz.prog.inPlace 3 = Rows.topRefusedRow.inPlace := (place_eq allFA clo).trans (by kernel_rfl)
theorem j10 : (Rows.topRefusedRow.inPlace == Tryz.prog.inPlace 3) = true := by rw [p10]; exact beq_self_eq_true _
theorem j11 : (Rows.topRefusedRow.unfollowed == Tryz.prog.unfollowed 3) = true := by rw [unf3]; rfl
theorem j12 : (Rows.topRefusedRow.recurses == Tryz.prog.recurses 3) = true := by rw [rec3]; rfl
theorem p13 : Tryz.prog.varsNamed 3 = Rows.topRefusedRow.named := (vars_eq allFA clo).trans (by kernel_rfl)
theorem j13 : (Rows.topRefusedRow.named == Tryz.prog.varsNamed 3) = true := by rw [p13]; exact beq_self_eq_true _
end Go.Proofs.YtkbaejegflmeeaaGreatDoor.topRefused
