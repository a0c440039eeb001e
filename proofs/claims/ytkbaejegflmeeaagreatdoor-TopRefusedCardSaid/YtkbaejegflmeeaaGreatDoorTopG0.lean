/-
  Runs of this program on known data, checked by the kernel; no condition of its own.
-/
import Derived.Test.YtkbaejegflmeeaaGreatDoorTopG
/-! Calls that are run. -/
open Go Go.Bm Go.Proofs
namespace Go.Bm
set_option maxRecDepth 100000
theorem ca0 : chk SS 100000 5 ta0 = true := by kernel_rfl
theorem ca1 : chk SS 100000 5 ta1 = true := by kernel_rfl
theorem ca3 : chk SS 100000 43 ta3 = true := by kernel_rfl
theorem awake_run : chkT SA 100000 10 = true := by kernel_rfl
end Go.Bm
