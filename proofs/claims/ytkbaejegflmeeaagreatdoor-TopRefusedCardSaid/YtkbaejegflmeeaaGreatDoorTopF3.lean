/-
  Runs of this program on known data, checked by the kernel; no condition of its own.
-/
import Derived.Test.YtkbaejegflmeeaaGreatDoorTopE
/-! Calls that are run. -/
open Go Go.Bm Go.Proofs
namespace Go.Bm
set_option maxRecDepth 100000
theorem tc3 : chk SS 100000 6 te3 = true := by kernel_rfl
theorem tc10 : chk SS 100000 6 te10 = true := by kernel_rfl
theorem tc17 : chk SS 100000 6 te17 = true := by kernel_rfl
theorem tc24 : chk SS 100000 6 te24 = true := by kernel_rfl
theorem tc31 : chk SS 100000 6 te31 = true := by kernel_rfl
theorem tc38 : chk SS 100000 6 te38 = true := by kernel_rfl
end Go.Bm
