/-
  Runs of this program on known data, checked by the kernel; no condition of its own.
-/
import Derived.Test.YtkbaejegflmeeaaGreatDoorTopE
/-! Calls that are run. -/
open Go Go.Bm Go.Proofs
namespace Go.Bm
set_option maxRecDepth 100000
theorem tc2 : chk SS 100000 6 te2 = true := by kernel_rfl
theorem tc9 : chk SS 100000 6 te9 = true := by kernel_rfl
theorem tc16 : chk SS 100000 6 te16 = true := by kernel_rfl
theorem tc23 : chk SS 100000 6 te23 = true := by kernel_rfl
theorem tc30 : chk SS 100000 6 te30 = true := by kernel_rfl
theorem tc37 : chk SS 100000 6 te37 = true := by kernel_rfl
end Go.Bm
