/-
  Runs of this program on known data, checked by the kernel; no condition of its own.
-/
import Derived.Test.YtkbaejegflmeeaaGreatDoorTopE
/-! Calls that are run. -/
open Go Go.Bm Go.Proofs
namespace Go.Bm
set_option maxRecDepth 100000
theorem tc0 : chk SS 100000 6 te0 = true := by kernel_rfl
theorem tc7 : chk SS 100000 6 te7 = true := by kernel_rfl
theorem tc14 : chk SS 100000 6 te14 = true := by kernel_rfl
theorem tc21 : chk SS 100000 6 te21 = true := by kernel_rfl
theorem tc28 : chk SS 100000 6 te28 = true := by kernel_rfl
theorem tc35 : chk SS 100000 6 te35 = true := by kernel_rfl
end Go.Bm
