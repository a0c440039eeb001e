/-
  Runs of this program on known data, checked by the kernel; no condition of its own.
-/
import Derived.Test.YtkbaejegflmeeaaGreatDoorTopE
/-! Calls that are run. -/
open Go Go.Bm Go.Proofs
namespace Go.Bm
set_option maxRecDepth 100000
theorem tc6 : chk SS 100000 6 te6 = true := by kernel_rfl
theorem tc13 : chk SS 100000 6 te13 = true := by kernel_rfl
theorem tc20 : chk SS 100000 6 te20 = true := by kernel_rfl
theorem tc27 : chk SS 100000 6 te27 = true := by kernel_rfl
theorem tc34 : chk SS 100000 6 te34 = true := by kernel_rfl
end Go.Bm
