/-
  Runs of this program on known data, checked by the kernel; no condition of its own.
-/
import Derived.Test.YtkbaejegflmeeaaGreatDoorTopE
/-! Calls that are run. -/
open Go Go.Bm Go.Proofs
namespace Go.Bm
set_option maxRecDepth 100000
theorem tc1 : chk SS 100000 6 te1 = true := by kernel_rfl
theorem tc8 : chk SS 100000 6 te8 = true := by kernel_rfl
theorem tc15 : chk SS 100000 6 te15 = true := by kernel_rfl
theorem tc22 : chk SS 100000 6 te22 = true := by kernel_rfl
theorem tc29 : chk SS 100000 6 te29 = true := by kernel_rfl
theorem tc36 : chk SS 100000 6 te36 = true := by kernel_rfl
end Go.Bm
