/-
  Runs of this program on known data, checked by the kernel; no condition of its own.
-/
import Derived.Test.YtkbaejegflmeeaaGreatDoorTopE
/-! Calls that are run. -/
open Go Go.Bm Go.Proofs
namespace Go.Bm
set_option maxRecDepth 100000
theorem tc4 : chk SS 100000 6 te4 = true := by kernel_rfl
theorem tc11 : chk SS 100000 6 te11 = true := by kernel_rfl
theorem tc18 : chk SS 100000 6 te18 = true := by kernel_rfl
theorem tc25 : chk SS 100000 6 te25 = true := by kernel_rfl
theorem tc32 : chk SS 100000 6 te32 = true := by kernel_rfl
theorem tc39 : chk SS 100000 6 te39 = true := by kernel_rfl
end Go.Bm
