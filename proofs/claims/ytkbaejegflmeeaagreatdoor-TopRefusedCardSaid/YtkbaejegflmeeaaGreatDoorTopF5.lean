/-
  Runs of this program on known data, checked by the kernel; no condition of its own.
-/
import Derived.Test.YtkbaejegflmeeaaGreatDoorTopE
/-! Calls that are run. -/
open Go Go.Bm Go.Proofs
namespace Go.Bm
set_option maxRecDepth 100000
theorem tc5 : chk SS 100000 6 te5 = true := by kernel_rfl
theorem tc12 : chk SS 100000 6 te12 = true := by kernel_rfl
theorem tc19 : chk SS 100000 6 te19 = true := by kernel_rfl
theorem tc26 : chk SS 100000 6 te26 = true := by kernel_rfl
theorem tc33 : chk SS 100000 6 te33 = true := by kernel_rfl
theorem tc40 : chk SS 100000 6 te40 = true := by kernel_rfl
end Go.Bm
