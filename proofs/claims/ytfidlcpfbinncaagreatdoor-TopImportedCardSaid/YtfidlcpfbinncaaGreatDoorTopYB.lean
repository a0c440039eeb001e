/-
  Runs of this program on known data, checked by the kernel; no condition of its own.
-/
import Derived.Test.YtfidlcpfbinncaaGreatDoorTopY
set_option linter.unusedVariables false
noncomputable section
/-! A call of the law is run. -/
open Go Go.Bm Go.Proofs
namespace Go.Bm
set_option maxRecDepth 100000
theorem awr:zwz SA 100000 4 [] ⟨0,.e⟩=true:=by kernel_rfl
end Go.Bm
