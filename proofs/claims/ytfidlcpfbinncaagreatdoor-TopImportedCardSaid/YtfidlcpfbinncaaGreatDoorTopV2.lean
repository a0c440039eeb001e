/-
  Runs of this program on known data, checked by the kernel; no condition of its own.
-/
import Derived.Test.YtfidlcpfbinncaaGreatDoorTopX
set_option linter.unusedVariables false
noncomputable section
/-! A zeh is read. -/
open Go Go.Bm Go.Proofs
namespace Go.Bm
set_option maxRecDepth 100000
theorem zw4(t:List UInt8):zeD (fun i=>zlP t (504+i)) 126=true:=by kernel_rfl
theorem zw3(t:List UInt8):zeD (fun i=>zlP t (630+i)) 126=true:=by kernel_rfl
end Go.Bm
