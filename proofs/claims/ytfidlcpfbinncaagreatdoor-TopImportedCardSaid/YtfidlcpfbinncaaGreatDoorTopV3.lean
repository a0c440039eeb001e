/-
  Runs of this program on known data, checked by the kernel; no condition of its own.
-/
import Derived.Test.YtfidlcpfbinncaaGreatDoorTopX
set_option linter.unusedVariables false
noncomputable section
/-! A zeh is read. -/
open Go Go.Bm Go.Proofs
namespace Go.Bm
set_option maxRecDepth 100000
theorem zw2(t:List UInt8):zeD (fun i=>zlP t (756+i)) 126=true:=by kernel_rfl
theorem zw1(t:List UInt8):zeD (fun i=>zlP t (882+i)) 119=true:=by kernel_rfl
end Go.Bm
