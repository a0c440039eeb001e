/-
  Runs of this program on known data, checked by the kernel; no condition of its own.
-/
import Derived.Test.YtfidlcpfbinncaaGreatDoorRows
import Derived.JoinedOf
import Derived.LaidByTextLater
import Derived.SevenTiedAt
import Derived.Test.YtfidlcpfbinncaaGreatDoorBmE
import Derived.Test.YtfidlcpfbinncaaGreatDoorTopZL
import Derived.Test.YtfidlcpfbinncaaGreatDoorTopZM
import Derived.Test.YtfidlcpfbinncaaGreatDoorTopZN1
set_option linter.unusedVariables false
noncomputable section
/-! Closed facts of the row and of the tie. -/
namespace Go.Proofs.YtfidlcpfbinncaaGreatDoor.topImported
open Go Go.Bm
set_option maxRecDepth 100000
theorem j26:Tryz.prog.mayEnter=true:=by
 unfold Program.mayEnter
 rw[zEv]
 kernel_rfl
end Go.Proofs.YtfidlcpfbinncaaGreatDoor.topImported
