/-
  Runs of this program on known data, checked by the kernel; no condition of its own.
-/
import Derived.Test.YtfidlcpfbinncaaGreatDoorRows
import Derived.JoinedOf
import Derived.Test.YtfidlcpfbinncaaGreatDoorTopZL
import Derived.Test.YtfidlcpfbinncaaGreatDoorTopZM
set_option linter.unusedVariables false
noncomputable section
/-! Closed facts of the row. -/
namespace Go.Proofs.YtfidlcpfbinncaaGreatDoor.topImported
open Go Go.Bm
set_option maxRecDepth 100000
theorem j2:laidOutB Tryz.prog=true:=zyK
theorem p10:Tryz.prog.inPlace 3=Rows.topImportedRow.inPlace:=(zx8 zl4 clo).trans (by kernel_rfl)
theorem j10:(Rows.topImportedRow.inPlace==Tryz.prog.inPlace 3)=true:=by rw[p10];exact beq_self_eq_true _
theorem j11:(Rows.topImportedRow.unfollowed==Tryz.prog.unfollowed 3)=true:=by rw[unf3];rfl
theorem j12:(Rows.topImportedRow.recurses==Tryz.prog.recurses 3)=true:=by rw[rec3];rfl
theorem p13:Tryz.prog.varsNamed 3=Rows.topImportedRow.named:=(zAR zl4 clo).trans (by kernel_rfl)
theorem j13:(Rows.topImportedRow.named==Tryz.prog.varsNamed 3)=true:=by rw[p13];exact beq_self_eq_true _
end Go.Proofs.YtfidlcpfbinncaaGreatDoor.topImported
