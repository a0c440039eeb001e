/-
  Runs of this program on known data, checked by the kernel; no condition of its own.
-/
import Derived.Test.YtfidlcpfbinncaaGreatDoorRows
import Derived.JoinedOf
import Derived.LaidByTextLater
import Derived.SevenTiedAt
import Derived.Test.YtfidlcpfbinncaaGreatDoorBmE
import Derived.Test.YtfidlcpfbinncaaGreatDoorTopZL
import Derived.Test.YtfidlcpfbinncaaGreatDoorTopZM
set_option linter.unusedVariables false
noncomputable section
/-! Closed facts of the row and of the tie. -/
namespace Go.Proofs.YtfidlcpfbinncaaGreatDoor.topImported
open Go Go.Bm
set_option maxRecDepth 100000
theorem m3:zqp SS 819 819 0=true:=by kernel_rfl
theorem j3:mapsRowed Tryz.prog=true:=show mapsRowed SS.P=true from zBM (S:=SS) (n:=819) zpC zlb m3
theorem m23:zqz SS 819 0=true:=by kernel_rfl
theorem p23:Tryz.prog.plainKeys=true:=show SS.P.plainKeys=true from zBS (S:=SS) (n:=819) zpC zlb m23
theorem j23:(Rows.topImportedRow.plainKeys==Tryz.prog.plainKeys)=true:=by rw[p23];rfl
theorem j25:Tryz.prog.stopsHeard=true:=(zy0 _).trans (by kernel_rfl)
theorem zEv:Tryz.prog.laysLater=false:=(zyJ _).trans (by kernel_rfl)
theorem zuk:Tryz.prog.funcs.size=815:=by kernel_rfl
theorem m0:zla FA 815 "pillarbox/pillarboxtop.TopImported"=[3]:=by kernel_rfl
theorem j0:Tryz.prog.funcNamed "pillarbox/pillarboxtop.TopImported"=some 3:=zqj zl4 zuk m0
theorem mv:zla FA 815 "gosem.cut.vars"=[814]:=by kernel_rfl
theorem zoU:Tryz.prog.funcNamed "gosem.cut.vars"=some 814:=zqj zl4 zuk mv
theorem vid:varsId Tryz.prog=814:=by unfold varsId;rw[zoU];rfl
theorem zEt:true=Tryz.prog.looks []:=Eq.symm ((zyB _).trans (by kernel_rfl))
end Go.Proofs.YtfidlcpfbinncaaGreatDoor.topImported
