/-
  Runs of this program on known data, checked by the kernel; no condition of its own.
-/
import Derived.Test.YtfidlcpfbinncaaGreatDoorRows
import Derived.JoinedOf
set_option linter.unusedVariables false
noncomputable section
/-! Closed facts of the row. -/
namespace Go.Proofs.YtfidlcpfbinncaaGreatDoor.topImported
open Go
set_option maxRecDepth 100000
theorem j1:Rows.topImportedRow.wf (OpenSpec.ofChange Rows.topImportedSpec)=true:=by kernel_rfl
theorem j4:Tryz.f3.params.all (Tryz.prog.readableRec ·)=true:=by kernel_rfl
theorem j5:namedTie Tryz.prog Rows.topImportedRow.named Rows.topImportedSpec.vars=true:=by kernel_rfl
theorem j6:(Rows.topImportedRow.stops==[])=true:=by kernel_rfl
theorem j7:(Tryz.prog.stops==[])=true:=by kernel_rfl
theorem j8:(Rows.topImportedRow.knobs==[])=true:=by kernel_rfl
theorem j9:(Tryz.prog.stopKnobs==[])=true:=by kernel_rfl
theorem j14:(Rows.topImportedRow.maps==(Tryz.f3.params.toList++Rows.topImportedSpec.plain.varTypes Tryz.prog).any (Tryz.prog.mapsRec ·))=true:=by kernel_rfl
theorem j15:(Rows.topImportedRow.ifaces==(Tryz.f3.params.toList++Rows.topImportedSpec.plain.varTypes Tryz.prog).any (Tryz.prog.ifacesRec ·))=true:=by kernel_rfl
theorem j16:(Rows.topImportedRow.mapsOut==Tryz.prog.mapsAmong Tryz.f3.resultTypes.toList)=true:=by kernel_rfl
theorem j17:(Rows.topImportedRow.loops==(Tryz.f3.params.toList++Rows.topImportedSpec.plain.varTypes Tryz.prog).any (Tryz.prog.loopsFrom ·))=true:=by kernel_rfl
theorem j18:(Rows.topImportedRow.wideKeys==(Tryz.f3.params.toList++Rows.topImportedSpec.plain.varTypes Tryz.prog++Tryz.f3.resultTypes.toList).any (Tryz.prog.wideKeysFrom ·))=true:=by kernel_rfl
theorem j19:Rows.topImportedSpec.vars.all (Tryz.prog.varReadable ·)=true:=by kernel_rfl
theorem j20:Tryz.f3.resultTypes.all (fun t=>Tryz.prog.readableRec t&&decide (t<Tryz.prog.types.size))=true:=by kernel_rfl
theorem j21:(Rows.topImportedRow.ifacesOut==Tryz.f3.resultTypes.toList.any (Tryz.prog.ifacesRec ·))=true:=by kernel_rfl
theorem j22:(Rows.topImportedRow.loopsOut==Tryz.f3.resultTypes.toList.any (Tryz.prog.loopsFrom ·))=true:=by kernel_rfl
theorem j24:Rows.topImportedRow.shortTexts.isNone=true:=by kernel_rfl
theorem j27:(Rows.topImportedRow.lifted==Tryz.prog.liftsFinal)=true:=by kernel_rfl
theorem j28:(Tryz.prog.make==some Rows.topImportedRow.make)=true:=by kernel_rfl
theorem j29:(Rows.topImportedRow.kinds==(if Rows.topImportedRow.domain.isEmpty then[] else Tryz.f3.params.toList.map fun t=>match Tryz.prog.underlying t with|some (.int k)=>some k|_=>none))=true:=by kernel_rfl
theorem j30:(Rows.topImportedRow.pinned==Rows.topImportedRow.pinnedBy)=true:=by kernel_rfl
theorem j31:(Rows.topImportedRow.veiled==(Tryz.f3.params.toList++Rows.topImportedSpec.plain.varTypes Tryz.prog++Tryz.f3.resultTypes.toList).any (Tryz.prog.veiledRec ·))=true:=by kernel_rfl
theorem j32:Rows.topImportedRow.veiledFits Tryz.prog Tryz.f3.params.toList (Tryz.f3.params.toList++Rows.topImportedSpec.plain.varTypes Tryz.prog++Tryz.f3.resultTypes.toList)=true:=by kernel_rfl
end Go.Proofs.YtfidlcpfbinncaaGreatDoor.topImported
