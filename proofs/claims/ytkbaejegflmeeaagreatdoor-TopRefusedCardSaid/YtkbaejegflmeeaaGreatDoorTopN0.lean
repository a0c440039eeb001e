/-
  Runs of this program on known data, checked by the kernel; no condition of its own.
-/
import Derived.Test.YtkbaejegflmeeaaGreatDoorRows
import Derived.JoinedOf
/-! Closed facts of the row. -/
namespace Go.Proofs.YtkbaejegflmeeaaGreatDoor.topRefused
open Go
set_option maxRecDepth 100000
theorem j1 : Rows.topRefusedRow.wf (OpenSpec.ofChange Rows.topRefusedSpec) = true := by kernel_rfl
theorem j4 : Tryz.f3.params.all (Tryz.prog.readableRec ·) = true := by kernel_rfl
theorem j5 : namedTie Tryz.prog Rows.topRefusedRow.named Rows.topRefusedSpec.vars = true := by kernel_rfl
theorem j6 : (Rows.topRefusedRow.stops == []) = true := by kernel_rfl
theorem j7 : (Tryz.prog.stops == []) = true := by kernel_rfl
theorem j8 : (Rows.topRefusedRow.knobs == []) = true := by kernel_rfl
theorem j9 : (Tryz.prog.stopKnobs == []) = true := by kernel_rfl
theorem j14 : (Rows.topRefusedRow.maps == (Tryz.f3.params.toList ++ Rows.topRefusedSpec.plain.varTypes Tryz.prog).any (Tryz.prog.mapsRec ·)) = true := by kernel_rfl
theorem j15 : (Rows.topRefusedRow.ifaces == (Tryz.f3.params.toList ++ Rows.topRefusedSpec.plain.varTypes Tryz.prog).any (Tryz.prog.ifacesRec ·)) = true := by kernel_rfl
theorem j16 : (Rows.topRefusedRow.mapsOut == Tryz.prog.mapsAmong Tryz.f3.resultTypes.toList) = true := by kernel_rfl
theorem j17 : (Rows.topRefusedRow.loops == (Tryz.f3.params.toList ++ Rows.topRefusedSpec.plain.varTypes Tryz.prog).any (Tryz.prog.loopsFrom ·)) = true := by kernel_rfl
theorem j18 : (Rows.topRefusedRow.wideKeys == (Tryz.f3.params.toList ++ Rows.topRefusedSpec.plain.varTypes Tryz.prog ++ Tryz.f3.resultTypes.toList).any (Tryz.prog.wideKeysFrom ·)) = true := by kernel_rfl
theorem j19 : Rows.topRefusedSpec.vars.all (Tryz.prog.varReadable ·) = true := by kernel_rfl
theorem j20 : Tryz.f3.resultTypes.all (fun t => Tryz.prog.readableRec t && decide (t < Tryz.prog.types.size)) = true := by kernel_rfl
theorem j21 : (Rows.topRefusedRow.ifacesOut == Tryz.f3.resultTypes.toList.any (Tryz.prog.ifacesRec ·)) = true := by kernel_rfl
theorem j22 : (Rows.topRefusedRow.loopsOut == Tryz.f3.resultTypes.toList.any (Tryz.prog.loopsFrom ·)) = true := by kernel_rfl
theorem j24 : Rows.topRefusedRow.shortTexts.isNone = true := by kernel_rfl
theorem j27 : (Rows.topRefusedRow.lifted == Tryz.prog.liftsFinal) = true := by kernel_rfl
theorem j28 : (Tryz.prog.make == some Rows.topRefusedRow.make) = true := by kernel_rfl
theorem j29 : (Rows.topRefusedRow.kinds == (if Rows.topRefusedRow.domain.isEmpty then [] else Tryz.f3.params.toList.map fun t => match Tryz.prog.underlying t with | some (.int k) => some k | _ => none)) = true := by kernel_rfl
theorem j30 : (Rows.topRefusedRow.pinned == Rows.topRefusedRow.pinnedBy) = true := by kernel_rfl
theorem j31 : (Rows.topRefusedRow.veiled == (Tryz.f3.params.toList ++ Rows.topRefusedSpec.plain.varTypes Tryz.prog ++ Tryz.f3.resultTypes.toList).any (Tryz.prog.veiledRec ·)) = true := by kernel_rfl
theorem j32 : Rows.topRefusedRow.veiledFits Tryz.prog Tryz.f3.params.toList (Tryz.f3.params.toList ++ Rows.topRefusedSpec.plain.varTypes Tryz.prog ++ Tryz.f3.resultTypes.toList) = true := by kernel_rfl
end Go.Proofs.YtkbaejegflmeeaaGreatDoor.topRefused
