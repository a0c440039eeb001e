/-
  Runs of this program on known data, checked by the kernel; no condition of its own.
-/
import Derived.Test.YtkbaejegflmeeaaGreatDoorRows
import Derived.JoinedOf
import Derived.LaidByTextLater
import Derived.SevenTiedAt
import Derived.Test.YtkbaejegflmeeaaGreatDoorBmD
import Derived.Test.YtkbaejegflmeeaaGreatDoorTopL
import Derived.Test.YtkbaejegflmeeaaGreatDoorTopM
import Derived.Test.YtkbaejegflmeeaaGreatDoorTopN1
/-! Closed facts of the row and of the tie. -/
namespace Go.Proofs.YtkbaejegflmeeaaGreatDoor.topRefused
open Go Go.Bm
set_option maxRecDepth 100000
def laid4 : List (String × DataW Unit) := [("unicode/utf8.acceptRanges", Rows.laid_unicode_utf8_acceptRanges), ("internal/strconv.uint64pow10", Rows.laid_internal_strconv_uint64pow10), ("math/bits.deBruijn32tab", Rows.laid_math_bits_deBruijn32tab), ("math/bits.deBruijn64tab", Rows.laid_math_bits_deBruijn64tab)]
theorem i1 : Tryz.prog.worded (varsWordLater true) = true := (worded_eq _ _).trans (by kernel_rfl)
theorem i2 : Tryz.prog.worded (varsWordLater !true) = false := (worded_eq _ _).trans (by kernel_rfl)
theorem i3 : Tryz.prog.worded rootWordLater = true := (worded_eq _ _).trans (by kernel_rfl)
theorem i4 : laid4.map (fun x => Tryz.prog.kindOfLater x.1) = [LaidKind.data, .data, .data, .data].map some := by kernel_rfl
theorem i5 : (Tryz.prog.funcNamed "gosem.cut.vars").isSome = true := by rw [fnVars]; rfl
theorem i6 : varsNamedLaterB Tryz.prog (varsId Tryz.prog) laid4 = true := by rw [vid]; kernel_rfl
theorem i7 : ∀ os tape, varsDone Tryz.prog 400 (varsId Tryz.prog) os tape = true := fun _ _ => by rw [vid]; kernel_rfl
theorem i8 : ∀ os tape, (DataW.laidRun Tryz.prog (varsWorld Tryz.prog 400 (varsId Tryz.prog) os tape).memory 8 (laid4.map (·.1))).map (·.1) = some laid4 := fun _ _ => by rw [vid]; kernel_rfl
theorem i9 : ∀ os tape, (DataW.laidRun Tryz.prog (varsWorld Tryz.prog 400 (varsId Tryz.prog) os tape).memory 8 (laid4.map (·.1))).map (fun x => decide x.2.Nodup && laidRowsB Tryz.prog (varsWorld Tryz.prog 400 (varsId Tryz.prog) os tape).memory x.2) = some true := fun _ _ => by rw [vid]; kernel_rfl
theorem pin1 : Tryz.prog.pinnedFits "unicode/utf8.first" = true := by
  unfold Program.pinnedFits
  rw [fnVars]
  kernel_rfl
theorem pin2 : Tryz.prog.pinnedFits "unicode.CaseRanges" = true := by
  unfold Program.pinnedFits
  rw [fnVars]
  kernel_rfl
theorem ownN : Tryz.prog.headLifts.contains "ownunsafe" = false := by kernel_rfl
theorem fits : Tryz.prog.listedFits Rows.topRefusedRow.laid = true := by
  unfold Program.listedFits
  rw [ownN]
  kernel_rfl
end Go.Proofs.YtkbaejegflmeeaaGreatDoor.topRefused
