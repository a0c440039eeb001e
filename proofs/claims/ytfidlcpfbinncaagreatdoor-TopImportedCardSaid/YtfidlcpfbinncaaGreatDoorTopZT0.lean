/-
  Runs of this program on known data, checked by the kernel; no condition of its own.
-/
import Derived.Test.YtfidlcpfbinncaaGreatDoorRows
import Derived.JoinedOf
import Derived.LaidByTextLater
import Derived.SevenTiedAt
import Derived.Test.YtfidlcpfbinncaaGreatDoorBmE
import Derived.Test.YtfidlcpfbinncaaGreatDoorTopZL
import Derived.Test.YtfidlcpfbinncaaGreatDoorTopZM
import Derived.Test.YtfidlcpfbinncaaGreatDoorTopZN1
set_option linter.unusedVariables false
noncomputable section
/-! Closed facts of the row and of the tie. -/
namespace Go.Proofs.YtfidlcpfbinncaaGreatDoor.topImported
open Go Go.Bm
set_option maxRecDepth 100000
def znk:List (String×DataW Unit):=[("unicode/utf8.acceptRanges",Rows.laid_unicode_utf8_acceptRanges),("internal/strconv.uint64pow10",Rows.laid_internal_strconv_uint64pow10),("math/bits.deBruijn32tab",Rows.laid_math_bits_deBruijn32tab),("math/bits.deBruijn64tab",Rows.laid_math_bits_deBruijn64tab)]
theorem i1:Tryz.prog.worded (varsWordLater true)=true:=(zh9 _ _).trans (by kernel_rfl)
theorem i2:Tryz.prog.worded (varsWordLater !true)=false:=(zh9 _ _).trans (by kernel_rfl)
theorem i3:Tryz.prog.worded rootWordLater=true:=(zh9 _ _).trans (by kernel_rfl)
theorem i4:znk.map (fun x=>Tryz.prog.kindOfLater x.1)=[LaidKind.data,.data,.data,.data].map some:=by kernel_rfl
theorem i5:(Tryz.prog.funcNamed "gosem.cut.vars").isSome=true:=by rw[zoU];rfl
theorem i6:varsNamedLaterB Tryz.prog (varsId Tryz.prog) znk=true:=by rw[vid];kernel_rfl
theorem i7:∀ os tape,varsDone Tryz.prog 400 (varsId Tryz.prog) os tape=true:=fun _ _=>by rw[vid];kernel_rfl
theorem i8:∀ os tape,(DataW.laidRun Tryz.prog (varsWorld Tryz.prog 400 (varsId Tryz.prog) os tape).memory 8 (znk.map (·.1))).map (·.1)=some znk:=fun _ _=>by rw[vid];kernel_rfl
theorem i9:∀ os tape,(DataW.laidRun Tryz.prog (varsWorld Tryz.prog 400 (varsId Tryz.prog) os tape).memory 8 (znk.map (·.1))).map (fun x=>decide x.2.Nodup&&laidRowsB Tryz.prog (varsWorld Tryz.prog 400 (varsId Tryz.prog) os tape).memory x.2)=some true:=fun _ _=>by rw[vid];kernel_rfl
theorem pin1:Tryz.prog.pinnedFits "unicode/utf8.first"=true:=by
 unfold Program.pinnedFits
 rw[zoU]
 kernel_rfl
theorem pin2:Tryz.prog.pinnedFits "unicode.CaseRanges"=true:=by
 unfold Program.pinnedFits
 rw[zoU]
 kernel_rfl
theorem ownN:Tryz.prog.headLifts.contains "ownunsafe"=false:=by kernel_rfl
theorem zwa:Tryz.prog.listedFits Rows.topImportedRow.laid=true:=by
 unfold Program.listedFits
 rw[ownN]
 kernel_rfl
end Go.Proofs.YtfidlcpfbinncaaGreatDoor.topImported
