/-
  Runs of this program on known data, checked by the kernel; no condition of its own.
-/
import Derived.SevenTiedAt
import Derived.Test.YtfidlcpfbinncaaGreatDoorTopZRow
import Derived.Test.YtfidlcpfbinncaaGreatDoorTopZN0
import Derived.Test.YtfidlcpfbinncaaGreatDoorTopZN1
import Derived.Test.YtfidlcpfbinncaaGreatDoorTopZN2
import Derived.Test.YtfidlcpfbinncaaGreatDoorTopZN4
set_option linter.unusedVariables false
noncomputable section
namespace Go.Proofs.YtfidlcpfbinncaaGreatDoor.topImported
open Go.Bm Go.ChangeShapes Go.WideShapes Go.ChangeAt Go.RowKit
set_option maxRecDepth 100000
theorem zEz:joinedFacts Tryz.prog 3 Tryz.f3 Rows.topImportedSpec Rows.topImportedRow=true:=by
 unfold joinedFacts
 simp only[Bool.and_eq_true]
 exact⟨⟨⟨⟨⟨⟨⟨⟨⟨⟨⟨⟨⟨⟨⟨⟨⟨⟨⟨⟨⟨⟨⟨⟨⟨⟨⟨⟨⟨⟨⟨j1,j2⟩,j3⟩,j4⟩,j5⟩,j6⟩,j7⟩,j8⟩,j9⟩,j10⟩,j11⟩,j12⟩,j13⟩,j14⟩,j15⟩,j16⟩,j17⟩,j18⟩,j19⟩,j20⟩,j21⟩,j22⟩,j23⟩,j24⟩,j25⟩,j26⟩,j27⟩,j28⟩,j29⟩,j30⟩,j31⟩,j32⟩
theorem over:Rows.topImportedRow.holds Tryz.pinned (OpenSpec.ofChange Rows.topImportedSpec):=
 OpenClaim.holds_of_wide 3 Tryz.f3 rfl rfl rfl rfl rfl rfl rfl ⟨rfl,rfl,rfl,rfl,rfl⟩ rfl rfl rfl rfl rfl j0 Tryz.func3 zEz
  (of_decide_eq_true (by kernel_rfl)) (by unfold Func.isWrapper;first|(rw[if_pos (by decide+kernel)];kernel_rfl)|(rw[if_neg (by decide+kernel)];exact⟨rfl,rfl⟩))
  (fun os started H enc _=>lifted os started H enc)
end Go.Proofs.YtfidlcpfbinncaaGreatDoor.topImported
