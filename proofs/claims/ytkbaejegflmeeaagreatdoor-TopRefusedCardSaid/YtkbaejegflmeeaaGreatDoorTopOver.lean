/-
  The row of TopRefused holds, out of its closed facts and the lifted run. Conditions: none.
-/
import Derived.SevenTiedAt
import Derived.Test.YtkbaejegflmeeaaGreatDoorTopRow
import Derived.Test.YtkbaejegflmeeaaGreatDoorTopN0
import Derived.Test.YtkbaejegflmeeaaGreatDoorTopN1
import Derived.Test.YtkbaejegflmeeaaGreatDoorTopN2
import Derived.Test.YtkbaejegflmeeaaGreatDoorTopN4
namespace Go.Proofs.YtkbaejegflmeeaaGreatDoor.topRefused
open Go.Bm Go.ChangeShapes Go.WideShapes Go.ChangeAt Go.RowKit
set_option maxRecDepth 100000
theorem joined : joinedFacts Tryz.prog 3 Tryz.f3 Rows.topRefusedSpec Rows.topRefusedRow = true := by
  unfold joinedFacts
  simp only [Bool.and_eq_true]
  exact ⟨⟨⟨⟨⟨⟨⟨⟨⟨⟨⟨⟨⟨⟨⟨⟨⟨⟨⟨⟨⟨⟨⟨⟨⟨⟨⟨⟨⟨⟨⟨j1, j2⟩, j3⟩, j4⟩, j5⟩, j6⟩, j7⟩, j8⟩, j9⟩, j10⟩, j11⟩, j12⟩, j13⟩, j14⟩, j15⟩, j16⟩, j17⟩, j18⟩, j19⟩, j20⟩, j21⟩, j22⟩, j23⟩, j24⟩, j25⟩, j26⟩, j27⟩, j28⟩, j29⟩, j30⟩, j31⟩, j32⟩
theorem over : Rows.topRefusedRow.holds Tryz.pinned (OpenSpec.ofChange Rows.topRefusedSpec) :=
  OpenClaim.holds_of_wide 3 Tryz.f3 rfl rfl rfl rfl rfl rfl rfl ⟨rfl, rfl, rfl, rfl, rfl⟩ rfl rfl rfl rfl rfl j0 Tryz.func3 joined
    (of_decide_eq_true (by kernel_rfl)) (by unfold Func.isWrapper; first | (rw [if_pos (by decide +kernel)]; kernel_rfl) | (rw [if_neg (by decide +kernel)]; exact ⟨rfl, rfl⟩))
    (fun os started H enc _ => lifted os started H enc)
end Go.Proofs.YtkbaejegflmeeaaGreatDoor.topRefused
