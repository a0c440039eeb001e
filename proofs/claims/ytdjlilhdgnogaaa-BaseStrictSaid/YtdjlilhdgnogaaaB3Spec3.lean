/-
  Lifted functions, and facts about them.
-/
import Derived.Test.YtdjlilhdgnogaaaB3Ixb
set_option linter.unusedVariables false
namespace Go.Proofs.Ytdjlilhdgnogaaa
open Go Go.Am
def sp_ixb : List AV → Option (AV × Option Prop) := sp_ext22
theorem ok_ixb : SpecOk Try.prog 18 sp_ixb := by
  intro zs r ok h hok
  unfold sp_ixb sp_ext22 at h
  split at h
  · cases h; exact ⟨by kernel_rfl, fn_ixb 0 _ _ _ fun _ => rfl⟩
  · cases h
end Go.Proofs.Ytdjlilhdgnogaaa
