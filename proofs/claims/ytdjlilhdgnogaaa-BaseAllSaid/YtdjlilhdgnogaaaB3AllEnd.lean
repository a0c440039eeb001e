/-
  Lifted functions, and facts about them.
-/
import Derived.Test.YtdjlilhdgnogaaaB3LawAll
set_option linter.unusedVariables false
/-! BaseAll. -/
namespace Go.Proofs.Ytdjlilhdgnogaaa
open Go Go.Am
theorem All_true (s : List UInt8) : FnP Try.prog 5 [.p (.str s)] (.p (.bool true)) := fn_All 0 s _ fun _ => by
  unfold FAll
  split
  · rfl
  · rename_i h
    simp only [decide_eq_true_eq] at h
    rw [if_pos (by omega), if_pos (by omega), if_pos ⟨by omega, by omega, fun _ => by omega, fun _ => by omega⟩]
    simp
end Go.Proofs.Ytdjlilhdgnogaaa
