/-
  Lifted functions, and facts about them.
-/
import Derived.Test.YthfgklcdkehgjaaDoorRows
import Derived.Test.YthfgklcdkehgjaaDoorAmC
import Derived.Test.YthfgklcdkehgjaaDoorC13Small
namespace Go.Proofs.YthfgklcdkehgjaaDoor
open Go Go.Am
set_option linter.unusedVariables false











/-! What the small functions answer. -/


theorem u8_small {n : Int} (h0 : 0 ≤ n) (h1 : n < 256) : IntKind.u8.wrap n = n := by
  have e : (2 : Int) ^ IntKind.u8.bits = 256 := rfl
  have e2 : IntKind.u8.signed = false := rfl
  simp only [IntKind.wrap, e, e2, Bool.false_and, Bool.false_eq_true, if_false]
  omega



end Go.Proofs.YthfgklcdkehgjaaDoor
