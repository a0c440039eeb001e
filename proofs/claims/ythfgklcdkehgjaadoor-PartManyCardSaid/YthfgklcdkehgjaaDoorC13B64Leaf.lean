/-
  Lifted functions, and facts about them.
-/
import Derived.Test.YthfgklcdkehgjaaDoorRows
import Derived.Test.YthfgklcdkehgjaaDoorAmC
import Derived.Test.YthfgklcdkehgjaaDoorC13Lits
import Derived.Test.YthfgklcdkehgjaaDoorC13Small
namespace Go.Proofs.YthfgklcdkehgjaaDoor
open Go Go.Am
set_option linter.unusedVariables false












/-! Base64: what the small functions answer. -/





end Go.Proofs.YthfgklcdkehgjaaDoor
