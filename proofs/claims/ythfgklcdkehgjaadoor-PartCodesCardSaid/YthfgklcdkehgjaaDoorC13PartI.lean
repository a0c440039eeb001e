/-
  Lifted functions, and facts about them.
-/
import Derived.Test.YthfgklcdkehgjaaDoorRows
import Derived.Test.YthfgklcdkehgjaaDoorAmC
import Derived.Test.YthfgklcdkehgjaaDoorAmNeed
import Derived.Test.YthfgklcdkehgjaaDoorC13PartH
namespace Go.Proofs.YthfgklcdkehgjaaDoor
open Go Go.Am
set_option linter.unusedVariables false
/-! The tree of parts, both sides. -/


















end Go.Proofs.YthfgklcdkehgjaaDoor
