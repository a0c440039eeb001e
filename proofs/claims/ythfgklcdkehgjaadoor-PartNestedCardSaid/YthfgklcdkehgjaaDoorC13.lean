/-
  Lifted functions, and facts about them.
-/
import Derived.Test.YthfgklcdkehgjaaDoorRows
import Derived.Test.YthfgklcdkehgjaaDoorAmC
import Derived.Test.YthfgklcdkehgjaaDoorC01
import Derived.Test.YthfgklcdkehgjaaDoorC12
namespace Go.Proofs.YthfgklcdkehgjaaDoor
open Go Go.Am
set_option linter.unusedVariables false
/-! The tree of parts, as the document has it. -/












































end Go.Proofs.YthfgklcdkehgjaaDoor
