/-
  Lifted functions, and facts about them.
-/
import Derived.Test.YthfgklcdkehgjaaDoorRows
import Derived.Test.YthfgklcdkehgjaaDoorAmC
import Derived.Test.YthfgklcdkehgjaaDoorC13Lits
import Derived.Test.YthfgklcdkehgjaaDoorC13B64Loose
import Derived.Test.YthfgklcdkehgjaaDoorC13R1Idx
namespace Go.Proofs.YthfgklcdkehgjaaDoor
open Go Go.Am
set_option linter.unusedVariables false









/-! What the document's Loose computes. -/



end Go.Proofs.YthfgklcdkehgjaaDoor
