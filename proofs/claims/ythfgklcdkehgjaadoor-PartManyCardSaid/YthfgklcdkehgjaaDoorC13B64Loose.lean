/-
  Lifted functions, and facts about them.
-/
import Derived.Test.YthfgklcdkehgjaaDoorRows
import Derived.Test.YthfgklcdkehgjaaDoorAmC
import Derived.Test.YthfgklcdkehgjaaDoorC13Lits
import Derived.Test.YthfgklcdkehgjaaDoorC13B64Enc
import Derived.Test.YthfgklcdkehgjaaDoorC13Ixb
namespace Go.Proofs.YthfgklcdkehgjaaDoor
open Go Go.Am
set_option linter.unusedVariables false









/-! What base64.Loose computes. -/




end Go.Proofs.YthfgklcdkehgjaaDoor
