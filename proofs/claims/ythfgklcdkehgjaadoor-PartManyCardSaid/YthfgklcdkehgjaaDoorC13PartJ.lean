/-
  Lifted functions, and facts about them.
-/
import Derived.Test.YthfgklcdkehgjaaDoorRows
import Derived.Test.YthfgklcdkehgjaaDoorAmC
import Derived.Test.YthfgklcdkehgjaaDoorAmNeed
import Derived.Test.YthfgklcdkehgjaaDoorC13PartI
import Derived.Test.YthfgklcdkehgjaaDoorC13B64Loose
import Derived.Test.YthfgklcdkehgjaaDoorC13R1Loose
import Derived.Test.YthfgklcdkehgjaaDoorC13QDec
import Derived.Test.YthfgklcdkehgjaaDoorC13QPlain
namespace Go.Proofs.YthfgklcdkehgjaaDoor
open Go Go.Am
set_option linter.unusedVariables false
/-! What a part has in it. -/
























end Go.Proofs.YthfgklcdkehgjaaDoor
