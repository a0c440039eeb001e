/-
  Lifted functions, and facts about them.
-/
import Derived.Test.YthfgklcdkehgjaaDoorRows
import Derived.Test.YthfgklcdkehgjaaDoorAmC
import Derived.Test.YthfgklcdkehgjaaDoorC01
import Derived.Test.YthfgklcdkehgjaaDoorC16
import Derived.Test.YthfgklcdkehgjaaDoorC17
namespace Go.Proofs.YthfgklcdkehgjaaDoor
open Go Go.Am
set_option linter.unusedVariables false
/-! What was encoded is told as it was. -/










def textP : List UInt8 := [116, 101, 120, 116, 47, 112, 108, 97, 105, 110]
end Go.Proofs.YthfgklcdkehgjaaDoor
