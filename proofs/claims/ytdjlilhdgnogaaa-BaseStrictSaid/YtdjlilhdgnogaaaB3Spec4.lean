/-
  Lifted functions, and facts about them.
-/
import Derived.Test.YtdjlilhdgnogaaaB3PlainB
import Derived.Test.YtdjlilhdgnogaaaB3Spec2
set_option linter.unusedVariables false
namespace Go.Proofs.Ytdjlilhdgnogaaa
open Go Go.Am
def sp_Loose : List AV → Option (AV × Option Prop) := spStr looseB
theorem ok_Loose : SpecOk Try.prog 14 sp_Loose := spStr_ok (by kernel_rfl) fun s hs => fn_Loose 1000001 s _ fun _ => Loose_eq s hs
end Go.Proofs.Ytdjlilhdgnogaaa
