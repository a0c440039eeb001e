/-
  Lifted functions, and facts about them.
-/
import Derived.Test.YtoanepondbagcaaGreatDoorRows
import Derived.Test.YtoanepondbagcaaGreatDoorAmC
import Derived.Test.YtoanepondbagcaaGreatDoorC22
namespace Go.Proofs.YtoanepondbagcaaGreatDoor
open Go Go.Am
set_option linter.unusedVariables false
theorem nil_list {M:Mem} {v:Value} {k:Nat} {R:Go.Am.Rows} (h:ARel γ0 M (.p .nil) v) (h0:R.n=0):ARel γ0 M (.p (.list k R)) v:=by
 have:=h.p_inv
 cases this with
 | nil=>exact .p _ _ (.listNil k R h0)
def okP (L:Int) (p:Part):Prop:=∃ k,insideP k p 0 L=true
end Go.Proofs.YtoanepondbagcaaGreatDoor
