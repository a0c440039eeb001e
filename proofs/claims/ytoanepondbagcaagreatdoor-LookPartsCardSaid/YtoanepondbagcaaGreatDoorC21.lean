/-
  Lifted functions, and facts about them.
-/
import Derived.Test.YtoanepondbagcaaGreatDoorRows
import Derived.Test.YtoanepondbagcaaGreatDoorAmC
import Derived.Test.YtoanepondbagcaaGreatDoorC20
import Derived.Test.YtoanepondbagcaaGreatDoorC14IxAny2
import Derived.Shelf.Strings.FieldsFuncAny
import Derived.Shelf.Spec.SlicesGrow
namespace Go.Proofs.YtoanepondbagcaaGreatDoor
open Go Go.Am
set_option linter.unusedVariables false
/-! strings.FieldsFunc at blanks and below: the pieces between bytes of at most 32. -/
def fldF : List UInt8 → List UInt8 → List (List UInt8)
  | [], cur => if cur = [] then [] else [cur]
  | c :: r, cur => if c.toNat ≤ 32 then (if cur = [] then fldF r [] else cur :: fldF r []) else fldF r (cur ++ [c])
def fldS (s : List UInt8) : List (List UInt8) := fldF s []
theorem fldF_skip : ∀ (x r cur : List UInt8), (∀ c ∈ x, 32 < c.toNat) → fldF (x ++ r) cur = fldF r (cur ++ x)
  | [], r, cur, _ => by simp
  | c :: x, r, cur, h => by
    have hc := h c (List.mem_cons_self ..)
    rw [List.cons_append, fldF, if_neg (by omega), fldF_skip x r _ fun d hd => h d (List.mem_cons_of_mem _ hd)]
    simp
def curOf (l : List UInt8) (pos : Nat) : Option Nat → List UInt8
  | none => []
  | some a => (l.take pos).drop a
end Go.Proofs.YtoanepondbagcaaGreatDoor
namespace Go.Proofs.YtoanepondbagcaaGreatDoor
open Go Go.RowKit Go.Lib Go.Shelf
shelf_lay Lays.n229 Nm 229 at Tryz as lays229
end Go.Proofs.YtoanepondbagcaaGreatDoor
namespace Go.Proofs.YtoanepondbagcaaGreatDoor
open Go Go.Am Go.Shelf
end Go.Proofs.YtoanepondbagcaaGreatDoor
namespace Go.Proofs.YtoanepondbagcaaGreatDoor
open Go Go.Am
set_option linter.unusedVariables false
end Go.Proofs.YtoanepondbagcaaGreatDoor
namespace Go.Proofs.YtoanepondbagcaaGreatDoor
open Go Go.RowKit Go.Lib Go.Shelf
end Go.Proofs.YtoanepondbagcaaGreatDoor
namespace Go.Proofs.YtoanepondbagcaaGreatDoor
open Go Go.Am Go.Shelf


















end Go.Proofs.YtoanepondbagcaaGreatDoor
namespace Go.Proofs.YtoanepondbagcaaGreatDoor
open Go Go.Am
set_option linter.unusedVariables false
/-! utf8.Cut, both ways; the preview. -/
















/-! ### How many parts there are -/
/-! ### The preview -/








end Go.Proofs.YtoanepondbagcaaGreatDoor
