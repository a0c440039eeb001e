/-
  Lifted functions, and facts about them.
-/
import Derived.Test.YtoanepondbagcaaGreatDoorRows
import Derived.Test.YtoanepondbagcaaGreatDoorAmC
import Derived.Test.YtoanepondbagcaaGreatDoorC20
import Derived.Test.YtoanepondbagcaaGreatDoorC14IxAny2
import Derived.Shelf.Strings.FieldsFuncAny
import Derived.Shelf.Spec.SlicesGrow
namespace Go.Proofs.YtoanepondbagcaaGreatDoor
open Go Go.Am
set_option linter.unusedVariables false
/-! strings.FieldsFunc at blanks and below: the pieces between bytes of at most 32. -/
def fldF : List UInt8 → List UInt8 → List (List UInt8)
  | [], cur => if cur = [] then [] else [cur]
  | c :: r, cur => if c.toNat ≤ 32 then (if cur = [] then fldF r [] else cur :: fldF r []) else fldF r (cur ++ [c])
def fldS (s : List UInt8) : List (List UInt8) := fldF s []
theorem fldF_skip : ∀ (x r cur : List UInt8), (∀ c ∈ x, 32 < c.toNat) → fldF (x ++ r) cur = fldF r (cur ++ x)
  | [], r, cur, _ => by simp
  | c :: x, r, cur, h => by
    have hc := h c (List.mem_cons_self ..)
    rw [List.cons_append, fldF, if_neg (by omega), fldF_skip x r _ fun d hd => h d (List.mem_cons_of_mem _ hd)]
    simp
def curOf (l : List UInt8) (pos : Nat) : Option Nat → List UInt8
  | none => []
  | some a => (l.take pos).drop a
end Go.Proofs.YtoanepondbagcaaGreatDoor
namespace Go.Proofs.YtoanepondbagcaaGreatDoor
open Go Go.RowKit Go.Lib Go.Shelf
def lays229_ren : Go.Shelf.Ren:=⟨fun |229=>42|n=>n, fun |9=>9|40=>55|31=>30|152=>100|3=>3|0=>0|4=>4|21=>21|154=>102|n=>n, fun |n=>n⟩
theorem lays229 : Go.Proofs.Lays.n229 Tryz.prog lays229_ren:={
 mixed:=by kernel_rfl
 f229:=Tryz.func42.trans (congrArg some (by kernel_rfl))
 t0:=Tryz.underlying0
 a0:=Tryz.isAgg0
 z0:=Tryz.sizeOf0
 v0:=Tryz.zeroValue0
 t3:=Tryz.underlying3
 a3:=Tryz.isAgg3
 z3:=Tryz.sizeOf3
 v3:=Tryz.zeroValue3
 t4:=Tryz.underlying4
 a4:=Tryz.isAgg4
 z4:=Tryz.sizeOf4
 v4:=Tryz.zeroValue4
 t9:=Tryz.underlying9
 a9:=Tryz.isAgg9
 z9:=Tryz.sizeOf9
 v9:=Tryz.zeroValue9
 t21:=Tryz.underlying21
 a21:=Tryz.isAgg21
 z21:=Tryz.sizeOf21
 v21:=Tryz.zeroValue21
 t31:=Tryz.underlying30
 a31:=Tryz.isAgg30
 z31:=Tryz.sizeOf30
 v31:=Tryz.zeroValue30
 t40:=Tryz.underlying55
 a40:=Tryz.isAgg55
 z40:=Tryz.sizeOf55
 v40:=Tryz.zeroValue55
 t152:=Tryz.underlying100
 a152:=Tryz.isAgg100
 z152:=Tryz.sizeOf100
 v152:=Tryz.zeroValue100
 t154:=Tryz.underlying102
 a154:=Tryz.isAgg102
 z154:=Tryz.sizeOf102
 v154:=Tryz.zeroValue102 }
end Go.Proofs.YtoanepondbagcaaGreatDoor
namespace Go.Proofs.YtoanepondbagcaaGreatDoor
open Go Go.Am Go.Shelf
end Go.Proofs.YtoanepondbagcaaGreatDoor
namespace Go.Proofs.YtoanepondbagcaaGreatDoor
open Go Go.Am
set_option linter.unusedVariables false
end Go.Proofs.YtoanepondbagcaaGreatDoor
namespace Go.Proofs.YtoanepondbagcaaGreatDoor
open Go Go.RowKit Go.Lib Go.Shelf
end Go.Proofs.YtoanepondbagcaaGreatDoor
namespace Go.Proofs.YtoanepondbagcaaGreatDoor
open Go Go.Am Go.Shelf


















end Go.Proofs.YtoanepondbagcaaGreatDoor
namespace Go.Proofs.YtoanepondbagcaaGreatDoor
open Go Go.Am
set_option linter.unusedVariables false
/-! utf8.Cut, both ways; the preview. -/
















/-! ### How many parts there are -/
/-! ### The preview -/








end Go.Proofs.YtoanepondbagcaaGreatDoor
