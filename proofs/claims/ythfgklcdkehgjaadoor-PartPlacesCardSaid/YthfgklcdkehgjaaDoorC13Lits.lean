/-
  Lifted functions, and facts about them.
-/
import Derived.WalkKit
set_option linter.unusedVariables false
/-! The long literals. -/
namespace Go.Proofs.YthfgklcdkehgjaaDoor
/-- 19 bytes. -/
def LB_476f38ec : List UInt8 := [99, 111, 110, 116, 101, 110, 116, 45, 100, 105, 115, 112, 111, 115, 105, 116, 105, 111, 110]
/-- 19 bytes. -/
def LB_6066e367 : List UInt8 := [67, 111, 110, 116, 101, 110, 116, 45, 68, 105, 115, 112, 111, 115, 105, 116, 105, 111, 110]
/-- 25 bytes. -/
def LB_70cef6b0 : List UInt8 := [67, 111, 110, 116, 101, 110, 116, 45, 84, 114, 97, 110, 115, 102, 101, 114, 45, 69, 110, 99, 111, 100, 105, 110, 103]
/-- 25 bytes. -/
def LB_7e72d125 : List UInt8 := [99, 111, 110, 116, 101, 110, 116, 45, 116, 114, 97, 110, 115, 102, 101, 114, 45, 101, 110, 99, 111, 100, 105, 110, 103]
end Go.Proofs.YthfgklcdkehgjaaDoor
