/-
  Lifted functions, and facts about them.
-/
import Derived.WalkKit
set_option linter.unusedVariables false
/-! The long literals. -/
namespace Go.Proofs.YthfgklcdkehgjaaDoor
/-- 39 bytes. -/
def LB_46960c36 : List UInt8 := [67, 111, 110, 116, 101, 110, 116, 45, 84, 121, 112, 101, 58, 32, 109, 117, 108, 116, 105, 112, 97, 114, 116, 47, 120, 59, 32, 98, 111, 117, 110, 100, 97, 114, 121, 61, 97, 10, 10]
/-- 19 bytes. -/
def LB_476f38ec : List UInt8 := [99, 111, 110, 116, 101, 110, 116, 45, 100, 105, 115, 112, 111, 115, 105, 116, 105, 111, 110]
/-- 36 bytes. -/
def LB_6b21d58f : List UInt8 := [67, 111, 110, 116, 101, 110, 116, 45, 84, 121, 112, 101, 58, 32, 109, 117, 108, 116, 105, 112, 97, 114, 116, 47, 120, 59, 32, 98, 111, 117, 110, 100, 97, 114, 121, 61]
/-- 25 bytes. -/
def LB_7e72d125 : List UInt8 := [99, 111, 110, 116, 101, 110, 116, 45, 116, 114, 97, 110, 115, 102, 101, 114, 45, 101, 110, 99, 111, 100, 105, 110, 103]
end Go.Proofs.YthfgklcdkehgjaaDoor
