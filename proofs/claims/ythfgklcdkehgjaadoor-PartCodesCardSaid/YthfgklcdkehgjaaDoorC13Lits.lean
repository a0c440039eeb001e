/-
  Lifted functions, and facts about them.
-/
import Derived.WalkKit
set_option linter.unusedVariables false
/-! The long literals. -/
namespace Go.Proofs.YthfgklcdkehgjaaDoor
/-- 19 bytes. -/
def LB_476f38ec : List UInt8 := [99, 111, 110, 116, 101, 110, 116, 45, 100, 105, 115, 112, 111, 115, 105, 116, 105, 111, 110]
/-- 64 bytes. -/
def LB_7543b37f : List UInt8 := [65, 66, 67, 68, 69, 70, 71, 72, 73, 74, 75, 76, 77, 78, 79, 80, 81, 82, 83, 84, 85, 86, 87, 88, 89, 90, 97, 98, 99, 100, 101, 102, 103, 104, 105, 106, 107, 108, 109, 110, 111, 112, 113, 114, 115, 116, 117, 118, 119, 120, 121, 122, 48, 49, 50, 51, 52, 53, 54, 55, 56, 57, 43, 47]
/-- 25 bytes. -/
def LB_7e72d125 : List UInt8 := [99, 111, 110, 116, 101, 110, 116, 45, 116, 114, 97, 110, 115, 102, 101, 114, 45, 101, 110, 99, 111, 100, 105, 110, 103]
/-- 28 bytes. -/
def LB_cb1e02d5 : List UInt8 := [67, 111, 110, 116, 101, 110, 116, 45, 84, 114, 97, 110, 115, 102, 101, 114, 45, 69, 110, 99, 111, 100, 105, 110, 103, 58, 32, 32]
end Go.Proofs.YthfgklcdkehgjaaDoor
