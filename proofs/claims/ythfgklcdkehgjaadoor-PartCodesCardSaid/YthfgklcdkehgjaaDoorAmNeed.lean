/-
  The abstract machine of these proofs.
-/
import Derived.Test.YthfgklcdkehgjaaDoorAmC
set_option linter.unusedVariables false
/-! What holds by itself may be struck out of a text. -/
namespace Go.Am
open Go Go.RowKit
theorem need_congr {p : Prop} {x y : Option Ans} (h : x = y) : need p x = need p y := by rw [h]
theorem cond_congr {b : Bool} {x x' y y' : Option Ans} (h : x = x') (k : y = y') : cond b x y = cond b x' y' := by rw [h, k]
theorem need_strike {p : Prop} {x y : Option Ans} (hp : p) (h : x = y) : need p x = y := by rw [need_pos hp, h]
end Go.Am
