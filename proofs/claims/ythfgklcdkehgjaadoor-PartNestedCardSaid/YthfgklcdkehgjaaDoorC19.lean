/-
  Lifted functions, and facts about them.
-/
import Derived.Test.YthfgklcdkehgjaaDoorRows
import Derived.Test.YthfgklcdkehgjaaDoorAmC
import Derived.Test.YthfgklcdkehgjaaDoorC01
import Derived.Test.YthfgklcdkehgjaaDoorC17
import Derived.Test.YthfgklcdkehgjaaDoorC18
namespace Go.Proofs.YthfgklcdkehgjaaDoor
open Go Go.Am
set_option linter.unusedVariables false
/-! Parts that are put together. -/




















def clo (op : Option Nat) (x : Nat) : List (Nat × Nat) := match op with
  | some o => [(o, x)]
  | none => []
theorem addS_clo {s : List UInt8} {op : Option Nat} {p x : Nat} (h : ∀ o, op = some o → o ≤ x ∧ aheadN s p = x) (out : List (Nat × Nat)) : addS s op p out = out ++ clo op x := by
  unfold addS clo
  cases op with
  | none => simp
  | some o =>
    obtain ⟨h1, h2⟩ := h o rfl
    dsimp only
    rw [h2, maxN_right h1]
def okB (b : List UInt8) : Prop := isLn b ∧ ∀ c ∈ b, c ≠ 45
theorem isLn_of {l : List UInt8} (h : l.all (fun c => c != 10 && c != 13) = true) : isLn l := fun c hc => by
  have := List.all_eq_true.1 h c hc
  simp only [Bool.and_eq_true, bne_iff_ne] at this
  exact this
theorem kid_tree {s : List UInt8} {x y : Int} {n : Int} {d : Nat} {e : Int} {enc : List UInt8} {at_ : Bool} {hd f t : Int} (h : oneP s x y = Part.mk textP [] enc at_ hd f t []) : treeP e s (d + 1) x y n = (Part.mk textP [] enc at_ hd f t [], n) := by
  rw [treeP, if_pos (by unfold markP; rw [h]; rfl), h]
end Go.Proofs.YthfgklcdkehgjaaDoor
