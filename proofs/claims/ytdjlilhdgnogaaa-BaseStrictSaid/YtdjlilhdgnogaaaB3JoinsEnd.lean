/-
  Lifted functions, and facts about them.
-/
import Derived.Test.YtdjlilhdgnogaaaB3LawJoins
set_option linter.unusedVariables false
/-! BaseJoins. -/
namespace Go.Proofs.Ytdjlilhdgnogaaa
open Go Go.Am
theorem encB_append : ∀ (n : Nat) (a b : List UInt8), a.length = 3 * n → encB (a ++ b) = encB a ++ encB b
  | 0, a, b, h => by have : a = [] := List.length_eq_zero_iff.1 (by omega); subst this; rw [encB]; rfl
  | n + 1, a, b, h => by
    match a, h with
    | x :: y :: z :: r, h =>
      have := encB_append n r b (by simp at h; omega)
      rw [encB, List.append_assoc, ← this]
      show encB (x :: y :: z :: (r ++ b)) = _
      rw [encB]
    | [x, y], h => simp at h; omega
    | [x], h => simp at h; omega
    | [], h => simp at h
theorem encB_len : ∀ (n : Nat) (s : List UInt8), s.length ≤ n → (encB s).length = (s.length + 2) / 3 * 4
  | 0, s, h => by have : s = [] := List.length_eq_zero_iff.1 (by omega); subst this; rw [encB]; rfl
  | n + 1, s, h => by
    match s, h with
    | x :: y :: z :: r, h =>
      have := encB_len n r (by simp at h; omega)
      rw [encB]
      simp only [List.length_append, lets_len, this, List.length_cons]
      omega
    | [x, y], h => rw [encB]; simp [lets_len]
    | [x], h => rw [encB]; simp [lets_len]
    | [], h => rw [encB]; rfl
theorem Joins_true (a b : List UInt8) : FnP Try.prog 3 [.p (.str a), .p (.str b)] (.p (.bool true)) := fn_Joins 0 a b _ fun _ => by
  unfold FJoins
  split
  · rfl
  · rename_i h
    simp only [Bool.or_eq_true, decide_eq_true_eq, not_or] at h
    have e : ((a.length : Int).tdiv (3 : Int)) = ((a.length / 3 : Nat) : Int) := by rw [Int.tdiv_eq_ediv_of_nonneg (by omega)]; rfl
    have e2 : (((a.length / 3 : Nat) : Int) * 3).toNat = 3 * (a.length / 3) := by omega
    rw [e, e2]
    have hl : (a.take (3 * (a.length / 3))).length = 3 * (a.length / 3) := by rw [List.length_take]; omega
    have l1 := encB_len _ (a.take (3 * (a.length / 3))) (Nat.le_refl _)
    have l2 := encB_len _ b (Nat.le_refl _)
    rw [hl] at l1
    rw [if_pos ⟨⟨by decide, ok64 (by omega) (by omega)⟩, ok64 (by omega) (by omega), by omega, by omega⟩,
      if_pos ⟨by unfold lenok; omega, by rw [List.length_append]; omega, by omega, by omega, by unfold lenok; rw [l1, l2]; omega⟩, encB_append _ _ _ hl]
    simp
end Go.Proofs.Ytdjlilhdgnogaaa
