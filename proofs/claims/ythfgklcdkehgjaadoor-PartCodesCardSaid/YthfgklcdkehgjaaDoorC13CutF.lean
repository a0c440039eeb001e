/-
  Lifted functions, and facts about them.
-/
import Derived.Test.YthfgklcdkehgjaaDoorRows
import Derived.Test.YthfgklcdkehgjaaDoorAmC
import Derived.Test.YthfgklcdkehgjaaDoorC13CutC
namespace Go.Proofs.YthfgklcdkehgjaaDoor
open Go Go.Am
set_option linter.unusedVariables false
/-! Where a byte stands first. -/
theorem ixb_split (c : UInt8) : ∀ (s : List UInt8), (∃ p q, s = p ++ c :: q ∧ (∀ x ∈ p, x ≠ c) ∧ Lib.indexByte s c = (p.length : Int)) ∨ ((∀ x ∈ s, x ≠ c) ∧ Lib.indexByte s c = -1)
  | [] => .inr ⟨by simp, rfl⟩
  | b :: l => by
    by_cases h : b = c
    · subst h
      exact .inl ⟨[], l, rfl, by simp, by simp [Lib.indexByte]⟩
    · rcases ixb_split c l with ⟨p, q, e, hp, hi⟩ | ⟨hn, hi⟩
      · refine .inl ⟨b :: p, q, by rw [e]; rfl, ?_, ?_⟩
        · intro x hx
          rcases List.mem_cons.1 hx with rfl | hx
          · exact h
          · exact hp x hx
        · unfold Lib.indexByte
          rw [if_neg (by simpa using h), hi, if_neg (by simp)]
          simp only [List.length_cons]; omega
      · refine .inr ⟨?_, ?_⟩
        · intro x hx
          rcases List.mem_cons.1 hx with rfl | hx
          · exact h
          · exact hn x hx
        · simp [Lib.indexByte, hi, h]
theorem ixS_u8 (s : List UInt8) (c : UInt8) : ixS s (c.toNat : Int) = Lib.indexByte s c := by unfold ixS; rw [u8c]
theorem cut_split (c : UInt8) (s : List UInt8) : (∃ p q, s = p ++ c :: q ∧ (∀ x ∈ p, x ≠ c) ∧ cutS s c = (p, q, true)) ∨ ((∀ x ∈ s, x ≠ c) ∧ cutS s c = (s, [], false)) := by
  rcases ixb_split c s with ⟨p, q, e, hp, hi⟩ | ⟨hn, hi⟩
  · refine .inl ⟨p, q, e, hp, ?_⟩
    rw [cutS, ixS_u8, hi, if_pos (by omega)]
    have e1 : ((p.length : Int) + 1).toNat = p.length + 1 := by omega
    rw [Int.toNat_natCast, e1, e]
    simp
  · refine .inr ⟨hn, ?_⟩
    rw [cutS, ixS_u8, hi, if_neg (by decide)]
end Go.Proofs.YthfgklcdkehgjaaDoor
