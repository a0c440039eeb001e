/-
  Lifted functions, and facts about them.
-/
import Derived.Test.YtdjlilhdgnogaaaB3LawStrict
import Derived.Test.YtdjlilhdgnogaaaB3PlainF
set_option linter.unusedVariables false
/-! BaseStrict. -/
namespace Go.Proofs.Ytdjlilhdgnogaaa
open Go Go.Am
theorem Strict_true (s : List UInt8) (a : Int) : FnP Try.prog 7 [.p (.str s), .p (.int .u16 a)] (.p (.bool true)) := fn_Strict 0 s a _ fun ⟨M, vs, hvs⟩ => by
  have he : IntKind.u16.has a := by
    cases hvs with | cons _ h => cases h with | cons h _ => cases h with | p _ _ h => cases h; assumption
  have h1 : 0 ≤ a ∧ a ≤ 65535 := by simpa [IntKind.has, IntKind.min, IntKind.max, IntKind.signed, IntKind.bits] using he
  obtain ⟨x, rfl⟩ := Int.eq_ofNat_of_zero_le h1.1
  unfold FStrict
  split
  · rfl
  · rename_i h
    simp only [Bool.or_eq_true, beq_iff_eq, decide_eq_true_eq, not_or] at h
    have hl := encB_len4 s
    obtain ⟨k, hk, hk2⟩ : ∃ k : Nat, (x : Int).tmod ((encB s).length : Int) = (k : Int) ∧ k < (encB s).length := by
      refine ⟨x % (encB s).length, ?_, Nat.mod_lt _ (by omega)⟩
      rw [Int.tmod_eq_emod_of_nonneg (by omega)]; rfl
    have e1 : ((k : Int) + 1).toNat = k + 1 := by omega
    have l1 : ((encB s).take k).length = k := by rw [List.length_take]; omega
    have l2 : ((encB s).drop k).length = (encB s).length - k := List.length_drop
    have l3 : ((encB s).drop (k + 1)).length = (encB s).length - (k + 1) := List.length_drop
    rw [if_pos (by omega), if_neg (by simp; intro e; rw [e] at hl; simp at hl; omega), if_pos (by omega), hk, e1, Int.toNat_natCast]
    rw [if_pos ⟨by omega, by unfold lenok; rw [l1]; simp; omega, by omega, by unfold lenok; rw [List.length_append, l1, l2]; simp; omega, by rw [List.length_append, List.length_append, l1, l2]; simp; omega⟩]
    rw [if_pos ⟨by omega, ok64 (by omega) (by omega), by omega, by unfold lenok; rw [l1, l3]; omega, by rw [List.length_append, l1, l3]; omega⟩]
    rw [if_pos ⟨by unfold lenok; simp; omega, by rw [List.length_append]; simp; omega⟩]
    rw [dec_bad (u := (encB s).take k ++ [32] ++ (encB s).drop k) (.inr (by simp)), dec_bad (u := (encB s).take k ++ (encB s).drop (k + 1)) (.inl (by rw [List.length_append, l1, l3]; omega)), dec_bad (u := encB s ++ [61]) (.inl (by rw [List.length_append]; simp; omega))]
    rfl
end Go.Proofs.Ytdjlilhdgnogaaa
