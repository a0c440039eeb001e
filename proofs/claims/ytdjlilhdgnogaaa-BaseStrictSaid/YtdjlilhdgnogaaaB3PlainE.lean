/-
  Lifted functions, and facts about them.
-/
import Derived.Test.YtdjlilhdgnogaaaB3Enc64
set_option linter.unusedVariables false
namespace Go.Proofs.Ytdjlilhdgnogaaa
open Go Go.Am
theorem BEnc64_eq (fuel : Nat) : ∀ (f : Nat) (t : List UInt8), (4 - t.length % 4) % 4 < f → t.length ≤ 100000000 → BEncode64_1 fuel f t = some (t ++ List.replicate ((4 - t.length % 4) % 4) 61) := by
  intro f
  induction f with
  | zero => intro t h1; omega
  | succ f ih =>
    intro t h1 h3
    have e : (t.length : Int).tmod (4 : Int) = ((t.length % 4 : Nat) : Int) := by rw [Int.tmod_eq_emod_of_nonneg (by omega)]; rfl
    rw [BEncode64_1, if_pos (by decide), e]
    by_cases h : t.length % 4 = 0
    · rw [if_neg (by simp [h]), h]; simp
    · rw [if_pos (by simpa using (by omega : ¬ ((t.length % 4 : Nat) : Int) = 0)), if_pos (by unfold lenok; simp; omega)]
      have hl0 : (t ++ [61]).length = t.length + 1 := by simp
      have hl : (t ++ [61]).length % 4 = (t.length % 4 + 1) % 4 := by omega
      by_cases h4 : t.length % 4 = 3
      · rw [ih _ (by omega) (by omega), hl, h4]; simp
      · rw [ih _ (by omega) (by omega), hl]
        have e3 : (4 - t.length % 4) % 4 = (4 - (t.length % 4 + 1) % 4) % 4 + 1 := by omega
        rw [e3, List.replicate_succ]; simp
theorem Encode64_eq (s : List UInt8) (hs : s.length ≤ 1000000) : FEncode64 5 s = some (encB s) := by
  have hl := encL64_len _ s (Nat.le_refl _)
  unfold FEncode64
  rw [if_pos hs, BEnc64_eq 5 5 _ (by omega) (by omega), encL64_pad _ s (Nat.le_refl _)]
def sp_Encode64 : List AV → Option (AV × Option Prop) := spStr encB
theorem ok_Encode64 : SpecOk Try.prog 12 sp_Encode64 := spStr_ok (by kernel_rfl) fun s hs => fn_Encode64 5 s _ fun _ => Encode64_eq s hs
end Go.Proofs.Ytdjlilhdgnogaaa
