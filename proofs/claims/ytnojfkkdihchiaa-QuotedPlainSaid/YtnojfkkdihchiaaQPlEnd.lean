/-
  A lifted function, or a fact about one.
-/
import Derived.Test.YtnojfkkdihchiaaQLawPl
import Derived.Test.YtnojfkkdihchiaaQPlainC
/-! QuotedPlain. -/
namespace Go.Proofs.Ytnojfkkdihchiaa
open Go Go.Am
theorem BPl_eq (fuel : Nat) (a b : List UInt8) (ha : a.length ≤ 1000) (hb : b.length ≤ 1000) : ∀ (f i : Nat), a.length < f + i → i ≤ a.length → (∀ c ∈ a.take i, c ≠ 61) → BPl_1 fuel f a b (i : Int) = some true := by
  intro f
  induction f with
  | zero => intro i h1 h2; omega
  | succ f ih =>
    intro i h1 h2 h3
    cases hd : a.drop i with
    | nil =>
      have hl : a.length ≤ i := by have := congrArg List.length hd; simp at this; omega
      have hp : ∀ c ∈ a, c ≠ 61 := by rw [List.take_of_length_le hl] at h3; exact h3
      have e0 := decS_plain0 hp
      have e1 : decS ((a ++ [61, 13, 10]) ++ b) = a ++ decS b := by
        rw [List.append_assoc, decS_plain hp]; show a ++ decS (61 :: 13 :: 10 :: b) = _; rw [decS_soft]
      have e2 : decS ((a ++ [61, 10]) ++ b) = a ++ decS b := by
        rw [List.append_assoc, decS_plain hp]; show a ++ decS (61 :: 10 :: b) = _; rw [decS_softn]
      have e3 : decS ((a ++ [61, 52, 49]) ++ b) = (a ++ [65]) ++ decS b := by
        rw [List.append_assoc, decS_plain hp]; show a ++ decS (61 :: 52 :: 49 :: b) = _
        rw [decS_hex (by decide) (by decide), show hexB 52 49 = 65 from by decide]; simp
      have hdb : (decS b).length ≤ 1000000 := by
        have : ∀ (n : Nat) (l : List UInt8), l.length ≤ n → (decS l).length ≤ l.length := by
          intro n
          induction n with
          | zero => intro l hl; have : l = [] := List.length_eq_zero_iff.1 (by omega); subst this; rw [decS_nil]; simp
          | succ n ihn =>
            intro l hl
            cases l with
            | nil => rw [decS_nil]; simp
            | cons c r =>
              by_cases hc : c = 61
              · subst hc
                match r with
                | [] => rw [decS_1]; simp
                | [x] =>
                  rw [decS_2]
                  split
                  · simp
                  · have := ihn [x] (by simp at hl ⊢; omega)
                    simp at this ⊢; omega
                | x :: y :: t =>
                  simp at hl
                  rw [decS_3]
                  split
                  · have := ihn t (by omega); simp; omega
                  · split
                    · have := ihn (y :: t) (by simp; omega); simp at this ⊢; omega
                    · split
                      · have := ihn t (by omega); simp; omega
                      · have := ihn (x :: y :: t) (by simp; omega); simp at this ⊢; omega
              · rw [decS_ne hc]
                have := ihn r (by simp at hl; omega)
                simp; omega
        have := this b.length b (Nat.le_refl _)
        omega
      rw [BPl_1, if_neg (by simp; omega)]
      rw [e0, e1, e2, e3]
      rw [if_pos]
      · simp
      · simp only [lenok, List.length_append, List.length_cons, List.length_nil]
        refine ⟨by omega, ?_⟩
        repeat' constructor
        all_goals (intro _; omega)
    | cons c r =>
      obtain ⟨e1, e2, e3⟩ := drop_cons hd
      rw [BPl_1, if_pos (by simp; omega), if_pos (by omega)]
      simp only [Int.toNat_natCast, e1]
      by_cases hc : c = 61
      · subst hc; rfl
      · rw [if_neg (by simpa using fun e => hc (u8_eq (d := 61) |>.1 e)), if_pos (i64ok_small (by omega) (by omega))]
        have := ih (i + 1) (by omega) (by omega) (by
          intro x hx
          have : a.take (i + 1) = a.take i ++ [c] := by
            rw [List.take_add_one]
            have h0 : a[i]? = some c := by
              have : (a.drop i)[0]? = some c := by rw [hd]; rfl
              simpa using this
            rw [h0]; rfl
          rw [this] at hx
          rcases List.mem_append.1 hx with h | h
          · exact h3 x h
          · rw [List.mem_singleton.1 h]; exact hc)
        rw [← this]; congr 1
theorem Pl_true (a b : List UInt8) : FnP Try.prog 5 [.p (.str a), .p (.str b)] (.p (.bool true)) := fn_Pl 1001 a b _ fun _ => by
  unfold FPl
  split
  · rfl
  · rename_i h
    simp at h
    exact BPl_eq 1001 a b (by omega) (by omega) 1001 0 (by omega) (by omega) (by simp)
end Go.Proofs.Ytnojfkkdihchiaa
