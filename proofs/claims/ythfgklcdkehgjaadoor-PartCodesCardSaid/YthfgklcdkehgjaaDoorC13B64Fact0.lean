/-
  Lifted functions, and facts about them.
-/
import Derived.Test.YthfgklcdkehgjaaDoorRows
import Derived.Test.YthfgklcdkehgjaaDoorAmC
import Derived.Test.YthfgklcdkehgjaaDoorC13B64Loose
namespace Go.Proofs.YthfgklcdkehgjaaDoor
open Go Go.Am
set_option linter.unusedVariables false
/-! BaseJoins. -/
theorem encB_len : ∀ (n : Nat) (s : List UInt8), s.length ≤ n → (encB s).length = (s.length + 2) / 3 * 4
  | 0, s, h => by have : s = [] := List.length_eq_zero_iff.1 (by omega); subst this; rw [encB]; rfl
  | n + 1, s, h => by
    match s, h with
    | x :: y :: z :: r, h =>
      have := encB_len n r (by simp at h; omega)
      rw [encB]
      simp only [List.length_append, lets_len, this, List.length_cons]
      omega
    | [x, y], h => rw [encB]; simp [lets_len]
    | [x], h => rw [encB]; simp [lets_len]
    | [], h => rw [encB]; rfl
/-! Base64, plainly: what letters say, and what they are. -/

theorem val_letter : ∀ k, k < 64 → valI (letter k) = (k : Int) ∧ letter k ≠ 61 := by decide +kernel
theorem lets_cons2 (x : Nat) : lets x 2 = [letter (x / 2 ^ 18 % 64), letter (x / 2 ^ 12 % 64)] := rfl
theorem lets_cons3 (x : Nat) : lets x 3 = [letter (x / 2 ^ 18 % 64), letter (x / 2 ^ 12 % 64), letter (x / 2 ^ 6 % 64)] := rfl
theorem lets_cons4 (x : Nat) : lets x 4 = [letter (x / 2 ^ 18 % 64), letter (x / 2 ^ 12 % 64), letter (x / 2 ^ 6 % 64), letter (x / 2 ^ 0 % 64)] := rfl
theorem looseG_letter (k bits n : Nat) (r : List UInt8) (hk : k < 64) (hn : n < 3) : looseG bits n (letter k :: r) = looseG (bits * 64 + k) (n + 1) r := by
  obtain ⟨h1, h2⟩ := val_letter k hk
  rw [looseG, if_neg h2, if_neg (by omega), if_neg (by omega), h1]; simp
theorem looseG_letter3 (k bits : Nat) (r : List UInt8) (hk : k < 64) : looseG bits 3 (letter k :: r) = [UInt8.ofNat ((bits * 64 + k) / 65536), UInt8.ofNat ((bits * 64 + k) / 256), UInt8.ofNat (bits * 64 + k)] ++ looseG 0 0 r := by
  obtain ⟨h1, h2⟩ := val_letter k hk
  rw [looseG, if_neg h2, if_neg (by omega), if_pos rfl, h1]; simp
theorem ofNat_eq {n : Nat} {c : UInt8} (h : n % 256 = c.toNat) : UInt8.ofNat n = c := by
  apply UInt8.toNat_inj.1
  rw [UInt8.toNat_ofNat']; simpa using h
theorem m64 (x : Nat) : x % 64 < 64 := Nat.mod_lt _ (by decide)
theorem loose_enc : ∀ (n : Nat) (s : List UInt8), s.length ≤ n → looseG 0 0 (encB s) = s
  | 0, s, h => by have : s = [] := List.length_eq_zero_iff.1 (by omega); subst this; rw [encB, looseG]; rfl
  | n + 1, s, h => by
    match s, h with
    | x :: y :: z :: r, h =>
      have ih := loose_enc n r (by simp at h; omega)
      have hx := x.toNat_lt
      have hy := y.toNat_lt
      have hz := z.toNat_lt
      have h0 := num3_lt x y z
      have e : (((0 * 64 + num3 x y z / 2 ^ 18 % 64) * 64 + num3 x y z / 2 ^ 12 % 64) * 64 + num3 x y z / 2 ^ 6 % 64) * 64 + num3 x y z / 2 ^ 0 % 64 = num3 x y z := by omega
      rw [encB, lets_cons4]
      simp only [List.cons_append, List.nil_append]
      rw [looseG_letter _ _ _ _ (m64 _) (by omega), looseG_letter _ _ _ _ (m64 _) (by omega), looseG_letter _ _ _ _ (m64 _) (by omega), looseG_letter3 _ _ _ (m64 _), e, ih]
      rw [ofNat_eq (c := x) (by unfold num3; omega), ofNat_eq (c := y) (by unfold num3; omega), ofNat_eq (c := z) (by unfold num3; omega)]
      rfl
    | [x, y], h =>
      have hx := x.toNat_lt
      have hy := y.toNat_lt
      have z0 : (0 : UInt8).toNat = 0 := by decide
      have h0 := num3_lt x y 0
      rw [encB, lets_cons3]
      simp only [List.cons_append, List.nil_append]
      rw [looseG_letter _ _ _ _ (m64 _) (by omega), looseG_letter _ _ _ _ (m64 _) (by omega), looseG_letter _ _ _ _ (m64 _) (by omega), looseG, if_pos rfl]
      unfold tailB
      rw [if_neg (by omega), if_pos (by omega), ofNat_eq (c := x) (by unfold num3; omega), ofNat_eq (c := y) (by unfold num3; omega)]
    | [x], h =>
      have hx := x.toNat_lt
      have z0 : (0 : UInt8).toNat = 0 := by decide
      have h0 := num3_lt x 0 0
      rw [encB, lets_cons2]
      simp only [List.cons_append, List.nil_append]
      rw [looseG_letter _ _ _ _ (m64 _) (by omega), looseG_letter _ _ _ _ (m64 _) (by omega), looseG, if_pos rfl]
      unfold tailB
      rw [if_pos (by omega), ofNat_eq (c := x) (by unfold num3; omega)]
    | [], h => rw [encB, looseG]; rfl
theorem looseB_enc (s : List UInt8) : looseB (encB s) = s := loose_enc _ s (Nat.le_refl _)


end Go.Proofs.YthfgklcdkehgjaaDoor
