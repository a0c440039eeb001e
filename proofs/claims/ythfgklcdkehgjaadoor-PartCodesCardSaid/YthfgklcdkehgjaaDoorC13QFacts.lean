/-
  Lifted functions, and facts about them.
-/
import Derived.Test.YthfgklcdkehgjaaDoorRows
import Derived.Test.YthfgklcdkehgjaaDoorAmC
import Derived.Test.YthfgklcdkehgjaaDoorC13QEnc
namespace Go.Proofs.YthfgklcdkehgjaaDoor
open Go Go.Am
set_option linter.unusedVariables false
/-! QPlain facts on what is told and what is said. -/

theorem qdec_soft (b : List UInt8) : qdec (61 :: 13 :: 10 :: b) = qdec b := by
  rw [qdec_3, if_neg (by decide), if_neg (by decide), if_pos (by decide)]
theorem qdec_hex {x y : UInt8} (hx : isHex x) (hy : isHex y) (b : List UInt8) : qdec (61 :: x :: y :: b) = hexB x y :: qdec b := by
  rw [qdec_3, if_pos ⟨hx, hy⟩]
theorem hex_ok (c : UInt8) : isHex (hexD (c.toNat / 16)) ∧ isHex (hexD (c.toNat % 16)) ∧ hexB (hexD (c.toNat / 16)) (hexD (c.toNat % 16)) = c := by
  have h := c.toNat_lt
  have key : ∀ n : Fin 256, isHex (hexD (n.val / 16)) ∧ isHex (hexD (n.val % 16)) ∧ hexB (hexD (n.val / 16)) (hexD (n.val % 16)) = UInt8.ofNat n.val := by decide +kernel
  have := key ⟨c.toNat, h⟩
  rw [UInt8.ofNat_toNat] at this
  exact this
theorem qdec_piece (c : UInt8) (l : Bool) (r : List UInt8) : qdec (pieceS c l ++ r) = c :: qdec r := by
  unfold pieceS
  split
  · rename_i h
    have : c ≠ 61 := by
      intro e; subst e
      rcases h with h | h
      · exact h.2.2 rfl
      · exact absurd h.1 (by decide)
    rw [List.singleton_append, qdec_ne this]
  · obtain ⟨h1, h2, h3⟩ := hex_ok c
    show qdec (61 :: _ :: _ :: r) = _
    rw [qdec_hex h1 h2, h3]
theorem qdec_enc : ∀ (s : List UInt8) (line : Nat), qdec (encL line s) = s
  | [], line => by rw [encL, qdec_nil]
  | c :: r, line => by
    rw [encL]
    split
    · rw [List.append_assoc]
      show qdec (61 :: 13 :: 10 :: (pieceS c r.isEmpty ++ encL (pieceS c r.isEmpty).length r)) = _
      rw [qdec_soft, qdec_piece, qdec_enc r]
    · rw [qdec_piece, qdec_enc r]


theorem enc_len : ∀ (s : List UInt8) (line : Nat), (encL line s).length ≤ 6 * s.length
  | [], line => by rw [encL]; simp
  | c :: r, line => by
    have hp := pieceS_len c r.isEmpty
    rw [encL]
    split
    · have := enc_len r (pieceS c r.isEmpty).length
      simp; omega
    · have := enc_len r (line + (pieceS c r.isEmpty).length)
      simp; omega
end Go.Proofs.YthfgklcdkehgjaaDoor
