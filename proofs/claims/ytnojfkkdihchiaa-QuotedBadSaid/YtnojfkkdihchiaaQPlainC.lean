/-
  A lifted function, or a fact about one.
-/
import Derived.Test.YtnojfkkdihchiaaQSpec3
/-! Plain facts on what is told and what is said. -/
namespace Go.Proofs.Ytnojfkkdihchiaa
open Go Go.Am

theorem decS_plain {a : List UInt8} (h : ∀ c ∈ a, c ≠ 61) (t : List UInt8) : decS (a ++ t) = a ++ decS t := by
  induction a with
  | nil => rfl
  | cons c a ih =>
    rw [List.cons_append, decS_ne (h c (by simp)), ih fun x hx => h x (by simp [hx])]; rfl
theorem decS_plain0 {a : List UInt8} (h : ∀ c ∈ a, c ≠ 61) : decS a = a := by
  have := decS_plain h []
  rw [decS_nil] at this
  simpa using this
theorem decS_soft (b : List UInt8) : decS (61 :: 13 :: 10 :: b) = decS b := by
  rw [decS_3, if_neg (by decide), if_neg (by decide), if_pos (by decide)]
theorem decS_softn (b : List UInt8) : decS (61 :: 10 :: b) = decS b := by
  cases b with
  | nil => rw [decS_2, if_pos rfl, decS_nil]
  | cons y t => rw [decS_3, if_neg (fun h => absurd h.1 (by decide)), if_pos rfl]
theorem decS_hex {x y : UInt8} (hx : isHex x) (hy : isHex y) (b : List UInt8) : decS (61 :: x :: y :: b) = hexB x y :: decS b := by
  rw [decS_3, if_pos ⟨hx, hy⟩]
theorem hex_ok (c : UInt8) : isHex (hexD (c.toNat / 16)) ∧ isHex (hexD (c.toNat % 16)) ∧ hexB (hexD (c.toNat / 16)) (hexD (c.toNat % 16)) = c := by
  have h := c.toNat_lt
  have key : ∀ n : Fin 256, isHex (hexD (n.val / 16)) ∧ isHex (hexD (n.val % 16)) ∧ hexB (hexD (n.val / 16)) (hexD (n.val % 16)) = UInt8.ofNat n.val := by decide +kernel
  have := key ⟨c.toNat, h⟩
  rw [UInt8.ofNat_toNat] at this
  exact this
theorem decS_piece (c : UInt8) (l : Bool) (r : List UInt8) : decS (pieceS c l ++ r) = c :: decS r := by
  unfold pieceS
  split
  · rename_i h
    have : c ≠ 61 := by
      intro e; subst e
      rcases h with h | h
      · exact h.2.2 rfl
      · exact absurd h.1 (by decide)
    rw [List.singleton_append, decS_ne this]
  · obtain ⟨h1, h2, h3⟩ := hex_ok c
    show decS (61 :: _ :: _ :: r) = _
    rw [decS_hex h1 h2, h3]
theorem decS_enc : ∀ (s : List UInt8) (line : Nat), decS (encL line s) = s
  | [], line => by rw [encL, decS_nil]
  | c :: r, line => by
    rw [encL]
    split
    · rw [List.append_assoc]
      show decS (61 :: 13 :: 10 :: (pieceS c r.isEmpty ++ encL (pieceS c r.isEmpty).length r)) = _
      rw [decS_soft, decS_piece, decS_enc r]
    · rw [decS_piece, decS_enc r]

/-- What the statement asks of each byte; how many since the last end of a line. -/
def scanS : Nat → List UInt8 → Bool
  | _, [] => true
  | n, c :: r => if c = 10 then scanS 0 r else
    if 76 < (if c ≠ 13 then n + 1 else n) ∨ 126 < c.toNat ∨ (c.toNat < 32 ∧ c ≠ 13) then false else scanS (if c ≠ 13 then n + 1 else n) r

theorem scan_ok {c : UInt8} (h : 32 ≤ c.toNat ∧ c.toNat ≤ 126) {n : Nat} (hn : n < 76) (r : List UInt8) : scanS n (c :: r) = scanS (n + 1) r := by
  have h10 : c ≠ 10 := by intro e; subst e; exact absurd h.1 (by decide)
  have h13 : c ≠ 13 := by intro e; subst e; exact absurd h.1 (by decide)
  rw [scanS, if_neg h10, if_pos h13, if_neg (by omega)]
theorem hexD_range (n : Nat) (h : n < 16) : 32 ≤ (hexD n).toNat ∧ (hexD n).toNat ≤ 126 := by
  have key : ∀ n : Fin 16, 32 ≤ (hexD n.val).toNat ∧ (hexD n.val).toNat ≤ 126 := by decide +kernel
  exact key ⟨n, h⟩
theorem scan_piece (c : UInt8) (l : Bool) {n : Nat} (hn : n + (pieceS c l).length ≤ 76) (r : List UInt8) : scanS n (pieceS c l ++ r) = scanS (n + (pieceS c l).length) r := by
  have hc := c.toNat_lt
  unfold pieceS at hn ⊢
  split
  · rename_i h
    rw [if_pos h] at hn
    simp at hn
    rw [List.singleton_append, scan_ok (by rcases h with h | h <;> omega) (by omega)]; rfl
  · rename_i h
    rw [if_neg h] at hn
    simp at hn
    show scanS n (61 :: _ :: _ :: r) = _
    rw [scan_ok (by decide) (by omega), scan_ok (hexD_range _ (by omega)) (by omega), scan_ok (hexD_range _ (by omega)) (by omega)]; rfl
theorem scan_soft {n : Nat} (hn : n ≤ 75) (r : List UInt8) : scanS n (61 :: 13 :: 10 :: r) = scanS 0 r := by
  rw [scan_ok (by decide) (by omega), scanS, if_neg (by decide), show (if (13 : UInt8) ≠ 13 then n + 1 + 1 else n + 1) = n + 1 from if_neg (fun h => h rfl), if_neg (by
    intro h
    rcases h with h | h | h
    · omega
    · exact absurd h (by decide)
    · exact h.2 rfl), scanS, if_pos rfl]
theorem scan_enc : ∀ (s : List UInt8) (line : Nat), line ≤ 75 → scanS line (encL line s) = true
  | [], line, _ => by rw [encL, scanS]
  | c :: r, line, hl => by
    have hp := pieceS_len c r.isEmpty
    rw [encL]
    split
    · rw [List.append_assoc]
      show scanS line (61 :: 13 :: 10 :: (pieceS c r.isEmpty ++ encL (pieceS c r.isEmpty).length r)) = _
      rw [scan_soft hl, scan_piece _ _ (by omega)]
      have := scan_enc r (pieceS c r.isEmpty).length (by omega)
      simpa using this
    · rw [scan_piece _ _ (by omega)]
      exact scan_enc r _ (by omega)
theorem enc_len : ∀ (s : List UInt8) (line : Nat), (encL line s).length ≤ 6 * s.length
  | [], line => by rw [encL]; simp
  | c :: r, line => by
    have hp := pieceS_len c r.isEmpty
    rw [encL]
    split
    · have := enc_len r (pieceS c r.isEmpty).length
      simp; omega
    · have := enc_len r (line + (pieceS c r.isEmpty).length)
      simp; omega
end Go.Proofs.Ytnojfkkdihchiaa
