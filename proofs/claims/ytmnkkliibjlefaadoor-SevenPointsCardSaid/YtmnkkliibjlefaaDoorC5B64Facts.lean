/-
  Lifted functions, and facts about them.
-/
import Derived.Test.YtmnkkliibjlefaaDoorRows
import Derived.Test.YtmnkkliibjlefaaDoorAmC
import Derived.Test.YtmnkkliibjlefaaDoorC5B64Loose
import Derived.Test.YtmnkkliibjlefaaDoorC5R1Let
namespace Go.Proofs.YtmnkkliibjlefaaDoor
open Go Go.Am
set_option linter.unusedVariables false
/-! BaseJoins. -/
theorem encB_append : ∀ (n : Nat) (a b : List UInt8), a.length = 3 * n → encB (a ++ b) = encB a ++ encB b
  | 0, a, b, h => by have : a = [] := List.length_eq_zero_iff.1 (by omega); subst this; rw [encB]; rfl
  | n + 1, a, b, h => by
    match a, h with
    | x :: y :: z :: r, h =>
      have := encB_append n r b (by simp at h; omega)
      rw [encB, List.append_assoc, ← this]
      show encB (x :: y :: z :: (r ++ b)) = _
      rw [encB]
    | [x, y], h => simp at h; omega
    | [x], h => simp at h; omega
    | [], h => simp at h
theorem encB_len : ∀ (n : Nat) (s : List UInt8), s.length ≤ n → (encB s).length = (s.length + 2) / 3 * 4
  | 0, s, h => by have : s = [] := List.length_eq_zero_iff.1 (by omega); subst this; rw [encB]; rfl
  | n + 1, s, h => by
    match s, h with
    | x :: y :: z :: r, h =>
      have := encB_len n r (by simp at h; omega)
      rw [encB]
      simp only [List.length_append, lets_len, this, List.length_cons]
      omega
    | [x, y], h => rw [encB]; simp [lets_len]
    | [x], h => rw [encB]; simp [lets_len]
    | [], h => rw [encB]; rfl
theorem tailB_len (bits n : Nat) : (tailB bits n).length ≤ 2 := by unfold tailB; split <;> (try split) <;> simp
theorem looseG_len : ∀ (s : List UInt8) (bits n : Nat), (looseG bits n s).length ≤ 3 * s.length + 2
  | [], bits, n => by rw [looseG]; have := tailB_len bits n; simp; omega
  | c :: r, bits, n => by
    rw [looseG]
    have h0 := tailB_len bits n
    have h1 := looseG_len r
    split
    · simp; omega
    · split
      · have := h1 bits n; simp; omega
      · split
        · have := h1 0 0; simp; omega
        · have := h1 (bits * 64 + (valI c).toNat) (n + 1); simp; omega
/-! Base64, plainly: what letters say, and what they are. -/

theorem val_letter : ∀ k, k < 64 → valI (letter k) = (k : Int) ∧ letter k ≠ 61 := by decide +kernel
theorem lets_cons2 (x : Nat) : lets x 2 = [letter (x / 2 ^ 18 % 64), letter (x / 2 ^ 12 % 64)] := rfl
theorem lets_cons3 (x : Nat) : lets x 3 = [letter (x / 2 ^ 18 % 64), letter (x / 2 ^ 12 % 64), letter (x / 2 ^ 6 % 64)] := rfl
theorem lets_cons4 (x : Nat) : lets x 4 = [letter (x / 2 ^ 18 % 64), letter (x / 2 ^ 12 % 64), letter (x / 2 ^ 6 % 64), letter (x / 2 ^ 0 % 64)] := rfl
theorem looseG_letter (k bits n : Nat) (r : List UInt8) (hk : k < 64) (hn : n < 3) : looseG bits n (letter k :: r) = looseG (bits * 64 + k) (n + 1) r := by
  obtain ⟨h1, h2⟩ := val_letter k hk
  rw [looseG, if_neg h2, if_neg (by omega), if_neg (by omega), h1]; simp
theorem looseG_letter3 (k bits : Nat) (r : List UInt8) (hk : k < 64) : looseG bits 3 (letter k :: r) = [UInt8.ofNat ((bits * 64 + k) / 65536), UInt8.ofNat ((bits * 64 + k) / 256), UInt8.ofNat (bits * 64 + k)] ++ looseG 0 0 r := by
  obtain ⟨h1, h2⟩ := val_letter k hk
  rw [looseG, if_neg h2, if_neg (by omega), if_pos rfl, h1]; simp
theorem ofNat_eq {n : Nat} {c : UInt8} (h : n % 256 = c.toNat) : UInt8.ofNat n = c := by
  apply UInt8.toNat_inj.1
  rw [UInt8.toNat_ofNat']; simpa using h
theorem m64 (x : Nat) : x % 64 < 64 := Nat.mod_lt _ (by decide)
theorem loose_enc : ∀ (n : Nat) (s : List UInt8), s.length ≤ n → looseG 0 0 (encB s) = s
  | 0, s, h => by have : s = [] := List.length_eq_zero_iff.1 (by omega); subst this; rw [encB, looseG]; rfl
  | n + 1, s, h => by
    match s, h with
    | x :: y :: z :: r, h =>
      have ih := loose_enc n r (by simp at h; omega)
      have hx := x.toNat_lt
      have hy := y.toNat_lt
      have hz := z.toNat_lt
      have h0 := num3_lt x y z
      have e : (((0 * 64 + num3 x y z / 2 ^ 18 % 64) * 64 + num3 x y z / 2 ^ 12 % 64) * 64 + num3 x y z / 2 ^ 6 % 64) * 64 + num3 x y z / 2 ^ 0 % 64 = num3 x y z := by omega
      rw [encB, lets_cons4]
      simp only [List.cons_append, List.nil_append]
      rw [looseG_letter _ _ _ _ (m64 _) (by omega), looseG_letter _ _ _ _ (m64 _) (by omega), looseG_letter _ _ _ _ (m64 _) (by omega), looseG_letter3 _ _ _ (m64 _), e, ih]
      rw [ofNat_eq (c := x) (by unfold num3; omega), ofNat_eq (c := y) (by unfold num3; omega), ofNat_eq (c := z) (by unfold num3; omega)]
      rfl
    | [x, y], h =>
      have hx := x.toNat_lt
      have hy := y.toNat_lt
      have z0 : (0 : UInt8).toNat = 0 := by decide
      have h0 := num3_lt x y 0
      rw [encB, lets_cons3]
      simp only [List.cons_append, List.nil_append]
      rw [looseG_letter _ _ _ _ (m64 _) (by omega), looseG_letter _ _ _ _ (m64 _) (by omega), looseG_letter _ _ _ _ (m64 _) (by omega), looseG, if_pos rfl]
      unfold tailB
      rw [if_neg (by omega), if_pos (by omega), ofNat_eq (c := x) (by unfold num3; omega), ofNat_eq (c := y) (by unfold num3; omega)]
    | [x], h =>
      have hx := x.toNat_lt
      have z0 : (0 : UInt8).toNat = 0 := by decide
      have h0 := num3_lt x 0 0
      rw [encB, lets_cons2]
      simp only [List.cons_append, List.nil_append]
      rw [looseG_letter _ _ _ _ (m64 _) (by omega), looseG_letter _ _ _ _ (m64 _) (by omega), looseG, if_pos rfl]
      unfold tailB
      rw [if_pos (by omega), ofNat_eq (c := x) (by unfold num3; omega)]
    | [], h => rw [encB, looseG]; rfl
theorem looseB_enc (s : List UInt8) : looseB (encB s) = s := loose_enc _ s (Nat.le_refl _)

/-- What Loose goes past. -/
def junk (c : UInt8) : Bool := c != 61 && decide (valI c < 0)
theorem looseG_junk {c : UInt8} (h : junk c = true) (bits n : Nat) (r : List UInt8) : looseG bits n (c :: r) = looseG bits n r := by
  simp [junk] at h
  rw [looseG, if_neg h.1, if_pos h.2]
theorem looseG_strip : ∀ (s : List UInt8) (bits n : Nat), looseG bits n (s.filter fun c => !junk c) = looseG bits n s
  | [], _, _ => rfl
  | c :: r, bits, n => by
    cases hc : junk c with
    | true => rw [List.filter_cons_of_neg (by simp [hc]), looseG_junk hc]; exact looseG_strip r bits n
    | false =>
      rw [List.filter_cons_of_pos (by simp [hc]), looseG, looseG]
      simp only [looseG_strip r]

/-- The letters. -/
def al (c : UInt8) : Bool := ((((((decide ((c.toNat : Int) ≥ (97 : Int))) && (decide ((c.toNat : Int) ≤ (122 : Int)))) || ((decide ((c.toNat : Int) ≥ (65 : Int))) && (decide ((c.toNat : Int) ≤ (90 : Int))))) || ((decide ((c.toNat : Int) ≥ (48 : Int))) && (decide ((c.toNat : Int) ≤ (57 : Int))))) || ((c.toNat : Int) == (43 : Int))) || ((c.toNat : Int) == (47 : Int)))
theorem al_letter : ∀ k, k < 64 → al (letter k) = true := by decide +kernel
theorem al_lets (x n : Nat) : ∀ c ∈ lets x n, al c = true := by
  intro c hc
  unfold lets at hc
  obtain ⟨i, _, rfl⟩ := List.mem_map.1 hc
  exact al_letter _ (m64 _)
theorem al_encL : ∀ (n : Nat) (s : List UInt8), s.length ≤ n → ∀ c ∈ encL64 s, al c = true
  | 0, s, h => by have : s = [] := List.length_eq_zero_iff.1 (by omega); subst this; rw [encL64]; simp
  | n + 1, s, h => by
    match s, h with
    | x :: y :: z :: r, h =>
      have ih := al_encL n r (by simp at h; omega)
      rw [encL64]
      intro c hc
      rcases List.mem_append.1 hc with h | h
      · exact al_lets _ _ c h
      · exact ih c h
    | [x, y], h => rw [encL64]; exact al_lets _ _
    | [x], h => rw [encL64]; exact al_lets _ _
    | [], h => rw [encL64]; simp
theorem encL_len : ∀ (n : Nat) (s : List UInt8), s.length ≤ n → (encL64 s).length = (4 * s.length + 2) / 3
  | 0, s, h => by have : s = [] := List.length_eq_zero_iff.1 (by omega); subst this; rw [encL64]; rfl
  | n + 1, s, h => by
    match s, h with
    | x :: y :: z :: r, h =>
      have := encL_len n r (by simp at h; omega)
      rw [encL64]; simp [lets_len]; omega
    | [x, y], h => rw [encL64]; simp [lets_len]
    | [x], h => rw [encL64]; simp [lets_len]
    | [], h => rw [encL64]; rfl
/-- Letters, then signs of an end. -/
theorem encB_form (s : List UInt8) : ∃ L, encB s = L ++ List.replicate ((3 - s.length % 3) % 3) 61 ∧ (∀ c ∈ L, al c = true) := by
  refine ⟨encL64 s, ?_, al_encL _ s (Nat.le_refl _)⟩
  rw [encL64_pad _ s (Nat.le_refl _), encL_len _ s (Nat.le_refl _)]
  have e : ∀ k : Nat, (4 - (4 * k + 2) / 3 % 4) % 4 = (3 - k % 3) % 3 := fun k => by
    have h3 : k % 3 = 0 ∨ k % 3 = 1 ∨ k % 3 = 2 := by omega
    rcases h3 with h | h | h
    · obtain ⟨q, rfl⟩ : ∃ q, k = 3 * q := ⟨k / 3, by omega⟩
      rw [show (4 * (3 * q) + 2) / 3 = 4 * q by omega]; omega
    · obtain ⟨q, rfl⟩ : ∃ q, k = 3 * q + 1 := ⟨k / 3, by omega⟩
      rw [show (4 * (3 * q + 1) + 2) / 3 = 4 * q + 2 by omega]; omega
    · obtain ⟨q, rfl⟩ : ∃ q, k = 3 * q + 2 := ⟨k / 3, by omega⟩
      rw [show (4 * (3 * q + 2) + 2) / 3 = 4 * q + 3 by omega]; omega
  rw [e]
theorem encB_no (s : List UInt8) : (32 : UInt8) ∉ encB s := by
  obtain ⟨L, h1, h2⟩ := encB_form s
  rw [h1]
  intro h
  rcases List.mem_append.1 h with h | h
  · exact absurd (h2 _ h) (by decide)
  · exact absurd (List.mem_replicate.1 h).2 (by decide)
theorem encB_len4 (s : List UInt8) : (encB s).length = (s.length + 2) / 3 * 4 := encB_len _ s (Nat.le_refl _)
end Go.Proofs.YtmnkkliibjlefaaDoor
