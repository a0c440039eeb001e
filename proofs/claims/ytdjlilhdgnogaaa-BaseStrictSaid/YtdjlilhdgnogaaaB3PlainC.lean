/-
  Lifted functions, and facts about them.
-/
import Derived.Test.YtdjlilhdgnogaaaB3PlainA
set_option linter.unusedVariables false
/-! What the document's letters compute. -/
namespace Go.Proofs.Ytdjlilhdgnogaaa
open Go Go.Am

theorem ite_mk {α : Type} {c : Prop} [Decidable c] {t r : Option α} (hc : c) (h : t = r) : (if c then t else none) = r := by rw [if_pos hc, h]

def encL64 : List UInt8 → List UInt8
  | a :: b :: c :: r => lets (num3 a b c) 4 ++ encL64 r
  | [a, b] => lets (num3 a b 0) 3
  | [a] => lets (num3 a 0 0) 2
  | [] => []

theorem u64_small {n : Int} (h0 : 0 ≤ n) (h1 : n < 18446744073709551616) : IntKind.u64.wrap n = n := by
  simp [IntKind.wrap, IntKind.signed, IntKind.bits]; omega

theorem Bl4_eq (fuel : Nat) (K : List UInt8 → List UInt8 → Int → List UInt8 → Option (List UInt8)) (s : List UInt8) (i n v : Nat) (hn : n ≤ 3) (hv : v < 16777216) (hi : i ≤ 1000000000) :
    ∀ (k f j : Nat) (b : List UInt8), k < f → j + k = n + 1 → b.length ≤ 1000000000 + j →
    Brletters_4 fuel K f s LB_7543b37f (i : Int) (n : Int) (v : Int) (j : Int) b = K s LB_7543b37f ((i + 3 : Nat) : Int) (b ++ (List.range' j k).map fun i => letter (v / 2 ^ (18 - 6 * i) % 64)) := by
  intro k
  induction k with
  | zero =>
    intro f j b hf hj hb
    cases f with
    | zero => omega
    | succ f => rw [Brletters_4, if_neg (by simp; omega), if_pos (ok64 (by omega) (by omega))]; simp
  | succ k ih =>
    intro f j b hf hj hb
    cases f with
    | zero => omega
    | succ f =>
      have hm : (min (IntKind.u64.wrap ((18 : Int) - (6 : Int) * (j : Int))).toNat 64) = 18 - 6 * j := by rw [u64_small (by omega) (by omega)]; omega
      have hlt : v / 2 ^ (18 - 6 * j) % 64 < 64 := Nat.mod_lt _ (by decide)
      rw [Brletters_4, if_pos (by simp; omega)]
      rw [hm, shr_and v _ (by omega)]
      simp only [Int.toNat_natCast, UInt8.ofNat_toNat, letter_fold, alpha_len]
      rw [if_pos ⟨ok64 (by omega) (by omega), ok64 (by omega) (by omega), by rw [u64_small (by omega) (by omega)]; omega, ⟨by omega, by omega⟩, by simp only [List.length_cons, List.length_nil]; omega⟩, if_pos (ok64 (by omega) (by omega))]
      have := ih f (j + 1) (b ++ [letter (v / 2 ^ (18 - 6 * j) % 64)]) (by omega) (by omega) (by simp; omega)
      refine Eq.trans ?_ (this.trans ?_)
      · congr 1
      · rw [List.range'_succ]; simp

def byteAt (s : List UInt8) (i n j : Nat) : UInt8 := if j < n then s.getD (i + j) 0 else 0
theorem Bl2_step (fuel : Nat) (K : List UInt8 → List UInt8 → Int → List UInt8 → Option (List UInt8)) (s b : List UInt8) (f i n x j : Nat) (hj : j < 3) (hx : x < 65536) (hn : n ≤ 3) (hi : i + n ≤ s.length) (hs : s.length ≤ 1000000000) :
    Brletters_2 fuel K (f + 1) s LB_7543b37f (i : Int) (n : Int) (x : Int) (j : Int) b = Brletters_2 fuel K f s LB_7543b37f (i : Int) (n : Int) ((x * 256 + (byteAt s i n j).toNat : Nat) : Int) ((j + 1 : Nat) : Int) b := by
  have e8 : (2 : Int) ^ (min ((8 : Int)).toNat 64) = 256 := rfl
  have hlt := (byteAt s i n j).toNat_lt
  have hw : IntKind.i64.wrap ((x : Int) * 256) = ((x * 256 : Nat) : Int) := by rw [i64_small (by omega) (by omega)]; simp
  rw [Brletters_2, if_pos (by simp; omega), if_pos (by decide), e8, hw]
  unfold byteAt at hlt ⊢
  by_cases h : j < n
  · rw [if_pos (by simp; omega), if_pos ⟨ok64 (by omega) (by omega), by omega, by omega⟩]
    simp only [h, if_true] at hlt ⊢
    have e : ((i : Int) + (j : Int)).toNat = i + j := by omega
    unfold Brletters_3
    rw [e, i64_or (by omega) (by omega), or_add x _ 8 hlt, if_pos (ok64 (by omega) (by omega))]
    rfl
  · rw [if_neg (by simp; omega)]
    simp only [h, if_false] at hlt ⊢
    unfold Brletters_3
    have z : (0 : UInt8).toNat = 0 := by decide
    rw [if_pos (ok64 (by omega) (by omega)), z, Nat.add_zero]
    rfl

theorem Bl2_eq (fuel : Nat) (hf : 5 ≤ fuel) (K : List UInt8 → List UInt8 → Int → List UInt8 → Option (List UInt8)) (s b : List UInt8) (i n : Nat) (hn : n ≤ 3) (hi : i + n ≤ s.length) (hs : s.length ≤ 1000000000) (hb : b.length ≤ 1000000000) :
    Brletters_2 fuel K fuel s LB_7543b37f (i : Int) (n : Int) (0 : Int) (0 : Int) b = K s LB_7543b37f ((i + 3 : Nat) : Int) (b ++ lets (num3 (byteAt s i n 0) (byteAt s i n 1) (byteAt s i n 2)) (n + 1)) := by
  obtain ⟨f, rfl⟩ : ∃ f, fuel = f + 4 := ⟨fuel - 4, by omega⟩
  have h0 := (byteAt s i n 0).toNat_lt
  have h1 := (byteAt s i n 1).toNat_lt
  have h2 := (byteAt s i n 2).toNat_lt
  have s0 := Bl2_step (f + 4) K s b (f + 3) i n 0 0 (by omega) (by omega) hn hi hs
  have s1 := Bl2_step (f + 4) K s b (f + 2) i n (0 * 256 + (byteAt s i n 0).toNat) 1 (by omega) (by omega) hn hi hs
  have s2 := Bl2_step (f + 4) K s b (f + 1) i n ((0 * 256 + (byteAt s i n 0).toNat) * 256 + (byteAt s i n 1).toNat) 2 (by omega) (by omega) hn hi hs
  have e : ((0 * 256 + (byteAt s i n 0).toNat) * 256 + (byteAt s i n 1).toNat) * 256 + (byteAt s i n 2).toNat = num3 (byteAt s i n 0) (byteAt s i n 1) (byteAt s i n 2) := by unfold num3; omega
  rw [e] at s2
  refine s0.trans (s1.trans (s2.trans ?_))
  rw [Brletters_2, if_neg (by decide)]
  exact Bl4_eq (f + 4) K s i n _ hn (num3_lt _ _ _) (by omega) (n + 1) (f + 4) 0 b (by omega) (by omega) (by omega)

theorem byteAt_drop {s r : List UInt8} {i j n : Nat} {c : UInt8} (h : (s.drop i)[j]? = some c) (hj : j < n) : byteAt s i n j = c := by
  unfold byteAt
  rw [if_pos hj, List.getD_eq_getElem?_getD]
  rw [List.getElem?_drop] at h
  rw [h]; rfl
theorem byteAt_out {s : List UInt8} {i j n : Nat} (hj : n ≤ j) : byteAt s i n j = 0 := by
  unfold byteAt; rw [if_neg (by omega)]

theorem Bl1_eq (fuel : Nat) (hfu : 5 ≤ fuel) (s : List UInt8) (hs : s.length ≤ 1000000) : ∀ (f i : Nat) (b : List UInt8), s.length + 2 < f + i → b.length ≤ 2 * i →  i ≤ s.length + 2 →
    Brletters_1 fuel f s LB_7543b37f (i : Int) b = some (b ++ encL64 (s.drop i)) := by
  intro f
  induction f with
  | zero =>
    intro i b h1 h2 h3
    omega
  | succ f ih =>
    intro i b h1 h2 h3
    rw [Brletters_1]
    have hl : (s.drop i).length = s.length - i := List.length_drop
    match hd : s.drop i with
    | [] =>
      rw [hd] at hl; simp at hl
      rw [if_neg (by simp; omega), encL64]; simp
    | x :: y :: z :: r =>
      rw [hd] at hl; simp at hl
      have hn : (if ((s.length : Int) - (i : Int)) < (3 : Int) then ((s.length : Int) - (i : Int)) else (3 : Int)) = ((3 : Nat) : Int) := by rw [if_neg (by omega)]; rfl
      rw [if_pos (by simp; omega), if_pos (ok64 (by omega) (by omega)), hn, Bl2_eq fuel hfu _ s b i 3 (by omega) (by omega) (by omega) (by omega)]
      have g0 : byteAt s i 3 0 = x := byteAt_drop (r := r) (by rw [hd]; rfl) (by omega)
      have g1 : byteAt s i 3 1 = y := byteAt_drop (r := r) (by rw [hd]; rfl) (by omega)
      have g2 : byteAt s i 3 2 = z := byteAt_drop (r := r) (by rw [hd]; rfl) (by omega)
      rw [g0, g1, g2, ih (i + 3) _ (by omega) (by simp [lets_len]; omega) (by omega)]
      have hdr : s.drop (i + 3) = r := by
        have : (s.drop i).drop 3 = r := by rw [hd]; rfl
        simpa [List.drop_drop] using this
      rw [hdr, encL64]; simp
    | [x, y] =>
      rw [hd] at hl; simp at hl
      have hn : (if ((s.length : Int) - (i : Int)) < (3 : Int) then ((s.length : Int) - (i : Int)) else (3 : Int)) = ((2 : Nat) : Int) := by rw [if_pos (by omega)]; omega
      rw [if_pos (by simp; omega), if_pos (ok64 (by omega) (by omega)), hn, Bl2_eq fuel hfu _ s b i 2 (by omega) (by omega) (by omega) (by omega)]
      have g0 : byteAt s i 2 0 = x := byteAt_drop (r := []) (by rw [hd]; rfl) (by omega)
      have g1 : byteAt s i 2 1 = y := byteAt_drop (r := []) (by rw [hd]; rfl) (by omega)
      have g2 : byteAt s i 2 2 = 0 := byteAt_out (by omega)
      rw [g0, g1, g2, ih (i + 3) _ (by omega) (by simp [lets_len]; omega) (by omega)]
      have hdr : s.drop (i + 3) = [] := List.drop_of_length_le (by omega)
      rw [hdr, encL64, encL64]; simp
    | [x] =>
      rw [hd] at hl; simp at hl
      have hn : (if ((s.length : Int) - (i : Int)) < (3 : Int) then ((s.length : Int) - (i : Int)) else (3 : Int)) = ((1 : Nat) : Int) := by rw [if_pos (by omega)]; omega
      rw [if_pos (by simp; omega), if_pos (ok64 (by omega) (by omega)), hn, Bl2_eq fuel hfu _ s b i 1 (by omega) (by omega) (by omega) (by omega)]
      have g0 : byteAt s i 1 0 = x := byteAt_drop (r := []) (by rw [hd]; rfl) (by omega)
      have g1 : byteAt s i 1 1 = 0 := byteAt_out (by omega)
      have g2 : byteAt s i 1 2 = 0 := byteAt_out (by omega)
      rw [g0, g1, g2, ih (i + 3) _ (by omega) (by simp [lets_len]; omega) (by omega)]
      have hdr : s.drop (i + 3) = [] := List.drop_of_length_le (by omega)
      rw [hdr, encL64, encL64]; simp
theorem rletters_eq (s : List UInt8) (hs : s.length ≤ 1000000) : Frletters 1000010 s = some (encL64 s) := by
  have := Bl1_eq 1000010 (by omega) s hs 1000010 0 [] (by omega) (by simp) (by omega)
  simpa [Frletters] using this

theorem encL64_pad : ∀ (n : Nat) (s : List UInt8), s.length ≤ n → encB s = encL64 s ++ List.replicate ((4 - (encL64 s).length % 4) % 4) 61
  | 0, s, h => by have : s = [] := List.length_eq_zero_iff.1 (by omega); subst this; rw [encB, encL64]; rfl
  | n + 1, s, h => by
    match s, h with
    | x :: y :: z :: r, h =>
      have := encL64_pad n r (by simp at h; omega)
      rw [encB, encL64, this]
      have e : (lets (num3 x y z) 4 ++ encL64 r).length % 4 = (encL64 r).length % 4 := by simp [lets_len]
      rw [e]; simp
    | [x, y], h => rw [encB, encL64]; simp [lets_len]
    | [x], h => rw [encB, encL64]; simp [lets_len]
    | [], h => rw [encB, encL64]; rfl
theorem encL64_len : ∀ (n : Nat) (s : List UInt8), s.length ≤ n → (encL64 s).length ≤ 2 * s.length
  | 0, s, h => by have : s = [] := List.length_eq_zero_iff.1 (by omega); subst this; rw [encL64]; simp
  | n + 1, s, h => by
    match s, h with
    | x :: y :: z :: r, h =>
      have := encL64_len n r (by simp at h; omega)
      rw [encL64]; simp [lets_len]; omega
    | [x, y], h => rw [encL64]; simp [lets_len]
    | [x], h => rw [encL64]; simp [lets_len]
    | [], h => rw [encL64]; simp

def idx (sub : List UInt8) : List UInt8 → Nat → Int
  | [], i => if sub.isPrefixOf [] then i else -1
  | c :: r, i => if sub.isPrefixOf (c :: r) then i else idx sub r (i + 1)
def indexS (s sub : List UInt8) (at0 : Int) : Int := idx sub (s.drop at0.toNat) at0.toNat
abbrev indexok (s sub : List UInt8) (at0 : Int) : Prop := 0 ≤ at0 ∧ at0 ≤ s.length ∧ s.length + sub.length ≤ 1000000000
theorem idx_one (c : UInt8) : ∀ (l : List UInt8) (i : Nat), idx [c] l i = if Lib.indexByte l c = -1 then -1 else (i : Int) + Lib.indexByte l c
  | [], i => by simp [idx, Lib.indexByte]
  | b :: l, i => by
    rw [idx, idx_one c l]
    have h1 := Lib.indexByte_ge l c
    by_cases h : b = c
    · subst h; simp [List.isPrefixOf, Lib.indexByte]
    · have h' : ¬ c = b := fun e => h e.symm
      simp only [List.isPrefixOf, Lib.indexByte, h, beq_iff_eq, if_false, beq_eq_false_iff_ne.2 h', Bool.false_and, Bool.false_eq_true]
      split
      · simp
      · rename_i h2; rw [if_neg (by omega)]; push_cast; omega
theorem indexS_one (s : List UInt8) (c : UInt8) : indexS s [c] 0 = Lib.indexByte s c := by
  unfold indexS
  rw [idx_one]
  simp only [Int.toNat_zero, List.drop_zero]
  split
  · rename_i h; exact h.symm
  · simp
end Go.Proofs.Ytdjlilhdgnogaaa
