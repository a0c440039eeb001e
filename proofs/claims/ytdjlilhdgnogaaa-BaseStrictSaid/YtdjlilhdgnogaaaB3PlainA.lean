/-
  Lifted functions, and facts about them.
-/
import Derived.Test.YtdjlilhdgnogaaaB3Enc
import Derived.Test.YtdjlilhdgnogaaaB3RLet
set_option linter.unusedVariables false
/-! What base64.Encode and the document's letters compute. -/
namespace Go.Proofs.Ytdjlilhdgnogaaa
open Go Go.Am

def num3 (a b c : UInt8) : Nat := a.toNat * 65536 + b.toNat * 256 + c.toNat
def lets (x n : Nat) : List UInt8 := (List.range' 0 n).map fun i => letter (x / 2 ^ (18 - 6 * i) % 64)
theorem lets_eq (x n : Nat) : letS (x : Int) n = lets x n := rfl
theorem lets_len (x n : Nat) : (lets x n).length = n := by simp [lets]

def encB : List UInt8 → List UInt8
  | a :: b :: c :: r => lets (num3 a b c) 4 ++ encB r
  | [a, b] => lets (num3 a b 0) 3 ++ [61]
  | [a] => lets (num3 a 0 0) 2 ++ [61, 61]
  | [] => []

theorem bits3 (a b c : UInt8) : ibits .or .i64 (ibits .or .i64 (IntKind.i64.wrap ((a.toNat : Int) * 2 ^ (min ((16 : Int)).toNat 64))) (IntKind.i64.wrap ((b.toNat : Int) * 2 ^ (min ((8 : Int)).toNat 64)))) (c.toNat : Int) = (num3 a b c : Nat) := by
  have ha := a.toNat_lt
  have hb := b.toNat_lt
  have hc := c.toNat_lt
  have e1 : (2 : Int) ^ (min ((16 : Int)).toNat 64) = 65536 := rfl
  have e2 : (2 : Int) ^ (min ((8 : Int)).toNat 64) = 256 := rfl
  rw [e1, e2, i64_small (by omega) (by omega), i64_small (by omega) (by omega)]
  rw [show (a.toNat : Int) * 65536 = ((a.toNat * 65536 : Nat) : Int) by simp, show (b.toNat : Int) * 256 = ((b.toNat * 256 : Nat) : Int) by simp]
  have o1 : (a.toNat * 65536) ||| (b.toNat * 256) = a.toNat * 65536 + b.toNat * 256 := or_add a.toNat (b.toNat * 256) 16 (by omega)
  have o2 : (a.toNat * 65536 + b.toNat * 256) ||| c.toNat = num3 a b c := by
    have := or_add (a.toNat * 256 + b.toNat) c.toNat 8 (by omega)
    unfold num3
    rw [show a.toNat * 65536 + b.toNat * 256 = (a.toNat * 256 + b.toNat) * 2 ^ 8 by omega, this]
  rw [i64_or (by omega) (by omega), o1, i64_or (by omega) (by omega), o2]
theorem bits2 (a b : UInt8) : ibits .or .i64 (IntKind.i64.wrap ((a.toNat : Int) * 2 ^ (min ((16 : Int)).toNat 64))) (IntKind.i64.wrap ((b.toNat : Int) * 2 ^ (min ((8 : Int)).toNat 64))) = (num3 a b 0 : Nat) := by
  have ha := a.toNat_lt
  have hb := b.toNat_lt
  have e1 : (2 : Int) ^ (min ((16 : Int)).toNat 64) = 65536 := rfl
  have e2 : (2 : Int) ^ (min ((8 : Int)).toNat 64) = 256 := rfl
  rw [e1, e2, i64_small (by omega) (by omega), i64_small (by omega) (by omega)]
  rw [show (a.toNat : Int) * 65536 = ((a.toNat * 65536 : Nat) : Int) by simp, show (b.toNat : Int) * 256 = ((b.toNat * 256 : Nat) : Int) by simp]
  have o1 : (a.toNat * 65536) ||| (b.toNat * 256) = a.toNat * 65536 + b.toNat * 256 := or_add a.toNat (b.toNat * 256) 16 (by omega)
  rw [i64_or (by omega) (by omega), o1]
  have z : (0 : UInt8).toNat = 0 := by decide
  unfold num3
  rw [z, Nat.add_zero]
theorem bits1 (a : UInt8) : IntKind.i64.wrap ((a.toNat : Int) * 2 ^ (min ((16 : Int)).toNat 64)) = (num3 a 0 0 : Nat) := by
  have ha := a.toNat_lt
  have e1 : (2 : Int) ^ (min ((16 : Int)).toNat 64) = 65536 := rfl
  rw [e1, i64_small (by omega) (by omega)]
  have z : (0 : UInt8).toNat = 0 := by decide
  unfold num3
  rw [z]
  omega
theorem num3_lt (a b c : UInt8) : num3 a b c < 16777216 := by
  have ha := a.toNat_lt
  have hb := b.toNat_lt
  have hc := c.toNat_lt
  unfold num3; omega
theorem BEncode_eq (fuel : Nat) : ∀ (f : Nat) (s b : List UInt8), s.length < f → b.length + 2 * s.length ≤ 100000000 → BEncode_1 fuel f s b = some (b ++ encB s) := by
  intro f
  induction f with
  | zero => intro s b h; omega
  | succ f ih =>
    intro s b h h2
    match s, h, h2 with
    | a :: c :: d :: r, h, h2 =>
      simp only [List.length_cons] at h h2
      have l := num3_lt a c d
      rw [BEncode_1, if_pos (by simp; omega)]
      have g0 : (a :: c :: d :: r).getD ((0 : Int)).toNat 0 = a := rfl
      have g1 : (a :: c :: d :: r).getD ((1 : Int)).toNat 0 = c := rfl
      have g2 : (a :: c :: d :: r).getD ((2 : Int)).toNat 0 = d := rfl
      have g3 : (a :: c :: d :: r).drop ((3 : Int)).toNat = r := rfl
      have g4 : ((4 : Int)).toNat = 4 := rfl
      rw [g0, g1, g2, bits3, g3, g4, lets_eq]
      rw [if_pos ⟨by simp; omega, by omega, by simp; omega, by omega, by simp; omega, ⟨by omega, by omega, by omega, by omega⟩, by rw [lets_len]; omega⟩, if_pos (by simp; omega)]
      rw [ih r _ (by omega) (by simp [lets_len]; omega), encB]
      simp
    | [a, c], h, h2 =>
      simp only [List.length_cons, List.length_nil] at h h2
      have l := num3_lt a c 0
      rw [BEncode_1, if_neg (by simp), if_neg (by simp), if_pos (by simp)]
      have g0 : [a, c].getD ((0 : Int)).toNat 0 = a := rfl
      have g1 : [a, c].getD ((1 : Int)).toNat 0 = c := rfl
      have g4 : ((3 : Int)).toNat = 3 := rfl
      rw [g0, g1, bits2, g4, lets_eq]
      rw [if_pos ⟨by simp, by omega, by simp, by omega, ⟨by omega, by omega, by omega, by omega⟩, by rw [lets_len]; omega, by simp [lets_len]; omega⟩]
      unfold BEncode_2
      rw [encB]; simp
    | [a], h, h2 =>
      simp only [List.length_cons, List.length_nil] at h h2
      have l := num3_lt a 0 0
      rw [BEncode_1, if_neg (by simp), if_pos (by simp)]
      have g0 : [a].getD ((0 : Int)).toNat 0 = a := rfl
      have g4 : ((2 : Int)).toNat = 2 := rfl
      rw [g0, bits1, g4, lets_eq]
      rw [if_pos ⟨by simp, by omega, ⟨by omega, by omega, by omega, by omega⟩, by rw [lets_len]; omega, by simp [lets_len]; omega⟩]
      unfold BEncode_2
      rw [encB]; simp
    | [], h, h2 =>
      rw [BEncode_1, if_neg (by simp), if_neg (by simp), if_neg (by simp), encB]
      unfold BEncode_2
      simp
theorem Encode_eq (s : List UInt8) (hs : s.length ≤ 1000000) : FEncode 1000001 s = some (encB s) := by
  have := BEncode_eq 1000001 1000001 s [] (by omega) (by simp; omega)
  simpa [FEncode] using this
end Go.Proofs.Ytdjlilhdgnogaaa
