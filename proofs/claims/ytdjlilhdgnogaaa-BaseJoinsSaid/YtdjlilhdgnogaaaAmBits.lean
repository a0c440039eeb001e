/-
  The abstract machine of these proofs.
-/
import Derived.Test.YtdjlilhdgnogaaaAmDraw8
set_option linter.unusedVariables false
/-! Numbers: wrapping and bits of numbers that are not negative. -/
namespace Go.Am
open Go
theorem i64_small {n : Int} (h0 : 0 ≤ n) (h1 : n < 9223372036854775808) : IntKind.i64.wrap n = n := by
  have e : (2 : Int) ^ IntKind.i64.bits = 18446744073709551616 := rfl
  have e1 : (2 : Int) ^ (IntKind.i64.bits - 1) = 9223372036854775808 := rfl
  have e2 : IntKind.i64.signed = true := rfl
  simp only [IntKind.wrap, e, e1, e2, Bool.true_and, decide_eq_true_eq]
  split <;> omega
theorem u8_wrap (n : Int) : IntKind.u8.wrap n = n % 256 := by
  have e : (2 : Int) ^ IntKind.u8.bits = 256 := rfl
  have e2 : IntKind.u8.signed = false := rfl
  simp only [IntKind.wrap, e, e2, Bool.false_and, Bool.false_eq_true, if_false]
theorem i64_and {a b : Nat} (ha : a < 9223372036854775808) (hb : b < 9223372036854775808) : ibits .and .i64 (a : Int) (b : Int) = ((a &&& b : Nat) : Int) := by
  have h1 : (BitVec.ofInt IntKind.i64.bits (a : Int) &&& BitVec.ofInt IntKind.i64.bits (b : Int)).toNat = a &&& b := by
    rw [BitVec.toNat_and, BitVec.ofInt_natCast, BitVec.ofInt_natCast, BitVec.toNat_ofNat, BitVec.toNat_ofNat]
    have e : 2 ^ IntKind.i64.bits = 18446744073709551616 := rfl
    rw [e, Nat.mod_eq_of_lt (by omega), Nat.mod_eq_of_lt (by omega)]
  show IntKind.i64.wrap (((BitVec.ofInt IntKind.i64.bits (a : Int) &&& BitVec.ofInt IntKind.i64.bits (b : Int)).toNat : Nat) : Int) = _
  rw [h1]
  have : a &&& b ≤ a := Nat.and_le_left
  exact i64_small (by omega) (by omega)
theorem i64_or {a b : Nat} (ha : a < 9223372036854775808) (hb : b < 9223372036854775808) : ibits .or .i64 (a : Int) (b : Int) = ((a ||| b : Nat) : Int) := by
  have h1 : (BitVec.ofInt IntKind.i64.bits (a : Int) ||| BitVec.ofInt IntKind.i64.bits (b : Int)).toNat = a ||| b := by
    rw [BitVec.toNat_or, BitVec.ofInt_natCast, BitVec.ofInt_natCast, BitVec.toNat_ofNat, BitVec.toNat_ofNat]
    have e : 2 ^ IntKind.i64.bits = 18446744073709551616 := rfl
    rw [e, Nat.mod_eq_of_lt (by omega), Nat.mod_eq_of_lt (by omega)]
  show IntKind.i64.wrap (((BitVec.ofInt IntKind.i64.bits (a : Int) ||| BitVec.ofInt IntKind.i64.bits (b : Int)).toNat : Nat) : Int) = _
  rw [h1]
  have : a ||| b < 2 ^ 63 := Nat.or_lt_two_pow (by omega) (by omega)
  exact i64_small (by omega) (by omega)
/-- Bits put ahead of bits. -/
theorem or_add (a b k : Nat) (hb : b < 2 ^ k) : (a * 2 ^ k) ||| b = a * 2 ^ k + b := by
  rw [Nat.mul_comm, Nat.two_pow_add_eq_or_of_lt hb]
theorem and_mod (a k : Nat) : a &&& (2 ^ k - 1) = a % 2 ^ k := Nat.and_two_pow_sub_one_eq_mod a k
end Go.Am
