/-
  A lifted function, or a fact about one.
-/
import Derived.Test.YtnojfkkdihchiaaQLeaf
/-! What the small functions answer. -/
namespace Go.Proofs.Ytnojfkkdihchiaa
open Go Go.Am

def digitS (c : Int) : Int := if 48 ≤ c ∧ c ≤ 57 then c - 48 else if 97 ≤ c ∧ c ≤ 102 then c - 87 else if 65 ≤ c ∧ c ≤ 70 then c - 55 else -1
def hexdS (c : Int) : Bool := decide (48 ≤ c ∧ c ≤ 57) || decide (97 ≤ c ∧ c ≤ 102) || decide (65 ≤ c ∧ c ≤ 70)

theorem u8_small {n : Int} (h0 : 0 ≤ n) (h1 : n < 256) : IntKind.u8.wrap n = n := by
  have e : (2 : Int) ^ IntKind.u8.bits = 256 := rfl
  have e2 : IntKind.u8.signed = false := rfl
  simp only [IntKind.wrap, e, e2, Bool.false_and, Bool.false_eq_true, if_false]
  omega

theorem i64ok_small {n : Int} (h0 : -1000000000000 ≤ n) (h1 : n ≤ 1000000000000) : i64ok n := by
  unfold i64ok
  omega

theorem Fdigit_eq (c : Int) : Fdigit 0 c = some (digitS c) := by
  unfold Fdigit digitS
  by_cases h1 : 48 ≤ c ∧ c ≤ 57
  · rw [if_pos (by simp; omega), if_pos h1, u8_small (by omega) (by omega)]
  · rw [if_neg (by simp; omega), if_neg h1]
    by_cases h2 : 97 ≤ c ∧ c ≤ 102
    · rw [if_pos (by simp; omega), if_pos h2, u8_small (by omega) (by omega), if_pos (i64ok_small (by omega) (by omega))]
      congr 1; omega
    · rw [if_neg (by simp; omega), if_neg h2]
      by_cases h3 : 65 ≤ c ∧ c ≤ 70
      · rw [if_pos (by simp; omega), if_pos h3, u8_small (by omega) (by omega), if_pos (i64ok_small (by omega) (by omega))]
        congr 1; omega
      · rw [if_neg (by simp; omega), if_neg h3]
theorem Fhalf_eq (c : Int) : Fhalf 0 c = some (digitS c) := Fdigit_eq c

def sp_digit : List AV → Option (AV × Option Prop)
  | [.p (.int .u8 c)] => some (.p (.int .i64 (digitS c)), none)
  | _ => none
theorem sp1 {α : Type} {P : α → Prop} {zs : List AV} {r : AV} {ok : Option Prop} : True := trivial
theorem ok_digit : SpecOk Try.prog 15 sp_digit := by
  intro zs r ok h _
  unfold sp_digit at h
  split at h
  · cases h; exact ⟨by kernel_rfl, fn_digit 0 _ _ fun _ => Fdigit_eq _⟩
  · cases h
def sp_half : List AV → Option (AV × Option Prop) := sp_digit
theorem ok_half : SpecOk Try.prog 16 sp_half := by
  intro zs r ok h _
  unfold sp_half sp_digit at h
  split at h
  · cases h; exact ⟨by kernel_rfl, fn_half 0 _ _ fun _ => Fhalf_eq _⟩
  · cases h
def sp_hexd : List AV → Option (AV × Option Prop)
  | [.p (.int .u8 c)] => some (.p (.bool (hexdS c)), none)
  | _ => none
theorem ok_hexd : SpecOk Try.prog 13 sp_hexd := by
  intro zs r ok h _
  unfold sp_hexd at h
  split at h
  · cases h
    refine ⟨by kernel_rfl, fn_hexd 0 _ _ fun _ => ?_⟩
    unfold Fhexd hexdS
    simp [Bool.and_comm]
  · cases h

def putS (p : List UInt8) (line : Int) (b : List UInt8) : Int × List UInt8 :=
  if line + p.length > 75 then (p.length, (b ++ [61, 13, 10]) ++ p) else (line + p.length, b ++ p)
abbrev putok (p : List UInt8) (line : Int) (b : List UInt8) : Prop := 0 ≤ line ∧ line ≤ 1000000 ∧ p.length ≤ 1000000 ∧ b.length ≤ 1000000000

theorem Fput_eq (p : List UInt8) (line : Int) (b : List UInt8) (h : putok p line b) : Fput 0 p line b = some (putS p line b) := by
  obtain ⟨h1, h2, h3, h4⟩ := h
  unfold Fput putS Bput_1
  rw [if_pos (i64ok_small (by omega) (by omega))]
  by_cases hc : line + p.length > 75
  · rw [if_pos (by simpa using hc), if_pos hc, if_pos (by simp; omega), if_pos (by simp; omega), if_pos (i64ok_small (by omega) (by omega))]
    simp
  · rw [if_neg (by simpa using hc), if_neg hc, if_pos (by omega), if_pos (i64ok_small (by omega) (by omega))]

def sp_put : RSpec := ⟨[true, false, false], fun args ib => match args, ib with
  | [.p (.bytes p), .ref 70000 0, .ref 70001 0], [(70000, .cells [.p (.int .i64 line)]), (70001, .cells [.arr 70002]), (70002, .barr 5 false b)] =>
    some (([70000, 70001], .tup []), ([(70000, .cells [.p (.int .i64 (putS p line b).1)]), (70001, .cells [.arr 70002]), (70002, .barr 5 false (putS p line b).2)], some (putok p line b)))
  | _, _ => none⟩
theorem ok_put : SpecROk Try.prog 14 sp_put := by
  intro args ib kept r outs ok h hok
  unfold sp_put at h
  dsimp only at h
  split at h
  · cases h
    exact ⟨by kernel_rfl, fn_put 0 _ _ _ _ fun _ => Fput_eq _ _ _ hok⟩
  · cases h
end Go.Proofs.Ytnojfkkdihchiaa
