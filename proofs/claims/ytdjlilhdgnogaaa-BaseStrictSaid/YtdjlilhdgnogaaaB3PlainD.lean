/-
  Lifted functions, and facts about them.
-/
import Derived.Test.YtdjlilhdgnogaaaB3RLoose
import Derived.Test.YtdjlilhdgnogaaaB3PlainB
set_option linter.unusedVariables false
/-! What the document's Loose computes. -/
namespace Go.Proofs.Ytdjlilhdgnogaaa
open Go Go.Am

theorem BrLoose_tail (fuel bits n : Nat) (b : List UInt8) (hb : bits < 16777216) (hl : b.length ≤ 10000000) :
    (if ((n : Int) == (2 : Int)) = true then (if (0 ≤ (4 : Int)) ∧ ((b.length + [UInt8.ofNat (IntKind.u8.wrap ((bits : Int).fdiv (2 ^ (min ((4 : Int)).toNat 64)))).toNat].length) * 1 ≤ 140737488355328) then (BrLoose_3 fuel (bits : Int) (n : Int) (b ++ [UInt8.ofNat (IntKind.u8.wrap ((bits : Int).fdiv (2 ^ (min ((4 : Int)).toNat 64)))).toNat])) else none) else (BrLoose_3 fuel (bits : Int) (n : Int) b)) = some (b ++ tailB bits n) := by
  have e4 : (min ((4 : Int)).toNat 64) = 4 := rfl
  have e10 : (min ((10 : Int)).toNat 64) = 10 := rfl
  have e2 : (min ((2 : Int)).toNat 64) = 2 := rfl
  unfold BrLoose_3 BrLoose_4 tailB
  rw [e4, e10, e2, fdiv_nat, fdiv_nat, fdiv_nat, u8_of, u8_of, u8_of]
  by_cases h2 : n = 2
  · rw [if_pos (by simp; omega), if_pos ⟨by omega, by simp; omega⟩, if_neg (by simp; omega), if_pos h2]
  · rw [if_neg (by simp; omega), if_neg h2]
    by_cases h3 : n = 3
    · rw [if_pos (by simp; omega), if_pos ⟨by omega, by omega, by simp; omega⟩, if_pos h3]
    · rw [if_neg (by simp; omega), if_neg h3]; simp

theorem indexS_val (c : UInt8) : indexS LB_7543b37f [c] (0 : Int) = valI c := by
  rw [indexS_one]; unfold valI ixS
  congr 1
  apply UInt8.toNat_inj.1
  simp

theorem BrLoose_eq (fuel : Nat) (s : List UInt8) (hs : s.length ≤ 1000000) : ∀ (f i bits n : Nat) (b : List UInt8), s.length < f + i → i ≤ s.length → n ≤ 3 → bits < 64 ^ n → b.length ≤ 3 * i →
    BrLoose_1 fuel f s LB_7543b37f (bits : Int) (n : Int) (i : Int) b = some (b ++ looseG bits n (s.drop i)) := by
  intro f
  induction f with
  | zero => intro i bits n b h1 h2; omega
  | succ f ih =>
    intro i bits n b h1 h2 hn hbits h3
    have hp : 64 ^ n ≤ 64 ^ 3 := Nat.pow_le_pow_right (by decide) hn
    have hlt : bits < 262144 := Nat.lt_of_lt_of_le hbits hp
    rw [BrLoose_1, if_pos (by simp)]
    cases hd : s.drop i with
    | nil =>
      have : s.length ≤ i := by have := congrArg List.length hd; simp at this; omega
      rw [if_neg (by simp; omega), BrLoose_tail fuel bits n b (by omega) (by omega), looseG]
    | cons c r =>
      obtain ⟨e1, e2, e3⟩ := drop_cons hd
      have next : ∀ (bits' n' : Nat) (b' : List UInt8), n' ≤ 3 → bits' < 64 ^ n' → b'.length ≤ 3 * (i + 1) → BrLoose_2 fuel (BrLoose_1 fuel f) s LB_7543b37f (bits' : Int) (n' : Int) (i : Int) b' = some (b' ++ looseG bits' n' r) := by
        intro bits' n' b' hn' hb' hl'
        unfold BrLoose_2
        rw [if_pos (ok64 (by omega) (by omega))]
        have := ih (i + 1) bits' n' b' (by omega) (by omega) hn' hb' hl'
        rw [e2] at this
        rw [← this]; congr 1
      have hsl : (s.take ((i : Int) + 1).toNat).drop (i : Int).toNat = [c] := by
        have h1 : i + 1 - i = 1 := by omega
        have et : ((i : Int) + 1).toNat = i + 1 := by omega
        rw [et, Int.toNat_natCast, List.drop_take, hd, h1]; rfl
      have e1' : s.getD (i : Int).toNat 0 = c := e1
      rw [e1', looseG]
      by_cases hc : c = 61
      · subst hc
        rw [if_neg (by simp), if_pos rfl, BrLoose_tail fuel bits n b (by omega) (by omega)]
      · have hne : ¬ ((c.toNat : Int) = 61) := fun e => hc (u8_eq (d := 61) |>.1 e)
        rw [if_pos (by simp [hne]; omega), if_neg hc, hsl, indexS_val, if_pos ⟨ok64 (by omega) (by omega), ⟨by omega, by omega, by omega⟩, by omega, by omega, by rw [alpha_len]; simp⟩]
        have hv := valI_range c
        by_cases hv0 : valI c < 0
        · rw [if_pos (by simpa using hv0), if_pos hv0]
          exact next bits n b hn hbits (by omega)
        · rw [if_neg (by simpa using hv0), if_neg hv0]
          obtain ⟨v, hv2⟩ := Int.eq_ofNat_of_zero_le (show 0 ≤ valI c by omega)
          have e6 : (2 : Int) ^ (min ((6 : Int)).toNat 64) = 64 := rfl
          have x1 : ibits .or .i64 (IntKind.i64.wrap ((bits : Int) * 2 ^ (min ((6 : Int)).toNat 64))) (valI c) = ((bits * 64 + (valI c).toNat : Nat) : Int) := by
            rw [hv2, e6, i64_small (by omega) (by omega), show (bits : Int) * 64 = ((bits * 64 : Nat) : Int) by simp, i64_or (by omega) (by omega)]
            have := or_add bits v 6 (by omega)
            rw [show bits * 64 = bits * 2 ^ 6 by rfl, this]; simp
          have hx : bits * 64 + (valI c).toNat < 16777216 := by omega
          have e16 : (min ((16 : Int)).toNat 64) = 16 := rfl
          have e8 : (min ((8 : Int)).toNat 64) = 8 := rfl
          rw [if_pos (by omega), if_pos (ok64 (by omega) (by omega)), x1, e16, e8, fdiv_nat, fdiv_nat, u8_of, u8_of, u8_of]
          by_cases h4 : n + 1 = 4
          · rw [if_pos (by simp; omega), if_pos ⟨by omega, by omega, by simp; omega⟩, if_pos h4]
            refine (next 0 0 _ (by omega) (by decide) (by simp; omega)).trans ?_
            simp
          · rw [if_neg (by simp; omega), if_neg h4]
            refine next (bits * 64 + (valI c).toNat) (n + 1) b (by omega) ?_ (by omega)
            rw [Nat.pow_succ]; omega
theorem rLoose_eq (s : List UInt8) (hs : s.length ≤ 1000000) : FrLoose 1000001 s = some (looseB s) := by
  have := BrLoose_eq 1000001 s hs 1000001 0 0 0 [] (by omega) (by omega) (by omega) (by decide) (by simp)
  simpa [FrLoose, looseB] using this
def sp_rLoose : List AV → Option (AV × Option Prop) := spStr looseB
theorem ok_rLoose : SpecOk Try.prog 15 sp_rLoose := spStr_ok (by kernel_rfl) fun s hs => fn_rLoose 1000001 s _ fun _ => rLoose_eq s hs
end Go.Proofs.Ytdjlilhdgnogaaa
