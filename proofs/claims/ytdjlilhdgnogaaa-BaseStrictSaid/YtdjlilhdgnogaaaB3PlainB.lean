/-
  Lifted functions, and facts about them.
-/
import Derived.Test.YtdjlilhdgnogaaaB3Loose
set_option linter.unusedVariables false
/-! What base64.Loose computes. -/
namespace Go.Proofs.Ytdjlilhdgnogaaa
open Go Go.Am

theorem drop_cons {s : List UInt8} {i : Nat} {c : UInt8} {r : List UInt8} (h : s.drop i = c :: r) : s.getD i 0 = c ∧ s.drop (i + 1) = r ∧ s.length = i + 1 + r.length := by
  have h1 : s[i]? = some c := by
    have : (s.drop i)[0]? = some c := by rw [h]; rfl
    simpa using this
  refine ⟨by rw [List.getD_eq_getElem?_getD, h1]; rfl, ?_, ?_⟩
  · have : (s.drop i).drop 1 = r := by rw [h]; rfl
    simpa [List.drop_drop] using this
  · have := congrArg List.length h
    simp at this
    have : i < s.length := by
      rcases Nat.lt_or_ge i s.length with h' | h'
      · exact h'
      · rw [List.drop_of_length_le h'] at h; cases h
    omega
theorem u8_eq {c d : UInt8} : ((c.toNat : Int) = (d.toNat : Int)) ↔ c = d := by
  constructor
  · intro h; exact UInt8.toNat_inj.1 (by omega)
  · rintro rfl; rfl
theorem u8_of (x : Nat) : UInt8.ofNat (IntKind.u8.wrap (x : Int)).toNat = UInt8.ofNat x := by
  rw [u8_wrap]
  have : ((x : Int) % 256).toNat = x % 256 := by omega
  rw [this]
  apply UInt8.toNat_inj.1
  rw [UInt8.toNat_ofNat', UInt8.toNat_ofNat']
  omega
theorem fdiv_nat (x k : Nat) : (x : Int).fdiv (2 ^ k) = ((x / 2 ^ k : Nat) : Int) := by
  rw [Int.fdiv_eq_ediv_of_nonneg _ (Int.pow_nonneg (by decide)), Int.natCast_ediv, Int.natCast_pow]; rfl

def valI (c : UInt8) : Int := ixS LB_7543b37f (c.toNat : Int)
theorem valI_range (c : UInt8) : -1 ≤ valI c ∧ valI c < 64 := by
  unfold valI ixS
  have h1 := Lib.indexByte_ge LB_7543b37f ((c.toNat : Int)).toNat.toUInt8
  have h2 := indexByte_lt LB_7543b37f ((c.toNat : Int)).toNat.toUInt8
  rw [alpha_len] at h2
  omega

def tailB (bits n : Nat) : List UInt8 := if n = 2 then [UInt8.ofNat (bits / 16)] else if n = 3 then [UInt8.ofNat (bits / 1024), UInt8.ofNat (bits / 4)] else []
def looseG : Nat → Nat → List UInt8 → List UInt8
  | bits, n, [] => tailB bits n
  | bits, n, c :: r => if c = 61 then tailB bits n else if valI c < 0 then looseG bits n r else
    if n + 1 = 4 then [UInt8.ofNat ((bits * 64 + (valI c).toNat) / 65536), UInt8.ofNat ((bits * 64 + (valI c).toNat) / 256), UInt8.ofNat (bits * 64 + (valI c).toNat)] ++ looseG 0 0 r
    else looseG (bits * 64 + (valI c).toNat) (n + 1) r
def looseB (s : List UInt8) : List UInt8 := looseG 0 0 s

theorem BLoose_tail (fuel bits n : Nat) (b : List UInt8) (hb : bits < 16777216) (hl : b.length ≤ 10000000) : BLoose_1 fuel (bits : Int) (n : Int) b = some (b ++ tailB bits n) := by
  have e4 : (min ((4 : Int)).toNat 64) = 4 := rfl
  have e10 : (min ((10 : Int)).toNat 64) = 10 := rfl
  have e2 : (min ((2 : Int)).toNat 64) = 2 := rfl
  unfold BLoose_1 BLoose_2 tailB
  rw [e4, e10, e2, fdiv_nat, fdiv_nat, fdiv_nat, u8_of, u8_of, u8_of]
  by_cases h2 : n = 2
  · rw [if_pos (by simp; omega), if_pos ⟨by omega, by simp; omega⟩, if_pos h2]
  · rw [if_neg (by simp; omega), if_neg h2]
    by_cases h3 : n = 3
    · rw [if_pos (by simp; omega), if_pos ⟨by omega, by omega, by simp; omega⟩, if_pos h3]
    · rw [if_neg (by simp; omega), if_neg h3]; simp

theorem BLoose_eq (fuel : Nat) (s : List UInt8) (hs : s.length ≤ 1000000) : ∀ (f i bits n : Nat) (b : List UInt8), s.length < f + i → i ≤ s.length → n ≤ 3 → bits < 64 ^ n → b.length ≤ 3 * i →
    BLoose_3 fuel f s (bits : Int) (n : Int) (s.length : Int) (i : Int) b = some (b ++ looseG bits n (s.drop i)) := by
  intro f
  induction f with
  | zero => intro i bits n b h1 h2; omega
  | succ f ih =>
    intro i bits n b h1 h2 hn hbits h3
    have hp : 64 ^ n ≤ 64 ^ 3 := Nat.pow_le_pow_right (by decide) hn
    have hlt : bits < 262144 := Nat.lt_of_lt_of_le hbits hp
    cases hd : s.drop i with
    | nil =>
      have : s.length ≤ i := by have := congrArg List.length hd; simp at this; omega
      rw [BLoose_3, if_neg (by simp; omega), BLoose_tail fuel bits n b (by omega) (by omega), looseG]
    | cons c r =>
      obtain ⟨e1, e2, e3⟩ := drop_cons hd
      have next : ∀ (bits' n' : Nat) (b' : List UInt8), n' ≤ 3 → bits' < 64 ^ n' → b'.length ≤ 3 * (i + 1) → BLoose_4 fuel (BLoose_3 fuel f) s (bits' : Int) (n' : Int) (s.length : Int) (i : Int) b' = some (b' ++ looseG bits' n' r) := by
        intro bits' n' b' hn' hb' hl'
        unfold BLoose_4
        rw [if_pos (ok64 (by omega) (by omega))]
        have := ih (i + 1) bits' n' b' (by omega) (by omega) hn' hb' hl'
        rw [e2] at this
        rw [← this]; congr 1
      rw [BLoose_3, if_pos (by simp; omega), if_pos (by omega)]
      simp only [Int.toNat_natCast, e1]
      rw [looseG]
      by_cases hc : c = 61
      · subst hc
        rw [if_pos (by simp), if_pos rfl, BLoose_tail fuel bits n b (by omega) (by omega)]
      · rw [if_neg (by simpa using fun e => hc (u8_eq (d := 61) |>.1 e)), if_neg hc, if_pos (by omega)]
        have hv := valI_range c
        change (if decide (valI c < 0) = true then _ else _) = _
        by_cases hv0 : valI c < 0
        · rw [if_pos (by simpa using hv0), if_pos hv0]
          exact next bits n b hn hbits (by omega)
        · rw [if_neg (by simpa using hv0), if_neg hv0]
          obtain ⟨v, hv2⟩ := Int.eq_ofNat_of_zero_le (show 0 ≤ valI c by omega)
          have e6 : (2 : Int) ^ (min ((6 : Int)).toNat 64) = 64 := rfl
          have x1 : ibits .or .i64 (IntKind.i64.wrap ((bits : Int) * 2 ^ (min ((6 : Int)).toNat 64))) (valI c) = ((bits * 64 + (valI c).toNat : Nat) : Int) := by
            rw [hv2, e6, i64_small (by omega) (by omega), show (bits : Int) * 64 = ((bits * 64 : Nat) : Int) by simp, i64_or (by omega) (by omega)]
            have := or_add bits v 6 (by omega)
            rw [show bits * 64 = bits * 2 ^ 6 by rfl, this]; simp
          have hx : bits * 64 + (valI c).toNat < 16777216 := by omega
          rw [if_pos (by omega), if_pos (ok64 (by omega) (by omega))]
          change (if _ then (if _ ∧ _ ∧ (b.length + [UInt8.ofNat (IntKind.u8.wrap ((ibits .or .i64 (IntKind.i64.wrap ((bits : Int) * 2 ^ (min ((6 : Int)).toNat 64))) (valI c)).fdiv (2 ^ (min ((16 : Int)).toNat 64)))).toNat, UInt8.ofNat (IntKind.u8.wrap ((ibits .or .i64 (IntKind.i64.wrap ((bits : Int) * 2 ^ (min ((6 : Int)).toNat 64))) (valI c)).fdiv (2 ^ (min ((8 : Int)).toNat 64)))).toNat, UInt8.ofNat (IntKind.u8.wrap (ibits .or .i64 (IntKind.i64.wrap ((bits : Int) * 2 ^ (min ((6 : Int)).toNat 64))) (valI c))).toNat].length) * 1 ≤ 140737488355328 then BLoose_4 fuel (BLoose_3 fuel f) s (0 : Int) (0 : Int) (s.length : Int) (i : Int) (b ++ [UInt8.ofNat (IntKind.u8.wrap ((ibits .or .i64 (IntKind.i64.wrap ((bits : Int) * 2 ^ (min ((6 : Int)).toNat 64))) (valI c)).fdiv (2 ^ (min ((16 : Int)).toNat 64)))).toNat, UInt8.ofNat (IntKind.u8.wrap ((ibits .or .i64 (IntKind.i64.wrap ((bits : Int) * 2 ^ (min ((6 : Int)).toNat 64))) (valI c)).fdiv (2 ^ (min ((8 : Int)).toNat 64)))).toNat, UInt8.ofNat (IntKind.u8.wrap (ibits .or .i64 (IntKind.i64.wrap ((bits : Int) * 2 ^ (min ((6 : Int)).toNat 64))) (valI c))).toNat]) else none) else BLoose_4 fuel (BLoose_3 fuel f) s (ibits .or .i64 (IntKind.i64.wrap ((bits : Int) * 2 ^ (min ((6 : Int)).toNat 64))) (valI c)) _ (s.length : Int) (i : Int) b) = _
          have e16 : (min ((16 : Int)).toNat 64) = 16 := rfl
          have e8 : (min ((8 : Int)).toNat 64) = 8 := rfl
          rw [x1, e16, e8, fdiv_nat, fdiv_nat, u8_of, u8_of, u8_of]
          by_cases h4 : n + 1 = 4
          · rw [if_pos (by simp; omega), if_pos ⟨by omega, by omega, by simp; omega⟩, if_pos h4]
            refine (next 0 0 _ (by omega) (by decide) (by simp; omega)).trans ?_
            simp
          · rw [if_neg (by simp; omega), if_neg h4]
            refine next (bits * 64 + (valI c).toNat) (n + 1) b (by omega) ?_ (by omega)
            rw [Nat.pow_succ]; omega
theorem Loose_eq (s : List UInt8) (hs : s.length ≤ 1000000) : FLoose 1000001 s = some (looseB s) := by
  have := BLoose_eq 1000001 s hs 1000001 0 0 0 [] (by omega) (by omega) (by omega) (by decide) (by simp)
  simpa [FLoose, looseB] using this
end Go.Proofs.Ytdjlilhdgnogaaa
