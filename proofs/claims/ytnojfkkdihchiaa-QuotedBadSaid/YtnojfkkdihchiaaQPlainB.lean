/-
  A lifted function, or a fact about one.
-/
import Derived.Test.YtnojfkkdihchiaaQPlainA
/-! What Encode and Quoted compute. -/
namespace Go.Proofs.Ytnojfkkdihchiaa
open Go Go.Am

def hexD (n : Nat) : UInt8 := ([48, 49, 50, 51, 52, 53, 54, 55, 56, 57, 65, 66, 67, 68, 69, 70] : List UInt8).getD n 0
abbrev plainC (c : UInt8) (last : Bool) : Prop := (33 ≤ c.toNat ∧ c.toNat ≤ 126 ∧ c.toNat ≠ 61) ∨ (c.toNat = 32 ∧ last = false)
def pieceS (c : UInt8) (last : Bool) : List UInt8 := if plainC c last then [c] else [61, hexD (c.toNat / 16), hexD (c.toNat % 16)]

def encL : Nat → List UInt8 → List UInt8
  | _, [] => []
  | line, c :: r => if line + (pieceS c r.isEmpty).length > 75 then [61, 13, 10] ++ pieceS c r.isEmpty ++ encL (pieceS c r.isEmpty).length r
    else pieceS c r.isEmpty ++ encL (line + (pieceS c r.isEmpty).length) r

theorem pieceS_len (c : UInt8) (l : Bool) : 1 ≤ (pieceS c l).length ∧ (pieceS c l).length ≤ 3 := by unfold pieceS; split <;> simp

theorem nib_hi (c : UInt8) : ((c.toNat : Int).fdiv (2 ^ (min ((4 : Int)).toNat 8))) = ((c.toNat / 16 : Nat) : Int) := by
  have e : (2 : Int) ^ (min ((4 : Int)).toNat 8) = 16 := rfl
  rw [e, Int.fdiv_eq_ediv_of_nonneg _ (by omega)]; rfl
theorem nib_lo (c : UInt8) : ibits .and .u8 (c.toNat : Int) (15 : Int) = ((c.toNat % 16 : Nat) : Int) := by
  have h := c.toNat_lt
  have : ∀ x : Fin 256, ibits .and .u8 ((x.val : Nat) : Int) (15 : Int) = ((x.val % 16 : Nat) : Int) := by decide +kernel
  exact this ⟨c.toNat, h⟩
theorem tdiv16 (c : UInt8) : IntKind.u8.wrap ((c.toNat : Int).tdiv (16 : Int)) = ((c.toNat / 16 : Nat) : Int) := by
  have h := c.toNat_lt
  have : (c.toNat : Int).tdiv (16 : Int) = ((c.toNat / 16 : Nat) : Int) := by rw [Int.tdiv_eq_ediv_of_nonneg (by omega)]; rfl
  rw [this]
  exact u8_small (by omega) (by omega)
theorem tmod16 (c : UInt8) : (c.toNat : Int).tmod (16 : Int) = ((c.toNat % 16 : Nat) : Int) := by
  rw [Int.tmod_eq_emod_of_nonneg (by omega)]; rfl

theorem hexD_fold (n : Nat) : ([48, 49, 50, 51, 52, 53, 54, 55, 56, 57, 65, 66, 67, 68, 69, 70] : List UInt8).getD n 0 = hexD n := rfl
theorem u61 : UInt8.ofNat ((61 : Int)).toNat = 61 := rfl

theorem BEncode_eq (fuel : Nat) (s : List UInt8) (hs : s.length ≤ 1000000) : ∀ (f i line : Nat) (b : List UInt8), s.length < f + i → i ≤ s.length → line ≤ 75 → b.length ≤ 6 * i →
    BEncode_1 fuel f s (s.length : Int) (i : Int) b (line : Int) = some (b ++ encL line (s.drop i)) := by
  intro f
  induction f with
  | zero => intro i line b h1 h2; omega
  | succ f ih =>
    intro i line b h1 h2 hl h3
    cases hd : s.drop i with
    | nil =>
      have : s.length ≤ i := by have := congrArg List.length hd; simp at this; omega
      rw [BEncode_1, if_neg (by simp; omega), encL]
      simp
    | cons c r =>
      obtain ⟨e1, e2, e3⟩ := drop_cons hd
      have ok : ∀ n : Int, 0 ≤ n → n ≤ 10000000 → i64ok n := fun n h h' => i64ok_small (by omega) (by omega)
      have hc := c.toNat_lt
      have hp := pieceS_len c r.isEmpty
      -- a piece is put
      have step : putok (pieceS c r.isEmpty) (line : Int) b ∧ BEncode_2 fuel (BEncode_1 fuel f) s (s.length : Int) (i : Int) (putS (pieceS c r.isEmpty) (line : Int) b).2 (putS (pieceS c r.isEmpty) (line : Int) b).1 = some (b ++ encL line (c :: r)) := by
        refine ⟨⟨by omega, by omega, by omega, by omega⟩, ?_⟩
        unfold BEncode_2
        rw [if_pos (ok _ (by omega) (by omega)), encL]
        unfold putS
        by_cases hgt : line + (pieceS c r.isEmpty).length > 75
        · rw [if_pos hgt, if_pos (by omega)]
          have := ih (i + 1) (pieceS c r.isEmpty).length ((b ++ [61, 13, 10]) ++ pieceS c r.isEmpty) (by omega) (by omega) (by omega) (by simp; omega)
          refine Eq.trans ?_ (this.trans ?_)
          · congr 1
          · rw [e2]; simp
        · rw [if_neg hgt, if_neg (by omega)]
          have := ih (i + 1) (line + (pieceS c r.isEmpty).length) (b ++ pieceS c r.isEmpty) (by omega) (by omega) (by omega) (by simp; omega)
          refine Eq.trans ?_ (this.trans ?_)
          · congr 1
          · rw [e2]; simp
      rw [BEncode_1, if_pos (by simp; omega)]
      simp only [Int.toNat_natCast, e1, nib_hi, nib_lo, UInt8.ofNat_toNat, hexD_fold, u61]
      rw [if_pos (by omega), if_pos (fun _ => ok _ (by omega) (by omega))]
      by_cases hpl : plainC c r.isEmpty
      · have e : pieceS c r.isEmpty = [c] := by unfold pieceS; rw [if_pos hpl]
        rw [e] at step
        rw [if_pos ?_, if_pos step.1]
        · exact step.2
        · rcases hpl with h | h
          · simp; left; omega
          · have : r ≠ [] := by intro e; rw [e] at h; simp at h
            have : 0 < r.length := List.length_pos_iff.2 this
            simp; right; omega
      · have e : pieceS c r.isEmpty = [61, hexD (c.toNat / 16), hexD (c.toNat % 16)] := by unfold pieceS; rw [if_neg hpl]
        rw [e] at step
        rw [if_neg ?_]
        · rw [if_pos ⟨by omega, by simp; omega, by simp; omega, step.1⟩]
          exact step.2
        · intro h
          refine hpl ?_
          simp at h
          rcases h with h | h
          · left; omega
          · right
            refine ⟨by omega, ?_⟩
            cases r with
            | nil => simp at e3; omega
            | cons _ _ => rfl

theorem Encode_eq (s : List UInt8) (hs : s.length ≤ 1000000) : FEncode 1000001 s = some (encL 0 s) := by
  have := BEncode_eq 1000001 s hs 1000001 0 0 [] (by omega) (by omega) (by omega) (by simp)
  simpa [FEncode] using this

theorem BQuoted_eq (fuel : Nat) (s : List UInt8) (hs : s.length ≤ 1000000) : ∀ (f i line : Nat) (b : List UInt8), s.length < f + i → i ≤ s.length → line ≤ 75 → b.length ≤ 6 * i →
    BQuoted_1 fuel f s (line : Int) (i : Int) b = some (b ++ encL line (s.drop i)) := by
  intro f
  induction f with
  | zero => intro i line b h1 h2; omega
  | succ f ih =>
    intro i line b h1 h2 hl h3
    cases hd : s.drop i with
    | nil =>
      have : s.length ≤ i := by have := congrArg List.length hd; simp at this; omega
      rw [BQuoted_1, if_neg (by simp; omega), encL]
      simp
    | cons c r =>
      obtain ⟨e1, e2, e3⟩ := drop_cons hd
      have ok : ∀ n : Int, 0 ≤ n → n ≤ 10000000 → i64ok n := fun n h h' => i64ok_small (by omega) (by omega)
      have hc := c.toNat_lt
      have hp := pieceS_len c r.isEmpty
      have step : BQuoted_2 fuel (BQuoted_1 fuel f) s (line : Int) (i : Int) b (pieceS c r.isEmpty) = some (b ++ encL line (c :: r)) := by
        unfold BQuoted_2 BQuoted_3
        rw [if_pos (ok _ (by omega) (by omega)), encL]
        by_cases hgt : line + (pieceS c r.isEmpty).length > 75
        · rw [if_pos hgt, if_pos (by simp; omega), if_pos (by simp; omega), if_pos (by simp; omega), if_pos (ok _ (by omega) (by omega)), if_pos (ok _ (by omega) (by omega))]
          have := ih (i + 1) (pieceS c r.isEmpty).length ((b ++ [61, 13, 10]) ++ pieceS c r.isEmpty) (by omega) (by omega) (by omega) (by simp; omega)
          refine Eq.trans ?_ (this.trans ?_)
          · congr 1; omega
          · rw [e2]; simp
        · rw [if_neg hgt, if_neg (by simp; omega), if_pos (by omega), if_pos (ok _ (by omega) (by omega)), if_pos (ok _ (by omega) (by omega))]
          have := ih (i + 1) (line + (pieceS c r.isEmpty).length) (b ++ pieceS c r.isEmpty) (by omega) (by omega) (by omega) (by simp; omega)
          refine Eq.trans ?_ (this.trans ?_)
          · congr 1
          · rw [e2]; simp
      rw [BQuoted_1, if_pos (by simp; omega)]
      simp only [Int.toNat_natCast, e1, tdiv16, tmod16, UInt8.ofNat_toNat, hexD_fold, u61]
      rw [if_pos (by omega), if_pos (fun _ => ok _ (by omega) (by omega))]
      by_cases hpl : plainC c r.isEmpty
      · have e : pieceS c r.isEmpty = [c] := by unfold pieceS; rw [if_pos hpl]
        rw [e] at step
        rw [if_neg ?_]
        · exact step
        · intro h
          simp at h
          rcases hpl with h' | h'
          · omega
          · have : r ≠ [] := by intro e; rw [e] at h'; simp at h'
            have : 0 < r.length := List.length_pos_iff.2 this
            omega
      · have e : pieceS c r.isEmpty = [61, hexD (c.toNat / 16), hexD (c.toNat % 16)] := by unfold pieceS; rw [if_neg hpl]
        rw [e] at step
        rw [if_pos ?_]
        · rw [if_pos ⟨by omega, by simp; omega, by omega, by simp; omega⟩]
          exact step
        · have hl32 : c.toNat = 32 → r = [] := by
            intro h
            cases r with
            | nil => rfl
            | cons _ _ => exact absurd (.inr ⟨h, rfl⟩) hpl
          have : ¬ (33 ≤ c.toNat ∧ c.toNat ≤ 126 ∧ c.toNat ≠ 61) := fun h => hpl (.inl h)
          simp
          refine ⟨by omega, ?_⟩
          by_cases h32 : c.toNat = 32
          · right; rw [hl32 h32] at e3; simp at e3; omega
          · left; omega

theorem Quoted_eq (s : List UInt8) (hs : s.length ≤ 1000000) : FQuoted 1000001 s = some (encL 0 s) := by
  have := BQuoted_eq 1000001 s hs 1000001 0 0 [] (by omega) (by omega) (by omega) (by simp)
  simpa [FQuoted] using this
end Go.Proofs.Ytnojfkkdihchiaa
