/-
  Lifted functions, and facts about them.
-/
import Derived.Test.YtdjlilhdgnogaaaB3Leaf
import Derived.Test.YtdjlilhdgnogaaaAmB
import Derived.Lib.Bytealg
set_option linter.unusedVariables false
/-! Base64: what the small functions answer. -/
namespace Go.Proofs.Ytdjlilhdgnogaaa
open Go Go.Am

abbrev alphaS : List UInt8 := LB_7543b37f
def letter (k : Nat) : UInt8 := alphaS.getD k 0
def letS (bits : Int) (n : Nat) : List UInt8 := (List.range' 0 n).map fun i => letter (bits.toNat / 2 ^ (18 - 6 * i) % 64)
abbrev letok (bits n : Int) : Prop := 0 ≤ bits ∧ bits < 16777216 ∧ 0 ≤ n ∧ n ≤ 4
theorem ok64 {n : Int} (h0 : -1000000000000 ≤ n) (h1 : n ≤ 1000000000000) : i64ok n := by unfold i64ok; omega

theorem alpha_len : LB_7543b37f.length = 64 := by decide
theorem shr_and (x m : Nat) (hx : x < 9223372036854775808) : ibits .and .i64 ((x : Int).fdiv (2 ^ m)) (63 : Int) = ((x / 2 ^ m % 64 : Nat) : Int) := by
  have e : (x : Int).fdiv (2 ^ m) = ((x / 2 ^ m : Nat) : Int) := by
    rw [Int.fdiv_eq_ediv_of_nonneg _ (Int.pow_nonneg (by decide))]
    rw [Int.natCast_ediv, Int.natCast_pow]; rfl
  have hle : x / 2 ^ m ≤ x := Nat.div_le_self _ _
  rw [e]
  have := i64_and (a := x / 2 ^ m) (b := 63) (by omega) (by decide)
  rw [show ((63 : Int)) = ((63 : Nat) : Int) from rfl, this, show (63 : Nat) = 2 ^ 6 - 1 from rfl, and_mod]

theorem letter_fold (k : Nat) : LB_7543b37f.getD k 0 = letter k := rfl
theorem Bletters_eq (fuel : Nat) (x n : Nat) (hx : x < 16777216) (hn : n ≤ 4) : ∀ (k f i : Nat) (b : List UInt8), k < f → i + k = n → b.length ≤ i →
    Bletters_1 fuel f (x : Int) (n : Int) (i : Int) b = some (b ++ (List.range' i k).map fun i => letter (x / 2 ^ (18 - 6 * i) % 64)) := by
  intro k
  induction k with
  | zero =>
    intro f i b hf hi hb
    cases f with
    | zero => omega
    | succ f => rw [Bletters_1, if_neg (by simp; omega)]; simp
  | succ k ih =>
    intro f i b hf hi hb
    cases f with
    | zero => omega
    | succ f =>
      have hm : (min ((18 : Int) - (6 : Int) * (i : Int)).toNat 64) = 18 - 6 * i := by omega
      have hlt : x / 2 ^ (18 - 6 * i) % 64 < 64 := Nat.mod_lt _ (by decide)
      rw [Bletters_1, if_pos (by simp; omega)]
      rw [hm, shr_and x _ (by omega)]
      simp only [Int.toNat_natCast, UInt8.ofNat_toNat, letter_fold, alpha_len]
      have := ih f (i + 1) (b ++ [letter (x / 2 ^ (18 - 6 * i) % 64)]) (by omega) (by omega) (by simp; omega)
      rw [if_pos ⟨ok64 (by omega) (by omega), ok64 (by omega) (by omega), by omega, ⟨Int.natCast_nonneg _, Int.ofNat_lt.2 hlt⟩, by simp only [List.length_cons, List.length_nil]; omega⟩, if_pos (ok64 (by omega) (by omega))]
      refine Eq.trans ?_ (this.trans ?_)
      · congr 1
      · rw [List.range'_succ]; simp
theorem Fletters_eq (bits n : Int) (h : letok bits n) : Fletters 5 bits n = some (letS bits n.toNat) := by
  obtain ⟨h1, h2, h3, h4⟩ := h
  obtain ⟨x, rfl⟩ := Int.eq_ofNat_of_zero_le h1
  obtain ⟨m, rfl⟩ := Int.eq_ofNat_of_zero_le h3
  unfold Fletters letS
  exact Bletters_eq 5 x m (by omega) (by omega) m 5 0 [] (by omega) (by omega) (by simp)

def sp_letters : List AV → Option (AV × Option Prop)
  | [.p (.int .i64 bits), .p (.int .i64 n)] => some (.p (.bytes (letS bits n.toNat)), some (letok bits n))
  | _ => none
theorem ok_letters : SpecOk Try.prog 16 sp_letters := by
  intro zs r ok h hok
  unfold sp_letters at h
  split at h
  · cases h; exact ⟨by kernel_rfl, fn_letters 5 _ _ _ fun _ => Fletters_eq _ _ hok⟩
  · cases h
def sp_alpha : List AV → Option (AV × Option Prop)
  | [] => some (.p (.str alphaS), none)
  | _ => none
theorem ok_alpha : SpecOk Try.prog 19 sp_alpha := by
  intro zs r ok h hok
  unfold sp_alpha at h
  split at h
  · cases h; exact ⟨by kernel_rfl, fn_alpha 0 _ fun _ => rfl⟩
  · cases h
def sp_Num : List AV → Option (AV × Option Prop)
  | [.p (.int .i64 e)] => some (.p (.int .i64 e), none)
  | _ => none
theorem ok_Num : SpecOk Try.prog 13 sp_Num := by
  intro zs r ok h hok
  unfold sp_Num at h
  split at h
  · cases h; exact ⟨by kernel_rfl, fn_Num 0 _ _ fun _ => rfl⟩
  · cases h

def ixS (s : List UInt8) (c : Int) : Int := Lib.indexByte s c.toNat.toUInt8
def sp_ext22 : List AV → Option (AV × Option Prop)
  | [.p (.str s), .p (.int .u8 c)] => some (.p (.int .i64 (ixS s c)), none)
  | _ => none
theorem indexByte_lt (l : List UInt8) (c : UInt8) : Lib.indexByte l c < l.length ∨ Lib.indexByte l c = -1 := by
  induction l with
  | nil => right; rfl
  | cons b l ih =>
    unfold Lib.indexByte
    split
    · left; simp
    · split
      · right; rfl
      · left; rename_i h1 h2; simp at h2; simp; omega
theorem ok_ext22 : SpecExt Try.prog 22 sp_ext22 := by
  intro zs r ok h hok M w vs hM hvs
  unfold sp_ext22 at h
  split at h
  · rename_i s c
    cases h
    cases hvs with
    | cons h1 h2 => cases h2 with
      | cons h2 h3 =>
        cases h3
        cases h1 with | p _ _ h1 =>
        cases h2 with | p _ _ h2 =>
        cases h1 with | str _ hs =>
        cases h2 with | int _ _ hc =>
        refine ⟨.int .i64 (ixS s c), ?_, .p _ _ (.int _ _ ?_)⟩
        · rw [run_callFunc_extern (fn := Try.f22) (e := Extern.BytealgIndexByte.indexByte) (by kernel_rfl) (by kernel_rfl) (by kernel_rfl) (by kernel_rfl) (by kernel_rfl)]
          rw [Lib.run_indexByteString]; rfl
        · have h1 := Lib.indexByte_ge s c.toNat.toUInt8
          have h2 := indexByte_lt s c.toNat.toUInt8
          exact has_i64 (by unfold maxLen at hs; unfold i64ok ixS; omega)
  · cases h
end Go.Proofs.Ytdjlilhdgnogaaa
