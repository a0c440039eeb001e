/-
  Lifted functions, and facts about them.
-/
import Derived.Test.YthfgklcdkehgjaaDoorRows
import Derived.Test.YthfgklcdkehgjaaDoorAmC
namespace Go.Proofs.YthfgklcdkehgjaaDoor
open Go Go.Am
set_option linter.unusedVariables false
theorem ok64 {n : Int} (h0 : -1000000000000 ≤ n) (h1 : n ≤ 1000000000000) : i64ok n := by unfold i64ok; omega

theorem drop_cons {s : List UInt8} {i : Nat} {c : UInt8} {r : List UInt8} (h : s.drop i = c :: r) : s.getD i 0 = c ∧ s.drop (i + 1) = r ∧ s.length = i + 1 + r.length := by
  have h1 : s[i]? = some c := by
    have : (s.drop i)[0]? = some c := by rw [h]; rfl
    simpa using this
  refine ⟨by rw [List.getD_eq_getElem?_getD, h1]; rfl, ?_, ?_⟩
  · have : (s.drop i).drop 1 = r := by rw [h]; rfl
    simpa [List.drop_drop] using this
  · have := congrArg List.length h
    simp at this
    have : i < s.length := by
      rcases Nat.lt_or_ge i s.length with h' | h'
      · exact h'
      · rw [List.drop_of_length_le h'] at h; cases h
    omega
theorem u8_eq {c d : UInt8} : ((c.toNat : Int) = (d.toNat : Int)) ↔ c = d := by
  constructor
  · intro h; exact UInt8.toNat_inj.1 (by omega)
  · rintro rfl; rfl
theorem u8_of (x : Nat) : UInt8.ofNat (IntKind.u8.wrap (x : Int)).toNat = UInt8.ofNat x := by
  rw [u8_wrap]
  have : ((x : Int) % 256).toNat = x % 256 := by omega
  rw [this]
  apply UInt8.toNat_inj.1
  rw [UInt8.toNat_ofNat', UInt8.toNat_ofNat']
  omega
theorem fdiv_nat (x k : Nat) : (x : Int).fdiv (2 ^ k) = ((x / 2 ^ k : Nat) : Int) := by
  rw [Int.fdiv_eq_ediv_of_nonneg _ (Int.pow_nonneg (by decide)), Int.natCast_ediv, Int.natCast_pow]; rfl



def spStr (g : List UInt8 → List UInt8) : List AV → Option (AV × Option Prop)
  | [.p (.str s)] => some (.p (.str (g s)), some (s.length ≤ 1000000))
  | _ => none
theorem spStr_ok {f : FuncId} {g : List UInt8 → List UInt8} (hc : callable Tryd.prog f = true) (h : ∀ s, s.length ≤ 1000000 → FnP Tryd.prog f [.p (.str s)] (.p (.str (g s)))) : SpecOk Tryd.prog f (spStr g) := by
  intro zs r ok he hok
  unfold spStr at he
  split at he
  · cases he; exact ⟨hc, h _ hok⟩
  · cases he
end Go.Proofs.YthfgklcdkehgjaaDoor
