/-
  Lifted functions, and facts about them.
-/
import Derived.Test.YtdjlilhdgnogaaaB3Idx
import Derived.Test.YtdjlilhdgnogaaaB3PlainC
import Derived.Test.YtdjlilhdgnogaaaB3Spec5
set_option linter.unusedVariables false
namespace Go.Proofs.Ytdjlilhdgnogaaa
open Go Go.Am
theorem prefix_take {sub s : List UInt8} : (s.take sub.length == sub) = sub.isPrefixOf s := by
  rw [Bool.eq_iff_iff, beq_iff_eq, List.isPrefixOf_iff_prefix, List.prefix_iff_eq_take]
  exact ⟨fun h => h.symm, fun h => h.symm⟩
theorem BIndex_eq (fuel : Nat) (s sub : List UInt8) (hs : s.length + sub.length ≤ 1000000000) : ∀ (f i : Nat), s.length + 1 < f + i → i ≤ s.length + 1 →
    BIndex_1 fuel f s sub (i : Int) = some (if i ≤ s.length then idx sub (s.drop i) i else -1) := by
  intro f
  induction f with
  | zero => intro i h1 h2; omega
  | succ f ih =>
    intro i h1 h2
    rw [BIndex_1, if_pos (ok64 (by omega) (by omega))]
    by_cases h : i + sub.length ≤ s.length
    · rw [if_pos (by simp; omega), if_pos ⟨ok64 (by omega) (by omega), by omega, by omega, by omega⟩]
      have e1 : ((i : Int) + (sub.length : Int)).toNat = i + sub.length := by omega
      rw [e1, Int.toNat_natCast, List.drop_take]
      have e2 : i + sub.length - i = sub.length := by omega
      rw [e2, prefix_take, if_pos (by omega : i ≤ s.length)]
      cases hd : s.drop i with
      | nil =>
        have : s.length ≤ i := by have := congrArg List.length hd; simp at this; omega
        have : sub = [] := List.length_eq_zero_iff.1 (by omega)
        subst this
        rw [idx]; rfl
      | cons c r =>
        have hr : s.drop (i + 1) = r := by
          have : (s.drop i).drop 1 = r := by rw [hd]; rfl
          simpa [List.drop_drop] using this
        have hlen : i < s.length := by have := congrArg List.length hd; simp at this; omega
        rw [idx]
        split
        · rfl
        · rw [if_pos (ok64 (by omega) (by omega))]
          have := ih (i + 1) (by omega) (by omega)
          rw [if_pos (by omega), hr] at this
          exact this
    · rw [if_neg (by simp; omega)]
      have none : ∀ (l : List UInt8) (k : Nat), l.length < sub.length → idx sub l k = -1 := by
        intro l
        induction l with
        | nil =>
          intro k hk
          rw [idx, if_neg]; intro hp
          have := (List.isPrefixOf_iff_prefix.1 hp).length_le
          simp at this; simp [this] at hk
        | cons c r ih2 =>
          intro k hk
          rw [idx, if_neg, ih2 _ (by simp at hk; omega)]
          intro hp
          have := (List.isPrefixOf_iff_prefix.1 hp).length_le
          omega
      by_cases hi : i ≤ s.length
      · rw [if_pos hi, none _ _ (by rw [List.length_drop]; omega)]
      · rw [if_neg hi]
theorem Index_eq (s sub : List UInt8) (a : Int) (h : indexok s sub a) : FIndex 1000000002 s sub a = some (indexS s sub a) := by
  obtain ⟨h1, h2, h3⟩ := h
  obtain ⟨i, rfl⟩ := Int.eq_ofNat_of_zero_le h1
  have := BIndex_eq 1000000002 s sub h3 1000000002 i (by omega) (by omega)
  rw [if_pos (by omega)] at this
  exact this
def sp_Index : List AV → Option (AV × Option Prop)
  | [.p (.str s), .p (.str sub), .p (.int .i64 a)] => some (.p (.int .i64 (indexS s sub a)), some (indexok s sub a))
  | _ => none
theorem ok_Index : SpecOk Try.prog 20 sp_Index := by
  intro zs r ok he hok
  unfold sp_Index at he
  split at he
  · cases he; exact ⟨by kernel_rfl, fn_Index 1000000002 _ _ _ _ fun _ => Index_eq _ _ _ hok⟩
  · cases he
def sp_rletters : List AV → Option (AV × Option Prop) := spStr encL64
theorem ok_rletters : SpecOk Try.prog 17 sp_rletters := spStr_ok (by kernel_rfl) fun s hs => fn_rletters 1000010 s _ fun _ => rletters_eq s hs
end Go.Proofs.Ytdjlilhdgnogaaa
