/-
  Lifted functions, and facts about them.
-/
import Derived.Test.YtdjlilhdgnogaaaB3Awake
import Derived.Test.YtdjlilhdgnogaaaB3Dec
set_option linter.unusedVariables false
namespace Go.Proofs.Ytdjlilhdgnogaaa
open Go Go.Am
theorem awake_eq : Fawake 0 = some true := by
  unfold Fawake
  rw [if_pos ⟨by decide, fun _ => by decide⟩, show encB [97] = [89, 81, 61, 61] by decide +kernel, show looseB [89, 32, 81] = [97] by decide +kernel]; decide
def sp_awake : List AV → Option (AV × Option Prop)
  | [] => some (.p (.bool true), none)
  | _ => none
theorem ok_awake : SpecOk Try.prog 8 sp_awake := by
  intro zs r ok he hok
  unfold sp_awake at he
  split at he
  · cases he; exact ⟨by kernel_rfl, fn_awake 0 _ fun _ => awake_eq⟩
  · cases he
theorem tailB_len (bits n : Nat) : (tailB bits n).length ≤ 2 := by unfold tailB; split <;> (try split) <;> simp
theorem looseG_len : ∀ (s : List UInt8) (bits n : Nat), (looseG bits n s).length ≤ 3 * s.length + 2
  | [], bits, n => by rw [looseG]; have := tailB_len bits n; simp; omega
  | c :: r, bits, n => by
    rw [looseG]
    have h0 := tailB_len bits n
    have h1 := looseG_len r
    split
    · simp; omega
    · split
      · have := h1 bits n; simp; omega
      · split
        · have := h1 0 0; simp; omega
        · have := h1 (bits * 64 + (valI c).toNat) (n + 1); simp; omega
def decB (s : List UInt8) : List UInt8 × Int := if encB (looseB s) ≠ s then ([], 3) else (looseB s, 0)
theorem Decode_eq (s : List UInt8) (hs : s.length ≤ 100000) : FDecode 0 s = some (decB s) := by
  unfold FDecode decB
  have := looseG_len s 0 0
  rw [if_pos (by omega), if_pos (show (looseB s).length ≤ 1000000 by unfold looseB; omega)]
  by_cases h : encB (looseB s) = s
  · rw [if_neg (by simp [h]), if_neg (by simp [h])]
  · rw [if_pos (by simpa using h), if_pos h]
def sp_Decode : List AV → Option (AV × Option Prop)
  | [.p (.str s)] => some (.tup [.p (.str (decB s).1), .p (.int .i64 (decB s).2)], some (s.length ≤ 100000))
  | _ => none
theorem ok_Decode : SpecOk Try.prog 10 sp_Decode := by
  intro zs r ok he hok
  unfold sp_Decode at he
  split at he
  · cases he; exact ⟨by kernel_rfl, fn_Decode 0 _ _ fun _ => Decode_eq _ hok⟩
  · cases he
end Go.Proofs.Ytdjlilhdgnogaaa
