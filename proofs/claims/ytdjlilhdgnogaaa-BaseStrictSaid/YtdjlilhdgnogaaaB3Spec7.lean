/-
  Lifted functions, and facts about them.
-/
import Derived.Test.YtdjlilhdgnogaaaB3Dec64
import Derived.Test.YtdjlilhdgnogaaaB3JoinsEnd
set_option linter.unusedVariables false
namespace Go.Proofs.Ytdjlilhdgnogaaa
open Go Go.Am
theorem Decode64_eq (s : List UInt8) (hs : s.length ≤ 100000) : FDecode64 0 s = some (decB s) := by
  unfold FDecode64 decB
  have := looseG_len s 0 0
  rw [if_pos (by omega), if_pos (show (looseB s).length ≤ 1000000 by unfold looseB; omega)]
  by_cases h : encB (looseB s) = s
  · rw [if_neg (by simp [h]), if_neg (by simp [h])]
  · rw [if_pos (by simpa using h), if_pos h]
def sp_Decode64 : List AV → Option (AV × Option Prop)
  | [.p (.str s)] => some (.tup [.p (.str (decB s).1), .p (.int .i64 (decB s).2)], some (s.length ≤ 100000))
  | _ => none
theorem ok_Decode64 : SpecOk Try.prog 11 sp_Decode64 := by
  intro zs r ok he hok
  unfold sp_Decode64 at he
  split at he
  · cases he; exact ⟨by kernel_rfl, fn_Decode64 0 _ _ fun _ => Decode64_eq _ hok⟩
  · cases he
end Go.Proofs.Ytdjlilhdgnogaaa
