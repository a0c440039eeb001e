/-
  A lifted function, or a fact about one.
-/
import Derived.Test.YtnojfkkdihchiaaQAwake
namespace Go.Proofs.Ytnojfkkdihchiaa
open Go Go.Am
theorem awake_dec : decS [97, 61, 51, 100, 98] = [97, 61, 98] := by
  rw [decS_ne (by decide), decS_3, if_pos (by decide), decS_ne (by decide), decS_nil]; decide
theorem awake_eq : Fawake 0 = some true := by
  unfold Fawake
  rw [if_pos ⟨by decide, fun _ => by decide⟩, awake_dec, show encL 0 [97, 61, 98] = [97, 61, 51, 68, 98] by decide]; decide
def sp_awake : List AV → Option (AV × Option Prop)
  | [] => some (.p (.bool true), none)
  | _ => none
theorem ok_awake : SpecOk Try.prog 12 sp_awake := by
  intro zs r ok he hok
  unfold sp_awake at he
  split at he
  · cases he; exact ⟨by kernel_rfl, fn_awake 0 _ fun _ => awake_eq⟩
  · cases he
end Go.Proofs.Ytnojfkkdihchiaa
