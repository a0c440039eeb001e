/-
  Lifted functions, and facts about them.
-/
import Derived.Test.YtdjlilhdgnogaaaB3Ixbl
import Derived.Test.YtdjlilhdgnogaaaB3PlainA
set_option linter.unusedVariables false
namespace Go.Proofs.Ytdjlilhdgnogaaa
open Go Go.Am
def sp_ixbl : List AV → Option (AV × Option Prop) := sp_ext22
theorem ok_ixbl : SpecOk Try.prog 21 sp_ixbl := by
  intro zs r ok h hok
  unfold sp_ixbl sp_ext22 at h
  split at h
  · cases h; exact ⟨by kernel_rfl, fn_ixbl 0 _ _ _ fun _ => rfl⟩
  · cases h
def spStr (g : List UInt8 → List UInt8) : List AV → Option (AV × Option Prop)
  | [.p (.str s)] => some (.p (.str (g s)), some (s.length ≤ 1000000))
  | _ => none
theorem spStr_ok {f : FuncId} {g : List UInt8 → List UInt8} (hc : callable Try.prog f = true) (h : ∀ s, s.length ≤ 1000000 → FnP Try.prog f [.p (.str s)] (.p (.str (g s)))) : SpecOk Try.prog f (spStr g) := by
  intro zs r ok he hok
  unfold spStr at he
  split at he
  · cases he; exact ⟨hc, h _ hok⟩
  · cases he
def sp_Encode : List AV → Option (AV × Option Prop) := spStr encB
theorem ok_Encode : SpecOk Try.prog 9 sp_Encode := spStr_ok (by kernel_rfl) fun s hs => fn_Encode 1000001 s _ fun _ => Encode_eq s hs
end Go.Proofs.Ytdjlilhdgnogaaa
