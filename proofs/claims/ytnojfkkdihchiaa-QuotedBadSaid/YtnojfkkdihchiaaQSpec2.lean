/-
  A lifted function, or a fact about one.
-/
import Derived.Test.YtnojfkkdihchiaaQPlainB
namespace Go.Proofs.Ytnojfkkdihchiaa
open Go Go.Am
def spStr (g : List UInt8 → List UInt8) : List AV → Option (AV × Option Prop)
  | [.p (.str s)] => some (.p (.str (g s)), some (s.length ≤ 1000000))
  | _ => none
theorem spStr_ok {f : FuncId} {g : List UInt8 → List UInt8} (hc : callable Try.prog f = true) (h : ∀ s, s.length ≤ 1000000 → FnP Try.prog f [.p (.str s)] (.p (.str (g s)))) : SpecOk Try.prog f (spStr g) := by
  intro zs r ok he hok
  unfold spStr at he
  split at he
  · cases he; exact ⟨hc, h _ hok⟩
  · cases he
def sp_Encode : List AV → Option (AV × Option Prop) := spStr (encL 0)
def sp_Quoted : List AV → Option (AV × Option Prop) := spStr (encL 0)
def sp_Decode : List AV → Option (AV × Option Prop) := spStr decS
def sp_Plain : List AV → Option (AV × Option Prop) := spStr decS
theorem ok_Encode : SpecOk Try.prog 8 sp_Encode := spStr_ok (by kernel_rfl) fun s hs => fn_Encode 1000001 s _ fun _ => Encode_eq s hs
theorem ok_Quoted : SpecOk Try.prog 9 sp_Quoted := spStr_ok (by kernel_rfl) fun s hs => fn_Quoted 1000001 s _ fun _ => Quoted_eq s hs
theorem ok_Decode : SpecOk Try.prog 10 sp_Decode := spStr_ok (by kernel_rfl) fun s hs => fn_Decode 1000001 s _ fun _ => Decode_eq s hs
theorem ok_Plain : SpecOk Try.prog 11 sp_Plain := spStr_ok (by kernel_rfl) fun s hs => fn_Plain 1000001 s _ fun _ => Plain_eq s hs
end Go.Proofs.Ytnojfkkdihchiaa
