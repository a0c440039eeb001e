/-
  Lifted functions, and facts about them.
-/
import Derived.Test.YtoanepondbagcaaGreatDoorRows
import Derived.Test.YtoanepondbagcaaGreatDoorAmC
import Derived.Test.YtoanepondbagcaaGreatDoorC01
import Derived.Test.YtoanepondbagcaaGreatDoorC06
import Derived.Test.YtoanepondbagcaaGreatDoorC02
namespace Go.Proofs.YtoanepondbagcaaGreatDoor
open Go Go.Am
set_option linter.unusedVariables false
/-! The document's word and parameters. -/




































/-! Where a text's parts stand in the whole. -/
end Go.Proofs.YtoanepondbagcaaGreatDoor
namespace Go.Proofs.YtoanepondbagcaaGreatDoor
open Go Go.Am
set_option linter.unusedVariables false
/-! strings.Index at one byte. -/

noncomputable def Gix1 : Cfg := ⟨Tryz.prog, mkEnv [(126, sp_ixl)], mkEnvR [], 8, [], [], []⟩

noncomputable def Fix1 (F : Nat) (s : List UInt8) (c : UInt8) : Option Ans := runF Gix1 Tryz.f94 F [.p (.str s), .p (.str [c])]

theorem Fix1_eq (F : Nat) (s : List UInt8) (c : UInt8) : Fix1 F s c = some (.p (.int .i64 (ixS s (c.toNat : Int))), []) := by kernel_rfl

theorem fn_ix1 (F : Nat) (s : List UInt8) (c : UInt8) (r : AV) (h : (∃ M vs, ARels γ0 M [.p (.str s), .p (.str [c])] vs) → Fix1 F s c = some (r, [])) : FnP Tryz.prog 94 [.p (.str s), .p (.str [c])] r :=
  FnP_run Gix1 F rfl (EnvOk_mk (l := [(126, sp_ixl)]) ⟨ok_ixl.any, trivial⟩) (EnvROk_mk (l := []) trivial) (Checked.mixed Tryz.checked) (fn := Tryz.f94) (by kernel_rfl) (by kernel_rfl) rfl h
theorem ix1_eq (s : List UInt8) (c : UInt8) : Fix1 0 s c = some (.p (.int .i64 (ixS s (c.toNat : Int))), []) := by rw [Fix1_eq]
def sp_ix1 : List AV → Option (AV × Option Prop)
  | [.p (.str s), .p (.str [c])] => some (.p (.int .i64 (ixS s (c.toNat : Int))), none)
  | _ => none
theorem ok_ix1 : SpecOk Tryz.prog 94 sp_ix1 := by
  intro zs r ok he hok
  unfold sp_ix1 at he
  split at he
  · cases he; exact ⟨by kernel_rfl, fn_ix1 0 _ _ _ fun hx => ix1_eq _ _⟩
  · cases he
end Go.Proofs.YtoanepondbagcaaGreatDoor
