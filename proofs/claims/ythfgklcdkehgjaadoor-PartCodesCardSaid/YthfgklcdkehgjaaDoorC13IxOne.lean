/-
  Lifted functions, and facts about them.
-/
import Derived.Test.YthfgklcdkehgjaaDoorRows
import Derived.Test.YthfgklcdkehgjaaDoorAmC
import Derived.Test.YthfgklcdkehgjaaDoorC13Small
import Derived.Test.YthfgklcdkehgjaaDoorC13Ixb1
namespace Go.Proofs.YthfgklcdkehgjaaDoor
open Go Go.Am
set_option linter.unusedVariables false
/-! strings: Index at one byte. -/
theorem u8c (c : UInt8) : ((c.toNat : Int)).toNat.toUInt8 = c := by simp

noncomputable def Gixl : Cfg := ⟨Tryd.prog, mkEnv [(80, sp_ixbl)], mkEnvR [], 143, [], [], []⟩

noncomputable def Fixl (F : Nat) (s : List UInt8) (c : UInt8) : Option Ans := runF Gixl Tryd.f65 F [.p (.str s), .p (.str [c])]

theorem Fixl_eq (F : Nat) (s : List UInt8) (c : UInt8) : Fixl F s c = (((cond (false || ([c] == s)) (some (.p (.int .i64 (0 : Int)), [])) (need (0 ≤ (0 : Int) ∧ (0 : Int) < ([c].length : Int)) (some (.p (.int .i64 (ixS s (([c].getD ((0 : Int)).toNat 0).toNat : Int))), [])))))) := by
  have h : Fixl F s c = need ((!false) = true → (!false) = true) (need ((!false) = true → (!false) = true) (need (false = false → (!false) = true) (cond (false || ([c] == s)) (some (.p (.int .i64 (0 : Int)), [])) (need (0 ≤ (0 : Int) ∧ (0 : Int) < ([c].length : Int)) (some (.p (.int .i64 (ixS s (([c].getD ((0 : Int)).toNat 0).toNat : Int))), [])))))) := by kernel_rfl
  rw [h, need_pos (show false = false → (!false) = true from (fun q0 => (not_mk q0))), need_pos (show (!false) = true → (!false) = true from (fun q0 => q0)), need_pos (show (!false) = true → (!false) = true from (fun q0 => q0))]

theorem fn_ixl (F : Nat) (s : List UInt8) (c : UInt8) (r : AV) (h : (∃ M vs, ARels γ0 M [.p (.str s), .p (.str [c])] vs) → Fixl F s c = some (r, [])) : FnP Tryd.prog 65 [.p (.str s), .p (.str [c])] r :=
  FnP_run Gixl F rfl (EnvOk_mk (l := [(80, sp_ixbl)]) ⟨ok_ixbl.any, trivial⟩) (EnvROk_mk (l := []) trivial) (Checked.mixed Tryd.checked) (fn := Tryd.f65) (by kernel_rfl) (by kernel_rfl) rfl h
theorem ixl_eq (s : List UInt8) (c : UInt8) : Fixl 0 s c = some (.p (.int .i64 (ixS s (c.toNat : Int))), []) := by
  rw [Fixl_eq]
  by_cases h : [c] = s
  · refine cond_t (by simp [h]) ?_
    subst h
    have : ixS [c] (c.toNat : Int) = 0 := by unfold ixS; rw [u8c]; simp [Lib.indexByte]
    rw [this]
  · refine cond_f (by simp [h]) ?_
    exact need_mk (by simp) rfl
def sp_ixl : List AV → Option (AV × Option Prop)
  | [.p (.str s), .p (.str [c])] => some (.p (.int .i64 (ixS s (c.toNat : Int))), none)
  | _ => none
theorem ok_ixl : SpecOk Tryd.prog 65 sp_ixl := by
  intro zs r ok he hok
  unfold sp_ixl at he
  split at he
  · cases he; exact ⟨by kernel_rfl, fn_ixl 0 _ _ _ fun hx => ixl_eq _ _⟩
  · cases he
end Go.Proofs.YthfgklcdkehgjaaDoor
