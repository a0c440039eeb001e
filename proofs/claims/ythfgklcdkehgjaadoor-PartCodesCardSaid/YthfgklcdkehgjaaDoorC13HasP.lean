/-
  Lifted functions, and facts about them.
-/
import Derived.Test.YthfgklcdkehgjaaDoorRows
import Derived.Test.YthfgklcdkehgjaaDoorAmC
import Derived.Test.YthfgklcdkehgjaaDoorC13Small
namespace Go.Proofs.YthfgklcdkehgjaaDoor
open Go Go.Am
set_option linter.unusedVariables false

noncomputable def Ghpl : Cfg := ⟨Tryd.prog, mkEnv [], mkEnvR [], 18, [], [], []⟩

noncomputable def Fhpl (F : Nat) (s p : List UInt8) : Option Ans := runF Ghpl Tryd.f73 F [.p (.str s), .p (.str p)]

theorem Fhpl_eq (F : Nat) (s p : List UInt8) : Fhpl F s p = (((need ((decide ((s.length : Int) ≥ (p.length : Int))) = true → 0 ≤ (p.length : Int) ∧ (p.length : Int) ≤ (s.length : Int)) ((((some (.p (.bool ((decide ((s.length : Int) ≥ (p.length : Int))) && ((s.take ((p.length : Int)).toNat) == p))), [])))))))) := by
  have h : Fhpl F s p = need ((decide ((s.length : Int) ≥ (p.length : Int))) = true → (decide ((s.length : Int) ≥ (p.length : Int))) = true) (need ((decide ((s.length : Int) ≥ (p.length : Int))) = true → (decide ((s.length : Int) ≥ (p.length : Int))) = true) (need ((decide ((s.length : Int) ≥ (p.length : Int))) = true → (decide ((s.length : Int) ≥ (p.length : Int))) = true) (need ((decide ((s.length : Int) ≥ (p.length : Int))) = true → 0 ≤ (p.length : Int) ∧ (p.length : Int) ≤ (s.length : Int)) (need ((decide ((s.length : Int) ≥ (p.length : Int))) = true → (decide ((s.length : Int) ≥ (p.length : Int))) = true) (need ((decide ((s.length : Int) ≥ (p.length : Int))) = true → (decide ((s.length : Int) ≥ (p.length : Int))) = true) (need ((decide ((s.length : Int) ≥ (p.length : Int))) = true → (decide ((s.length : Int) ≥ (p.length : Int))) = true) (some (.p (.bool ((decide ((s.length : Int) ≥ (p.length : Int))) && ((s.take ((p.length : Int)).toNat) == p))), [])))))))) := by kernel_rfl
  rw [h, need_pos (show (decide ((s.length : Int) ≥ (p.length : Int))) = true → (decide ((s.length : Int) ≥ (p.length : Int))) = true from (fun q0 => q0)), need_pos (show (decide ((s.length : Int) ≥ (p.length : Int))) = true → (decide ((s.length : Int) ≥ (p.length : Int))) = true from (fun q0 => q0)), need_pos (show (decide ((s.length : Int) ≥ (p.length : Int))) = true → (decide ((s.length : Int) ≥ (p.length : Int))) = true from (fun q0 => q0)), need_pos (show (decide ((s.length : Int) ≥ (p.length : Int))) = true → (decide ((s.length : Int) ≥ (p.length : Int))) = true from (fun q0 => q0)), need_pos (show (decide ((s.length : Int) ≥ (p.length : Int))) = true → (decide ((s.length : Int) ≥ (p.length : Int))) = true from (fun q0 => q0)), need_pos (show (decide ((s.length : Int) ≥ (p.length : Int))) = true → (decide ((s.length : Int) ≥ (p.length : Int))) = true from (fun q0 => q0))]

theorem fn_hpl (F : Nat) (s p : List UInt8) (r : AV) (h : (∃ M vs, ARels γ0 M [.p (.str s), .p (.str p)] vs) → Fhpl F s p = some (r, [])) : FnP Tryd.prog 73 [.p (.str s), .p (.str p)] r :=
  FnP_run Ghpl F rfl (EnvOk_mk (l := []) trivial) (EnvROk_mk (l := []) trivial) (Checked.mixed Tryd.checked) (fn := Tryd.f73) (by kernel_rfl) (by kernel_rfl) rfl h
def hasP (s p : List UInt8) : Bool := s.take p.length == p
theorem hpl_eq (s p : List UInt8) : Fhpl 0 s p = some (.p (.bool (hasP s p)), []) := by
  rw [Fhpl_eq]
  refine need_mk (fun h => ⟨by omega, by simpa using h⟩) ?_
  rw [show ((p.length : Int)).toNat = p.length from rfl]
  by_cases h : p.length ≤ s.length
  · rw [show decide ((s.length : Int) ≥ (p.length : Int)) = true by simpa using h]; rfl
  · rw [show decide ((s.length : Int) ≥ (p.length : Int)) = false by simpa using h, Bool.false_and]
    have : hasP s p = false := by
      unfold hasP
      rw [beq_eq_false_iff_ne]
      intro e
      have := congrArg List.length e
      simp at this; omega
    rw [this]
def sp_hpl : List AV → Option (AV × Option Prop)
  | [.p (.str s), .p (.str p)] => some (.p (.bool (hasP s p)), none)
  | _ => none
theorem ok_hpl : SpecOk Tryd.prog 73 sp_hpl := by
  intro zs r ok he hok
  unfold sp_hpl at he
  split at he
  · cases he; exact ⟨by kernel_rfl, fn_hpl 0 _ _ _ fun hx => hpl_eq _ _⟩
  · cases he

noncomputable def Ghp : Cfg := ⟨Tryd.prog, mkEnv [(73, sp_hpl)], mkEnvR [], 8, [], [], []⟩

noncomputable def Fhp (F : Nat) (s p : List UInt8) : Option Ans := runF Ghp Tryd.f44 F [.p (.str s), .p (.str p)]

theorem Fhp_eq (F : Nat) (s p : List UInt8) : Fhp F s p = some (.p (.bool (hasP s p)), []) := by kernel_rfl

theorem fn_hp (F : Nat) (s p : List UInt8) (r : AV) (h : (∃ M vs, ARels γ0 M [.p (.str s), .p (.str p)] vs) → Fhp F s p = some (r, [])) : FnP Tryd.prog 44 [.p (.str s), .p (.str p)] r :=
  FnP_run Ghp F rfl (EnvOk_mk (l := [(73, sp_hpl)]) ⟨ok_hpl.any, trivial⟩) (EnvROk_mk (l := []) trivial) (Checked.mixed Tryd.checked) (fn := Tryd.f44) (by kernel_rfl) (by kernel_rfl) rfl h
theorem hp_eq (s p : List UInt8) : Fhp 0 s p = some (.p (.bool (hasP s p)), []) := by rw [Fhp_eq]
def sp_hp : List AV → Option (AV × Option Prop)
  | [.p (.str s), .p (.str p)] => some (.p (.bool (hasP s p)), none)
  | _ => none
theorem ok_hp : SpecOk Tryd.prog 44 sp_hp := by
  intro zs r ok he hok
  unfold sp_hp at he
  split at he
  · cases he; exact ⟨by kernel_rfl, fn_hp 0 _ _ _ fun hx => hp_eq _ _⟩
  · cases he
end Go.Proofs.YthfgklcdkehgjaaDoor
