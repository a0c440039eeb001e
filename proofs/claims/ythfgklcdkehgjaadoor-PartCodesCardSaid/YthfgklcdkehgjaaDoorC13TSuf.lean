/-
  Lifted functions, and facts about them.
-/
import Derived.Test.YthfgklcdkehgjaaDoorRows
import Derived.Test.YthfgklcdkehgjaaDoorAmC
import Derived.Test.YthfgklcdkehgjaaDoorAmNeed
import Derived.Test.YthfgklcdkehgjaaDoorC13Small
namespace Go.Proofs.YthfgklcdkehgjaaDoor
open Go Go.Am
set_option linter.unusedVariables false
/-! TrimSuffix. -/
def hasSuf (s p : List UInt8) : Bool := decide ((s.length : Int) ≥ (p.length : Int)) && (s.drop (s.length - p.length) == p)
def trimSuf (s p : List UInt8) : List UInt8 := if hasSuf s p = true then s.take (s.length - p.length) else s

noncomputable def Ghsl : Cfg := ⟨Tryd.prog, mkEnv [], mkEnvR [], 21, [], [], []⟩

noncomputable def Fhsl (F : Nat) (s p : List UInt8) : Option Ans := runF Ghsl Tryd.f95 F [.p (.str s), .p (.str p)]

theorem Fhsl_eq (F : Nat) (s p : List UInt8) : Fhsl F s p = need ((decide ((s.length : Int) ≥ (p.length : Int))) = true → i64ok ((s.length : Int) - (p.length : Int))) (need ((decide ((s.length : Int) ≥ (p.length : Int))) = true → 0 ≤ ((s.length : Int) - (p.length : Int)) ∧ ((s.length : Int) - (p.length : Int)) ≤ (s.length : Int)) (some (.p (.bool ((decide ((s.length : Int) ≥ (p.length : Int))) && ((s.drop ((s.length : Int) - (p.length : Int)).toNat) == p))), []))) :=
  Eq.trans (show Fhsl F s p = need ((decide ((s.length : Int) ≥ (p.length : Int))) = true → (decide ((s.length : Int) ≥ (p.length : Int))) = true) (need ((decide ((s.length : Int) ≥ (p.length : Int))) = true → (decide ((s.length : Int) ≥ (p.length : Int))) = true) (need ((decide ((s.length : Int) ≥ (p.length : Int))) = true → (decide ((s.length : Int) ≥ (p.length : Int))) = true) (need ((decide ((s.length : Int) ≥ (p.length : Int))) = true → (decide ((s.length : Int) ≥ (p.length : Int))) = true) (need ((decide ((s.length : Int) ≥ (p.length : Int))) = true → i64ok ((s.length : Int) - (p.length : Int))) (need ((decide ((s.length : Int) ≥ (p.length : Int))) = true → (decide ((s.length : Int) ≥ (p.length : Int))) = true) (need ((decide ((s.length : Int) ≥ (p.length : Int))) = true → (decide ((s.length : Int) ≥ (p.length : Int))) = true) (need ((decide ((s.length : Int) ≥ (p.length : Int))) = true → 0 ≤ ((s.length : Int) - (p.length : Int)) ∧ ((s.length : Int) - (p.length : Int)) ≤ (s.length : Int)) (need ((decide ((s.length : Int) ≥ (p.length : Int))) = true → (decide ((s.length : Int) ≥ (p.length : Int))) = true) (need ((decide ((s.length : Int) ≥ (p.length : Int))) = true → (decide ((s.length : Int) ≥ (p.length : Int))) = true) (need ((decide ((s.length : Int) ≥ (p.length : Int))) = true → (decide ((s.length : Int) ≥ (p.length : Int))) = true) (some (.p (.bool ((decide ((s.length : Int) ≥ (p.length : Int))) && ((s.drop ((s.length : Int) - (p.length : Int)).toNat) == p))), [])))))))))))) by kernel_rfl) (need_strike (show (decide ((s.length : Int) ≥ (p.length : Int))) = true → (decide ((s.length : Int) ≥ (p.length : Int))) = true from (fun q0 => q0)) (need_strike (show (decide ((s.length : Int) ≥ (p.length : Int))) = true → (decide ((s.length : Int) ≥ (p.length : Int))) = true from (fun q0 => q0)) (need_strike (show (decide ((s.length : Int) ≥ (p.length : Int))) = true → (decide ((s.length : Int) ≥ (p.length : Int))) = true from (fun q0 => q0)) (need_strike (show (decide ((s.length : Int) ≥ (p.length : Int))) = true → (decide ((s.length : Int) ≥ (p.length : Int))) = true from (fun q0 => q0)) (need_congr (need_strike (show (decide ((s.length : Int) ≥ (p.length : Int))) = true → (decide ((s.length : Int) ≥ (p.length : Int))) = true from (fun q0 => q0)) (need_strike (show (decide ((s.length : Int) ≥ (p.length : Int))) = true → (decide ((s.length : Int) ≥ (p.length : Int))) = true from (fun q0 => q0)) (need_congr (need_strike (show (decide ((s.length : Int) ≥ (p.length : Int))) = true → (decide ((s.length : Int) ≥ (p.length : Int))) = true from (fun q0 => q0)) (need_strike (show (decide ((s.length : Int) ≥ (p.length : Int))) = true → (decide ((s.length : Int) ≥ (p.length : Int))) = true from (fun q0 => q0)) (need_strike (show (decide ((s.length : Int) ≥ (p.length : Int))) = true → (decide ((s.length : Int) ≥ (p.length : Int))) = true from (fun q0 => q0)) (rfl))))))))))))

theorem fn_hsl (F : Nat) (s p : List UInt8) (r : AV) (h : (∃ M vs, ARels γ0 M [.p (.str s), .p (.str p)] vs) → Fhsl F s p = some (r, [])) : FnP Tryd.prog 95 [.p (.str s), .p (.str p)] r :=
  FnP_run Ghsl F rfl (EnvOk_mk (l := []) trivial) (EnvROk_mk (l := []) trivial) (Checked.mixed Tryd.checked) (fn := Tryd.f95) (by kernel_rfl) (by kernel_rfl) rfl h
theorem hsl_eq (s p : List UInt8) (hs : s.length ≤ 1000000) : Fhsl 0 s p = some (.p (.bool (hasSuf s p)), []) := by
  have e : ((s.length : Int) - (p.length : Int)).toNat = s.length - p.length := by omega
  rw [Fhsl_eq, e]
  exact need_mk (fun h => by unfold i64ok; simp at h; omega) (need_mk (fun h => by simp at h; omega) rfl)
def sp_hsl : List AV → Option (AV × Option Prop)
  | [.p (.str s), .p (.str p)] => some (.p (.bool (hasSuf s p)), some (s.length ≤ 1000000))
  | _ => none
theorem ok_hsl : SpecOk Tryd.prog 95 sp_hsl := by
  intro zs r ok he hok
  unfold sp_hsl at he
  split at he
  · cases he; exact ⟨by kernel_rfl, fn_hsl 0 _ _ _ fun hx => hsl_eq _ _ hok⟩
  · cases he

noncomputable def Gtsl : Cfg := ⟨Tryd.prog, mkEnv [(95, sp_hsl)], mkEnvR [], 16, [], [], []⟩

noncomputable def Ftsl (F : Nat) (s p : List UInt8) : Option Ans := runF Gtsl Tryd.f81 F [.p (.str s), .p (.str p)]

theorem Ftsl_eq (F : Nat) (s p : List UInt8) : Ftsl F s p = need (s.length ≤ 1000000) (cond (hasSuf s p) (need (i64ok ((s.length : Int) - (p.length : Int))) (need (0 ≤ ((s.length : Int) - (p.length : Int)) ∧ ((s.length : Int) - (p.length : Int)) ≤ (s.length : Int)) (some (.p (.str (s.take ((s.length : Int) - (p.length : Int)).toNat)), [])))) (some (.p (.str s), []))) := by kernel_rfl

theorem fn_tsl (F : Nat) (s p : List UInt8) (r : AV) (h : (∃ M vs, ARels γ0 M [.p (.str s), .p (.str p)] vs) → Ftsl F s p = some (r, [])) : FnP Tryd.prog 81 [.p (.str s), .p (.str p)] r :=
  FnP_run Gtsl F rfl (EnvOk_mk (l := [(95, sp_hsl)]) ⟨ok_hsl.any, trivial⟩) (EnvROk_mk (l := []) trivial) (Checked.mixed Tryd.checked) (fn := Tryd.f81) (by kernel_rfl) (by kernel_rfl) rfl h
theorem tsl_eq (s p : List UInt8) (hs : s.length ≤ 1000000) : Ftsl 0 s p = some (.p (.str (trimSuf s p)), []) := by
  have e : ((s.length : Int) - (p.length : Int)).toNat = s.length - p.length := by omega
  rw [Ftsl_eq, trimSuf, e]
  refine need_mk hs ?_
  by_cases h : hasSuf s p = true
  · have h2 := h
    unfold hasSuf at h2
    rw [Bool.and_eq_true] at h2
    have h3 := of_decide_eq_true h2.1
    refine cond_t h (need_mk (by unfold i64ok; omega) (need_mk (by omega) ?_))
    rw [if_pos h]
  · refine cond_f (by simpa using h) ?_
    rw [if_neg h]
def sp_tsl : List AV → Option (AV × Option Prop)
  | [.p (.str s), .p (.str p)] => some (.p (.str (trimSuf s p)), some (s.length ≤ 1000000))
  | _ => none
theorem ok_tsl : SpecOk Tryd.prog 81 sp_tsl := by
  intro zs r ok he hok
  unfold sp_tsl at he
  split at he
  · cases he; exact ⟨by kernel_rfl, fn_tsl 0 _ _ _ fun hx => tsl_eq _ _ hok⟩
  · cases he

noncomputable def Gts : Cfg := ⟨Tryd.prog, mkEnv [(81, sp_tsl)], mkEnvR [], 8, [], [], []⟩

noncomputable def Fts (F : Nat) (s p : List UInt8) : Option Ans := runF Gts Tryd.f54 F [.p (.str s), .p (.str p)]

theorem Fts_eq (F : Nat) (s p : List UInt8) : Fts F s p = need (s.length ≤ 1000000) (some (.p (.str (trimSuf s p)), [])) := by kernel_rfl

theorem fn_ts (F : Nat) (s p : List UInt8) (r : AV) (h : (∃ M vs, ARels γ0 M [.p (.str s), .p (.str p)] vs) → Fts F s p = some (r, [])) : FnP Tryd.prog 54 [.p (.str s), .p (.str p)] r :=
  FnP_run Gts F rfl (EnvOk_mk (l := [(81, sp_tsl)]) ⟨ok_tsl.any, trivial⟩) (EnvROk_mk (l := []) trivial) (Checked.mixed Tryd.checked) (fn := Tryd.f54) (by kernel_rfl) (by kernel_rfl) rfl h
theorem ts_eq (s p : List UInt8) (hs : s.length ≤ 1000000) : Fts 0 s p = some (.p (.str (trimSuf s p)), []) := by rw [Fts_eq]; exact need_mk hs rfl
def sp_ts : List AV → Option (AV × Option Prop)
  | [.p (.str s), .p (.str p)] => some (.p (.str (trimSuf s p)), some (s.length ≤ 1000000))
  | _ => none
theorem ok_ts : SpecOk Tryd.prog 54 sp_ts := by
  intro zs r ok he hok
  unfold sp_ts at he
  split at he
  · cases he; exact ⟨by kernel_rfl, fn_ts 0 _ _ _ fun hx => ts_eq _ _ hok⟩
  · cases he
end Go.Proofs.YthfgklcdkehgjaaDoor
