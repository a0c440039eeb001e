/-
  Lifted functions, and facts about them.
-/
import Derived.Test.YthfgklcdkehgjaaDoorRows
import Derived.Test.YthfgklcdkehgjaaDoorAmC
import Derived.Test.YthfgklcdkehgjaaDoorC13IxOne
namespace Go.Proofs.YthfgklcdkehgjaaDoor
open Go Go.Am
set_option linter.unusedVariables false
/-! Cut at one byte. -/
def cutS (s : List UInt8) (c : UInt8) : List UInt8 × List UInt8 × Bool :=
  if ixS s (c.toNat : Int) ≥ 0 then (s.take (ixS s (c.toNat : Int)).toNat, s.drop ((ixS s (c.toNat : Int)) + 1).toNat, true) else (s, [], false)

noncomputable def Gcutl : Cfg := ⟨Tryd.prog, mkEnv [(65, sp_ixl)], mkEnvR [], 23, [], [], []⟩

noncomputable def Fcutl (F : Nat) (s : List UInt8) (c : UInt8) : Option Ans := runF Gcutl Tryd.f41 F [.p (.str s), .p (.str [c])]

theorem Fcutl_eq (F : Nat) (s : List UInt8) (c : UInt8) : Fcutl F s c = cond (decide ((ixS s (c.toNat : Int)) ≥ (0 : Int))) (need (0 ≤ (ixS s (c.toNat : Int)) ∧ (ixS s (c.toNat : Int)) ≤ (s.length : Int)) (need (i64ok ((ixS s (c.toNat : Int)) + (1 : Int))) (need (0 ≤ ((ixS s (c.toNat : Int)) + (1 : Int)) ∧ ((ixS s (c.toNat : Int)) + (1 : Int)) ≤ (s.length : Int)) (some (.tup [.p (.str (s.take (ixS s (c.toNat : Int)).toNat)), .p (.str (s.drop ((ixS s (c.toNat : Int)) + (1 : Int)).toNat)), .p (.bool true)], []))))) (some (.tup [.p (.str s), .p (.str ([] : List UInt8)), .p (.bool false)], [])) := by kernel_rfl

theorem fn_cutl (F : Nat) (s : List UInt8) (c : UInt8) (r : AV) (h : (∃ M vs, ARels γ0 M [.p (.str s), .p (.str [c])] vs) → Fcutl F s c = some (r, [])) : FnP Tryd.prog 41 [.p (.str s), .p (.str [c])] r :=
  FnP_run Gcutl F rfl (EnvOk_mk (l := [(65, sp_ixl)]) ⟨ok_ixl.any, trivial⟩) (EnvROk_mk (l := []) trivial) (Checked.mixed Tryd.checked) (fn := Tryd.f41) (by kernel_rfl) (by kernel_rfl) rfl h
theorem ixS_lt (s : List UInt8) (c : Int) : ixS s c < s.length ∨ ixS s c = -1 := indexByte_lt s c.toNat.toUInt8
theorem cutl_eq (s : List UInt8) (c : UInt8) (hs : s.length ≤ 1000000) : Fcutl 0 s c = some (.tup [.p (.str (cutS s c).1), .p (.str (cutS s c).2.1), .p (.bool (cutS s c).2.2)], []) := by
  rw [Fcutl_eq, cutS]
  have h := ixS_lt s (c.toNat : Int)
  by_cases hc : ixS s (c.toNat : Int) ≥ 0
  · refine cond_t (by simpa using hc) ?_
    rw [if_pos hc]
    refine need_mk (by omega) (need_mk (by unfold i64ok; omega) (need_mk (by omega) rfl))
  · refine cond_f (by simpa using hc) ?_
    rw [if_neg hc]
def sp_cutl : List AV → Option (AV × Option Prop)
  | [.p (.str s), .p (.str [c])] => some (.tup [.p (.str ((cutS s c).1)), .p (.str ((cutS s c).2.1)), .p (.bool ((cutS s c).2.2))], some (s.length ≤ 1000000))
  | _ => none
theorem ok_cutl : SpecOk Tryd.prog 41 sp_cutl := by
  intro zs r ok he hok
  unfold sp_cutl at he
  split at he
  · cases he; exact ⟨by kernel_rfl, fn_cutl 0 _ _ _ fun hx => cutl_eq _ _ hok⟩
  · cases he

noncomputable def Gcut : Cfg := ⟨Tryd.prog, mkEnv [(41, sp_cutl)], mkEnvR [], 13, [], [], []⟩

noncomputable def Fcut (F : Nat) (s : List UInt8) (c : UInt8) : Option Ans := runF Gcut Tryd.f24 F [.p (.str s), .p (.str [c])]

theorem Fcut_eq (F : Nat) (s : List UInt8) (c : UInt8) : Fcut F s c = need (s.length ≤ 1000000) (some (.tup [.p (.str ((cutS s c).1)), .p (.str ((cutS s c).2.1)), .p (.bool ((cutS s c).2.2))], [])) := by kernel_rfl

theorem fn_cut (F : Nat) (s : List UInt8) (c : UInt8) (r : AV) (h : (∃ M vs, ARels γ0 M [.p (.str s), .p (.str [c])] vs) → Fcut F s c = some (r, [])) : FnP Tryd.prog 24 [.p (.str s), .p (.str [c])] r :=
  FnP_run Gcut F rfl (EnvOk_mk (l := [(41, sp_cutl)]) ⟨ok_cutl.any, trivial⟩) (EnvROk_mk (l := []) trivial) (Checked.mixed Tryd.checked) (fn := Tryd.f24) (by kernel_rfl) (by kernel_rfl) rfl h
theorem cut_eq (s : List UInt8) (c : UInt8) (hs : s.length ≤ 1000000) : Fcut 0 s c = some (.tup [.p (.str (cutS s c).1), .p (.str (cutS s c).2.1), .p (.bool (cutS s c).2.2)], []) := by
  rw [Fcut_eq]; exact need_pos hs
def sp_cut : List AV → Option (AV × Option Prop)
  | [.p (.str s), .p (.str [c])] => some (.tup [.p (.str ((cutS s c).1)), .p (.str ((cutS s c).2.1)), .p (.bool ((cutS s c).2.2))], some (s.length ≤ 1000000))
  | _ => none
theorem ok_cut : SpecOk Tryd.prog 24 sp_cut := by
  intro zs r ok he hok
  unfold sp_cut at he
  split at he
  · cases he; exact ⟨by kernel_rfl, fn_cut 0 _ _ _ fun hx => cut_eq _ _ hok⟩
  · cases he
end Go.Proofs.YthfgklcdkehgjaaDoor
