/-
  Lifted functions, and facts about them.
-/
import Derived.Test.YtampckbjinodgaaGreatDoorRows
import Derived.Test.YtampckbjinodgaaGreatDoorAmC
import Derived.Test.YtampckbjinodgaaGreatDoorC01
import Derived.Test.YtampckbjinodgaaGreatDoorC16
namespace Go.Proofs.YtampckbjinodgaaGreatDoor
open Go Go.Am
set_option linter.unusedVariables false
/-! One term: times, sizes, the clock, nothing. -/

noncomputable def GhBox : Cfg := ⟨Tryz.prog, mkEnv [(38, sp_inside)], mkEnvR [], 150, [], [], [([888888, 1, 1], [3, 58, 4, 23]), ([888888, 1, 1, 1], [7, 40])]⟩

noncomputable def FhBox (F : Nat) (p : OpenT) (n : Int) (nm sx : List UInt8) (st : List (Int × Int)) (kd : List Int) : Option Ans := runF GhBox Tryz.f23 F [.p (.box 10 (cell openC p)), .p (.list 6 (.dat termC [((4 : Int), (n, (nm, (sx, (st, kd)))))])), .p (.int .i64 (0 : Int))]

theorem FhBox_eq (F : Nat) (p : OpenT) (n : Int) (nm sx : List UInt8) (st : List (Int × Int)) (kd : List Int) : FhBox F p n nm sx st kd = need (0 ≤ (0 : Int) ∧ (0 : Int) < ([((4 : Int), (n, (nm, (sx, (st, kd)))))].length : Int)) (need (p.1.2.2.2.2.2.1.length ≤ 1000000) (some (.p (.bool (p.1.2.2.2.2.2.1.any (inP n false))), []))) := by kernel_rfl

theorem fn_hBox (F : Nat) (p : OpenT) (n : Int) (nm sx : List UInt8) (st : List (Int × Int)) (kd : List Int) (r : AV) (h : (∃ M vs, ARels γ0 M [.p (.box 10 (cell openC p)), .p (.list 6 (.dat termC [((4 : Int), (n, (nm, (sx, (st, kd)))))])), .p (.int .i64 (0 : Int))] vs) → FhBox F p n nm sx st kd = some (r, [])) : FnP Tryz.prog 23 [.p (.box 10 (cell openC p)), .p (.list 6 (.dat termC [((4 : Int), (n, (nm, (sx, (st, kd)))))])), .p (.int .i64 (0 : Int))] r :=
  FnP_run GhBox F rfl (EnvOk_mk (l := [(38, sp_inside)]) ⟨ok_inside.any, trivial⟩) (EnvROk_mk (l := []) trivial) (Checked.mixed Tryz.checked) (fn := Tryz.f23) (by kernel_rfl) (by kernel_rfl) rfl h


noncomputable def GhOther : Cfg := ⟨Tryz.prog, mkEnv [(38, sp_inside)], mkEnvR [], 150, [], [], [([888888, 1, 1], [3, 58, 4, 23]), ([888888, 1, 1, 1], [7, 40])]⟩

noncomputable def FhOther (F : Nat) (p : OpenT) (n : Int) (nm sx : List UInt8) (st : List (Int × Int)) (kd : List Int) : Option Ans := runF GhOther Tryz.f23 F [.p (.box 10 (cell openC p)), .p (.list 6 (.dat termC [((5 : Int), (n, (nm, (sx, (st, kd)))))])), .p (.int .i64 (0 : Int))]

theorem FhOther_eq (F : Nat) (p : OpenT) (n : Int) (nm sx : List UInt8) (st : List (Int × Int)) (kd : List Int) : FhOther F p n nm sx st kd = need (0 ≤ (0 : Int) ∧ (0 : Int) < ([((5 : Int), (n, (nm, (sx, (st, kd)))))].length : Int)) (need (p.1.2.2.2.2.2.1.length ≤ 1000000) (some (.p (.bool (p.1.2.2.2.2.2.1.any (inP n true))), []))) := by kernel_rfl

theorem fn_hOther (F : Nat) (p : OpenT) (n : Int) (nm sx : List UInt8) (st : List (Int × Int)) (kd : List Int) (r : AV) (h : (∃ M vs, ARels γ0 M [.p (.box 10 (cell openC p)), .p (.list 6 (.dat termC [((5 : Int), (n, (nm, (sx, (st, kd)))))])), .p (.int .i64 (0 : Int))] vs) → FhOther F p n nm sx st kd = some (r, [])) : FnP Tryz.prog 23 [.p (.box 10 (cell openC p)), .p (.list 6 (.dat termC [((5 : Int), (n, (nm, (sx, (st, kd)))))])), .p (.int .i64 (0 : Int))] r :=
  FnP_run GhOther F rfl (EnvOk_mk (l := [(38, sp_inside)]) ⟨ok_inside.any, trivial⟩) (EnvROk_mk (l := []) trivial) (Checked.mixed Tryz.checked) (fn := Tryz.f23) (by kernel_rfl) (by kernel_rfl) rfl h


noncomputable def GhUid : Cfg := ⟨Tryz.prog, mkEnv [(44, sp_within)], mkEnvR [], 150, [], [], [([888888, 1, 1], [3, 58, 4, 23]), ([888888, 1, 1, 1], [7, 40])]⟩

noncomputable def FhUid (F : Nat) (p : OpenT) (n : Int) (nm sx : List UInt8) (st : List (Int × Int)) (kd : List Int) : Option Ans := runF GhUid Tryz.f23 F [.p (.box 10 (cell openC p)), .p (.list 6 (.dat termC [((14 : Int), (n, (nm, (sx, (st, kd)))))])), .p (.int .i64 (0 : Int))]

theorem FhUid_eq (F : Nat) (p : OpenT) (n : Int) (nm sx : List UInt8) (st : List (Int × Int)) (kd : List Int) : FhUid F p n nm sx st kd = need (0 ≤ (0 : Int) ∧ (0 : Int) < ([((14 : Int), (n, (nm, (sx, (st, kd)))))].length : Int)) (need (p.1.2.2.2.2.2.1.length ≤ 1000000 ∧ st.length ≤ 1000000) (some (.p (.bool (p.1.2.2.2.2.2.1.any (wiP n st))), []))) := by kernel_rfl

theorem fn_hUid (F : Nat) (p : OpenT) (n : Int) (nm sx : List UInt8) (st : List (Int × Int)) (kd : List Int) (r : AV) (h : (∃ M vs, ARels γ0 M [.p (.box 10 (cell openC p)), .p (.list 6 (.dat termC [((14 : Int), (n, (nm, (sx, (st, kd)))))])), .p (.int .i64 (0 : Int))] vs) → FhUid F p n nm sx st kd = some (r, [])) : FnP Tryz.prog 23 [.p (.box 10 (cell openC p)), .p (.list 6 (.dat termC [((14 : Int), (n, (nm, (sx, (st, kd)))))])), .p (.int .i64 (0 : Int))] r :=
  FnP_run GhUid F rfl (EnvOk_mk (l := [(44, sp_within)]) ⟨ok_within.any, trivial⟩) (EnvROk_mk (l := []) trivial) (Checked.mixed Tryz.checked) (fn := Tryz.f23) (by kernel_rfl) (by kernel_rfl) rfl h


noncomputable def GhBefore : Cfg := ⟨Tryz.prog, mkEnv [], mkEnvR [], 150, [], [], [([888888, 1, 1], [3, 58, 4, 23]), ([888888, 1, 1, 1], [7, 40])]⟩

noncomputable def FhBefore (F : Nat) (p : OpenT) (n : Int) (nm sx : List UInt8) (st : List (Int × Int)) (kd : List Int) : Option Ans := runF GhBefore Tryz.f23 F [.p (.box 10 (cell openC p)), .p (.list 6 (.dat termC [((7 : Int), (n, (nm, (sx, (st, kd)))))])), .p (.int .i64 (0 : Int))]

theorem FhBefore_eq (F : Nat) (p : OpenT) (n : Int) (nm sx : List UInt8) (st : List (Int × Int)) (kd : List Int) : FhBefore F p n nm sx st kd = need (0 ≤ (0 : Int) ∧ (0 : Int) < ([((7 : Int), (n, (nm, (sx, (st, kd)))))].length : Int)) (some (.p (.bool (decide (p.1.2.2.2.1 < n))), [])) := by kernel_rfl

theorem fn_hBefore (F : Nat) (p : OpenT) (n : Int) (nm sx : List UInt8) (st : List (Int × Int)) (kd : List Int) (r : AV) (h : (∃ M vs, ARels γ0 M [.p (.box 10 (cell openC p)), .p (.list 6 (.dat termC [((7 : Int), (n, (nm, (sx, (st, kd)))))])), .p (.int .i64 (0 : Int))] vs) → FhBefore F p n nm sx st kd = some (r, [])) : FnP Tryz.prog 23 [.p (.box 10 (cell openC p)), .p (.list 6 (.dat termC [((7 : Int), (n, (nm, (sx, (st, kd)))))])), .p (.int .i64 (0 : Int))] r :=
  FnP_run GhBefore F rfl (EnvOk_mk (l := []) trivial) (EnvROk_mk (l := []) trivial) (Checked.mixed Tryz.checked) (fn := Tryz.f23) (by kernel_rfl) (by kernel_rfl) rfl h


noncomputable def GhAfter : Cfg := ⟨Tryz.prog, mkEnv [], mkEnvR [], 150, [], [], [([888888, 1, 1], [3, 58, 4, 23]), ([888888, 1, 1, 1], [7, 40])]⟩

noncomputable def FhAfter (F : Nat) (p : OpenT) (n : Int) (nm sx : List UInt8) (st : List (Int × Int)) (kd : List Int) : Option Ans := runF GhAfter Tryz.f23 F [.p (.box 10 (cell openC p)), .p (.list 6 (.dat termC [((8 : Int), (n, (nm, (sx, (st, kd)))))])), .p (.int .i64 (0 : Int))]

theorem FhAfter_eq (F : Nat) (p : OpenT) (n : Int) (nm sx : List UInt8) (st : List (Int × Int)) (kd : List Int) : FhAfter F p n nm sx st kd = need (0 ≤ (0 : Int) ∧ (0 : Int) < ([((8 : Int), (n, (nm, (sx, (st, kd)))))].length : Int)) (some (.p (.bool (decide (p.1.2.2.2.1 ≥ n))), [])) := by kernel_rfl

theorem fn_hAfter (F : Nat) (p : OpenT) (n : Int) (nm sx : List UInt8) (st : List (Int × Int)) (kd : List Int) (r : AV) (h : (∃ M vs, ARels γ0 M [.p (.box 10 (cell openC p)), .p (.list 6 (.dat termC [((8 : Int), (n, (nm, (sx, (st, kd)))))])), .p (.int .i64 (0 : Int))] vs) → FhAfter F p n nm sx st kd = some (r, [])) : FnP Tryz.prog 23 [.p (.box 10 (cell openC p)), .p (.list 6 (.dat termC [((8 : Int), (n, (nm, (sx, (st, kd)))))])), .p (.int .i64 (0 : Int))] r :=
  FnP_run GhAfter F rfl (EnvOk_mk (l := []) trivial) (EnvROk_mk (l := []) trivial) (Checked.mixed Tryz.checked) (fn := Tryz.f23) (by kernel_rfl) (by kernel_rfl) rfl h


noncomputable def GhMin : Cfg := ⟨Tryz.prog, mkEnv [], mkEnvR [], 150, [], [], [([888888, 1, 1], [3, 58, 4, 23]), ([888888, 1, 1, 1], [7, 40])]⟩

noncomputable def FhMin (F : Nat) (p : OpenT) (n : Int) (nm sx : List UInt8) (st : List (Int × Int)) (kd : List Int) : Option Ans := runF GhMin Tryz.f23 F [.p (.box 10 (cell openC p)), .p (.list 6 (.dat termC [((9 : Int), (n, (nm, (sx, (st, kd)))))])), .p (.int .i64 (0 : Int))]

theorem FhMin_eq (F : Nat) (p : OpenT) (n : Int) (nm sx : List UInt8) (st : List (Int × Int)) (kd : List Int) : FhMin F p n nm sx st kd = need (0 ≤ (0 : Int) ∧ (0 : Int) < ([((9 : Int), (n, (nm, (sx, (st, kd)))))].length : Int)) (some (.p (.bool (decide ((p.1.2.2.1.length : Int) ≥ n))), [])) := by kernel_rfl

theorem fn_hMin (F : Nat) (p : OpenT) (n : Int) (nm sx : List UInt8) (st : List (Int × Int)) (kd : List Int) (r : AV) (h : (∃ M vs, ARels γ0 M [.p (.box 10 (cell openC p)), .p (.list 6 (.dat termC [((9 : Int), (n, (nm, (sx, (st, kd)))))])), .p (.int .i64 (0 : Int))] vs) → FhMin F p n nm sx st kd = some (r, [])) : FnP Tryz.prog 23 [.p (.box 10 (cell openC p)), .p (.list 6 (.dat termC [((9 : Int), (n, (nm, (sx, (st, kd)))))])), .p (.int .i64 (0 : Int))] r :=
  FnP_run GhMin F rfl (EnvOk_mk (l := []) trivial) (EnvROk_mk (l := []) trivial) (Checked.mixed Tryz.checked) (fn := Tryz.f23) (by kernel_rfl) (by kernel_rfl) rfl h


noncomputable def GhMax : Cfg := ⟨Tryz.prog, mkEnv [], mkEnvR [], 150, [], [], [([888888, 1, 1], [3, 58, 4, 23]), ([888888, 1, 1, 1], [7, 40])]⟩

noncomputable def FhMax (F : Nat) (p : OpenT) (n : Int) (nm sx : List UInt8) (st : List (Int × Int)) (kd : List Int) : Option Ans := runF GhMax Tryz.f23 F [.p (.box 10 (cell openC p)), .p (.list 6 (.dat termC [((10 : Int), (n, (nm, (sx, (st, kd)))))])), .p (.int .i64 (0 : Int))]

theorem FhMax_eq (F : Nat) (p : OpenT) (n : Int) (nm sx : List UInt8) (st : List (Int × Int)) (kd : List Int) : FhMax F p n nm sx st kd = need (0 ≤ (0 : Int) ∧ (0 : Int) < ([((10 : Int), (n, (nm, (sx, (st, kd)))))].length : Int)) (some (.p (.bool (decide ((p.1.2.2.1.length : Int) < n))), [])) := by kernel_rfl

theorem fn_hMax (F : Nat) (p : OpenT) (n : Int) (nm sx : List UInt8) (st : List (Int × Int)) (kd : List Int) (r : AV) (h : (∃ M vs, ARels γ0 M [.p (.box 10 (cell openC p)), .p (.list 6 (.dat termC [((10 : Int), (n, (nm, (sx, (st, kd)))))])), .p (.int .i64 (0 : Int))] vs) → FhMax F p n nm sx st kd = some (r, [])) : FnP Tryz.prog 23 [.p (.box 10 (cell openC p)), .p (.list 6 (.dat termC [((10 : Int), (n, (nm, (sx, (st, kd)))))])), .p (.int .i64 (0 : Int))] r :=
  FnP_run GhMax F rfl (EnvOk_mk (l := []) trivial) (EnvROk_mk (l := []) trivial) (Checked.mixed Tryz.checked) (fn := Tryz.f23) (by kernel_rfl) (by kernel_rfl) rfl h


noncomputable def GhMod : Cfg := ⟨Tryz.prog, mkEnv [], mkEnvR [], 150, [], [], [([888888, 1, 1], [3, 58, 4, 23]), ([888888, 1, 1, 1], [7, 40])]⟩

noncomputable def FhMod (F : Nat) (p : OpenT) (n : Int) (nm sx : List UInt8) (st : List (Int × Int)) (kd : List Int) : Option Ans := runF GhMod Tryz.f23 F [.p (.box 10 (cell openC p)), .p (.list 6 (.dat termC [((15 : Int), (n, (nm, (sx, (st, kd)))))])), .p (.int .i64 (0 : Int))]

theorem FhMod_eq (F : Nat) (p : OpenT) (n : Int) (nm sx : List UInt8) (st : List (Int × Int)) (kd : List Int) : FhMod F p n nm sx st kd = need (0 ≤ (0 : Int) ∧ (0 : Int) < ([((15 : Int), (n, (nm, (sx, (st, kd)))))].length : Int)) (some (.p (.bool (decide (p.1.2.2.2.2.2.2.1 ≥ n))), [])) := by kernel_rfl

theorem fn_hMod (F : Nat) (p : OpenT) (n : Int) (nm sx : List UInt8) (st : List (Int × Int)) (kd : List Int) (r : AV) (h : (∃ M vs, ARels γ0 M [.p (.box 10 (cell openC p)), .p (.list 6 (.dat termC [((15 : Int), (n, (nm, (sx, (st, kd)))))])), .p (.int .i64 (0 : Int))] vs) → FhMod F p n nm sx st kd = some (r, [])) : FnP Tryz.prog 23 [.p (.box 10 (cell openC p)), .p (.list 6 (.dat termC [((15 : Int), (n, (nm, (sx, (st, kd)))))])), .p (.int .i64 (0 : Int))] r :=
  FnP_run GhMod F rfl (EnvOk_mk (l := []) trivial) (EnvROk_mk (l := []) trivial) (Checked.mixed Tryz.checked) (fn := Tryz.f23) (by kernel_rfl) (by kernel_rfl) rfl h


noncomputable def GhNone : Cfg := ⟨Tryz.prog, mkEnv [], mkEnvR [], 150, [], [], [([888888, 1, 1], [3, 58, 4, 23]), ([888888, 1, 1, 1], [7, 40])]⟩

noncomputable def FhNone (F : Nat) (p : OpenT) (n : Int) (nm sx : List UInt8) (st : List (Int × Int)) (kd : List Int) : Option Ans := runF GhNone Tryz.f23 F [.p (.box 10 (cell openC p)), .p (.list 6 (.dat termC [((16 : Int), (n, (nm, (sx, (st, kd)))))])), .p (.int .i64 (0 : Int))]

theorem FhNone_eq (F : Nat) (p : OpenT) (n : Int) (nm sx : List UInt8) (st : List (Int × Int)) (kd : List Int) : FhNone F p n nm sx st kd = need (0 ≤ (0 : Int) ∧ (0 : Int) < ([((16 : Int), (n, (nm, (sx, (st, kd)))))].length : Int)) (some (.p (.bool false), [])) := by kernel_rfl

theorem fn_hNone (F : Nat) (p : OpenT) (n : Int) (nm sx : List UInt8) (st : List (Int × Int)) (kd : List Int) (r : AV) (h : (∃ M vs, ARels γ0 M [.p (.box 10 (cell openC p)), .p (.list 6 (.dat termC [((16 : Int), (n, (nm, (sx, (st, kd)))))])), .p (.int .i64 (0 : Int))] vs) → FhNone F p n nm sx st kd = some (r, [])) : FnP Tryz.prog 23 [.p (.box 10 (cell openC p)), .p (.list 6 (.dat termC [((16 : Int), (n, (nm, (sx, (st, kd)))))])), .p (.int .i64 (0 : Int))] r :=
  FnP_run GhNone F rfl (EnvOk_mk (l := []) trivial) (EnvROk_mk (l := []) trivial) (Checked.mixed Tryz.checked) (fn := Tryz.f23) (by kernel_rfl) (by kernel_rfl) rfl h
def hold1 (p : OpenT) (t : TermT) : Bool :=
  if t.1 = 4 then p.1.2.2.2.2.2.1.any (inP t.2.1 false) else if t.1 = 5 then p.1.2.2.2.2.2.1.any (inP t.2.1 true) else if t.1 = 14 then p.1.2.2.2.2.2.1.any (wiP t.2.1 t.2.2.2.2.1) else
  if t.1 = 7 then decide (p.1.2.2.2.1 < t.2.1) else if t.1 = 8 then decide (p.1.2.2.2.1 ≥ t.2.1) else if t.1 = 9 then decide ((p.1.2.2.1.length : Int) ≥ t.2.1) else
  if t.1 = 10 then decide ((p.1.2.2.1.length : Int) < t.2.1) else if t.1 = 15 then decide (p.1.2.2.2.2.2.2.1 ≥ t.2.1) else false
def kind1 (k : Int) : Bool := k == 4 || k == 5 || k == 14 || k == 7 || k == 8 || k == 9 || k == 10 || k == 15 || k == 16
abbrev ok1 (m : MailT) (t : TermT) : Prop := kind1 t.1 = true ∧ m.2.2.2.2.2.1.length ≤ 1000000 ∧ t.2.2.2.2.1.length ≤ 1000000
def sp_hold1 : List AV → Option (AV × Option Prop)
  | [.p (.box 10 f), .p (.list 6 R), .p (.int .i64 a)] => match toDat openC (rangeL f 10 0), pList termC (.list 6 R) with
    | some p, some [t] => some (.p (.bool (hold1 p t)), some (a = 0 ∧ ok1 p.1 t))
    | _, _ => none
  | _ => none
theorem ok_hold1 : SpecOk Tryz.prog 23 sp_hold1 := by
  intro zs r ok he hok
  unfold sp_hold1 at he
  split at he
  · rename_i f R a
    split at he
    · rename_i p t hp hl
      cases he
      obtain ⟨rfl, _⟩ := pList_row hl
      obtain ⟨ha, hk, hm, hs⟩ : a = 0 ∧ ok1 p.1 t := hok
      subst ha
      obtain ⟨k, n, nm, sx, st, kd⟩ := t
      have hk : k = 4 ∨ k = 5 ∨ k = 14 ∨ k = 7 ∨ k = 8 ∨ k = 9 ∨ k = 10 ∨ k = 15 ∨ k = 16 := by simpa [kind1, or_assoc] using hk
      refine ⟨by kernel_rfl, FnP.lq (ys := [.p (.box 10 (cell openC p)), .p (.list 6 (.dat termC [(k, (n, (nm, (sx, (st, kd)))))])), .p (.int .i64 0)]) ⟨Lq.box (c := openC) hp, Lq.refl _, Lq.refl _, trivial⟩ ?_⟩
      rcases hk with rfl | rfl | rfl | rfl | rfl | rfl | rfl | rfl | rfl
      · exact fn_hBox 0 p n nm sx st kd _ fun _ => by rw [FhBox_eq]; exact need_mk (by simp) (need_mk hm rfl)
      · exact fn_hOther 0 p n nm sx st kd _ fun _ => by rw [FhOther_eq]; exact need_mk (by simp) (need_mk hm rfl)
      · exact fn_hUid 0 p n nm sx st kd _ fun _ => by rw [FhUid_eq]; exact need_mk (by simp) (need_mk ⟨hm, hs⟩ rfl)
      · exact fn_hBefore 0 p n nm sx st kd _ fun _ => by rw [FhBefore_eq]; exact need_mk (by simp) rfl
      · exact fn_hAfter 0 p n nm sx st kd _ fun _ => by rw [FhAfter_eq]; exact need_mk (by simp) rfl
      · exact fn_hMin 0 p n nm sx st kd _ fun _ => by rw [FhMin_eq]; exact need_mk (by simp) rfl
      · exact fn_hMax 0 p n nm sx st kd _ fun _ => by rw [FhMax_eq]; exact need_mk (by simp) rfl
      · exact fn_hMod 0 p n nm sx st kd _ fun _ => by rw [FhMod_eq]; exact need_mk (by simp) rfl
      · exact fn_hNone 0 p n nm sx st kd _ fun _ => by rw [FhNone_eq]; exact need_mk (by simp) rfl
    · cases he
  · cases he
def h1F (m : MailT) (t : TermT) : Bool := rightP [t] && hold1 (openP m) t
abbrev h1ok (m : MailT) (t : TermT) : Prop := rightok [t] ∧ m.2.2.1.length ≤ 1000000 ∧ ok1 m t

noncomputable def Gholds1 : Cfg := ⟨Tryz.prog, mkEnv [(21, sp_right), (22, sp_opened), (23, sp_hold1)], mkEnvR [], 21, [], [], []⟩

noncomputable def Fholds1 (F : Nat) (k n : Int) (nm sx : List UInt8) (st : List (Int × Int)) (kd : List Int) (id th : Int) (tx : List UInt8) (at_ : Int) (ke : List (List UInt8)) (me : List (Int × Int)) (mo bo : Int) : Option Ans := runF Gholds1 Tryz.f12 F [.p (.list 6 (.dat termC [(k, (n, (nm, (sx, (st, kd)))))])), .agg [.p (.int .i64 id), .p (.int .i64 th), .p (.str tx), .p (.int .i64 at_), .p (.list 1 (.dat .str ke)), .p (.list 2 (.dat (.pair (.int .i64) (.int .i64)) me)), .p (.int .i64 mo), .p (.int .i64 bo)]]

theorem Fholds1_eq (F : Nat) (k n : Int) (nm sx : List UInt8) (st : List (Int × Int)) (kd : List Int) (id th : Int) (tx : List UInt8) (at_ : Int) (ke : List (List UInt8)) (me : List (Int × Int)) (mo bo : Int) : Fholds1 F k n nm sx st kd id th tx at_ ke me mo bo = need (rightok [(k, (n, (nm, (sx, (st, kd)))))]) (need (((rightP [(k, (n, (nm, (sx, (st, kd)))))]) && (!false)) = true → tx.length ≤ 1000000) (need (((rightP [(k, (n, (nm, (sx, (st, kd)))))]) && (!false)) = true → i64ok ((1 : Int) - (1 : Int))) (need (((rightP [(k, (n, (nm, (sx, (st, kd)))))]) && (!false)) = true → (1 : Int) - (1 : Int) = 0 ∧ ok1 (id, th, tx, at_, ke, me, mo, bo) (k, (n, (nm, (sx, (st, kd)))))) (some (.p (.bool ((rightP [(k, (n, (nm, (sx, (st, kd)))))]) && (false || (hold1 (openP (id, th, tx, at_, ke, me, mo, bo)) (k, (n, (nm, (sx, (st, kd))))))))), []))))) :=
  Eq.trans (show Fholds1 F k n nm sx st kd id th tx at_ ke me mo bo = need (rightok [(k, (n, (nm, (sx, (st, kd)))))]) (need ((rightP [(k, (n, (nm, (sx, (st, kd)))))]) = true → (rightP [(k, (n, (nm, (sx, (st, kd)))))]) = true) (need ((rightP [(k, (n, (nm, (sx, (st, kd)))))]) = true → (rightP [(k, (n, (nm, (sx, (st, kd)))))]) = true) (need ((rightP [(k, (n, (nm, (sx, (st, kd)))))]) = true → (rightP [(k, (n, (nm, (sx, (st, kd)))))]) = true) (need (((rightP [(k, (n, (nm, (sx, (st, kd)))))]) && (!false)) = true → ((rightP [(k, (n, (nm, (sx, (st, kd)))))]) && (!false)) = true) (need (((rightP [(k, (n, (nm, (sx, (st, kd)))))]) && (!false)) = true → tx.length ≤ 1000000) (need (((rightP [(k, (n, (nm, (sx, (st, kd)))))]) && (!false)) = true → ((rightP [(k, (n, (nm, (sx, (st, kd)))))]) && (!false)) = true) (need (((rightP [(k, (n, (nm, (sx, (st, kd)))))]) && (!false)) = true → ((rightP [(k, (n, (nm, (sx, (st, kd)))))]) && (!false)) = true) (need (((rightP [(k, (n, (nm, (sx, (st, kd)))))]) && (!false)) = true → i64ok ((1 : Int) - (1 : Int))) (need (((rightP [(k, (n, (nm, (sx, (st, kd)))))]) && (!false)) = true → ((rightP [(k, (n, (nm, (sx, (st, kd)))))]) && (!false)) = true) (need (((rightP [(k, (n, (nm, (sx, (st, kd)))))]) && (!false)) = true → ((rightP [(k, (n, (nm, (sx, (st, kd)))))]) && (!false)) = true) (need (((rightP [(k, (n, (nm, (sx, (st, kd)))))]) && (!false)) = true → ((rightP [(k, (n, (nm, (sx, (st, kd)))))]) && (!false)) = true) (need (((rightP [(k, (n, (nm, (sx, (st, kd)))))]) && (!false)) = true → (1 : Int) - (1 : Int) = 0 ∧ ok1 (id, th, tx, at_, ke, me, mo, bo) (k, (n, (nm, (sx, (st, kd)))))) (need ((rightP [(k, (n, (nm, (sx, (st, kd)))))]) = true → (rightP [(k, (n, (nm, (sx, (st, kd)))))]) = true) (need ((rightP [(k, (n, (nm, (sx, (st, kd)))))]) = true → false = false → ((rightP [(k, (n, (nm, (sx, (st, kd)))))]) && (!false)) = true) (need ((rightP [(k, (n, (nm, (sx, (st, kd)))))]) = true → (rightP [(k, (n, (nm, (sx, (st, kd)))))]) = true) (some (.p (.bool ((rightP [(k, (n, (nm, (sx, (st, kd)))))]) && (false || (hold1 (openP (id, th, tx, at_, ke, me, mo, bo)) (k, (n, (nm, (sx, (st, kd))))))))), []))))))))))))))))) by kernel_rfl) (need_congr (need_strike (show (rightP [(k, (n, (nm, (sx, (st, kd)))))]) = true → (rightP [(k, (n, (nm, (sx, (st, kd)))))]) = true from (fun q0 => q0)) (need_strike (show (rightP [(k, (n, (nm, (sx, (st, kd)))))]) = true → (rightP [(k, (n, (nm, (sx, (st, kd)))))]) = true from (fun q0 => q0)) (need_strike (show (rightP [(k, (n, (nm, (sx, (st, kd)))))]) = true → (rightP [(k, (n, (nm, (sx, (st, kd)))))]) = true from (fun q0 => q0)) (need_strike (show ((rightP [(k, (n, (nm, (sx, (st, kd)))))]) && (!false)) = true → ((rightP [(k, (n, (nm, (sx, (st, kd)))))]) && (!false)) = true from (fun q0 => q0)) (need_congr (need_strike (show ((rightP [(k, (n, (nm, (sx, (st, kd)))))]) && (!false)) = true → ((rightP [(k, (n, (nm, (sx, (st, kd)))))]) && (!false)) = true from (fun q0 => q0)) (need_strike (show ((rightP [(k, (n, (nm, (sx, (st, kd)))))]) && (!false)) = true → ((rightP [(k, (n, (nm, (sx, (st, kd)))))]) && (!false)) = true from (fun q0 => q0)) (need_congr (need_strike (show ((rightP [(k, (n, (nm, (sx, (st, kd)))))]) && (!false)) = true → ((rightP [(k, (n, (nm, (sx, (st, kd)))))]) && (!false)) = true from (fun q0 => q0)) (need_strike (show ((rightP [(k, (n, (nm, (sx, (st, kd)))))]) && (!false)) = true → ((rightP [(k, (n, (nm, (sx, (st, kd)))))]) && (!false)) = true from (fun q0 => q0)) (need_strike (show ((rightP [(k, (n, (nm, (sx, (st, kd)))))]) && (!false)) = true → ((rightP [(k, (n, (nm, (sx, (st, kd)))))]) && (!false)) = true from (fun q0 => q0)) (need_congr (need_strike (show (rightP [(k, (n, (nm, (sx, (st, kd)))))]) = true → (rightP [(k, (n, (nm, (sx, (st, kd)))))]) = true from (fun q0 => q0)) (need_strike (show (rightP [(k, (n, (nm, (sx, (st, kd)))))]) = true → false = false → ((rightP [(k, (n, (nm, (sx, (st, kd)))))]) && (!false)) = true from (fun q0 q1 => (and_mk q0 (not_mk q1)))) (need_strike (show (rightP [(k, (n, (nm, (sx, (st, kd)))))]) = true → (rightP [(k, (n, (nm, (sx, (st, kd)))))]) = true from (fun q0 => q0)) (rfl)))))))))))))))))

theorem fn_holds1 (F : Nat) (k n : Int) (nm sx : List UInt8) (st : List (Int × Int)) (kd : List Int) (id th : Int) (tx : List UInt8) (at_ : Int) (ke : List (List UInt8)) (me : List (Int × Int)) (mo bo : Int) (r : AV) (h : (∃ M vs, ARels γ0 M [.p (.list 6 (.dat termC [(k, (n, (nm, (sx, (st, kd)))))])), .agg [.p (.int .i64 id), .p (.int .i64 th), .p (.str tx), .p (.int .i64 at_), .p (.list 1 (.dat .str ke)), .p (.list 2 (.dat (.pair (.int .i64) (.int .i64)) me)), .p (.int .i64 mo), .p (.int .i64 bo)]] vs) → Fholds1 F k n nm sx st kd id th tx at_ ke me mo bo = some (r, [])) : FnP Tryz.prog 12 [.p (.list 6 (.dat termC [(k, (n, (nm, (sx, (st, kd)))))])), .agg [.p (.int .i64 id), .p (.int .i64 th), .p (.str tx), .p (.int .i64 at_), .p (.list 1 (.dat .str ke)), .p (.list 2 (.dat (.pair (.int .i64) (.int .i64)) me)), .p (.int .i64 mo), .p (.int .i64 bo)]] r :=
  FnP_run Gholds1 F rfl (EnvOk_mk (l := [(21, sp_right), (22, sp_opened), (23, sp_hold1)]) ⟨ok_right.any, ok_opened.any, ok_hold1.any, trivial⟩) (EnvROk_mk (l := []) trivial) (Checked.mixed Tryz.checked) (fn := Tryz.f12) (by kernel_rfl) (by kernel_rfl) rfl h
theorem holds1_eq (k n : Int) (nm sx : List UInt8) (st : List (Int × Int)) (kd : List Int) (id th : Int) (x : List UInt8) (at_ : Int) (ke : List (List UInt8)) (me : List (Int × Int)) (mo bo : Int) (hr : rightok [(k, (n, (nm, (sx, (st, kd)))))]) (hx : x.length ≤ 1000000) (hk : ok1 (id, th, x, at_, ke, me, mo, bo) (k, (n, (nm, (sx, (st, kd)))))) :
    Fholds1 0 k n nm sx st kd id th x at_ ke me mo bo = some (.p (.bool (rightP [(k, (n, (nm, (sx, (st, kd)))))] && hold1 (openP (id, th, x, at_, ke, me, mo, bo)) (k, (n, (nm, (sx, (st, kd))))))), []) := by
  rw [Fholds1_eq]
  exact need_mk hr (need_mk (fun _ => hx) (need_mk (fun _ => by decide) (need_mk (fun _ => ⟨by decide, hk⟩) rfl)))
def sp_holds1 : List AV → Option (AV × Option Prop)
  | [.p (.list 6 R), .agg [.p (.int .i64 id), .p (.int .i64 th), .p (.str x), .p (.int .i64 at_), .p ke, .p me, .p (.int .i64 mo), .p (.int .i64 bo)]] => match pList termC (.list 6 R), pList .str ke, pList mbC me with
    | some [t], some ke', some me' => some (.p (.bool (h1F (id, th, x, at_, ke', me', mo, bo) t)), some (h1ok (id, th, x, at_, ke', me', mo, bo) t))
    | _, _, _ => none
  | _ => none
theorem ok_holds1 : SpecOk Tryz.prog 12 sp_holds1 := by
  intro zs r ok he hok
  unfold sp_holds1 at he
  split at he
  · rename_i R id th x at_ ke me mo bo
    split at he
    · rename_i t ke' me' hl hke hme
      cases he
      obtain ⟨rfl, _⟩ := pList_row hl
      obtain ⟨hr, hx, hk⟩ : rightok [t] ∧ x.length ≤ 1000000 ∧ ok1 (id, th, x, at_, ke', me', mo, bo) t := hok
      obtain ⟨k, n, nm, sx, st, kd⟩ := t
      refine ⟨by kernel_rfl, FnP.lq (ys := [_, .agg [.p (.int .i64 id), .p (.int .i64 th), .p (.str x), .p (.int .i64 at_), .p (.list (wid .str) (.dat .str ke')), .p (.list (wid mbC) (.dat mbC me')), .p (.int .i64 mo), .p (.int .i64 bo)]]) ⟨Lq.refl _, Lq.agg ⟨Lq.refl _, Lq.refl _, Lq.refl _, Lq.refl _, Lq.list hke, Lq.list hme, Lq.refl _, Lq.refl _, trivial⟩, trivial⟩
        (fn_holds1 0 k n nm sx st kd id th x at_ ke' me' mo bo _ fun _ => holds1_eq k n nm sx st kd id th x at_ ke' me' mo bo hr hx hk)⟩
    · cases he
  · cases he
end Go.Proofs.YtampckbjinodgaaGreatDoor
