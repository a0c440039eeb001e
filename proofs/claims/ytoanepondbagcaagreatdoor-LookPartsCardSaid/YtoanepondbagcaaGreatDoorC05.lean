/-
  Lifted functions, and facts about them.
-/
import Derived.Test.YtoanepondbagcaaGreatDoorRows
import Derived.Test.YtoanepondbagcaaGreatDoorAmC
import Derived.Test.YtoanepondbagcaaGreatDoorC01
import Derived.Test.YtoanepondbagcaaGreatDoorC04
import Derived.Test.YtoanepondbagcaaGreatDoorC02
namespace Go.Proofs.YtoanepondbagcaaGreatDoor
open Go Go.Am
set_option linter.unusedVariables false
/-! Headers: what the document computes. -/
def firstS : List (List UInt8 × List UInt8) → List UInt8 → List UInt8 × Bool
  | [], _ => ([], false)
  | x :: r, n => if foldS x.1 = foldS n then (x.2, true) else firstS r n
abbrev firstok (l : List (List UInt8 × List UInt8)) (n : List UInt8) : Prop := n.length ≤ 140737488355328 ∧ (∀ x ∈ l, x.1.length ≤ 140737488355328) ∧ l.length ≤ 1000000000000
noncomputable def cfirst : Code := bodyOf Tryz.f31

noncomputable def Gfirst : Cfg := ⟨Tryz.prog, mkEnv [(61, sp_Fold)], mkEnvR [], 23, [], [([0, 1, 0, 1], ⟨[1, 8, 9, 10], []⟩)], []⟩

noncomputable def Bfirst_1 (F f1 : Nat) (n : List UInt8) (l : List (List UInt8 × List UInt8)) (vi1 vi2 : Int) : Option Ans := runR Gfirst cfirst (kP Tryz.prog Tryz.f31.results.toList) F [] [1, 0, 1, 0] f1 [(1, .p (.str n)), (8, .p (.list 2 (.dat (.pair .str .str) l))), (9, .p (.int .i64 vi1)), (10, .p (.int .i64 vi2))] []

noncomputable def Ffirst (F : Nat) (l : List (List UInt8 × List UInt8)) (n : List UInt8) : Option Ans := runF Gfirst Tryz.f31 F [.p (.list 2 (.dat (.pair .str .str) l)), .p (.str n)]

theorem Bfirst_1_eq (F f1 : Nat) (n : List UInt8) (l : List (List UInt8 × List UInt8)) (vi1 vi2 : Int) : Bfirst_1 F (f1 + 1) n l vi1 vi2 = cond (decide (vi2 < vi1)) (need (0 ≤ vi2 ∧ vi2 < (l.length : Int)) (need (((l.getD (vi2).toNat ([], [])).1).length ≤ 140737488355328) (need (n.length ≤ 140737488355328) (cond ((foldS ((l.getD (vi2).toNat ([], [])).1)) == (foldS n)) (some (.tup [.p (.str ((l.getD (vi2).toNat ([], [])).2)), .p (.bool true)], [])) (need (i64ok (vi2 + (1 : Int))) (Bfirst_1 F f1 n l vi1 (vi2 + (1 : Int)))))))) (some (.tup [.p (.str ([] : List UInt8)), .p (.bool false)], [])) := by kernel_rfl

theorem Ffirst_eq (F : Nat) (l : List (List UInt8 × List UInt8)) (n : List UInt8) : Ffirst F l n = Bfirst_1 F F n l (l.length : Int) (0 : Int) := by kernel_rfl

theorem fn_first (F : Nat) (l : List (List UInt8 × List UInt8)) (n : List UInt8) (r : AV) (h : (∃ M vs, ARels γ0 M [.p (.list 2 (.dat (.pair .str .str) l)), .p (.str n)] vs) → Ffirst F l n = some (r, [])) : FnP Tryz.prog 31 [.p (.list 2 (.dat (.pair .str .str) l)), .p (.str n)] r :=
  FnP_run Gfirst F rfl (EnvOk_mk (l := [(61, sp_Fold)]) ⟨ok_Fold.any, trivial⟩) (EnvROk_mk (l := []) trivial) (Checked.mixed Tryz.checked) (fn := Tryz.f31) (by kernel_rfl) (by kernel_rfl) rfl h
theorem Bfirst_spec (F : Nat) (l : List (List UInt8 × List UInt8)) (n : List UInt8) (hk : firstok l n) : ∀ (r : List (List UInt8 × List UInt8)) (f i : Nat), l.drop i = r → r.length < f → i ≤ l.length →
    Bfirst_1 F f n l (l.length : Int) (i : Int) = some (.tup [.p (.str (firstS r n).1), .p (.bool (firstS r n).2)], []) := by
  intro r
  induction r with
  | nil =>
    intro f i hd hf hi
    have : i = l.length := by have := congrArg List.length hd; simp at this; omega
    cases f with
    | zero => omega
    | succ f => rw [Bfirst_1_eq]; exact cond_f (by simp; omega) rfl
  | cons c r ih =>
    intro f i hd hf hi
    obtain ⟨h1, h2, h3⟩ := dropG hd ([], [])
    cases f with
    | zero => omega
    | succ f =>
      rw [Bfirst_1_eq, Int.toNat_natCast, h1]
      refine cond_t (by simp; omega) (need_mk ⟨by omega, by omega⟩ (need_mk (hk.2.1 c (by rw [← h1]; exact getD_mem h3 _)) (need_mk hk.1 ?_)))
      rw [firstS]
      by_cases he : foldS c.1 = foldS n
      · rw [if_pos he]; exact cond_t (by rw [he]; exact beq_self_eq_true _) rfl
      · rw [if_neg he]
        refine cond_f (by simpa using he) (need_mk (by have := hk.2.2; unfold i64ok; omega) ?_)
        rw [show (i : Int) + 1 = ((i + 1 : Nat) : Int) by omega]
        exact ih f (i + 1) h2 (by simp at hf; omega) (by omega)
theorem first_eq (l : List (List UInt8 × List UInt8)) (n : List UInt8) (hk : firstok l n) : Ffirst (l.length + 1) l n = some (.tup [.p (.str (firstS l n).1), .p (.bool (firstS l n).2)], []) := by
  rw [Ffirst_eq]
  exact Bfirst_spec _ l n hk l (l.length + 1) 0 rfl (by omega) (by omega)
def sp_first : List AV → Option (AV × Option Prop)
  | [.p (.list 2 (.dat (.pair .str .str) l)), .p (.str n)] => some (.tup [.p (.str ((firstS l n).1)), .p (.bool ((firstS l n).2))], some (firstok l n))
  | _ => none
theorem ok_first : SpecOk Tryz.prog 31 sp_first := by
  intro zs r ok he hok
  unfold sp_first at he
  split at he
  · cases he; exact ⟨by kernel_rfl, fn_first (_) _ _ _ fun hx => first_eq _ _ hok⟩
  · cases he






/-! ### Trim -/












/-! ### A field of a text -/








end Go.Proofs.YtoanepondbagcaaGreatDoor
namespace Go.Proofs.YtoanepondbagcaaGreatDoor
open Go Go.Am
set_option linter.unusedVariables false

noncomputable def Ghpl : Cfg := ⟨Tryz.prog, mkEnv [], mkEnvR [], 18, [], [], []⟩

noncomputable def Fhpl (F : Nat) (s p : List UInt8) : Option Ans := runF Ghpl Tryz.f130 F [.p (.str s), .p (.str p)]

theorem Fhpl_eq (F : Nat) (s p : List UInt8) : Fhpl F s p = (((need ((decide ((s.length : Int) ≥ (p.length : Int))) = true → 0 ≤ (p.length : Int) ∧ (p.length : Int) ≤ (s.length : Int)) ((((some (.p (.bool ((decide ((s.length : Int) ≥ (p.length : Int))) && ((s.take ((p.length : Int)).toNat) == p))), [])))))))) := by
  have h : Fhpl F s p = need ((decide ((s.length : Int) ≥ (p.length : Int))) = true → (decide ((s.length : Int) ≥ (p.length : Int))) = true) (need ((decide ((s.length : Int) ≥ (p.length : Int))) = true → (decide ((s.length : Int) ≥ (p.length : Int))) = true) (need ((decide ((s.length : Int) ≥ (p.length : Int))) = true → (decide ((s.length : Int) ≥ (p.length : Int))) = true) (need ((decide ((s.length : Int) ≥ (p.length : Int))) = true → 0 ≤ (p.length : Int) ∧ (p.length : Int) ≤ (s.length : Int)) (need ((decide ((s.length : Int) ≥ (p.length : Int))) = true → (decide ((s.length : Int) ≥ (p.length : Int))) = true) (need ((decide ((s.length : Int) ≥ (p.length : Int))) = true → (decide ((s.length : Int) ≥ (p.length : Int))) = true) (need ((decide ((s.length : Int) ≥ (p.length : Int))) = true → (decide ((s.length : Int) ≥ (p.length : Int))) = true) (some (.p (.bool ((decide ((s.length : Int) ≥ (p.length : Int))) && ((s.take ((p.length : Int)).toNat) == p))), [])))))))) := by kernel_rfl
  rw [h, need_pos (show (decide ((s.length : Int) ≥ (p.length : Int))) = true → (decide ((s.length : Int) ≥ (p.length : Int))) = true from (fun q0 => q0)), need_pos (show (decide ((s.length : Int) ≥ (p.length : Int))) = true → (decide ((s.length : Int) ≥ (p.length : Int))) = true from (fun q0 => q0)), need_pos (show (decide ((s.length : Int) ≥ (p.length : Int))) = true → (decide ((s.length : Int) ≥ (p.length : Int))) = true from (fun q0 => q0)), need_pos (show (decide ((s.length : Int) ≥ (p.length : Int))) = true → (decide ((s.length : Int) ≥ (p.length : Int))) = true from (fun q0 => q0)), need_pos (show (decide ((s.length : Int) ≥ (p.length : Int))) = true → (decide ((s.length : Int) ≥ (p.length : Int))) = true from (fun q0 => q0)), need_pos (show (decide ((s.length : Int) ≥ (p.length : Int))) = true → (decide ((s.length : Int) ≥ (p.length : Int))) = true from (fun q0 => q0))]

theorem fn_hpl (F : Nat) (s p : List UInt8) (r : AV) (h : (∃ M vs, ARels γ0 M [.p (.str s), .p (.str p)] vs) → Fhpl F s p = some (r, [])) : FnP Tryz.prog 130 [.p (.str s), .p (.str p)] r :=
  FnP_run Ghpl F rfl (EnvOk_mk (l := []) trivial) (EnvROk_mk (l := []) trivial) (Checked.mixed Tryz.checked) (fn := Tryz.f130) (by kernel_rfl) (by kernel_rfl) rfl h
def hasP (s p : List UInt8) : Bool := s.take p.length == p
theorem hpl_eq (s p : List UInt8) : Fhpl 0 s p = some (.p (.bool (hasP s p)), []) := by
  rw [Fhpl_eq]
  refine need_mk (fun h => ⟨by omega, by simpa using h⟩) ?_
  rw [show ((p.length : Int)).toNat = p.length from rfl]
  by_cases h : p.length ≤ s.length
  · rw [show decide ((s.length : Int) ≥ (p.length : Int)) = true by simpa using h]; rfl
  · rw [show decide ((s.length : Int) ≥ (p.length : Int)) = false by simpa using h, Bool.false_and]
    have : hasP s p = false := by
      unfold hasP
      rw [beq_eq_false_iff_ne]
      intro e
      have := congrArg List.length e
      simp at this; omega
    rw [this]
def sp_hpl : List AV → Option (AV × Option Prop)
  | [.p (.str s), .p (.str p)] => some (.p (.bool (hasP s p)), none)
  | _ => none
theorem ok_hpl : SpecOk Tryz.prog 130 sp_hpl := by
  intro zs r ok he hok
  unfold sp_hpl at he
  split at he
  · cases he; exact ⟨by kernel_rfl, fn_hpl 0 _ _ _ fun hx => hpl_eq _ _⟩
  · cases he

noncomputable def Ghp : Cfg := ⟨Tryz.prog, mkEnv [(130, sp_hpl)], mkEnvR [], 8, [], [], []⟩

noncomputable def Fhp (F : Nat) (s p : List UInt8) : Option Ans := runF Ghp Tryz.f98 F [.p (.str s), .p (.str p)]

theorem Fhp_eq (F : Nat) (s p : List UInt8) : Fhp F s p = some (.p (.bool (hasP s p)), []) := by kernel_rfl

theorem fn_hp (F : Nat) (s p : List UInt8) (r : AV) (h : (∃ M vs, ARels γ0 M [.p (.str s), .p (.str p)] vs) → Fhp F s p = some (r, [])) : FnP Tryz.prog 98 [.p (.str s), .p (.str p)] r :=
  FnP_run Ghp F rfl (EnvOk_mk (l := [(130, sp_hpl)]) ⟨ok_hpl.any, trivial⟩) (EnvROk_mk (l := []) trivial) (Checked.mixed Tryz.checked) (fn := Tryz.f98) (by kernel_rfl) (by kernel_rfl) rfl h
theorem hp_eq (s p : List UInt8) : Fhp 0 s p = some (.p (.bool (hasP s p)), []) := by rw [Fhp_eq]
def sp_hp : List AV → Option (AV × Option Prop)
  | [.p (.str s), .p (.str p)] => some (.p (.bool (hasP s p)), none)
  | _ => none
theorem ok_hp : SpecOk Tryz.prog 98 sp_hp := by
  intro zs r ok he hok
  unfold sp_hp at he
  split at he
  · cases he; exact ⟨by kernel_rfl, fn_hp 0 _ _ _ fun hx => hp_eq _ _⟩
  · cases he
end Go.Proofs.YtoanepondbagcaaGreatDoor
