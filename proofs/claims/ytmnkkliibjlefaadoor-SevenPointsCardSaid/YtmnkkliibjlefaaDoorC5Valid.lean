/-
  Lifted functions, and facts about them.
-/
import Derived.Test.YtmnkkliibjlefaaDoorRows
import Derived.Test.YtmnkkliibjlefaaDoorAmC
import Derived.Test.YtmnkkliibjlefaaDoorC5Utf8
namespace Go.Proofs.YtmnkkliibjlefaaDoor
open Go Go.Am
set_option linter.unusedVariables false
theorem szN_pos (c : UInt8) : 1 ≤ szN c ∧ szN c ≤ 4 := by unfold szN; split <;> (try split) <;> (try split) <;> omega
theorem getS_next {s : List UInt8} {i : Nat} (h : ¬ (getS s (i : Int)).1 < 0) : ∃ n : Nat, (getS s (i : Int)).2 = (n : Int) ∧ i < n ∧ n ≤ s.length := by
  unfold getS at *
  by_cases hb : ((i : Int) < 0 ∨ (i : Int) ≥ s.length)
  · rw [if_pos hb] at h; exact absurd (show (-1 : Int) < 0 by decide) h
  · rw [if_neg hb] at *
    rw [show ((i : Int)).toNat = i from rfl] at *
    dsimp only at *
    by_cases hl : szN (s.getD i 0) > s.length - i
    · rw [if_pos hl] at h; exact absurd (show (-1 : Int) < 0 by decide) h
    · rw [if_neg hl] at *
      unfold finV at *
      split at h
      · rename_i hp
        rw [if_pos hp]
        have := szN_pos (s.getD i 0)
        exact ⟨i + szN (s.getD i 0), by simp, by omega, by omega⟩
      · exact absurd (show (-1 : Int) < 0 by decide) h
def validF : Nat → List UInt8 → Int → Bool
  | 0, _, _ => true
  | f + 1, s, i => if i < s.length then if (getS s i).1 < 0 then false else validF f s (getS s i).2 else true
def validS (s : List UInt8) : Bool := validF (s.length + 1) s 0
noncomputable def cuvalid : Code := bodyOf Tryd.f18

noncomputable def Guvalid : Cfg := ⟨Tryd.prog, mkEnv [(22, sp_uget)], mkEnvR [], 19, [], [([0, 0, 1, 1], ⟨[0, 3], []⟩)], []⟩

noncomputable def Buvalid_1 (F f1 : Nat) (s : List UInt8) (vi1 : Int) : Option Ans := runR Guvalid cuvalid (kP Tryd.prog Tryd.f18.results.toList) F [] [1, 1, 0, 0] f1 [(0, .p (.str s)), (3, .p (.int .i64 vi1))] []

noncomputable def Fuvalid (F : Nat) (s : List UInt8) : Option Ans := runF Guvalid Tryd.f18 F [.p (.str s)]

theorem Buvalid_1_eq (F f1 : Nat) (s : List UInt8) (vi1 : Int) : Buvalid_1 F (f1 + 1) s vi1 = cond (decide (vi1 < (s.length : Int))) (need (posok s vi1) (cond (decide (((getS s vi1).1) < (0 : Int))) (some (.p (.bool false), [])) (Buvalid_1 F f1 s ((getS s vi1).2)))) (some (.p (.bool true), [])) := by kernel_rfl

theorem Fuvalid_eq (F : Nat) (s : List UInt8) : Fuvalid F s = Buvalid_1 F F s (0 : Int) := by kernel_rfl

theorem fn_uvalid (F : Nat) (s : List UInt8) (r : AV) (h : (∃ M vs, ARels γ0 M [.p (.str s)] vs) → Fuvalid F s = some (r, [])) : FnP Tryd.prog 18 [.p (.str s)] r :=
  FnP_run Guvalid F rfl (EnvOk_mk (l := [(22, sp_uget)]) ⟨ok_uget.any, trivial⟩) (EnvROk_mk (l := []) trivial) (Checked.mixed Tryd.checked) (fn := Tryd.f18) (by kernel_rfl) (by kernel_rfl) rfl h

noncomputable def crvalid : Code := bodyOf Tryd.f9

noncomputable def Grvalid : Cfg := ⟨Tryd.prog, mkEnv [(17, sp_rget)], mkEnvR [], 19, [], [([0, 1, 0, 1], ⟨[0, 3], []⟩)], []⟩

noncomputable def Brvalid_1 (F f1 : Nat) (s : List UInt8) (vi1 : Int) : Option Ans := runR Grvalid crvalid (kP Tryd.prog Tryd.f9.results.toList) F [] [1, 0, 1, 0] f1 [(0, .p (.str s)), (3, .p (.int .i64 vi1))] []

noncomputable def Frvalid (F : Nat) (s : List UInt8) : Option Ans := runF Grvalid Tryd.f9 F [.p (.str s)]

theorem Brvalid_1_eq (F f1 : Nat) (s : List UInt8) (vi1 : Int) : Brvalid_1 F (f1 + 1) s vi1 = cond (decide (vi1 < (s.length : Int))) (need (posok s vi1) (cond (decide (((getS s vi1).1) < (0 : Int))) (some (.p (.bool false), [])) (Brvalid_1 F f1 s ((getS s vi1).2)))) (some (.p (.bool true), [])) := by kernel_rfl

theorem Frvalid_eq (F : Nat) (s : List UInt8) : Frvalid F s = Brvalid_1 F F s (0 : Int) := by kernel_rfl

theorem fn_rvalid (F : Nat) (s : List UInt8) (r : AV) (h : (∃ M vs, ARels γ0 M [.p (.str s)] vs) → Frvalid F s = some (r, [])) : FnP Tryd.prog 9 [.p (.str s)] r :=
  FnP_run Grvalid F rfl (EnvOk_mk (l := [(17, sp_rget)]) ⟨ok_rget.any, trivial⟩) (EnvROk_mk (l := []) trivial) (Checked.mixed Tryd.checked) (fn := Tryd.f9) (by kernel_rfl) (by kernel_rfl) rfl h
theorem Buvalid_spec (F : Nat) (s : List UInt8) (hs : s.length ≤ 1000000) : ∀ (f i : Nat), s.length - i < f → i ≤ s.length → Buvalid_1 F f s (i : Int) = some (.p (.bool (validF f s (i : Int))), []) := by
  intro f
  induction f with
  | zero => intro i h; omega
  | succ f ih =>
    intro i hf hi
    rw [Buvalid_1_eq, validF]
    by_cases h1 : (i : Int) < s.length
    · refine cond_t (by simpa using h1) (need_mk ⟨by omega, by omega, hs⟩ ?_)
      rw [if_pos h1]
      by_cases h2 : (getS s (i : Int)).1 < 0
      · refine cond_t (by simpa using h2) ?_
        rw [if_pos h2]
      · refine cond_f (by simpa using h2) ?_
        rw [if_neg h2]
        obtain ⟨n, e, h3, h4⟩ := getS_next h2
        rw [e]
        exact ih n (by omega) h4
    · refine cond_f (by simpa using h1) ?_
      rw [if_neg h1]
theorem uvalid_eq (s : List UInt8) (hs : s.length ≤ 1000000) : Fuvalid (s.length + 1) s = some (.p (.bool (validS s)), []) := by
  rw [Fuvalid_eq]
  exact Buvalid_spec _ s hs (s.length + 1) 0 (by omega) (by omega)
def sp_uvalid : List AV → Option (AV × Option Prop)
  | [.p (.str s)] => some (.p (.bool (validS s)), some (s.length ≤ 1000000))
  | _ => none
theorem ok_uvalid : SpecOk Tryd.prog 18 sp_uvalid := by
  intro zs r ok he hok
  unfold sp_uvalid at he
  split at he
  · cases he; exact ⟨by kernel_rfl, fn_uvalid (_) _ _ fun hx => uvalid_eq _ hok⟩
  · cases he
theorem Brvalid_spec (F : Nat) (s : List UInt8) (hs : s.length ≤ 1000000) : ∀ (f i : Nat), s.length - i < f → i ≤ s.length → Brvalid_1 F f s (i : Int) = some (.p (.bool (validF f s (i : Int))), []) := by
  intro f
  induction f with
  | zero => intro i h; omega
  | succ f ih =>
    intro i hf hi
    rw [Brvalid_1_eq, validF]
    by_cases h1 : (i : Int) < s.length
    · refine cond_t (by simpa using h1) (need_mk ⟨by omega, by omega, hs⟩ ?_)
      rw [if_pos h1]
      by_cases h2 : (getS s (i : Int)).1 < 0
      · refine cond_t (by simpa using h2) ?_
        rw [if_pos h2]
      · refine cond_f (by simpa using h2) ?_
        rw [if_neg h2]
        obtain ⟨n, e, h3, h4⟩ := getS_next h2
        rw [e]
        exact ih n (by omega) h4
    · refine cond_f (by simpa using h1) ?_
      rw [if_neg h1]
theorem rvalid_eq (s : List UInt8) (hs : s.length ≤ 1000000) : Frvalid (s.length + 1) s = some (.p (.bool (validS s)), []) := by
  rw [Frvalid_eq]
  exact Brvalid_spec _ s hs (s.length + 1) 0 (by omega) (by omega)
def sp_rvalid : List AV → Option (AV × Option Prop)
  | [.p (.str s)] => some (.p (.bool (validS s)), some (s.length ≤ 1000000))
  | _ => none
theorem ok_rvalid : SpecOk Tryd.prog 9 sp_rvalid := by
  intro zs r ok he hok
  unfold sp_rvalid at he
  split at he
  · cases he; exact ⟨by kernel_rfl, fn_rvalid (_) _ _ fun hx => rvalid_eq _ hok⟩
  · cases he
theorem putS_len (v : Int) : (putS v).length ≤ 4 := by
  unfold putS
  split
  · simp
  · exact (putN_len _).1
end Go.Proofs.YtmnkkliibjlefaaDoor
