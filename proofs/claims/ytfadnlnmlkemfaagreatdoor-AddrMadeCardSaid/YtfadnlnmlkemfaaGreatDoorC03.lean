/-
  Lifted functions, and facts about them.
-/
import Derived.Test.YtfadnlnmlkemfaaGreatDoorRows
import Derived.Test.YtfadnlnmlkemfaaGreatDoorAmC
import Derived.Test.YtfadnlnmlkemfaaGreatDoorC01
import Derived.Test.YtfadnlnmlkemfaaGreatDoorC02
import Derived.WalkKit
namespace Go.Proofs.YtfadnlnmlkemfaaGreatDoor
open Go Go.Am
set_option linter.unusedVariables false
abbrev wposok (s : List UInt8) (i : Int) : Prop := 0 ≤ i ∧ i ≤ s.length ∧ s.length ≤ 100000
def inW (c : UInt8) : Bool := decide (33 ≤ c.toNat) && decide (c.toNat ≤ 126) && decide (c.toNat ≠ 63)
def isBl (c : UInt8) : Bool := c == 32 || c == 9
def runN (s : List UInt8) (i : Nat) : Nat := i + ((s.drop i).takeWhile inW).length
def blN (s : List UInt8) (i : Nat) : Nat := i + ((s.drop i).takeWhile isBl).length
def runS (s : List UInt8) (i : Int) : Int := (runN s i.toNat : Int)
def blankS (s : List UInt8) (i : Int) : Int := (blN s i.toNat : Int)
theorem tw_len {p : UInt8 → Bool} (l : List UInt8) : (l.takeWhile p).length ≤ l.length := by
  induction l with
  | nil => simp
  | cons c r ih => rw [List.takeWhile_cons]; split <;> simp <;> omega
theorem runN_le {s : List UInt8} {i : Nat} (h : i ≤ s.length) : i ≤ runN s i ∧ runN s i ≤ s.length := by
  have := tw_len (p := inW) (s.drop i)
  simp at this
  unfold runN; omega
theorem blN_le {s : List UInt8} {i : Nat} (h : i ≤ s.length) : i ≤ blN s i ∧ blN s i ≤ s.length := by
  have := tw_len (p := isBl) (s.drop i)
  simp at this
  unfold blN; omega
noncomputable def cwrun : Code := bodyOf Tryz.f46

noncomputable def Gwrun : Cfg := ⟨Tryz.prog, mkEnv [], mkEnvR [], 30, [], [([0, 0, 1], ⟨[0, 1], []⟩), ([1, 0, 0, 0, 0, 1], ⟨[0, 1, 26], []⟩)], []⟩

noncomputable def Bwrun_1 (F f1 : Nat) (s : List UInt8) (vi1 : Int) : Option Ans := runR Gwrun cwrun (kP Tryz.prog Tryz.f46.results.toList) F [] [1, 0, 0] f1 [(0, .p (.str s)), (1, .p (.int .i64 vi1))] []

noncomputable def Bwrun_2 (F f1 : Nat) (s : List UInt8) (vi1 : Int) (vc2 : Bool) : Option Ans := runB Gwrun cwrun (kP Tryz.prog Tryz.f46.results.toList) F [f1] [1, 0, 0, 0, 0, 1] [(0, .p (.str s)), (1, .p (.int .i64 vi1)), (26, .p (.bool vc2))] []

noncomputable def Fwrun (F : Nat) (s : List UInt8) (i : Int) : Option Ans := runF Gwrun Tryz.f46 F [.p (.str s), .p (.int .i64 i)]

theorem Bwrun_1_eq (F f1 : Nat) (s : List UInt8) (vi1 : Int) : Bwrun_1 F (f1 + 1) s vi1 = need ((decide (vi1 < (s.length : Int))) = true → 0 ≤ vi1 ∧ vi1 < (s.length : Int)) (need (((decide (vi1 < (s.length : Int))) && (decide (((s.getD (vi1).toNat 0).toNat : Int) ≥ (33 : Int)))) = true → 0 ≤ vi1 ∧ vi1 < (s.length : Int)) (need ((((decide (vi1 < (s.length : Int))) && (decide (((s.getD (vi1).toNat 0).toNat : Int) ≥ (33 : Int)))) && (decide (((s.getD (vi1).toNat 0).toNat : Int) ≤ (126 : Int)))) = true → 0 ≤ vi1 ∧ vi1 < (s.length : Int)) (Bwrun_2 F f1 s vi1 ((((decide (vi1 < (s.length : Int))) && (decide (((s.getD (vi1).toNat 0).toNat : Int) ≥ (33 : Int)))) && (decide (((s.getD (vi1).toNat 0).toNat : Int) ≤ (126 : Int)))) && (((s.getD (vi1).toNat 0).toNat : Int) != (63 : Int)))))) :=
  Eq.trans (show Bwrun_1 F (f1 + 1) s vi1 = need ((decide (vi1 < (s.length : Int))) = true → (decide (vi1 < (s.length : Int))) = true) (need ((decide (vi1 < (s.length : Int))) = true → (decide (vi1 < (s.length : Int))) = true) (need ((decide (vi1 < (s.length : Int))) = true → 0 ≤ vi1 ∧ vi1 < (s.length : Int)) (need ((decide (vi1 < (s.length : Int))) = true → (decide (vi1 < (s.length : Int))) = true) (need ((decide (vi1 < (s.length : Int))) = true → (decide (vi1 < (s.length : Int))) = true) (need (((decide (vi1 < (s.length : Int))) && (decide (((s.getD (vi1).toNat 0).toNat : Int) ≥ (33 : Int)))) = true → ((decide (vi1 < (s.length : Int))) && (decide (((s.getD (vi1).toNat 0).toNat : Int) ≥ (33 : Int)))) = true) (need (((decide (vi1 < (s.length : Int))) && (decide (((s.getD (vi1).toNat 0).toNat : Int) ≥ (33 : Int)))) = true → ((decide (vi1 < (s.length : Int))) && (decide (((s.getD (vi1).toNat 0).toNat : Int) ≥ (33 : Int)))) = true) (need (((decide (vi1 < (s.length : Int))) && (decide (((s.getD (vi1).toNat 0).toNat : Int) ≥ (33 : Int)))) = true → 0 ≤ vi1 ∧ vi1 < (s.length : Int)) (need (((decide (vi1 < (s.length : Int))) && (decide (((s.getD (vi1).toNat 0).toNat : Int) ≥ (33 : Int)))) = true → ((decide (vi1 < (s.length : Int))) && (decide (((s.getD (vi1).toNat 0).toNat : Int) ≥ (33 : Int)))) = true) (need (((decide (vi1 < (s.length : Int))) && (decide (((s.getD (vi1).toNat 0).toNat : Int) ≥ (33 : Int)))) = true → ((decide (vi1 < (s.length : Int))) && (decide (((s.getD (vi1).toNat 0).toNat : Int) ≥ (33 : Int)))) = true) (need ((((decide (vi1 < (s.length : Int))) && (decide (((s.getD (vi1).toNat 0).toNat : Int) ≥ (33 : Int)))) && (decide (((s.getD (vi1).toNat 0).toNat : Int) ≤ (126 : Int)))) = true → (((decide (vi1 < (s.length : Int))) && (decide (((s.getD (vi1).toNat 0).toNat : Int) ≥ (33 : Int)))) && (decide (((s.getD (vi1).toNat 0).toNat : Int) ≤ (126 : Int)))) = true) (need ((((decide (vi1 < (s.length : Int))) && (decide (((s.getD (vi1).toNat 0).toNat : Int) ≥ (33 : Int)))) && (decide (((s.getD (vi1).toNat 0).toNat : Int) ≤ (126 : Int)))) = true → (((decide (vi1 < (s.length : Int))) && (decide (((s.getD (vi1).toNat 0).toNat : Int) ≥ (33 : Int)))) && (decide (((s.getD (vi1).toNat 0).toNat : Int) ≤ (126 : Int)))) = true) (need ((((decide (vi1 < (s.length : Int))) && (decide (((s.getD (vi1).toNat 0).toNat : Int) ≥ (33 : Int)))) && (decide (((s.getD (vi1).toNat 0).toNat : Int) ≤ (126 : Int)))) = true → 0 ≤ vi1 ∧ vi1 < (s.length : Int)) (need ((((decide (vi1 < (s.length : Int))) && (decide (((s.getD (vi1).toNat 0).toNat : Int) ≥ (33 : Int)))) && (decide (((s.getD (vi1).toNat 0).toNat : Int) ≤ (126 : Int)))) = true → (((decide (vi1 < (s.length : Int))) && (decide (((s.getD (vi1).toNat 0).toNat : Int) ≥ (33 : Int)))) && (decide (((s.getD (vi1).toNat 0).toNat : Int) ≤ (126 : Int)))) = true) (need ((((decide (vi1 < (s.length : Int))) && (decide (((s.getD (vi1).toNat 0).toNat : Int) ≥ (33 : Int)))) && (decide (((s.getD (vi1).toNat 0).toNat : Int) ≤ (126 : Int)))) = true → (((decide (vi1 < (s.length : Int))) && (decide (((s.getD (vi1).toNat 0).toNat : Int) ≥ (33 : Int)))) && (decide (((s.getD (vi1).toNat 0).toNat : Int) ≤ (126 : Int)))) = true) (Bwrun_2 F f1 s vi1 ((((decide (vi1 < (s.length : Int))) && (decide (((s.getD (vi1).toNat 0).toNat : Int) ≥ (33 : Int)))) && (decide (((s.getD (vi1).toNat 0).toNat : Int) ≤ (126 : Int)))) && (((s.getD (vi1).toNat 0).toNat : Int) != (63 : Int)))))))))))))))))) by kernel_rfl) (need_strike (show (decide (vi1 < (s.length : Int))) = true → (decide (vi1 < (s.length : Int))) = true from (fun q0 => q0)) (need_strike (show (decide (vi1 < (s.length : Int))) = true → (decide (vi1 < (s.length : Int))) = true from (fun q0 => q0)) (need_congr (need_strike (show (decide (vi1 < (s.length : Int))) = true → (decide (vi1 < (s.length : Int))) = true from (fun q0 => q0)) (need_strike (show (decide (vi1 < (s.length : Int))) = true → (decide (vi1 < (s.length : Int))) = true from (fun q0 => q0)) (need_strike (show ((decide (vi1 < (s.length : Int))) && (decide (((s.getD (vi1).toNat 0).toNat : Int) ≥ (33 : Int)))) = true → ((decide (vi1 < (s.length : Int))) && (decide (((s.getD (vi1).toNat 0).toNat : Int) ≥ (33 : Int)))) = true from (fun q0 => q0)) (need_strike (show ((decide (vi1 < (s.length : Int))) && (decide (((s.getD (vi1).toNat 0).toNat : Int) ≥ (33 : Int)))) = true → ((decide (vi1 < (s.length : Int))) && (decide (((s.getD (vi1).toNat 0).toNat : Int) ≥ (33 : Int)))) = true from (fun q0 => q0)) (need_congr (need_strike (show ((decide (vi1 < (s.length : Int))) && (decide (((s.getD (vi1).toNat 0).toNat : Int) ≥ (33 : Int)))) = true → ((decide (vi1 < (s.length : Int))) && (decide (((s.getD (vi1).toNat 0).toNat : Int) ≥ (33 : Int)))) = true from (fun q0 => q0)) (need_strike (show ((decide (vi1 < (s.length : Int))) && (decide (((s.getD (vi1).toNat 0).toNat : Int) ≥ (33 : Int)))) = true → ((decide (vi1 < (s.length : Int))) && (decide (((s.getD (vi1).toNat 0).toNat : Int) ≥ (33 : Int)))) = true from (fun q0 => q0)) (need_strike (show (((decide (vi1 < (s.length : Int))) && (decide (((s.getD (vi1).toNat 0).toNat : Int) ≥ (33 : Int)))) && (decide (((s.getD (vi1).toNat 0).toNat : Int) ≤ (126 : Int)))) = true → (((decide (vi1 < (s.length : Int))) && (decide (((s.getD (vi1).toNat 0).toNat : Int) ≥ (33 : Int)))) && (decide (((s.getD (vi1).toNat 0).toNat : Int) ≤ (126 : Int)))) = true from (fun q0 => q0)) (need_strike (show (((decide (vi1 < (s.length : Int))) && (decide (((s.getD (vi1).toNat 0).toNat : Int) ≥ (33 : Int)))) && (decide (((s.getD (vi1).toNat 0).toNat : Int) ≤ (126 : Int)))) = true → (((decide (vi1 < (s.length : Int))) && (decide (((s.getD (vi1).toNat 0).toNat : Int) ≥ (33 : Int)))) && (decide (((s.getD (vi1).toNat 0).toNat : Int) ≤ (126 : Int)))) = true from (fun q0 => q0)) (need_congr (need_strike (show (((decide (vi1 < (s.length : Int))) && (decide (((s.getD (vi1).toNat 0).toNat : Int) ≥ (33 : Int)))) && (decide (((s.getD (vi1).toNat 0).toNat : Int) ≤ (126 : Int)))) = true → (((decide (vi1 < (s.length : Int))) && (decide (((s.getD (vi1).toNat 0).toNat : Int) ≥ (33 : Int)))) && (decide (((s.getD (vi1).toNat 0).toNat : Int) ≤ (126 : Int)))) = true from (fun q0 => q0)) (need_strike (show (((decide (vi1 < (s.length : Int))) && (decide (((s.getD (vi1).toNat 0).toNat : Int) ≥ (33 : Int)))) && (decide (((s.getD (vi1).toNat 0).toNat : Int) ≤ (126 : Int)))) = true → (((decide (vi1 < (s.length : Int))) && (decide (((s.getD (vi1).toNat 0).toNat : Int) ≥ (33 : Int)))) && (decide (((s.getD (vi1).toNat 0).toNat : Int) ≤ (126 : Int)))) = true from (fun q0 => q0)) (rfl))))))))))))))))

theorem Bwrun_2_eq (F f1 : Nat) (s : List UInt8) (vi1 : Int) (vc2 : Bool) : Bwrun_2 F f1 s vi1 vc2 = cond (vc2) (need (i64ok (vi1 + (1 : Int))) (Bwrun_1 F f1 s (vi1 + (1 : Int)))) (some (.p (.int .i64 vi1), [])) := by kernel_rfl

theorem Fwrun_eq (F : Nat) (s : List UInt8) (i : Int) : Fwrun F s i = Bwrun_1 F F s i := by kernel_rfl

theorem fn_wrun (F : Nat) (s : List UInt8) (i : Int) (r : AV) (h : (∃ M vs, ARels γ0 M [.p (.str s), .p (.int .i64 i)] vs) → Fwrun F s i = some (r, [])) : FnP Tryz.prog 46 [.p (.str s), .p (.int .i64 i)] r :=
  FnP_run Gwrun F rfl (EnvOk_mk (l := []) trivial) (EnvROk_mk (l := []) trivial) (Checked.mixed Tryz.checked) (fn := Tryz.f46) (by kernel_rfl) (by kernel_rfl) rfl h

noncomputable def cwbl : Code := bodyOf Tryz.f31

noncomputable def Gwbl : Cfg := ⟨Tryz.prog, mkEnv [], mkEnvR [], 24, [], [([0, 0, 1], ⟨[0, 1], []⟩), ([1, 0, 0, 0, 0, 1], ⟨[0, 1, 20], []⟩)], []⟩

noncomputable def Bwbl_1 (F f1 : Nat) (s : List UInt8) (vi1 : Int) : Option Ans := runR Gwbl cwbl (kP Tryz.prog Tryz.f31.results.toList) F [] [1, 0, 0] f1 [(0, .p (.str s)), (1, .p (.int .i64 vi1))] []

noncomputable def Bwbl_2 (F f1 : Nat) (s : List UInt8) (vi1 : Int) (vc2 : Bool) : Option Ans := runB Gwbl cwbl (kP Tryz.prog Tryz.f31.results.toList) F [f1] [1, 0, 0, 0, 0, 1] [(0, .p (.str s)), (1, .p (.int .i64 vi1)), (20, .p (.bool vc2))] []

noncomputable def Fwbl (F : Nat) (s : List UInt8) (i : Int) : Option Ans := runF Gwbl Tryz.f31 F [.p (.str s), .p (.int .i64 i)]

theorem Bwbl_1_eq (F f1 : Nat) (s : List UInt8) (vi1 : Int) : Bwbl_1 F (f1 + 1) s vi1 = need ((decide (vi1 < (s.length : Int))) = true → 0 ≤ vi1 ∧ vi1 < (s.length : Int)) (need (((decide (vi1 < (s.length : Int))) && (!(((s.getD (vi1).toNat 0).toNat : Int) == (32 : Int)))) = true → 0 ≤ vi1 ∧ vi1 < (s.length : Int)) (Bwbl_2 F f1 s vi1 ((decide (vi1 < (s.length : Int))) && ((((s.getD (vi1).toNat 0).toNat : Int) == (32 : Int)) || (((s.getD (vi1).toNat 0).toNat : Int) == (9 : Int)))))) :=
  Eq.trans (show Bwbl_1 F (f1 + 1) s vi1 = need ((decide (vi1 < (s.length : Int))) = true → (decide (vi1 < (s.length : Int))) = true) (need ((decide (vi1 < (s.length : Int))) = true → (decide (vi1 < (s.length : Int))) = true) (need ((decide (vi1 < (s.length : Int))) = true → 0 ≤ vi1 ∧ vi1 < (s.length : Int)) (need ((decide (vi1 < (s.length : Int))) = true → (decide (vi1 < (s.length : Int))) = true) (need ((decide (vi1 < (s.length : Int))) = true → (decide (vi1 < (s.length : Int))) = true) (need (((decide (vi1 < (s.length : Int))) && (!(((s.getD (vi1).toNat 0).toNat : Int) == (32 : Int)))) = true → ((decide (vi1 < (s.length : Int))) && (!(((s.getD (vi1).toNat 0).toNat : Int) == (32 : Int)))) = true) (need (((decide (vi1 < (s.length : Int))) && (!(((s.getD (vi1).toNat 0).toNat : Int) == (32 : Int)))) = true → ((decide (vi1 < (s.length : Int))) && (!(((s.getD (vi1).toNat 0).toNat : Int) == (32 : Int)))) = true) (need (((decide (vi1 < (s.length : Int))) && (!(((s.getD (vi1).toNat 0).toNat : Int) == (32 : Int)))) = true → 0 ≤ vi1 ∧ vi1 < (s.length : Int)) (need (((decide (vi1 < (s.length : Int))) && (!(((s.getD (vi1).toNat 0).toNat : Int) == (32 : Int)))) = true → ((decide (vi1 < (s.length : Int))) && (!(((s.getD (vi1).toNat 0).toNat : Int) == (32 : Int)))) = true) (need ((decide (vi1 < (s.length : Int))) = true → (decide (vi1 < (s.length : Int))) = true) (need ((decide (vi1 < (s.length : Int))) = true → (((s.getD (vi1).toNat 0).toNat : Int) == (32 : Int)) = false → ((decide (vi1 < (s.length : Int))) && (!(((s.getD (vi1).toNat 0).toNat : Int) == (32 : Int)))) = true) (need ((decide (vi1 < (s.length : Int))) = true → (decide (vi1 < (s.length : Int))) = true) (Bwbl_2 F f1 s vi1 ((decide (vi1 < (s.length : Int))) && ((((s.getD (vi1).toNat 0).toNat : Int) == (32 : Int)) || (((s.getD (vi1).toNat 0).toNat : Int) == (9 : Int)))))))))))))))) by kernel_rfl) (need_strike (show (decide (vi1 < (s.length : Int))) = true → (decide (vi1 < (s.length : Int))) = true from (fun q0 => q0)) (need_strike (show (decide (vi1 < (s.length : Int))) = true → (decide (vi1 < (s.length : Int))) = true from (fun q0 => q0)) (need_congr (need_strike (show (decide (vi1 < (s.length : Int))) = true → (decide (vi1 < (s.length : Int))) = true from (fun q0 => q0)) (need_strike (show (decide (vi1 < (s.length : Int))) = true → (decide (vi1 < (s.length : Int))) = true from (fun q0 => q0)) (need_strike (show ((decide (vi1 < (s.length : Int))) && (!(((s.getD (vi1).toNat 0).toNat : Int) == (32 : Int)))) = true → ((decide (vi1 < (s.length : Int))) && (!(((s.getD (vi1).toNat 0).toNat : Int) == (32 : Int)))) = true from (fun q0 => q0)) (need_strike (show ((decide (vi1 < (s.length : Int))) && (!(((s.getD (vi1).toNat 0).toNat : Int) == (32 : Int)))) = true → ((decide (vi1 < (s.length : Int))) && (!(((s.getD (vi1).toNat 0).toNat : Int) == (32 : Int)))) = true from (fun q0 => q0)) (need_congr (need_strike (show ((decide (vi1 < (s.length : Int))) && (!(((s.getD (vi1).toNat 0).toNat : Int) == (32 : Int)))) = true → ((decide (vi1 < (s.length : Int))) && (!(((s.getD (vi1).toNat 0).toNat : Int) == (32 : Int)))) = true from (fun q0 => q0)) (need_strike (show (decide (vi1 < (s.length : Int))) = true → (decide (vi1 < (s.length : Int))) = true from (fun q0 => q0)) (need_strike (show (decide (vi1 < (s.length : Int))) = true → (((s.getD (vi1).toNat 0).toNat : Int) == (32 : Int)) = false → ((decide (vi1 < (s.length : Int))) && (!(((s.getD (vi1).toNat 0).toNat : Int) == (32 : Int)))) = true from (fun q0 q1 => (and_mk q0 (not_mk q1)))) (need_strike (show (decide (vi1 < (s.length : Int))) = true → (decide (vi1 < (s.length : Int))) = true from (fun q0 => q0)) (rfl)))))))))))))

theorem Bwbl_2_eq (F f1 : Nat) (s : List UInt8) (vi1 : Int) (vc2 : Bool) : Bwbl_2 F f1 s vi1 vc2 = cond (vc2) (need (i64ok (vi1 + (1 : Int))) (Bwbl_1 F f1 s (vi1 + (1 : Int)))) (some (.p (.int .i64 vi1), [])) := by kernel_rfl

theorem Fwbl_eq (F : Nat) (s : List UInt8) (i : Int) : Fwbl F s i = Bwbl_1 F F s i := by kernel_rfl

theorem fn_wbl (F : Nat) (s : List UInt8) (i : Int) (r : AV) (h : (∃ M vs, ARels γ0 M [.p (.str s), .p (.int .i64 i)] vs) → Fwbl F s i = some (r, [])) : FnP Tryz.prog 31 [.p (.str s), .p (.int .i64 i)] r :=
  FnP_run Gwbl F rfl (EnvOk_mk (l := []) trivial) (EnvROk_mk (l := []) trivial) (Checked.mixed Tryz.checked) (fn := Tryz.f31) (by kernel_rfl) (by kernel_rfl) rfl h
theorem inW_dec (i : Int) (n : Nat) (c : UInt8) (h : i < (n : Int)) : ((((decide (i < (n : Int))) && (decide ((c.toNat : Int) ≥ (33 : Int)))) && (decide ((c.toNat : Int) ≤ (126 : Int)))) && ((c.toNat : Int) != (63 : Int))) = inW c := by
  rw [show decide (i < (n : Int)) = true by simpa using h, Bool.true_and]
  unfold inW
  congr 1
  · congr 1
    · exact decide_eq_decide.2 (by omega)
    · exact decide_eq_decide.2 (by omega)
  · by_cases e : c.toNat = 63
    · rw [e]; rfl
    · rw [show decide (c.toNat ≠ 63) = true by simpa using e]
      simp; omega
theorem Bwrun_spec (F : Nat) (s : List UInt8) (hs : s.length ≤ 1000000) : ∀ (r : List UInt8) (f i : Nat), s.drop i = r → r.length < f → i ≤ s.length →
    Bwrun_1 F f s (i : Int) = some (.p (.int .i64 ((i + (r.takeWhile inW).length : Nat) : Int)), []) := by
  intro r
  induction r with
  | nil =>
    intro f i hd hf hi
    have : i = s.length := by have := congrArg List.length hd; simp at this; omega
    cases f with
    | zero => omega
    | succ f =>
      have hd : decide ((i : Int) < (s.length : Int)) = false := by simp; omega
      rw [Bwrun_1_eq, hd]
      simp only [Bool.false_and]
      refine need_mk (fun h => by cases h) (need_mk (fun h => by cases h) (need_mk (fun h => by cases h) ?_))
      rw [Bwrun_2_eq]
      exact cond_f rfl rfl
  | cons c r ih =>
    intro f i hd hf hi
    obtain ⟨h1, h2, h3⟩ := drop_cons hd
    cases f with
    | zero => omega
    | succ f =>
      rw [Bwrun_1_eq]
      refine need_mk (fun _ => by omega) (need_mk (fun _ => by omega) (need_mk (fun _ => by omega) ?_))
      rw [Int.toNat_natCast, h1, inW_dec _ _ _ (by omega), Bwrun_2_eq, List.takeWhile_cons]
      by_cases hw : inW c = true
      · refine cond_t hw ?_
        refine need_mk (by first | omega | (unfold i64ok; omega) | (simp only [List.length_cons, List.length_nil]; omega) | (simp; omega) | simp) ?_
        have e : (i : Int) + 1 = ((i + 1 : Nat) : Int) := by omega
        rw [e, ih f (i + 1) h2 (by simp at hf; omega) (by omega), if_pos hw]
        congr 5
        simp only [List.length_cons]; omega
      · refine cond_f (by simpa using hw) ?_
        rw [if_neg hw]; rfl
theorem wrun_eq (s : List UInt8) (i : Int) (h : wposok s i) : Fwrun (s.length + 1) s i = some (.p (.int .i64 (runS s i)), []) := by
  obtain ⟨h0, h1, h2⟩ := h
  obtain ⟨i, rfl⟩ := Int.eq_ofNat_of_zero_le h0
  rw [Fwrun_eq]
  exact Bwrun_spec _ s (by omega) _ (s.length + 1) i rfl (by simp; omega) (by omega)
def sp_wrun : List AV → Option (AV × Option Prop)
  | [.p (.str s), .p (.int .i64 i)] => some (.p (.int .i64 (runS s i)), some (wposok s i))
  | _ => none
theorem ok_wrun : SpecOk Tryz.prog 46 sp_wrun := by
  intro zs r ok he hok
  unfold sp_wrun at he
  split at he
  · cases he; exact ⟨by kernel_rfl, fn_wrun (_) _ _ _ fun hx => wrun_eq _ _ hok⟩
  · cases he
theorem isBl_dec (c : UInt8) : (((c.toNat : Int) == (32 : Int)) || ((c.toNat : Int) == (9 : Int))) = isBl c := by
  unfold isBl
  have e : ∀ d : UInt8, ((c.toNat : Int) == (d.toNat : Int)) = (c == d) := fun d => by
    rw [Bool.eq_iff_iff]; simp only [beq_iff_eq]; exact u8_eq
  rw [← e 32, ← e 9]; rfl
theorem Bwbl_spec (F : Nat) (s : List UInt8) (hs : s.length ≤ 1000000) : ∀ (r : List UInt8) (f i : Nat), s.drop i = r → r.length < f → i ≤ s.length →
    Bwbl_1 F f s (i : Int) = some (.p (.int .i64 ((i + (r.takeWhile isBl).length : Nat) : Int)), []) := by
  intro r
  induction r with
  | nil =>
    intro f i hd hf hi
    have : i = s.length := by have := congrArg List.length hd; simp at this; omega
    cases f with
    | zero => omega
    | succ f =>
      have hd : decide ((i : Int) < (s.length : Int)) = false := by simp; omega
      rw [Bwbl_1_eq, hd]
      simp only [Bool.false_and]
      refine need_mk (fun h => by cases h) (need_mk (fun h => by cases h) ?_)
      rw [Bwbl_2_eq]
      exact cond_f rfl rfl
  | cons c r ih =>
    intro f i hd hf hi
    obtain ⟨h1, h2, h3⟩ := drop_cons hd
    cases f with
    | zero => omega
    | succ f =>
      have ht : decide ((i : Int) < (s.length : Int)) = true := by simp; omega
      rw [Bwbl_1_eq]
      refine need_mk (fun _ => by omega) (need_mk (fun _ => by omega) ?_)
      rw [Int.toNat_natCast, h1, isBl_dec, ht, Bool.true_and, Bwbl_2_eq, List.takeWhile_cons]
      by_cases hw : isBl c = true
      · refine cond_t hw ?_
        refine need_mk (by first | omega | (unfold i64ok; omega) | (simp only [List.length_cons, List.length_nil]; omega) | (simp; omega) | simp) ?_
        have e : (i : Int) + 1 = ((i + 1 : Nat) : Int) := by omega
        rw [e, ih f (i + 1) h2 (by simp at hf; omega) (by omega), if_pos hw]
        congr 5
        simp only [List.length_cons]; omega
      · refine cond_f (by simpa using hw) ?_
        rw [if_neg hw]; rfl
theorem wbl_eq (s : List UInt8) (i : Int) (h : wposok s i) : Fwbl (s.length + 1) s i = some (.p (.int .i64 (blankS s i)), []) := by
  obtain ⟨h0, h1, h2⟩ := h
  obtain ⟨i, rfl⟩ := Int.eq_ofNat_of_zero_le h0
  rw [Fwbl_eq]
  exact Bwbl_spec _ s (by omega) _ (s.length + 1) i rfl (by simp; omega) (by omega)
def sp_wbl : List AV → Option (AV × Option Prop)
  | [.p (.str s), .p (.int .i64 i)] => some (.p (.int .i64 (blankS s i)), some (wposok s i))
  | _ => none
theorem ok_wbl : SpecOk Tryz.prog 31 sp_wbl := by
  intro zs r ok he hok
  unfold sp_wbl at he
  split at he
  · cases he; exact ⟨by kernel_rfl, fn_wbl (_) _ _ _ fun hx => wbl_eq _ _ hok⟩
  · cases he
noncomputable def csays : Code := bodyOf Tryz.f50

noncomputable def Gsays : Cfg := ⟨Tryz.prog, mkEnv [(64, sp_Fold), (65, sp_uvalid), (66, sp_Put)], mkEnvR [(30, sp_wstr), (32, sp_bstr)], 31, [], [([1, 0, 1, 0, 1], ⟨[1, 9, 10], []⟩), ([0, 1, 0, 1, 0, 1, 1, 1, 0, 1, 0, 1], ⟨[1, 6, 19, 20], [⟨.slot 6, 6, .cells []⟩, ⟨.cell 6 1, 7001, (.barr 5 false [])⟩]⟩)], [([1, 0, 0, 1, 1, 0, 0, 1, 0, 1, 0, 1, 1, 1, 0, 1, 0, 1], [5]), ([0, 1, 1, 0, 1, 1, 1, 0, 1, 0, 1], [0])]⟩

noncomputable def Bsays_1 (F : Nat) (b vs1 : List UInt8) (vc2 : Bool) : Option Ans := runB Gsays csays (kP Tryz.prog Tryz.f50.results.toList) F [] [1, 0, 1, 0, 1] [(1, .p (.str b)), (9, .p (.str vs1)), (10, .p (.bool vc2))] []

noncomputable def Bsays_2 (F f1 : Nat) (b : List UInt8) (vi3 vi4 : Int) (vb5 : List UInt8) : Option Ans := runR Gsays csays (kP Tryz.prog Tryz.f50.results.toList) F [] [1, 0, 1, 0, 1, 1, 1, 0, 1, 0, 1, 0] f1 [(1, .p (.str b)), (6, .ref 6 0), (19, .p (.int .i64 vi3)), (20, .p (.int .i64 vi4))] [(6, .bldr 67 (.arr 7001)), (7001, .barr 5 false vb5)]

noncomputable def Fsays (F : Nat) (s b : List UInt8) : Option Ans := runF Gsays Tryz.f50 F [.p (.str s), .p (.str b)]

theorem Bsays_1_eq (F : Nat) (b vs1 : List UInt8) (vc2 : Bool) : Bsays_1 F b vs1 vc2 = cond (vc2) (need (b.length ≤ 1000000) (some (.tup [.p (.str b), .p (.bool (validS b))], []))) (cond (vs1 == ([105, 115, 111, 45, 56, 56, 53, 57, 45, 49] : List UInt8)) (Bsays_2 F F b (b.length : Int) (0 : Int) []) (some (.tup [.p (.str ([] : List UInt8)), .p (.bool false)], []))) := by kernel_rfl

theorem Bsays_2_eq (F f1 : Nat) (b : List UInt8) (vi3 vi4 : Int) (vb5 : List UInt8) : Bsays_2 F (f1 + 1) b vi3 vi4 vb5 = cond (decide (vi4 < vi3)) (need (0 ≤ vi4 ∧ vi4 < (b.length : Int)) (need (-1000000000000 ≤ ((b.getD (vi4).toNat 0).toNat : Int) ∧ ((b.getD (vi4).toNat 0).toNat : Int) ≤ 1000000000000) (need (vb5.length + (putS ((b.getD (vi4).toNat 0).toNat : Int)).length ≤ 140737488355328) (need (i64ok (vi4 + (1 : Int))) (Bsays_2 F f1 b vi3 (vi4 + (1 : Int)) (vb5 ++ (putS ((b.getD (vi4).toNat 0).toNat : Int)))))))) (some (.tup [.p (.str vb5), .p (.bool true)], [])) := by kernel_rfl

theorem Fsays_eq (F : Nat) (s b : List UInt8) : Fsays F s b = need (s.length ≤ 140737488355328) (cond ((foldS s) == ([117, 116, 102, 45, 56] : List UInt8)) (Bsays_1 F b (foldS s) ((foldS s) == ([117, 116, 102, 45, 56] : List UInt8))) (Bsays_1 F b (foldS s) ((foldS s) == ([117, 115, 45, 97, 115, 99, 105, 105] : List UInt8)))) := by kernel_rfl

theorem fn_says (F : Nat) (s b : List UInt8) (r : AV) (h : (∃ M vs, ARels γ0 M [.p (.str s), .p (.str b)] vs) → Fsays F s b = some (r, [])) : FnP Tryz.prog 50 [.p (.str s), .p (.str b)] r :=
  FnP_run Gsays F rfl (EnvOk_mk (l := [(64, sp_Fold), (65, sp_uvalid), (66, sp_Put)]) ⟨ok_Fold.any, ok_uvalid.any, ok_Put.any, trivial⟩) (EnvROk_mk (l := [(30, sp_wstr), (32, sp_bstr)]) ⟨ok_wstr, ok_bstr, trivial⟩) (Checked.mixed Tryz.checked) (fn := Tryz.f50) (by kernel_rfl) (by kernel_rfl) rfl h
abbrev cUtf8 : List UInt8 := [117, 116, 102, 45, 56]
abbrev cAscii : List UInt8 := [117, 115, 45, 97, 115, 99, 105, 105]
abbrev cIso : List UInt8 := [105, 115, 111, 45, 56, 56, 53, 57, 45, 49]
def saysS (s b : List UInt8) : List UInt8 × Bool :=
  if foldS s = cUtf8 ∨ foldS s = cAscii then (b, validS b) else if foldS s = cIso then (bytesS b, true) else ([], false)
def saysT (p : List UInt8 × Bool) : AV := .tup [.p (.str p.1), .p (.bool p.2)]
theorem Bsays_spec (F : Nat) (s : List UInt8) (hs : s.length ≤ 1000000) : ∀ (r : List UInt8) (f i : Nat) (acc : List UInt8), s.drop i = r → acc.length ≤ 4 * i → r.length < f → i ≤ s.length →
    Bsays_2 F f s (s.length : Int) (i : Int) acc = some (saysT (acc ++ bytesS r, true), []) := by
  intro r
  induction r with
  | nil =>
    intro f i acc hd ha hf hi
    have : i = s.length := by have := congrArg List.length hd; simp at this; omega
    cases f with
    | zero => omega
    | succ f =>
      rw [Bsays_2_eq]
      refine cond_f (by first | omega | (unfold i64ok; omega) | (simp only [List.length_cons, List.length_nil]; omega) | (simp; omega) | simp) ?_
      simp [bytesS, saysT]
  | cons c r ih =>
    intro f i acc hd ha hf hi
    obtain ⟨h1, h2, h3⟩ := drop_cons hd
    cases f with
    | zero => omega
    | succ f =>
      have hlt := c.toNat_lt
      have hl := putS_len (c.toNat : Int)
      rw [Bsays_2_eq]
      refine cond_t (by first | omega | (unfold i64ok; omega) | (simp only [List.length_cons, List.length_nil]; omega) | (simp; omega) | simp) ?_
      refine need_mk (by first | omega | (unfold i64ok; omega) | (simp only [List.length_cons, List.length_nil]; omega) | (simp; omega) | simp) ?_
      rw [Int.toNat_natCast, h1]
      refine need_mk (by first | omega | (unfold i64ok; omega) | (simp only [List.length_cons, List.length_nil]; omega) | (simp; omega) | simp) ?_
      refine need_mk (by omega) ?_
      refine need_mk (by first | omega | (unfold i64ok; omega) | (simp only [List.length_cons, List.length_nil]; omega) | (simp; omega) | simp) ?_
      have e : (i : Int) + 1 = ((i + 1 : Nat) : Int) := by omega
      rw [e, ih f (i + 1) _ h2 (by simp; omega) (by simp at hf; omega) (by omega)]
      simp [bytesS]
theorem says_eq (s b : List UInt8) (h : s.length ≤ 1000000 ∧ b.length ≤ 1000000) : Fsays (b.length + 1) s b = some (saysT (saysS s b), []) := by
  rw [Fsays_eq, saysS]
  refine need_mk (by have := h.1; omega) ?_
  generalize foldS s = q
  have hyes : q = cUtf8 ∨ q = cAscii → Bsays_1 (b.length + 1) b q true = some (saysT (if q = cUtf8 ∨ q = cAscii then (b, validS b) else if q = cIso then (bytesS b, true) else ([], false)), []) := fun hq => by
    rw [Bsays_1_eq, if_pos hq]
    exact cond_t rfl (need_mk h.2 rfl)
  have hno : ¬ (q = cUtf8 ∨ q = cAscii) → Bsays_1 (b.length + 1) b q false = some (saysT (if q = cUtf8 ∨ q = cAscii then (b, validS b) else if q = cIso then (bytesS b, true) else ([], false)), []) := fun hq => by
    rw [Bsays_1_eq, if_neg hq]
    refine cond_f rfl ?_
    by_cases hi : q = cIso
    · refine cond_t (by rw [hi]; rfl) ?_
      rw [if_pos hi]
      exact Bsays_spec _ b h.2 b (b.length + 1) 0 [] rfl (by simp) (by omega) (by omega)
    · refine cond_f (by simpa using hi) ?_
      rw [if_neg hi]; rfl
  by_cases h1 : q = cUtf8
  · refine cond_t (by rw [h1]; rfl) ?_
    rw [show (q == ([117, 116, 102, 45, 56] : List UInt8)) = true by rw [h1]; rfl]
    exact hyes (.inl h1)
  · refine cond_f (by simpa using h1) ?_
    by_cases h2 : q = cAscii
    · rw [show (q == ([117, 115, 45, 97, 115, 99, 105, 105] : List UInt8)) = true by rw [h2]; rfl]
      exact hyes (.inr h2)
    · rw [show (q == ([117, 115, 45, 97, 115, 99, 105, 105] : List UInt8)) = false by simpa using h2]
      exact hno (fun h => h.elim h1 h2)
def sp_says : List AV → Option (AV × Option Prop)
  | [.p (.str s), .p (.str b)] => some (.tup [.p (.str ((saysS s b).1)), .p (.bool ((saysS s b).2))], some (s.length ≤ 1000000 ∧ b.length ≤ 1000000))
  | _ => none
theorem ok_says : SpecOk Tryz.prog 50 sp_says := by
  intro zs r ok he hok
  unfold sp_says at he
  split at he
  · cases he; exact ⟨by kernel_rfl, fn_says (_) _ _ _ fun hx => says_eq _ _ hok⟩
  · cases he
end Go.Proofs.YtfadnlnmlkemfaaGreatDoor
/-! The long literals. -/
namespace Go.Proofs.YtfadnlnmlkemfaaGreatDoor
/-- 64 bytes. -/
def LB_7543b37f : List UInt8 := [65, 66, 67, 68, 69, 70, 71, 72, 73, 74, 75, 76, 77, 78, 79, 80, 81, 82, 83, 84, 85, 86, 87, 88, 89, 90, 97, 98, 99, 100, 101, 102, 103, 104, 105, 106, 107, 108, 109, 110, 111, 112, 113, 114, 115, 116, 117, 118, 119, 120, 121, 122, 48, 49, 50, 51, 52, 53, 54, 55, 56, 57, 43, 47]
end Go.Proofs.YtfadnlnmlkemfaaGreatDoor
namespace Go.Proofs.YtfadnlnmlkemfaaGreatDoor
open Go Go.Am
set_option linter.unusedVariables false
/-! Base64: what the small functions answer. -/

theorem alpha_len : LB_7543b37f.length = 64 := by decide

end Go.Proofs.YtfadnlnmlkemfaaGreatDoor
namespace Go.Proofs.YtfadnlnmlkemfaaGreatDoor
open Go Go.Am
set_option linter.unusedVariables false
/-! What base64.Encode and the document's letters compute. -/



end Go.Proofs.YtfadnlnmlkemfaaGreatDoor
namespace Go.Proofs.YtfadnlnmlkemfaaGreatDoor
open Go Go.Am
set_option linter.unusedVariables false
def Fixb (fuel : Nat) (s : List UInt8) (c : Int) : Option Int := some (ixS s c)

noncomputable def cixb : Code := bodyOf Tryz.f16

def envixb : Env := mkEnv [(23, sp_ixbl)]

theorem envixb_ok : EnvOk Tryz.prog envixb := EnvOk_mk ⟨ok_ixbl.any, trivial⟩

theorem Tixb (fuel : Nat) (s : List UInt8) (c res : Int) (h : Fixb fuel s c = some res) (C : Ctx) (hC : CtxOk C 8 []) :
    T Tryz.prog C (at_ cixb []) (mkS [(0, .p (.str s)), (1, .p (.int .u8 c))] []) (Qend Tryz.prog C Tryz.f16.results.toList (.p (.int .i64 res))) := by
  have henv := envixb_ok
  unfold Fixb at h
  refine T_seqp (p := []) (by kernel_rfl) ?_
  refine T_reg henv hC [] [(0, .p (.str s)), (1, .p (.int .u8 c))] [] [] (by kernel_rfl) (by kernel_rfl) trivial (fun s1 hs1 => ?_)
  refine (T.weaken ?_ hs1 : T Tryz.prog C (at_ cixb [1]) _ _)
  refine T_seqp (p := [1]) (by kernel_rfl) ?_
  refine T_reg henv hC [] [(4, .p (.int .i64 (ixS s c)))] [] [] (by kernel_rfl) (by kernel_rfl) trivial (fun s1 hs1 => ?_)
  refine (T.weaken ?_ hs1 : T Tryz.prog C (at_ cixb [1, 1]) _ _)
  refine T_retp (p := [1, 1]) (by kernel_rfl) ?_
  have h := Option.some.inj h; subst h
  exact ⟨mkS [(4, .p (.int .i64 (ixS s c)))] [], (Sub.refl _), by kernel_rfl⟩

theorem fn_ixb (fuel : Nat) (s : List UInt8) (c res : Int) (h : (∃ M vs, ARels γ0 M [.p (.str s), .p (.int .u8 c)] vs) → Fixb fuel s c = some res) : FnP Tryz.prog 16 [.p (.str s), .p (.int .u8 c)] (.p (.int .i64 res)) :=
  FnP_lift (fn := Tryz.f16) (by kernel_rfl) (by kernel_rfl) fun M vs hvs C hC0 => have hC : CtxOk C 8 [] := ⟨hC0.nt.trans (by kernel_rfl), hC0.fx⟩; T.weaken (Tixb fuel s c res (h ⟨M, vs, hvs⟩) C hC) (sinit_sub hC (by kernel_rfl) (by kernel_rfl))
def sp_ixb : List AV → Option (AV × Option Prop) := sp_extib
theorem ok_ixb : SpecOk Tryz.prog 16 sp_ixb := by
  intro zs r ok h hok
  unfold sp_ixb sp_extib at h
  split at h
  · cases h; exact ⟨by kernel_rfl, fn_ixb 0 _ _ _ fun _ => rfl⟩
  · cases h
end Go.Proofs.YtfadnlnmlkemfaaGreatDoor
namespace Go.Proofs.YtfadnlnmlkemfaaGreatDoor
open Go Go.Am
set_option linter.unusedVariables false
def BLoose_2 (fuel : Nat)  (vb4 : List UInt8) : Option (List UInt8) := some vb4

def BLoose_1 (fuel : Nat)  (vi1 : Int) (vi2 : Int) (vb3 : List UInt8) : Option (List UInt8) := if (vi2 == (2 : Int)) = true then (if (0 ≤ (4 : Int)) ∧ ((vb3.length + [UInt8.ofNat (IntKind.u8.wrap (vi1.fdiv (2 ^ (min ((4 : Int)).toNat 64)))).toNat].length) * 1 ≤ 140737488355328) then (BLoose_2 fuel (vb3 ++ [UInt8.ofNat (IntKind.u8.wrap (vi1.fdiv (2 ^ (min ((4 : Int)).toNat 64)))).toNat])) else none) else (if (vi2 == (3 : Int)) = true then (if (0 ≤ (10 : Int)) ∧ (0 ≤ (2 : Int)) ∧ ((vb3.length + [UInt8.ofNat (IntKind.u8.wrap (vi1.fdiv (2 ^ (min ((10 : Int)).toNat 64)))).toNat, UInt8.ofNat (IntKind.u8.wrap (vi1.fdiv (2 ^ (min ((2 : Int)).toNat 64)))).toNat].length) * 1 ≤ 140737488355328) then (BLoose_2 fuel (vb3 ++ [UInt8.ofNat (IntKind.u8.wrap (vi1.fdiv (2 ^ (min ((10 : Int)).toNat 64)))).toNat, UInt8.ofNat (IntKind.u8.wrap (vi1.fdiv (2 ^ (min ((2 : Int)).toNat 64)))).toNat])) else none) else (BLoose_2 fuel vb3))

def BLoose_4 (fuel : Nat) (k3 : List UInt8 → Int → Int → Int → Int → List UInt8 → Option (List UInt8)) (s : List UInt8) (vi10 vi11 vi7 vi8 : Int) (vb12 : List UInt8) : Option (List UInt8) := if i64ok (vi8 + (1 : Int)) then (k3 s vi10 vi11 vi7 (vi8 + (1 : Int)) vb12) else none

def BLoose_3 (fuel : Nat)  : Nat → List UInt8 → Int → Int → Int → Int → List UInt8 → Option (List UInt8)
  | 0, _, _, _, _, _, _ => none
  | f3 + 1, s, vi5, vi6, vi7, vi8, vb9 => if (decide (vi8 < vi7)) = true then (if 0 ≤ vi8 ∧ vi8 < (s.length : Int) then (if (((s.getD (vi8).toNat 0).toNat : Int) == (61 : Int)) = true then (BLoose_1 fuel vi5 vi6 vb9) else (if 0 ≤ vi8 ∧ vi8 < (s.length : Int) then (if (decide ((ixS LB_7543b37f ((s.getD (vi8).toNat 0).toNat : Int)) < (0 : Int))) = true then (BLoose_4 fuel (BLoose_3 fuel f3) s vi5 vi6 vi7 vi8 vb9) else (if 0 ≤ (6 : Int) then (if i64ok (vi6 + (1 : Int)) then (if ((vi6 + (1 : Int)) == (4 : Int)) = true then (if (0 ≤ (16 : Int)) ∧ (0 ≤ (8 : Int)) ∧ ((vb9.length + [UInt8.ofNat (IntKind.u8.wrap ((ibits .or .i64 (IntKind.i64.wrap (vi5 * 2 ^ (min ((6 : Int)).toNat 64))) (ixS LB_7543b37f ((s.getD (vi8).toNat 0).toNat : Int))).fdiv (2 ^ (min ((16 : Int)).toNat 64)))).toNat, UInt8.ofNat (IntKind.u8.wrap ((ibits .or .i64 (IntKind.i64.wrap (vi5 * 2 ^ (min ((6 : Int)).toNat 64))) (ixS LB_7543b37f ((s.getD (vi8).toNat 0).toNat : Int))).fdiv (2 ^ (min ((8 : Int)).toNat 64)))).toNat, UInt8.ofNat (IntKind.u8.wrap (ibits .or .i64 (IntKind.i64.wrap (vi5 * 2 ^ (min ((6 : Int)).toNat 64))) (ixS LB_7543b37f ((s.getD (vi8).toNat 0).toNat : Int)))).toNat].length) * 1 ≤ 140737488355328) then (BLoose_4 fuel (BLoose_3 fuel f3) s (0 : Int) (0 : Int) vi7 vi8 (vb9 ++ [UInt8.ofNat (IntKind.u8.wrap ((ibits .or .i64 (IntKind.i64.wrap (vi5 * 2 ^ (min ((6 : Int)).toNat 64))) (ixS LB_7543b37f ((s.getD (vi8).toNat 0).toNat : Int))).fdiv (2 ^ (min ((16 : Int)).toNat 64)))).toNat, UInt8.ofNat (IntKind.u8.wrap ((ibits .or .i64 (IntKind.i64.wrap (vi5 * 2 ^ (min ((6 : Int)).toNat 64))) (ixS LB_7543b37f ((s.getD (vi8).toNat 0).toNat : Int))).fdiv (2 ^ (min ((8 : Int)).toNat 64)))).toNat, UInt8.ofNat (IntKind.u8.wrap (ibits .or .i64 (IntKind.i64.wrap (vi5 * 2 ^ (min ((6 : Int)).toNat 64))) (ixS LB_7543b37f ((s.getD (vi8).toNat 0).toNat : Int)))).toNat])) else none) else (BLoose_4 fuel (BLoose_3 fuel f3) s (ibits .or .i64 (IntKind.i64.wrap (vi5 * 2 ^ (min ((6 : Int)).toNat 64))) (ixS LB_7543b37f ((s.getD (vi8).toNat 0).toNat : Int))) (vi6 + (1 : Int)) vi7 vi8 vb9)) else none) else none)) else none)) else none) else (BLoose_1 fuel vi5 vi6 vb9)

def FLoose (fuel : Nat) (s : List UInt8) : Option (List UInt8) := BLoose_3 fuel fuel s (0 : Int) (0 : Int) (s.length : Int) (0 : Int) []

noncomputable def cLoose : Code := bodyOf Tryz.f47

def envLoose : Env := mkEnv [(16, sp_ixb)]

theorem envLoose_ok : EnvOk Tryz.prog envLoose := EnvOk_mk ⟨ok_ixb.any, trivial⟩

theorem TLoose (fuel : Nat) (s res : List UInt8) (h : FLoose fuel s = some res) (C : Ctx) (hC : CtxOk C 65 []) :
    T Tryz.prog C (at_ cLoose []) (mkS [(0, .p (.str s))] []) (Qend Tryz.prog C Tryz.f47.results.toList (.p (.str res))) := by
  have henv := envLoose_ok
  unfold FLoose at h
  refine T_seqp (p := []) (by kernel_rfl) ?_
  refine T_reg henv hC [] [(0, .p (.str s))] [] [] (by kernel_rfl) (by kernel_rfl) trivial (fun s1 hs1 => ?_)
  refine (T.weaken ?_ hs1 : T Tryz.prog C (at_ cLoose [1]) _ _)
  refine T_seqp (p := [1]) (by kernel_rfl) ?_
  refine T_reg henv hC [(3, none)] [(0, .p (.str s)), (3, .arr 3)] [(3, .barr 5 false [])] [] (by kernel_rfl) (by kernel_rfl) trivial (fun s1 hs1 => ?_)
  refine (T.weaken ?_ hs1 : T Tryz.prog C (at_ cLoose [1, 1]) _ _)
  refine T_seqp (p := [1, 1]) (by kernel_rfl) ?_
  refine T_reg henv hC [(3, some 3)] [(0, .p (.str s)), (3, .arr 3), (4, .p (.int .i64 (0 : Int))), (5, .p (.int .i64 (0 : Int)))] [(3, .barr 5 false [])] [] (by kernel_rfl) (by kernel_rfl) trivial (fun s1 hs1 => ?_)
  refine (T.weaken ?_ hs1 : T Tryz.prog C (at_ cLoose [1, 1, 1]) _ _)
  refine T_join (p := [1, 1, 1]) (by kernel_rfl) (fun s2 => ∃ (vi1 : Int) (vi2 : Int) (vb3 : List UInt8), BLoose_1 fuel vi1 vi2 vb3 = some res ∧ Sub C s2 (mkS [(3, .arr 3), (4, .p (.int .i64 vi1)), (5, .p (.int .i64 vi2))] [(3, .barr 5 false vb3)])) ?_ ?_
  · refine T_seqp (p := [1, 1, 1, 0]) (by kernel_rfl) ?_
    refine T_reg henv hC [(3, some 3)] [(0, .p (.str s)), (3, .arr 3), (4, .p (.int .i64 (0 : Int))), (5, .p (.int .i64 (0 : Int))), (9, .p (.int .i64 (s.length : Int))), (10, .p (.int .i64 (0 : Int)))] [(3, .barr 5 false [])] [] (by kernel_rfl) (by kernel_rfl) trivial (fun s1 hs1 => ?_)
    refine (T.weaken ?_ hs1 : T Tryz.prog C (at_ cLoose [1, 1, 1, 0, 1]) _ _)
    refine T_blockp (p := [1, 1, 1, 0, 1]) 0 (by kernel_rfl) ?_
    refine T.weaken ?_ (Sub_view (l := [(0, .p (.str s)), (3, .arr 3), (4, .p (.int .i64 (0 : Int))), (5, .p (.int .i64 (0 : Int))), (9, .p (.int .i64 (s.length : Int))), (10, .p (.int .i64 (0 : Int)))]) (o := [(3, .barr 5 false [])]) hC [(3, some 3)] (by kernel_rfl) (by kernel_rfl) (by kernel_rfl))
    refine T_loopp (p := [1, 1, 1, 0, 1, 0]) (by kernel_rfl) (fun f3 s2 => ∃ (s : List UInt8) (vi5 : Int) (vi6 : Int) (vi7 : Int) (vi8 : Int) (vb9 : List UInt8), s2 = mkS [(0, .p (.str s)), (3, .arr 3), (4, .p (.int .i64 vi5)), (5, .p (.int .i64 vi6)), (9, .p (.int .i64 vi7)), (10, .p (.int .i64 vi8))] [(3, .barr 5 false vb9)] ∧ BLoose_3 fuel f3 s vi5 vi6 vi7 vi8 vb9 = some res) ?_ fuel ⟨s, (0 : Int), (0 : Int), (s.length : Int), (0 : Int), [], rfl, h⟩
    rintro f3 s2 ⟨s, vi5, vi6, vi7, vi8, vb9, rfl, h⟩
    cases f3 with
    | zero => cases h
    | succ f3 =>
      rw [BLoose_3] at h
      refine T_seqp (p := [1, 1, 1, 0, 1, 0, 0]) (by kernel_rfl) ?_
      refine T_reg henv hC [(3, some 3)] [(0, .p (.str s)), (3, .arr 3), (4, .p (.int .i64 vi5)), (5, .p (.int .i64 vi6)), (9, .p (.int .i64 vi7)), (10, .p (.int .i64 vi8)), (11, .p (.bool (decide (vi8 < vi7))))] [(3, .barr 5 false vb9)] [] (by kernel_rfl) (by kernel_rfl) trivial (fun s1 hs1 => ?_)
      refine (T.weaken ?_ hs1 : T Tryz.prog C (at_ cLoose [1, 1, 1, 0, 1, 0, 0, 1]) _ _)
      refine T_seqp (p := [1, 1, 1, 0, 1, 0, 0, 1]) (by kernel_rfl) ?_
      refine T_condp (p := [1, 1, 1, 0, 1, 0, 0, 1, 0]) (by kernel_rfl) (decide (vi8 < vi7)) (by kernel_rfl) (fun hb => ?_) (fun hb => ?_)
      · have h := ite_t h hb
        refine T_skipp (p := [1, 1, 1, 0, 1, 0, 0, 1, 0, 0]) (by kernel_rfl) ?_
        refine (T.weaken ?_ (Sub.refl _) : T Tryz.prog C (at_ cLoose [1, 1, 1, 0, 1, 0, 0, 1, 1]) _ _)
        refine T_join (p := [1, 1, 1, 0, 1, 0, 0, 1, 1]) (by kernel_rfl) (fun s2 => ∃ (s : List UInt8) (vi10 : Int) (vi11 : Int) (vi7 : Int) (vi8 : Int) (vb12 : List UInt8), BLoose_4 fuel (BLoose_3 fuel f3) s vi10 vi11 vi7 vi8 vb12 = some res ∧ Sub C s2 (mkS [(0, .p (.str s)), (3, .arr 3), (4, .p (.int .i64 vi10)), (5, .p (.int .i64 vi11)), (9, .p (.int .i64 vi7)), (10, .p (.int .i64 vi8))] [(3, .barr 5 false vb12)])) ?_ ?_
        · refine T_blockp (p := [1, 1, 1, 0, 1, 0, 0, 1, 1, 0]) 1 (by kernel_rfl) ?_
          refine T_seqp (p := [1, 1, 1, 0, 1, 0, 0, 1, 1, 0, 0]) (by kernel_rfl) ?_
          refine T_reg henv hC [(3, some 3)] [(0, .p (.str s)), (3, .arr 3), (4, .p (.int .i64 vi5)), (5, .p (.int .i64 vi6)), (6, .p (.int .i64 vi8)), (9, .p (.int .i64 vi7)), (10, .p (.int .i64 vi8))] [(3, .barr 5 false vb9)] [] (by kernel_rfl) (by kernel_rfl) trivial (fun s1 hs1 => ?_)
          refine (T.weaken ?_ hs1 : T Tryz.prog C (at_ cLoose [1, 1, 1, 0, 1, 0, 0, 1, 1, 0, 0, 1]) _ _)
          refine T_seqp (p := [1, 1, 1, 0, 1, 0, 0, 1, 1, 0, 0, 1]) (by kernel_rfl) ?_
          refine T_seqp (p := [1, 1, 1, 0, 1, 0, 0, 1, 1, 0, 0, 1, 0]) (by kernel_rfl) ?_
          obtain ⟨hob, h⟩ := ite_get h
          refine T_reg henv hC [(3, some 3)] [(0, .p (.str s)), (3, .arr 3), (4, .p (.int .i64 vi5)), (5, .p (.int .i64 vi6)), (6, .p (.int .i64 vi8)), (9, .p (.int .i64 vi7)), (10, .p (.int .i64 vi8)), (16, .p (.bool (((s.getD (vi8).toNat 0).toNat : Int) == (61 : Int))))] [(3, .barr 5 false vb9)] [0 ≤ vi8 ∧ vi8 < (s.length : Int)] (by kernel_rfl) (by kernel_rfl) ⟨hob, trivial⟩ (fun s1 hs1 => ?_)
          refine (T.weaken ?_ hs1 : T Tryz.prog C (at_ cLoose [1, 1, 1, 0, 1, 0, 0, 1, 1, 0, 0, 1, 0, 1]) _ _)
          refine T_condp (p := [1, 1, 1, 0, 1, 0, 0, 1, 1, 0, 0, 1, 0, 1]) (by kernel_rfl) (((s.getD (vi8).toNat 0).toNat : Int) == (61 : Int)) (by kernel_rfl) (fun hb => ?_) (fun hb => ?_)
          · have h := ite_t h hb
            refine T_exitp (p := [1, 1, 1, 0, 1, 0, 0, 1, 1, 0, 0, 1, 0, 1, 0]) 0 (by kernel_rfl) ?_
            refine then_exit ?_
            refine inblock_miss (by decide) ?_
            refine then_exit ?_
            refine then_exit ?_
            refine inblock_hit ?_
            exact ⟨vi5, vi6, vb9, h, Sub.trans (Sub.refl _) (Sub_view hC [(3, some 3)] (by kernel_rfl) (by kernel_rfl) (by kernel_rfl))⟩
          · have h := ite_f h hb
            refine T_skipp (p := [1, 1, 1, 0, 1, 0, 0, 1, 1, 0, 0, 1, 0, 1, 1]) (by kernel_rfl) ?_
            refine (T.weaken ?_ (Sub.refl _) : T Tryz.prog C (at_ cLoose [1, 1, 1, 0, 1, 0, 0, 1, 1, 0, 0, 1, 1]) _ _)
            refine T_seqp (p := [1, 1, 1, 0, 1, 0, 0, 1, 1, 0, 0, 1, 1]) (by kernel_rfl) ?_
            obtain ⟨hob, h⟩ := ite_get h
            refine T_reg henv hC [(3, some 3)] [(0, .p (.str s)), (3, .arr 3), (4, .p (.int .i64 vi5)), (5, .p (.int .i64 vi6)), (7, .p (.int .i64 (ixS LB_7543b37f ((s.getD (vi8).toNat 0).toNat : Int)))), (9, .p (.int .i64 vi7)), (10, .p (.int .i64 vi8))] [(3, .barr 5 false vb9)] [0 ≤ vi8 ∧ vi8 < (s.length : Int)] (by kernel_rfl) (by kernel_rfl) ⟨hob, trivial⟩ (fun s1 hs1 => ?_)
            refine (T.weaken ?_ hs1 : T Tryz.prog C (at_ cLoose [1, 1, 1, 0, 1, 0, 0, 1, 1, 0, 0, 1, 1, 1]) _ _)
            refine T_seqp (p := [1, 1, 1, 0, 1, 0, 0, 1, 1, 0, 0, 1, 1, 1]) (by kernel_rfl) ?_
            refine T_seqp (p := [1, 1, 1, 0, 1, 0, 0, 1, 1, 0, 0, 1, 1, 1, 0]) (by kernel_rfl) ?_
            refine T_reg henv hC [(3, some 3)] [(0, .p (.str s)), (3, .arr 3), (4, .p (.int .i64 vi5)), (5, .p (.int .i64 vi6)), (7, .p (.int .i64 (ixS LB_7543b37f ((s.getD (vi8).toNat 0).toNat : Int)))), (9, .p (.int .i64 vi7)), (10, .p (.int .i64 vi8)), (22, .p (.bool (decide ((ixS LB_7543b37f ((s.getD (vi8).toNat 0).toNat : Int)) < (0 : Int)))))] [(3, .barr 5 false vb9)] [] (by kernel_rfl) (by kernel_rfl) trivial (fun s1 hs1 => ?_)
            refine (T.weaken ?_ hs1 : T Tryz.prog C (at_ cLoose [1, 1, 1, 0, 1, 0, 0, 1, 1, 0, 0, 1, 1, 1, 0, 1]) _ _)
            refine T_condp (p := [1, 1, 1, 0, 1, 0, 0, 1, 1, 0, 0, 1, 1, 1, 0, 1]) (by kernel_rfl) (decide ((ixS LB_7543b37f ((s.getD (vi8).toNat 0).toNat : Int)) < (0 : Int))) (by kernel_rfl) (fun hb => ?_) (fun hb => ?_)
            · have h := ite_t h hb
              refine T_exitp (p := [1, 1, 1, 0, 1, 0, 0, 1, 1, 0, 0, 1, 1, 1, 0, 1, 0]) 1 (by kernel_rfl) ?_
              refine then_exit ?_
              refine inblock_hit ?_
              exact ⟨s, vi5, vi6, vi7, vi8, vb9, h, Sub.trans (Sub.refl _) (Sub_view hC [(3, some 3)] (by kernel_rfl) (by kernel_rfl) (by kernel_rfl))⟩
            · have h := ite_f h hb
              refine T_skipp (p := [1, 1, 1, 0, 1, 0, 0, 1, 1, 0, 0, 1, 1, 1, 0, 1, 1]) (by kernel_rfl) ?_
              refine (T.weaken ?_ (Sub.refl _) : T Tryz.prog C (at_ cLoose [1, 1, 1, 0, 1, 0, 0, 1, 1, 0, 0, 1, 1, 1, 1]) _ _)
              refine T_seqp (p := [1, 1, 1, 0, 1, 0, 0, 1, 1, 0, 0, 1, 1, 1, 1]) (by kernel_rfl) ?_
              obtain ⟨hob, h⟩ := ite_get h
              refine T_reg henv hC [(3, some 3)] [(0, .p (.str s)), (3, .arr 3), (4, .p (.int .i64 (ibits .or .i64 (IntKind.i64.wrap (vi5 * 2 ^ (min ((6 : Int)).toNat 64))) (ixS LB_7543b37f ((s.getD (vi8).toNat 0).toNat : Int))))), (5, .p (.int .i64 vi6)), (9, .p (.int .i64 vi7)), (10, .p (.int .i64 vi8))] [(3, .barr 5 false vb9)] [0 ≤ (6 : Int)] (by kernel_rfl) (by kernel_rfl) ⟨hob, trivial⟩ (fun s1 hs1 => ?_)
              refine (T.weaken ?_ hs1 : T Tryz.prog C (at_ cLoose [1, 1, 1, 0, 1, 0, 0, 1, 1, 0, 0, 1, 1, 1, 1, 1]) _ _)
              refine T_seqp (p := [1, 1, 1, 0, 1, 0, 0, 1, 1, 0, 0, 1, 1, 1, 1, 1]) (by kernel_rfl) ?_
              obtain ⟨hob, h⟩ := ite_get h
              refine T_reg henv hC [(3, some 3)] [(0, .p (.str s)), (3, .arr 3), (4, .p (.int .i64 (ibits .or .i64 (IntKind.i64.wrap (vi5 * 2 ^ (min ((6 : Int)).toNat 64))) (ixS LB_7543b37f ((s.getD (vi8).toNat 0).toNat : Int))))), (5, .p (.int .i64 (vi6 + (1 : Int)))), (9, .p (.int .i64 vi7)), (10, .p (.int .i64 vi8))] [(3, .barr 5 false vb9)] [i64ok (vi6 + (1 : Int))] (by kernel_rfl) (by kernel_rfl) ⟨hob, trivial⟩ (fun s1 hs1 => ?_)
              refine (T.weaken ?_ hs1 : T Tryz.prog C (at_ cLoose [1, 1, 1, 0, 1, 0, 0, 1, 1, 0, 0, 1, 1, 1, 1, 1, 1]) _ _)
              refine T_seqp (p := [1, 1, 1, 0, 1, 0, 0, 1, 1, 0, 0, 1, 1, 1, 1, 1, 1]) (by kernel_rfl) ?_
              refine T_reg henv hC [(3, some 3)] [(0, .p (.str s)), (3, .arr 3), (4, .p (.int .i64 (ibits .or .i64 (IntKind.i64.wrap (vi5 * 2 ^ (min ((6 : Int)).toNat 64))) (ixS LB_7543b37f ((s.getD (vi8).toNat 0).toNat : Int))))), (5, .p (.int .i64 (vi6 + (1 : Int)))), (9, .p (.int .i64 vi7)), (10, .p (.int .i64 vi8)), (30, .p (.bool ((vi6 + (1 : Int)) == (4 : Int))))] [(3, .barr 5 false vb9)] [] (by kernel_rfl) (by kernel_rfl) trivial (fun s1 hs1 => ?_)
              refine (T.weaken ?_ hs1 : T Tryz.prog C (at_ cLoose [1, 1, 1, 0, 1, 0, 0, 1, 1, 0, 0, 1, 1, 1, 1, 1, 1, 1]) _ _)
              refine T_condp (p := [1, 1, 1, 0, 1, 0, 0, 1, 1, 0, 0, 1, 1, 1, 1, 1, 1, 1]) (by kernel_rfl) ((vi6 + (1 : Int)) == (4 : Int)) (by kernel_rfl) (fun hb => ?_) (fun hb => ?_)
              · have h := ite_t h hb
                refine T_seqp (p := [1, 1, 1, 0, 1, 0, 0, 1, 1, 0, 0, 1, 1, 1, 1, 1, 1, 1, 0]) (by kernel_rfl) ?_
                obtain ⟨hob, h⟩ := ite_get h
                refine T_reg henv hC [(3, some 41)] [(0, .p (.str s)), (3, .arr 3), (9, .p (.int .i64 vi7)), (10, .p (.int .i64 vi8))] [(3, .barr 5 false (vb9 ++ [UInt8.ofNat (IntKind.u8.wrap ((ibits .or .i64 (IntKind.i64.wrap (vi5 * 2 ^ (min ((6 : Int)).toNat 64))) (ixS LB_7543b37f ((s.getD (vi8).toNat 0).toNat : Int))).fdiv (2 ^ (min ((16 : Int)).toNat 64)))).toNat, UInt8.ofNat (IntKind.u8.wrap ((ibits .or .i64 (IntKind.i64.wrap (vi5 * 2 ^ (min ((6 : Int)).toNat 64))) (ixS LB_7543b37f ((s.getD (vi8).toNat 0).toNat : Int))).fdiv (2 ^ (min ((8 : Int)).toNat 64)))).toNat, UInt8.ofNat (IntKind.u8.wrap (ibits .or .i64 (IntKind.i64.wrap (vi5 * 2 ^ (min ((6 : Int)).toNat 64))) (ixS LB_7543b37f ((s.getD (vi8).toNat 0).toNat : Int)))).toNat]))] [0 ≤ (16 : Int), 0 ≤ (8 : Int), (vb9.length + [UInt8.ofNat (IntKind.u8.wrap ((ibits .or .i64 (IntKind.i64.wrap (vi5 * 2 ^ (min ((6 : Int)).toNat 64))) (ixS LB_7543b37f ((s.getD (vi8).toNat 0).toNat : Int))).fdiv (2 ^ (min ((16 : Int)).toNat 64)))).toNat, UInt8.ofNat (IntKind.u8.wrap ((ibits .or .i64 (IntKind.i64.wrap (vi5 * 2 ^ (min ((6 : Int)).toNat 64))) (ixS LB_7543b37f ((s.getD (vi8).toNat 0).toNat : Int))).fdiv (2 ^ (min ((8 : Int)).toNat 64)))).toNat, UInt8.ofNat (IntKind.u8.wrap (ibits .or .i64 (IntKind.i64.wrap (vi5 * 2 ^ (min ((6 : Int)).toNat 64))) (ixS LB_7543b37f ((s.getD (vi8).toNat 0).toNat : Int)))).toNat].length) * 1 ≤ 140737488355328] (by kernel_rfl) (by kernel_rfl) ⟨hob.1, hob.2.1, hob.2.2, trivial⟩ (fun s1 hs1 => ?_)
                refine (T.weaken ?_ hs1 : T Tryz.prog C (at_ cLoose [1, 1, 1, 0, 1, 0, 0, 1, 1, 0, 0, 1, 1, 1, 1, 1, 1, 1, 0, 1]) _ _)
                refine T_reg henv hC [(3, some 3)] [(0, .p (.str s)), (3, .arr 3), (4, .p (.int .i64 (0 : Int))), (5, .p (.int .i64 (0 : Int))), (9, .p (.int .i64 vi7)), (10, .p (.int .i64 vi8))] [(3, .barr 5 false (vb9 ++ [UInt8.ofNat (IntKind.u8.wrap ((ibits .or .i64 (IntKind.i64.wrap (vi5 * 2 ^ (min ((6 : Int)).toNat 64))) (ixS LB_7543b37f ((s.getD (vi8).toNat 0).toNat : Int))).fdiv (2 ^ (min ((16 : Int)).toNat 64)))).toNat, UInt8.ofNat (IntKind.u8.wrap ((ibits .or .i64 (IntKind.i64.wrap (vi5 * 2 ^ (min ((6 : Int)).toNat 64))) (ixS LB_7543b37f ((s.getD (vi8).toNat 0).toNat : Int))).fdiv (2 ^ (min ((8 : Int)).toNat 64)))).toNat, UInt8.ofNat (IntKind.u8.wrap (ibits .or .i64 (IntKind.i64.wrap (vi5 * 2 ^ (min ((6 : Int)).toNat 64))) (ixS LB_7543b37f ((s.getD (vi8).toNat 0).toNat : Int)))).toNat]))] [] (by kernel_rfl) (by kernel_rfl) trivial (fun s1 hs1 => ?_)
                exact ⟨s, (0 : Int), (0 : Int), vi7, vi8, vb9 ++ [UInt8.ofNat (IntKind.u8.wrap ((ibits .or .i64 (IntKind.i64.wrap (vi5 * 2 ^ (min ((6 : Int)).toNat 64))) (ixS LB_7543b37f ((s.getD (vi8).toNat 0).toNat : Int))).fdiv (2 ^ (min ((16 : Int)).toNat 64)))).toNat, UInt8.ofNat (IntKind.u8.wrap ((ibits .or .i64 (IntKind.i64.wrap (vi5 * 2 ^ (min ((6 : Int)).toNat 64))) (ixS LB_7543b37f ((s.getD (vi8).toNat 0).toNat : Int))).fdiv (2 ^ (min ((8 : Int)).toNat 64)))).toNat, UInt8.ofNat (IntKind.u8.wrap (ibits .or .i64 (IntKind.i64.wrap (vi5 * 2 ^ (min ((6 : Int)).toNat 64))) (ixS LB_7543b37f ((s.getD (vi8).toNat 0).toNat : Int)))).toNat], h, Sub.trans hs1 (Sub_view hC [(3, some 3)] (by kernel_rfl) (by kernel_rfl) (by kernel_rfl))⟩
              · have h := ite_f h hb
                refine T_skipp (p := [1, 1, 1, 0, 1, 0, 0, 1, 1, 0, 0, 1, 1, 1, 1, 1, 1, 1, 1]) (by kernel_rfl) ?_
                exact ⟨s, ibits .or .i64 (IntKind.i64.wrap (vi5 * 2 ^ (min ((6 : Int)).toNat 64))) (ixS LB_7543b37f ((s.getD (vi8).toNat 0).toNat : Int)), vi6 + (1 : Int), vi7, vi8, vb9, h, Sub.trans (Sub.refl _) (Sub_view hC [(3, some 3)] (by kernel_rfl) (by kernel_rfl) (by kernel_rfl))⟩
        · rintro s2 ⟨s, vi10, vi11, vi7, vi8, vb12, h, hs2⟩
          unfold BLoose_4 at h
          refine (T.weaken ?_ hs2 : T Tryz.prog C (at_ cLoose [1, 1, 1, 0, 1, 0, 0, 1, 1, 1]) _ _)
          obtain ⟨hob, h⟩ := ite_get h
          refine T_reg henv hC [(3, some 3)] [(0, .p (.str s)), (3, .arr 3), (4, .p (.int .i64 vi10)), (5, .p (.int .i64 vi11)), (9, .p (.int .i64 vi7)), (10, .p (.int .i64 (vi8 + (1 : Int))))] [(3, .barr 5 false vb12)] [i64ok (vi8 + (1 : Int))] (by kernel_rfl) (by kernel_rfl) ⟨hob, trivial⟩ (fun s1 hs1 => ?_)
          exact ⟨f3, _, Nat.lt_succ_self f3, ⟨s, vi10, vi11, vi7, vi8 + (1 : Int), vb12, rfl, h⟩, Sub.trans hs1 (Sub_view hC [(3, some 3)] (by kernel_rfl) (by kernel_rfl) (by kernel_rfl))⟩
      · have h := ite_f h hb
        refine T_exitp (p := [1, 1, 1, 0, 1, 0, 0, 1, 0, 1]) 0 (by kernel_rfl) ?_
        refine then_exit ?_
        refine then_exit ?_
        refine inblock_hit ?_
        exact ⟨vi5, vi6, vb9, h, Sub.trans (Sub.refl _) (Sub_view hC [(3, some 3)] (by kernel_rfl) (by kernel_rfl) (by kernel_rfl))⟩
  · rintro s2 ⟨vi1, vi2, vb3, h, hs2⟩
    unfold BLoose_1 at h
    refine (T.weaken ?_ hs2 : T Tryz.prog C (at_ cLoose [1, 1, 1, 1]) _ _)
    refine T_join (p := [1, 1, 1, 1]) (by kernel_rfl) (fun s2 => ∃ (vb4 : List UInt8), BLoose_2 fuel vb4 = some res ∧ Sub C s2 (mkS [(3, .arr 3)] [(3, .barr 5 false vb4)])) ?_ ?_
    · refine T_seqp (p := [1, 1, 1, 1, 0]) (by kernel_rfl) ?_
      refine T_reg henv hC [(3, some 3)] [(3, .arr 3), (4, .p (.int .i64 vi1)), (43, .p (.int .i64 vi2))] [(3, .barr 5 false vb3)] [] (by kernel_rfl) (by kernel_rfl) trivial (fun s1 hs1 => ?_)
      refine (T.weaken ?_ hs1 : T Tryz.prog C (at_ cLoose [1, 1, 1, 1, 0, 1]) _ _)
      refine T_blockp (p := [1, 1, 1, 1, 0, 1]) 2 (by kernel_rfl) ?_
      refine T_seqp (p := [1, 1, 1, 1, 0, 1, 0]) (by kernel_rfl) ?_
      refine T_reg henv hC [(3, some 3)] [(3, .arr 3), (4, .p (.int .i64 vi1)), (43, .p (.int .i64 vi2)), (44, .p (.bool (vi2 == (2 : Int))))] [(3, .barr 5 false vb3)] [] (by kernel_rfl) (by kernel_rfl) trivial (fun s1 hs1 => ?_)
      refine (T.weaken ?_ hs1 : T Tryz.prog C (at_ cLoose [1, 1, 1, 1, 0, 1, 0, 1]) _ _)
      refine T_condp (p := [1, 1, 1, 1, 0, 1, 0, 1]) (by kernel_rfl) (vi2 == (2 : Int)) (by kernel_rfl) (fun hb => ?_) (fun hb => ?_)
      · have h := ite_t h hb
        obtain ⟨hob, h⟩ := ite_get h
        refine T_reg henv hC [(3, some 51)] [(3, .arr 3)] [(3, .barr 5 false (vb3 ++ [UInt8.ofNat (IntKind.u8.wrap (vi1.fdiv (2 ^ (min ((4 : Int)).toNat 64)))).toNat]))] [0 ≤ (4 : Int), (vb3.length + [UInt8.ofNat (IntKind.u8.wrap (vi1.fdiv (2 ^ (min ((4 : Int)).toNat 64)))).toNat].length) * 1 ≤ 140737488355328] (by kernel_rfl) (by kernel_rfl) ⟨hob.1, hob.2, trivial⟩ (fun s1 hs1 => ?_)
        exact ⟨vb3 ++ [UInt8.ofNat (IntKind.u8.wrap (vi1.fdiv (2 ^ (min ((4 : Int)).toNat 64)))).toNat], h, Sub.trans hs1 (Sub_view hC [(3, some 3)] (by kernel_rfl) (by kernel_rfl) (by kernel_rfl))⟩
      · have h := ite_f h hb
        refine T_seqp (p := [1, 1, 1, 1, 0, 1, 0, 1, 1]) (by kernel_rfl) ?_
        refine T_reg henv hC [(3, some 3)] [(3, .arr 3), (4, .p (.int .i64 vi1)), (52, .p (.bool (vi2 == (3 : Int))))] [(3, .barr 5 false vb3)] [] (by kernel_rfl) (by kernel_rfl) trivial (fun s1 hs1 => ?_)
        refine (T.weaken ?_ hs1 : T Tryz.prog C (at_ cLoose [1, 1, 1, 1, 0, 1, 0, 1, 1, 1]) _ _)
        refine T_condp (p := [1, 1, 1, 1, 0, 1, 0, 1, 1, 1]) (by kernel_rfl) (vi2 == (3 : Int)) (by kernel_rfl) (fun hb => ?_) (fun hb => ?_)
        · have h := ite_t h hb
          obtain ⟨hob, h⟩ := ite_get h
          refine T_reg henv hC [(3, some 62)] [(3, .arr 3)] [(3, .barr 5 false (vb3 ++ [UInt8.ofNat (IntKind.u8.wrap (vi1.fdiv (2 ^ (min ((10 : Int)).toNat 64)))).toNat, UInt8.ofNat (IntKind.u8.wrap (vi1.fdiv (2 ^ (min ((2 : Int)).toNat 64)))).toNat]))] [0 ≤ (10 : Int), 0 ≤ (2 : Int), (vb3.length + [UInt8.ofNat (IntKind.u8.wrap (vi1.fdiv (2 ^ (min ((10 : Int)).toNat 64)))).toNat, UInt8.ofNat (IntKind.u8.wrap (vi1.fdiv (2 ^ (min ((2 : Int)).toNat 64)))).toNat].length) * 1 ≤ 140737488355328] (by kernel_rfl) (by kernel_rfl) ⟨hob.1, hob.2.1, hob.2.2, trivial⟩ (fun s1 hs1 => ?_)
          exact ⟨vb3 ++ [UInt8.ofNat (IntKind.u8.wrap (vi1.fdiv (2 ^ (min ((10 : Int)).toNat 64)))).toNat, UInt8.ofNat (IntKind.u8.wrap (vi1.fdiv (2 ^ (min ((2 : Int)).toNat 64)))).toNat], h, Sub.trans hs1 (Sub_view hC [(3, some 3)] (by kernel_rfl) (by kernel_rfl) (by kernel_rfl))⟩
        · have h := ite_f h hb
          refine T_skipp (p := [1, 1, 1, 1, 0, 1, 0, 1, 1, 1, 1]) (by kernel_rfl) ?_
          exact ⟨vb3, h, Sub.trans (Sub.refl _) (Sub_view hC [(3, some 3)] (by kernel_rfl) (by kernel_rfl) (by kernel_rfl))⟩
    · rintro s2 ⟨vb4, h, hs2⟩
      unfold BLoose_2 at h
      refine (T.weaken ?_ hs2 : T Tryz.prog C (at_ cLoose [1, 1, 1, 1, 1]) _ _)
      refine T_seqp (p := [1, 1, 1, 1, 1]) (by kernel_rfl) ?_
      refine T_reg henv hC [] [(2, .p (.str vb4))] [] [] (by kernel_rfl) (by kernel_rfl) trivial (fun s1 hs1 => ?_)
      refine (T.weaken ?_ hs1 : T Tryz.prog C (at_ cLoose [1, 1, 1, 1, 1, 1]) _ _)
      refine T_retp (p := [1, 1, 1, 1, 1, 1]) (by kernel_rfl) ?_
      have h := Option.some.inj h; subst h
      exact ⟨mkS [(2, .p (.str vb4))] [], (Sub.refl _), by kernel_rfl⟩

theorem fn_Loose (fuel : Nat) (s res : List UInt8) (h : (∃ M vs, ARels γ0 M [.p (.str s)] vs) → FLoose fuel s = some res) : FnP Tryz.prog 47 [.p (.str s)] (.p (.str res)) :=
  FnP_lift (fn := Tryz.f47) (by kernel_rfl) (by kernel_rfl) fun M vs hvs C hC0 => have hC : CtxOk C 65 [] := ⟨hC0.nt.trans (by kernel_rfl), hC0.fx⟩; T.weaken (TLoose fuel s res (h ⟨M, vs, hvs⟩) C hC) (sinit_sub hC (by kernel_rfl) (by kernel_rfl))
/-! What base64.Loose computes. -/

def valI (c : UInt8) : Int := ixS LB_7543b37f (c.toNat : Int)
theorem valI_range (c : UInt8) : -1 ≤ valI c ∧ valI c < 64 := by
  unfold valI ixS
  have h1 := Lib.indexByte_ge LB_7543b37f ((c.toNat : Int)).toNat.toUInt8
  have h2 := indexByte_lt LB_7543b37f ((c.toNat : Int)).toNat.toUInt8
  rw [alpha_len] at h2
  omega

def tailB (bits n : Nat) : List UInt8 := if n = 2 then [UInt8.ofNat (bits / 16)] else if n = 3 then [UInt8.ofNat (bits / 1024), UInt8.ofNat (bits / 4)] else []
def looseG : Nat → Nat → List UInt8 → List UInt8
  | bits, n, [] => tailB bits n
  | bits, n, c :: r => if c = 61 then tailB bits n else if valI c < 0 then looseG bits n r else
    if n + 1 = 4 then [UInt8.ofNat ((bits * 64 + (valI c).toNat) / 65536), UInt8.ofNat ((bits * 64 + (valI c).toNat) / 256), UInt8.ofNat (bits * 64 + (valI c).toNat)] ++ looseG 0 0 r
    else looseG (bits * 64 + (valI c).toNat) (n + 1) r
def looseB (s : List UInt8) : List UInt8 := looseG 0 0 s

theorem BLoose_tail (fuel bits n : Nat) (b : List UInt8) (hb : bits < 16777216) (hl : b.length ≤ 10000000) : BLoose_1 fuel (bits : Int) (n : Int) b = some (b ++ tailB bits n) := by
  have e4 : (min ((4 : Int)).toNat 64) = 4 := rfl
  have e10 : (min ((10 : Int)).toNat 64) = 10 := rfl
  have e2 : (min ((2 : Int)).toNat 64) = 2 := rfl
  unfold BLoose_1 BLoose_2 tailB
  rw [e4, e10, e2, fdiv_nat, fdiv_nat, fdiv_nat, u8_of, u8_of, u8_of]
  by_cases h2 : n = 2
  · rw [if_pos (by simp; omega), if_pos ⟨by omega, by simp; omega⟩, if_pos h2]
  · rw [if_neg (by simp; omega), if_neg h2]
    by_cases h3 : n = 3
    · rw [if_pos (by simp; omega), if_pos ⟨by omega, by omega, by simp; omega⟩, if_pos h3]
    · rw [if_neg (by simp; omega), if_neg h3]; simp

theorem BLoose_eq (fuel : Nat) (s : List UInt8) (hs : s.length ≤ 1000000) : ∀ (f i bits n : Nat) (b : List UInt8), s.length < f + i → i ≤ s.length → n ≤ 3 → bits < 64 ^ n → b.length ≤ 3 * i →
    BLoose_3 fuel f s (bits : Int) (n : Int) (s.length : Int) (i : Int) b = some (b ++ looseG bits n (s.drop i)) := by
  intro f
  induction f with
  | zero => intro i bits n b h1 h2; omega
  | succ f ih =>
    intro i bits n b h1 h2 hn hbits h3
    have hp : 64 ^ n ≤ 64 ^ 3 := Nat.pow_le_pow_right (by decide) hn
    have hlt : bits < 262144 := Nat.lt_of_lt_of_le hbits hp
    cases hd : s.drop i with
    | nil =>
      have : s.length ≤ i := by have := congrArg List.length hd; simp at this; omega
      rw [BLoose_3, if_neg (by simp; omega), BLoose_tail fuel bits n b (by omega) (by omega), looseG]
    | cons c r =>
      obtain ⟨e1, e2, e3⟩ := drop_cons hd
      have next : ∀ (bits' n' : Nat) (b' : List UInt8), n' ≤ 3 → bits' < 64 ^ n' → b'.length ≤ 3 * (i + 1) → BLoose_4 fuel (BLoose_3 fuel f) s (bits' : Int) (n' : Int) (s.length : Int) (i : Int) b' = some (b' ++ looseG bits' n' r) := by
        intro bits' n' b' hn' hb' hl'
        unfold BLoose_4
        rw [if_pos (ok64 (by omega) (by omega))]
        have := ih (i + 1) bits' n' b' (by omega) (by omega) hn' hb' hl'
        rw [e2] at this
        rw [← this]; congr 1
      rw [BLoose_3, if_pos (by simp; omega), if_pos (by omega)]
      simp only [Int.toNat_natCast, e1]
      rw [looseG]
      by_cases hc : c = 61
      · subst hc
        rw [if_pos (by simp), if_pos rfl, BLoose_tail fuel bits n b (by omega) (by omega)]
      · rw [if_neg (by simpa using fun e => hc (u8_eq (d := 61) |>.1 e)), if_neg hc, if_pos (by omega)]
        have hv := valI_range c
        change (if decide (valI c < 0) = true then _ else _) = _
        by_cases hv0 : valI c < 0
        · rw [if_pos (by simpa using hv0), if_pos hv0]
          exact next bits n b hn hbits (by omega)
        · rw [if_neg (by simpa using hv0), if_neg hv0]
          obtain ⟨v, hv2⟩ := Int.eq_ofNat_of_zero_le (show 0 ≤ valI c by omega)
          have e6 : (2 : Int) ^ (min ((6 : Int)).toNat 64) = 64 := rfl
          have x1 : ibits .or .i64 (IntKind.i64.wrap ((bits : Int) * 2 ^ (min ((6 : Int)).toNat 64))) (valI c) = ((bits * 64 + (valI c).toNat : Nat) : Int) := by
            rw [hv2, e6, i64_small (by omega) (by omega), show (bits : Int) * 64 = ((bits * 64 : Nat) : Int) by simp, i64_or (by omega) (by omega)]
            have := or_add bits v 6 (by omega)
            rw [show bits * 64 = bits * 2 ^ 6 by rfl, this]; simp
          have hx : bits * 64 + (valI c).toNat < 16777216 := by omega
          rw [if_pos (by omega), if_pos (ok64 (by omega) (by omega))]
          change (if _ then (if _ ∧ _ ∧ (b.length + [UInt8.ofNat (IntKind.u8.wrap ((ibits .or .i64 (IntKind.i64.wrap ((bits : Int) * 2 ^ (min ((6 : Int)).toNat 64))) (valI c)).fdiv (2 ^ (min ((16 : Int)).toNat 64)))).toNat, UInt8.ofNat (IntKind.u8.wrap ((ibits .or .i64 (IntKind.i64.wrap ((bits : Int) * 2 ^ (min ((6 : Int)).toNat 64))) (valI c)).fdiv (2 ^ (min ((8 : Int)).toNat 64)))).toNat, UInt8.ofNat (IntKind.u8.wrap (ibits .or .i64 (IntKind.i64.wrap ((bits : Int) * 2 ^ (min ((6 : Int)).toNat 64))) (valI c))).toNat].length) * 1 ≤ 140737488355328 then BLoose_4 fuel (BLoose_3 fuel f) s (0 : Int) (0 : Int) (s.length : Int) (i : Int) (b ++ [UInt8.ofNat (IntKind.u8.wrap ((ibits .or .i64 (IntKind.i64.wrap ((bits : Int) * 2 ^ (min ((6 : Int)).toNat 64))) (valI c)).fdiv (2 ^ (min ((16 : Int)).toNat 64)))).toNat, UInt8.ofNat (IntKind.u8.wrap ((ibits .or .i64 (IntKind.i64.wrap ((bits : Int) * 2 ^ (min ((6 : Int)).toNat 64))) (valI c)).fdiv (2 ^ (min ((8 : Int)).toNat 64)))).toNat, UInt8.ofNat (IntKind.u8.wrap (ibits .or .i64 (IntKind.i64.wrap ((bits : Int) * 2 ^ (min ((6 : Int)).toNat 64))) (valI c))).toNat]) else none) else BLoose_4 fuel (BLoose_3 fuel f) s (ibits .or .i64 (IntKind.i64.wrap ((bits : Int) * 2 ^ (min ((6 : Int)).toNat 64))) (valI c)) _ (s.length : Int) (i : Int) b) = _
          have e16 : (min ((16 : Int)).toNat 64) = 16 := rfl
          have e8 : (min ((8 : Int)).toNat 64) = 8 := rfl
          rw [x1, e16, e8, fdiv_nat, fdiv_nat, u8_of, u8_of, u8_of]
          by_cases h4 : n + 1 = 4
          · rw [if_pos (by simp; omega), if_pos ⟨by omega, by omega, by simp; omega⟩, if_pos h4]
            refine (next 0 0 _ (by omega) (by decide) (by simp; omega)).trans ?_
            simp
          · rw [if_neg (by simp; omega), if_neg h4]
            refine next (bits * 64 + (valI c).toNat) (n + 1) b (by omega) ?_ (by omega)
            rw [Nat.pow_succ]; omega
theorem Loose_eq (s : List UInt8) (hs : s.length ≤ 1000000) : FLoose 1000001 s = some (looseB s) := by
  have := BLoose_eq 1000001 s hs 1000001 0 0 0 [] (by omega) (by omega) (by omega) (by decide) (by simp)
  simpa [FLoose, looseB] using this
def sp_Loose : List AV → Option (AV × Option Prop) := spStr looseB
theorem ok_Loose : SpecOk Tryz.prog 47 sp_Loose := spStr_ok (by kernel_rfl) fun s hs => fn_Loose 1000001 s _ fun _ => Loose_eq s hs
end Go.Proofs.YtfadnlnmlkemfaaGreatDoor
