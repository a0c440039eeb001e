/-
  Lifted functions, and facts about them.
-/
import Derived.Test.YthfgklcdkehgjaaDoorRows
import Derived.Test.YthfgklcdkehgjaaDoorAmC
import Derived.Test.YthfgklcdkehgjaaDoorC13Small
namespace Go.Proofs.YthfgklcdkehgjaaDoor
open Go Go.Am
set_option linter.unusedVariables false
noncomputable def cFold : Code := bodyOf Tryd.f47

noncomputable def GFold : Cfg := ⟨Tryd.prog, mkEnv [], mkEnvR [], 32, [], [([0, 1, 0, 1, 1], ⟨[0, 3, 10, 11], [⟨.slot 3, 3, (.barr 5 false [])⟩]⟩), ([1, 0, 1, 1, 0, 0, 1, 1, 0, 0, 1, 0, 1, 1], ⟨[0, 3, 5, 10, 11, 22], [⟨.slot 3, 3, (.barr 5 false [])⟩]⟩), ([1, 1, 1, 0, 0, 1, 1, 0, 0, 1, 0, 1, 1], ⟨[0, 3, 5, 10, 11], [⟨.slot 3, 3, (.barr 5 false [])⟩]⟩)], []⟩

noncomputable def BFold_1 (F f1 : Nat) (s : List UInt8) (vi1 vi2 : Int) (vb3 : List UInt8) : Option Ans := runR GFold cFold (kP Tryd.prog Tryd.f47.results.toList) F [] [1, 1, 0, 1, 0] f1 [(0, .p (.str s)), (3, .arr 3), (10, .p (.int .i64 vi1)), (11, .p (.int .i64 vi2))] [(3, .barr 5 true vb3)]

noncomputable def BFold_2 (F f1 : Nat) (s : List UInt8) (vi4 vi1 vi2 : Int) (vc5 : Bool) (vb3 : List UInt8) : Option Ans := runB GFold cFold (kP Tryd.prog Tryd.f47.results.toList) F [f1] [1, 1, 0, 1, 0, 0, 1, 1, 0, 0, 1, 1, 0, 1] [(0, .p (.str s)), (3, .arr 3), (5, .p (.int .u8 vi4)), (10, .p (.int .i64 vi1)), (11, .p (.int .i64 vi2)), (22, .p (.bool vc5))] [(3, .barr 5 true vb3)]

noncomputable def BFold_3 (F f1 : Nat) (s : List UInt8) (vi6 vi1 vi2 : Int) (vb3 : List UInt8) : Option Ans := runB GFold cFold (kP Tryd.prog Tryd.f47.results.toList) F [f1] [1, 1, 0, 1, 0, 0, 1, 1, 0, 0, 1, 1, 1] [(0, .p (.str s)), (3, .arr 3), (5, .p (.int .u8 vi6)), (10, .p (.int .i64 vi1)), (11, .p (.int .i64 vi2))] [(3, .barr 5 true vb3)]

noncomputable def FFold (F : Nat) (s : List UInt8) : Option Ans := runF GFold Tryd.f47 F [.p (.str s)]

theorem BFold_1_eq (F f1 : Nat) (s : List UInt8) (vi1 vi2 : Int) (vb3 : List UInt8) : BFold_1 F (f1 + 1) s vi1 vi2 vb3 = cond (decide (vi2 < vi1)) (need (0 ≤ vi2 ∧ vi2 < (s.length : Int)) (((BFold_2 F f1 s ((s.getD (vi2).toNat 0).toNat : Int) vi1 vi2 ((decide (((s.getD (vi2).toNat 0).toNat : Int) ≥ (65 : Int))) && (decide (((s.getD (vi2).toNat 0).toNat : Int) ≤ (90 : Int)))) vb3)))) (some (.p (.str vb3), [])) := by
  have h : BFold_1 F (f1 + 1) s vi1 vi2 vb3 = cond (decide (vi2 < vi1)) (need (0 ≤ vi2 ∧ vi2 < (s.length : Int)) (need ((decide (((s.getD (vi2).toNat 0).toNat : Int) ≥ (65 : Int))) = true → (decide (((s.getD (vi2).toNat 0).toNat : Int) ≥ (65 : Int))) = true) (need ((decide (((s.getD (vi2).toNat 0).toNat : Int) ≥ (65 : Int))) = true → (decide (((s.getD (vi2).toNat 0).toNat : Int) ≥ (65 : Int))) = true) (BFold_2 F f1 s ((s.getD (vi2).toNat 0).toNat : Int) vi1 vi2 ((decide (((s.getD (vi2).toNat 0).toNat : Int) ≥ (65 : Int))) && (decide (((s.getD (vi2).toNat 0).toNat : Int) ≤ (90 : Int)))) vb3)))) (some (.p (.str vb3), [])) := by kernel_rfl
  rw [h, need_pos (show (decide (((s.getD (vi2).toNat 0).toNat : Int) ≥ (65 : Int))) = true → (decide (((s.getD (vi2).toNat 0).toNat : Int) ≥ (65 : Int))) = true from (fun q0 => q0)), need_pos (show (decide (((s.getD (vi2).toNat 0).toNat : Int) ≥ (65 : Int))) = true → (decide (((s.getD (vi2).toNat 0).toNat : Int) ≥ (65 : Int))) = true from (fun q0 => q0))]

theorem BFold_2_eq (F f1 : Nat) (s : List UInt8) (vi4 vi1 vi2 : Int) (vc5 : Bool) (vb3 : List UInt8) : BFold_2 F f1 s vi4 vi1 vi2 vc5 vb3 = cond (vc5) (BFold_3 F f1 s (IntKind.u8.wrap (vi4 + (32 : Int))) vi1 vi2 vb3) (BFold_3 F f1 s vi4 vi1 vi2 vb3) := by kernel_rfl

theorem BFold_3_eq (F f1 : Nat) (s : List UInt8) (vi6 vi1 vi2 : Int) (vb3 : List UInt8) : BFold_3 F f1 s vi6 vi1 vi2 vb3 = need ((vb3.length + [UInt8.ofNat (vi6).toNat].length) * 1 ≤ 140737488355328) (need (i64ok (vi2 + (1 : Int))) (BFold_1 F f1 s vi1 (vi2 + (1 : Int)) (vb3 ++ [UInt8.ofNat (vi6).toNat]))) := by kernel_rfl

theorem FFold_eq (F : Nat) (s : List UInt8) : FFold F s = need (0 ≤ (0 : Int) ∧ (0 : Int) ≤ (s.length : Int) ∧ (1 : Int) * (s.length : Int) ≤ 281474976710656 ∧ (s.length : Int) ≤ 9223372036854775807) (BFold_1 F F s (s.length : Int) (0 : Int) (List.replicate ((0 : Int)).toNat 0)) := by kernel_rfl

theorem fn_Fold (F : Nat) (s : List UInt8) (r : AV) (h : (∃ M vs, ARels γ0 M [.p (.str s)] vs) → FFold F s = some (r, [])) : FnP Tryd.prog 47 [.p (.str s)] r :=
  FnP_run GFold F rfl (EnvOk_mk (l := []) trivial) (EnvROk_mk (l := []) trivial) (Checked.mixed Tryd.checked) (fn := Tryd.f47) (by kernel_rfl) (by kernel_rfl) rfl h











def lowB (b : UInt8) : UInt8 := if 65 ≤ b.toNat ∧ b.toNat ≤ 90 then b + 32 else b
def foldS (s : List UInt8) : List UInt8 := s.map lowB
theorem low_up (b : UInt8) (h : 65 ≤ b.toNat ∧ b.toNat ≤ 90) : UInt8.ofNat (IntKind.u8.wrap ((b.toNat : Int) + (32 : Int))).toNat = lowB b := by
  have e : ((b.toNat : Int) + 32) = ((b.toNat + 32 : Nat) : Int) := by omega
  rw [e, u8_of, lowB, if_pos h]
  apply UInt8.toNat_inj.1
  rw [UInt8.toNat_ofNat', UInt8.toNat_add]; rfl
theorem low_id (b : UInt8) (h : ¬ (65 ≤ b.toNat ∧ b.toNat ≤ 90)) : UInt8.ofNat ((b.toNat : Int)).toNat = lowB b := by
  rw [lowB, if_neg h, Int.toNat_natCast, UInt8.ofNat_toNat]
theorem up_dec (b : UInt8) : ((decide ((b.toNat : Int) ≥ (65 : Int))) && (decide ((b.toNat : Int) ≤ (90 : Int)))) = decide (65 ≤ b.toNat ∧ b.toNat ≤ 90) := by
  rw [← Bool.decide_and]; exact decide_eq_decide.2 (by omega)
theorem BFold_spec (F : Nat) (s : List UInt8) (hs : s.length ≤ 140737488355328) : ∀ (r : List UInt8) (f i : Nat) (acc : List UInt8), s.drop i = r → acc.length = i → r.length < f → i ≤ s.length →
    BFold_1 F f s (s.length : Int) (i : Int) acc = some (.p (.str (acc ++ r.map lowB)), []) := by
  intro r
  induction r with
  | nil =>
    intro f i acc hd ha hf hi
    have : i = s.length := by have := congrArg List.length hd; simp at this; omega
    cases f with
    | zero => omega
    | succ f =>
      rw [BFold_1_eq]
      refine cond_f (by first | omega | (unfold i64ok; omega) | (simp only [List.length_cons, List.length_nil]; omega) | (simp; omega) | simp) ?_
      simp
  | cons c r ih =>
    intro f i acc hd ha hf hi
    obtain ⟨h1, h2, h3⟩ := drop_cons hd
    cases f with
    | zero => omega
    | succ f =>
      rw [BFold_1_eq]
      refine cond_t (by first | omega | (unfold i64ok; omega) | (simp only [List.length_cons, List.length_nil]; omega) | (simp; omega) | simp) ?_
      refine need_mk (by first | omega | (unfold i64ok; omega) | (simp only [List.length_cons, List.length_nil]; omega) | (simp; omega) | simp) ?_
      rw [Int.toNat_natCast, h1, BFold_2_eq, up_dec]
      have e : (i : Int) + 1 = ((i + 1 : Nat) : Int) := by omega
      have step : ∀ d, BFold_1 F f s (s.length : Int) ((i : Int) + 1) (acc ++ [d]) = some (.p (.str (acc ++ d :: r.map lowB)), []) := fun d => by
        rw [e, ih f (i + 1) (acc ++ [d]) h2 (by simp [ha]) (by simp at hf; omega) (by omega)]; simp
      by_cases hc : 65 ≤ c.toNat ∧ c.toNat ≤ 90
      · refine cond_t (by simpa using hc) ?_
        rw [BFold_3_eq]
        refine need_mk (by first | omega | (unfold i64ok; omega) | (simp only [List.length_cons, List.length_nil]; omega) | (simp; omega) | simp) ?_
        refine need_mk (by first | omega | (unfold i64ok; omega) | (simp only [List.length_cons, List.length_nil]; omega) | (simp; omega) | simp) ?_
        rw [low_up c hc, step]; rfl
      · refine cond_f (by simpa using hc) ?_
        rw [BFold_3_eq]
        refine need_mk (by first | omega | (unfold i64ok; omega) | (simp only [List.length_cons, List.length_nil]; omega) | (simp; omega) | simp) ?_
        refine need_mk (by first | omega | (unfold i64ok; omega) | (simp only [List.length_cons, List.length_nil]; omega) | (simp; omega) | simp) ?_
        rw [low_id c hc, step]; rfl
theorem Fold_eq (s : List UInt8) (hs : s.length ≤ 140737488355328) : FFold (s.length + 1) s = some (.p (.str (foldS s)), []) := by
  rw [FFold_eq]
  refine need_mk (by first | omega | (unfold i64ok; omega) | (simp only [List.length_cons, List.length_nil]; omega) | (simp; omega) | simp) ?_
  exact BFold_spec _ s hs s (s.length + 1) 0 [] rfl rfl (by omega) (by omega)
def sp_Fold : List AV → Option (AV × Option Prop)
  | [.p (.str s)] => some (.p (.str (foldS s)), some (s.length ≤ 140737488355328))
  | _ => none
theorem ok_Fold : SpecOk Tryd.prog 47 sp_Fold := by
  intro zs r ok he hok
  unfold sp_Fold at he
  split at he
  · cases he; exact ⟨by kernel_rfl, fn_Fold (_) _ _ fun hx => Fold_eq _ hok⟩
  · cases he
end Go.Proofs.YthfgklcdkehgjaaDoor
