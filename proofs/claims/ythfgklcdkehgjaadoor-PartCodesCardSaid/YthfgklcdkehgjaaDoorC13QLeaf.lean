/-
  Lifted functions, and facts about them.
-/
import Derived.Test.YthfgklcdkehgjaaDoorRows
import Derived.Test.YthfgklcdkehgjaaDoorAmC
import Derived.Test.YthfgklcdkehgjaaDoorC13Small
namespace Go.Proofs.YthfgklcdkehgjaaDoor
open Go Go.Am
set_option linter.unusedVariables false
def Fdigit (fuel : Nat) (c : Int) : Option Int := if ((decide (c ≥ (48 : Int))) && (decide (c ≤ (57 : Int)))) = true then (some (IntKind.u8.wrap (c - (48 : Int)))) else (if ((decide (c ≥ (97 : Int))) && (decide (c ≤ (102 : Int)))) = true then (if i64ok ((IntKind.u8.wrap (c - (97 : Int))) + (10 : Int)) then (some ((IntKind.u8.wrap (c - (97 : Int))) + (10 : Int))) else none) else (if ((decide (c ≥ (65 : Int))) && (decide (c ≤ (70 : Int)))) = true then (if i64ok ((IntKind.u8.wrap (c - (65 : Int))) + (10 : Int)) then (some ((IntKind.u8.wrap (c - (65 : Int))) + (10 : Int))) else none) else (some (-1 : Int))))

noncomputable def cdigit : Code := bodyOf Tryd.f64

def envdigit : Env := mkEnv []

theorem envdigit_ok : EnvOk Tryd.prog envdigit := EnvOk_mk trivial

theorem Tdigit (fuel : Nat) (c res : Int) (h : Fdigit fuel c = some res) (C : Ctx) (hC : CtxOk C 35 []) :
    T Tryd.prog C (at_ cdigit []) (mkS [(0, .p (.int .u8 c))] []) (Qend Tryd.prog C Tryd.f64.results.toList (.p (.int .i64 res))) := by
  have henv := envdigit_ok
  unfold Fdigit at h
  refine T_seqp (p := []) (by kernel_rfl) ?_
  refine T_reg henv hC [] [(0, .p (.int .u8 c))] [] [] (by kernel_rfl) (by kernel_rfl) trivial (fun s1 hs1 => ?_)
  refine (T.weaken ?_ hs1 : T Tryd.prog C (at_ cdigit [1]) _ _)
  refine T_seqp (p := [1]) (by kernel_rfl) ?_
  refine T_blockp (p := [1, 0]) 0 (by kernel_rfl) ?_
  refine T_seqp (p := [1, 0, 0]) (by kernel_rfl) ?_
  refine T_reg henv hC [] [(0, .p (.int .u8 c)), (3, .p (.bool ((decide (c ≥ (48 : Int))) && (decide (c ≤ (57 : Int))))))] [] [(decide (c ≥ (48 : Int))) = true → (decide (c ≥ (48 : Int))) = true, (decide (c ≥ (48 : Int))) = true → (decide (c ≥ (48 : Int))) = true] (by kernel_rfl) (by kernel_rfl) ⟨(fun q0 => q0), (fun q0 => q0), trivial⟩ (fun s1 hs1 => ?_)
  refine (T.weaken ?_ hs1 : T Tryd.prog C (at_ cdigit [1, 0, 0, 1]) _ _)
  refine T_condp (p := [1, 0, 0, 1]) (by kernel_rfl) ((decide (c ≥ (48 : Int))) && (decide (c ≤ (57 : Int)))) (by kernel_rfl) (fun hb => ?_) (fun hb => ?_)
  · have h := ite_t h hb
    refine T_seqp (p := [1, 0, 0, 1, 0]) (by kernel_rfl) ?_
    refine T_reg henv hC [] [(2, .p (.int .i64 (IntKind.u8.wrap (c - (48 : Int)))))] [] [] (by kernel_rfl) (by kernel_rfl) trivial (fun s1 hs1 => ?_)
    refine (T.weaken ?_ hs1 : T Tryd.prog C (at_ cdigit [1, 0, 0, 1, 0, 1]) _ _)
    refine T_retp (p := [1, 0, 0, 1, 0, 1]) (by kernel_rfl) ?_
    refine inblock_ret ?_
    refine then_ret ?_
    have h := Option.some.inj h; subst h
    exact ⟨mkS [(2, .p (.int .i64 (IntKind.u8.wrap (c - (48 : Int)))))] [], (Sub.refl _), by kernel_rfl⟩
  · have h := ite_f h hb
    refine T_seqp (p := [1, 0, 0, 1, 1]) (by kernel_rfl) ?_
    refine T_reg henv hC [] [(0, .p (.int .u8 c)), (13, .p (.bool ((decide (c ≥ (97 : Int))) && (decide (c ≤ (102 : Int))))))] [] [(decide (c ≥ (97 : Int))) = true → (decide (c ≥ (97 : Int))) = true, (decide (c ≥ (97 : Int))) = true → (decide (c ≥ (97 : Int))) = true] (by kernel_rfl) (by kernel_rfl) ⟨(fun q0 => q0), (fun q0 => q0), trivial⟩ (fun s1 hs1 => ?_)
    refine (T.weaken ?_ hs1 : T Tryd.prog C (at_ cdigit [1, 0, 0, 1, 1, 1]) _ _)
    refine T_condp (p := [1, 0, 0, 1, 1, 1]) (by kernel_rfl) ((decide (c ≥ (97 : Int))) && (decide (c ≤ (102 : Int)))) (by kernel_rfl) (fun hb => ?_) (fun hb => ?_)
    · have h := ite_t h hb
      refine T_seqp (p := [1, 0, 0, 1, 1, 1, 0]) (by kernel_rfl) ?_
      obtain ⟨hob, h⟩ := ite_get h
      refine T_reg henv hC [] [(2, .p (.int .i64 ((IntKind.u8.wrap (c - (97 : Int))) + (10 : Int))))] [] [i64ok ((IntKind.u8.wrap (c - (97 : Int))) + (10 : Int))] (by kernel_rfl) (by kernel_rfl) ⟨hob, trivial⟩ (fun s1 hs1 => ?_)
      refine (T.weaken ?_ hs1 : T Tryd.prog C (at_ cdigit [1, 0, 0, 1, 1, 1, 0, 1]) _ _)
      refine T_retp (p := [1, 0, 0, 1, 1, 1, 0, 1]) (by kernel_rfl) ?_
      refine inblock_ret ?_
      refine then_ret ?_
      have h := Option.some.inj h; subst h
      exact ⟨mkS [(2, .p (.int .i64 ((IntKind.u8.wrap (c - (97 : Int))) + (10 : Int))))] [], (Sub.refl _), by kernel_rfl⟩
    · have h := ite_f h hb
      refine T_seqp (p := [1, 0, 0, 1, 1, 1, 1]) (by kernel_rfl) ?_
      refine T_reg henv hC [] [(0, .p (.int .u8 c)), (24, .p (.bool ((decide (c ≥ (65 : Int))) && (decide (c ≤ (70 : Int))))))] [] [(decide (c ≥ (65 : Int))) = true → (decide (c ≥ (65 : Int))) = true, (decide (c ≥ (65 : Int))) = true → (decide (c ≥ (65 : Int))) = true] (by kernel_rfl) (by kernel_rfl) ⟨(fun q0 => q0), (fun q0 => q0), trivial⟩ (fun s1 hs1 => ?_)
      refine (T.weaken ?_ hs1 : T Tryd.prog C (at_ cdigit [1, 0, 0, 1, 1, 1, 1, 1]) _ _)
      refine T_condp (p := [1, 0, 0, 1, 1, 1, 1, 1]) (by kernel_rfl) ((decide (c ≥ (65 : Int))) && (decide (c ≤ (70 : Int)))) (by kernel_rfl) (fun hb => ?_) (fun hb => ?_)
      · have h := ite_t h hb
        refine T_seqp (p := [1, 0, 0, 1, 1, 1, 1, 1, 0]) (by kernel_rfl) ?_
        obtain ⟨hob, h⟩ := ite_get h
        refine T_reg henv hC [] [(2, .p (.int .i64 ((IntKind.u8.wrap (c - (65 : Int))) + (10 : Int))))] [] [i64ok ((IntKind.u8.wrap (c - (65 : Int))) + (10 : Int))] (by kernel_rfl) (by kernel_rfl) ⟨hob, trivial⟩ (fun s1 hs1 => ?_)
        refine (T.weaken ?_ hs1 : T Tryd.prog C (at_ cdigit [1, 0, 0, 1, 1, 1, 1, 1, 0, 1]) _ _)
        refine T_retp (p := [1, 0, 0, 1, 1, 1, 1, 1, 0, 1]) (by kernel_rfl) ?_
        refine inblock_ret ?_
        refine then_ret ?_
        have h := Option.some.inj h; subst h
        exact ⟨mkS [(2, .p (.int .i64 ((IntKind.u8.wrap (c - (65 : Int))) + (10 : Int))))] [], (Sub.refl _), by kernel_rfl⟩
      · have h := ite_f h hb
        refine T_skipp (p := [1, 0, 0, 1, 1, 1, 1, 1, 1]) (by kernel_rfl) ?_
        refine (T.weaken ?_ (Sub.refl _) : T Tryd.prog C (at_ cdigit [1, 1]) _ _)
        refine T_seqp (p := [1, 1]) (by kernel_rfl) ?_
        refine T_reg henv hC [] [(2, .p (.int .i64 (-1 : Int)))] [] [] (by kernel_rfl) (by kernel_rfl) trivial (fun s1 hs1 => ?_)
        refine (T.weaken ?_ hs1 : T Tryd.prog C (at_ cdigit [1, 1, 1]) _ _)
        refine T_retp (p := [1, 1, 1]) (by kernel_rfl) ?_
        have h := Option.some.inj h; subst h
        exact ⟨mkS [(2, .p (.int .i64 (-1 : Int)))] [], (Sub.refl _), by kernel_rfl⟩

theorem fn_digit (fuel : Nat) (c res : Int) (h : (∃ M vs, ARels γ0 M [.p (.int .u8 c)] vs) → Fdigit fuel c = some res) : FnP Tryd.prog 64 [.p (.int .u8 c)] (.p (.int .i64 res)) :=
  FnP_lift (fn := Tryd.f64) (by kernel_rfl) (by kernel_rfl) fun M vs hvs C hC0 => have hC : CtxOk C 35 [] := ⟨hC0.nt.trans (by kernel_rfl), hC0.fx⟩; T.weaken (Tdigit fuel c res (h ⟨M, vs, hvs⟩) C hC) (sinit_sub hC (by kernel_rfl) (by kernel_rfl))






/-! What the small functions answer. -/

def digitS (c : Int) : Int := if 48 ≤ c ∧ c ≤ 57 then c - 48 else if 97 ≤ c ∧ c ≤ 102 then c - 87 else if 65 ≤ c ∧ c ≤ 70 then c - 55 else -1

theorem u8_small {n : Int} (h0 : 0 ≤ n) (h1 : n < 256) : IntKind.u8.wrap n = n := by
  have e : (2 : Int) ^ IntKind.u8.bits = 256 := rfl
  have e2 : IntKind.u8.signed = false := rfl
  simp only [IntKind.wrap, e, e2, Bool.false_and, Bool.false_eq_true, if_false]
  omega

theorem i64ok_small {n : Int} (h0 : -1000000000000 ≤ n) (h1 : n ≤ 1000000000000) : i64ok n := by
  unfold i64ok
  omega

theorem Fdigit_eq (c : Int) : Fdigit 0 c = some (digitS c) := by
  unfold Fdigit digitS
  by_cases h1 : 48 ≤ c ∧ c ≤ 57
  · rw [if_pos (by simp; omega), if_pos h1, u8_small (by omega) (by omega)]
  · rw [if_neg (by simp; omega), if_neg h1]
    by_cases h2 : 97 ≤ c ∧ c ≤ 102
    · rw [if_pos (by simp; omega), if_pos h2, u8_small (by omega) (by omega), if_pos (i64ok_small (by omega) (by omega))]
      congr 1; omega
    · rw [if_neg (by simp; omega), if_neg h2]
      by_cases h3 : 65 ≤ c ∧ c ≤ 70
      · rw [if_pos (by simp; omega), if_pos h3, u8_small (by omega) (by omega), if_pos (i64ok_small (by omega) (by omega))]
        congr 1; omega
      · rw [if_neg (by simp; omega), if_neg h3]

def sp_digit : List AV → Option (AV × Option Prop)
  | [.p (.int .u8 c)] => some (.p (.int .i64 (digitS c)), none)
  | _ => none
theorem ok_digit : SpecOk Tryd.prog 64 sp_digit := by
  intro zs r ok h _
  unfold sp_digit at h
  split at h
  · cases h; exact ⟨by kernel_rfl, fn_digit 0 _ _ fun _ => Fdigit_eq _⟩
  · cases h
end Go.Proofs.YthfgklcdkehgjaaDoor
