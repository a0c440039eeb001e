/-
  A lifted function, or a fact about one.
-/
import Derived.Test.YtnojfkkdihchiaaRows
import Derived.Test.YtnojfkkdihchiaaAmDrawRR

namespace Go.Proofs.Ytnojfkkdihchiaa
open Go Go.Am
def Fdigit (fuel : Nat) (c : Int) : Option Int := if ((decide (c ≥ (48 : Int))) && (decide (c ≤ (57 : Int)))) = true then (some (IntKind.u8.wrap (c - (48 : Int)))) else (if ((decide (c ≥ (97 : Int))) && (decide (c ≤ (102 : Int)))) = true then (if i64ok ((IntKind.u8.wrap (c - (97 : Int))) + (10 : Int)) then (some ((IntKind.u8.wrap (c - (97 : Int))) + (10 : Int))) else none) else (if ((decide (c ≥ (65 : Int))) && (decide (c ≤ (70 : Int)))) = true then (if i64ok ((IntKind.u8.wrap (c - (65 : Int))) + (10 : Int)) then (some ((IntKind.u8.wrap (c - (65 : Int))) + (10 : Int))) else none) else (some (-1 : Int))))

noncomputable def cdigit : Code := bodyOf Try.f15

def envdigit : Env := mkEnv []

theorem envdigit_ok : EnvOk Try.prog envdigit := EnvOk_mk trivial

theorem Tdigit (fuel : Nat) (c : Int) (res : Int) (h : Fdigit fuel c = some res) (C : Ctx) (hC : CtxOk C 35 []) :
    T Try.prog C (at_ cdigit []) (mkS [(0, .p (.int .u8 c))] []) (Qend Try.prog C Try.f15.results.toList (.p (.int .i64 res))) := by
  have henv := envdigit_ok
  unfold Fdigit at h
  refine T_seqp (p := []) (by kernel_rfl) ?_
  refine T_reg henv hC [] [(0, .p (.int .u8 c))] [] [] (by kernel_rfl) (by kernel_rfl) trivial (fun s1 hs1 => ?_)
  refine (T.weaken ?_ hs1 : T Try.prog C (at_ cdigit [1]) _ _)
  refine T_seqp (p := [1]) (by kernel_rfl) ?_
  refine T_blockp (p := [1, 0]) 0 (by kernel_rfl) ?_
  refine T_seqp (p := [1, 0, 0]) (by kernel_rfl) ?_
  refine T_reg henv hC [] [(0, .p (.int .u8 c)), (3, .p (.bool ((decide (c ≥ (48 : Int))) && (decide (c ≤ (57 : Int))))))] [] [(decide (c ≥ (48 : Int))) = true → (decide (c ≥ (48 : Int))) = true, (decide (c ≥ (48 : Int))) = true → (decide (c ≥ (48 : Int))) = true] (by kernel_rfl) (by kernel_rfl) ⟨(fun q0 => q0), (fun q0 => q0), trivial⟩ (fun s1 hs1 => ?_)
  refine (T.weaken ?_ hs1 : T Try.prog C (at_ cdigit [1, 0, 0, 1]) _ _)
  refine T_condp (p := [1, 0, 0, 1]) (by kernel_rfl) ((decide (c ≥ (48 : Int))) && (decide (c ≤ (57 : Int)))) (by kernel_rfl) (fun hb => ?_) (fun hb => ?_)
  · have h := ite_t h hb
    refine T_seqp (p := [1, 0, 0, 1, 0]) (by kernel_rfl) ?_
    refine T_reg henv hC [] [(2, .p (.int .i64 (IntKind.u8.wrap (c - (48 : Int)))))] [] [] (by kernel_rfl) (by kernel_rfl) trivial (fun s1 hs1 => ?_)
    refine (T.weaken ?_ hs1 : T Try.prog C (at_ cdigit [1, 0, 0, 1, 0, 1]) _ _)
    refine T_retp (p := [1, 0, 0, 1, 0, 1]) (by kernel_rfl) ?_
    refine inblock_ret ?_
    refine then_ret ?_
    have h := Option.some.inj h; subst h
    exact ⟨mkS [(2, .p (.int .i64 (IntKind.u8.wrap (c - (48 : Int)))))] [], (Sub.refl _), by kernel_rfl⟩
  · have h := ite_f h hb
    refine T_seqp (p := [1, 0, 0, 1, 1]) (by kernel_rfl) ?_
    refine T_reg henv hC [] [(0, .p (.int .u8 c)), (13, .p (.bool ((decide (c ≥ (97 : Int))) && (decide (c ≤ (102 : Int))))))] [] [(decide (c ≥ (97 : Int))) = true → (decide (c ≥ (97 : Int))) = true, (decide (c ≥ (97 : Int))) = true → (decide (c ≥ (97 : Int))) = true] (by kernel_rfl) (by kernel_rfl) ⟨(fun q0 => q0), (fun q0 => q0), trivial⟩ (fun s1 hs1 => ?_)
    refine (T.weaken ?_ hs1 : T Try.prog C (at_ cdigit [1, 0, 0, 1, 1, 1]) _ _)
    refine T_condp (p := [1, 0, 0, 1, 1, 1]) (by kernel_rfl) ((decide (c ≥ (97 : Int))) && (decide (c ≤ (102 : Int)))) (by kernel_rfl) (fun hb => ?_) (fun hb => ?_)
    · have h := ite_t h hb
      refine T_seqp (p := [1, 0, 0, 1, 1, 1, 0]) (by kernel_rfl) ?_
      obtain ⟨hob, h⟩ := ite_get h
      refine T_reg henv hC [] [(2, .p (.int .i64 ((IntKind.u8.wrap (c - (97 : Int))) + (10 : Int))))] [] [i64ok ((IntKind.u8.wrap (c - (97 : Int))) + (10 : Int))] (by kernel_rfl) (by kernel_rfl) ⟨hob, trivial⟩ (fun s1 hs1 => ?_)
      refine (T.weaken ?_ hs1 : T Try.prog C (at_ cdigit [1, 0, 0, 1, 1, 1, 0, 1]) _ _)
      refine T_retp (p := [1, 0, 0, 1, 1, 1, 0, 1]) (by kernel_rfl) ?_
      refine inblock_ret ?_
      refine then_ret ?_
      have h := Option.some.inj h; subst h
      exact ⟨mkS [(2, .p (.int .i64 ((IntKind.u8.wrap (c - (97 : Int))) + (10 : Int))))] [], (Sub.refl _), by kernel_rfl⟩
    · have h := ite_f h hb
      refine T_seqp (p := [1, 0, 0, 1, 1, 1, 1]) (by kernel_rfl) ?_
      refine T_reg henv hC [] [(0, .p (.int .u8 c)), (24, .p (.bool ((decide (c ≥ (65 : Int))) && (decide (c ≤ (70 : Int))))))] [] [(decide (c ≥ (65 : Int))) = true → (decide (c ≥ (65 : Int))) = true, (decide (c ≥ (65 : Int))) = true → (decide (c ≥ (65 : Int))) = true] (by kernel_rfl) (by kernel_rfl) ⟨(fun q0 => q0), (fun q0 => q0), trivial⟩ (fun s1 hs1 => ?_)
      refine (T.weaken ?_ hs1 : T Try.prog C (at_ cdigit [1, 0, 0, 1, 1, 1, 1, 1]) _ _)
      refine T_condp (p := [1, 0, 0, 1, 1, 1, 1, 1]) (by kernel_rfl) ((decide (c ≥ (65 : Int))) && (decide (c ≤ (70 : Int)))) (by kernel_rfl) (fun hb => ?_) (fun hb => ?_)
      · have h := ite_t h hb
        refine T_seqp (p := [1, 0, 0, 1, 1, 1, 1, 1, 0]) (by kernel_rfl) ?_
        obtain ⟨hob, h⟩ := ite_get h
        refine T_reg henv hC [] [(2, .p (.int .i64 ((IntKind.u8.wrap (c - (65 : Int))) + (10 : Int))))] [] [i64ok ((IntKind.u8.wrap (c - (65 : Int))) + (10 : Int))] (by kernel_rfl) (by kernel_rfl) ⟨hob, trivial⟩ (fun s1 hs1 => ?_)
        refine (T.weaken ?_ hs1 : T Try.prog C (at_ cdigit [1, 0, 0, 1, 1, 1, 1, 1, 0, 1]) _ _)
        refine T_retp (p := [1, 0, 0, 1, 1, 1, 1, 1, 0, 1]) (by kernel_rfl) ?_
        refine inblock_ret ?_
        refine then_ret ?_
        have h := Option.some.inj h; subst h
        exact ⟨mkS [(2, .p (.int .i64 ((IntKind.u8.wrap (c - (65 : Int))) + (10 : Int))))] [], (Sub.refl _), by kernel_rfl⟩
      · have h := ite_f h hb
        refine T_skipp (p := [1, 0, 0, 1, 1, 1, 1, 1, 1]) (by kernel_rfl) ?_
        refine (T.weaken ?_ (Sub.refl _) : T Try.prog C (at_ cdigit [1, 1]) _ _)
        refine T_seqp (p := [1, 1]) (by kernel_rfl) ?_
        refine T_reg henv hC [] [(2, .p (.int .i64 (-1 : Int)))] [] [] (by kernel_rfl) (by kernel_rfl) trivial (fun s1 hs1 => ?_)
        refine (T.weaken ?_ hs1 : T Try.prog C (at_ cdigit [1, 1, 1]) _ _)
        refine T_retp (p := [1, 1, 1]) (by kernel_rfl) ?_
        have h := Option.some.inj h; subst h
        exact ⟨mkS [(2, .p (.int .i64 (-1 : Int)))] [], (Sub.refl _), by kernel_rfl⟩

theorem fn_digit (fuel : Nat) (c : Int) (res : Int) (h : (∃ M vs, ARels γ0 M [.p (.int .u8 c)] vs) → Fdigit fuel c = some res) : FnP Try.prog 15 [.p (.int .u8 c)] (.p (.int .i64 res)) :=
  FnP_lift (fn := Try.f15) (by kernel_rfl) (by kernel_rfl) fun M vs hvs C hC0 => have hC : CtxOk C 35 [] := ⟨hC0.nt.trans (by kernel_rfl), hC0.fx⟩; T.weaken (Tdigit fuel c res (h ⟨M, vs, hvs⟩) C hC) (sinit_sub hC (by kernel_rfl) (by kernel_rfl))

def Fhalf (fuel : Nat) (c : Int) : Option Int := if ((decide (c ≥ (48 : Int))) && (decide (c ≤ (57 : Int)))) = true then (some (IntKind.u8.wrap (c - (48 : Int)))) else (if ((decide (c ≥ (97 : Int))) && (decide (c ≤ (102 : Int)))) = true then (if i64ok ((IntKind.u8.wrap (c - (97 : Int))) + (10 : Int)) then (some ((IntKind.u8.wrap (c - (97 : Int))) + (10 : Int))) else none) else (if ((decide (c ≥ (65 : Int))) && (decide (c ≤ (70 : Int)))) = true then (if i64ok ((IntKind.u8.wrap (c - (65 : Int))) + (10 : Int)) then (some ((IntKind.u8.wrap (c - (65 : Int))) + (10 : Int))) else none) else (some (-1 : Int))))

noncomputable def chalf : Code := bodyOf Try.f16

def envhalf : Env := mkEnv []

theorem envhalf_ok : EnvOk Try.prog envhalf := EnvOk_mk trivial

theorem Thalf (fuel : Nat) (c : Int) (res : Int) (h : Fhalf fuel c = some res) (C : Ctx) (hC : CtxOk C 35 []) :
    T Try.prog C (at_ chalf []) (mkS [(0, .p (.int .u8 c))] []) (Qend Try.prog C Try.f16.results.toList (.p (.int .i64 res))) := by
  have henv := envhalf_ok
  unfold Fhalf at h
  refine T_seqp (p := []) (by kernel_rfl) ?_
  refine T_reg henv hC [] [(0, .p (.int .u8 c))] [] [] (by kernel_rfl) (by kernel_rfl) trivial (fun s1 hs1 => ?_)
  refine (T.weaken ?_ hs1 : T Try.prog C (at_ chalf [1]) _ _)
  refine T_seqp (p := [1]) (by kernel_rfl) ?_
  refine T_blockp (p := [1, 0]) 0 (by kernel_rfl) ?_
  refine T_seqp (p := [1, 0, 0]) (by kernel_rfl) ?_
  refine T_reg henv hC [] [(0, .p (.int .u8 c)), (3, .p (.bool ((decide (c ≥ (48 : Int))) && (decide (c ≤ (57 : Int))))))] [] [(decide (c ≥ (48 : Int))) = true → (decide (c ≥ (48 : Int))) = true, (decide (c ≥ (48 : Int))) = true → (decide (c ≥ (48 : Int))) = true] (by kernel_rfl) (by kernel_rfl) ⟨(fun q0 => q0), (fun q0 => q0), trivial⟩ (fun s1 hs1 => ?_)
  refine (T.weaken ?_ hs1 : T Try.prog C (at_ chalf [1, 0, 0, 1]) _ _)
  refine T_condp (p := [1, 0, 0, 1]) (by kernel_rfl) ((decide (c ≥ (48 : Int))) && (decide (c ≤ (57 : Int)))) (by kernel_rfl) (fun hb => ?_) (fun hb => ?_)
  · have h := ite_t h hb
    refine T_seqp (p := [1, 0, 0, 1, 0]) (by kernel_rfl) ?_
    refine T_reg henv hC [] [(2, .p (.int .i64 (IntKind.u8.wrap (c - (48 : Int)))))] [] [] (by kernel_rfl) (by kernel_rfl) trivial (fun s1 hs1 => ?_)
    refine (T.weaken ?_ hs1 : T Try.prog C (at_ chalf [1, 0, 0, 1, 0, 1]) _ _)
    refine T_retp (p := [1, 0, 0, 1, 0, 1]) (by kernel_rfl) ?_
    refine inblock_ret ?_
    refine then_ret ?_
    have h := Option.some.inj h; subst h
    exact ⟨mkS [(2, .p (.int .i64 (IntKind.u8.wrap (c - (48 : Int)))))] [], (Sub.refl _), by kernel_rfl⟩
  · have h := ite_f h hb
    refine T_seqp (p := [1, 0, 0, 1, 1]) (by kernel_rfl) ?_
    refine T_reg henv hC [] [(0, .p (.int .u8 c)), (13, .p (.bool ((decide (c ≥ (97 : Int))) && (decide (c ≤ (102 : Int))))))] [] [(decide (c ≥ (97 : Int))) = true → (decide (c ≥ (97 : Int))) = true, (decide (c ≥ (97 : Int))) = true → (decide (c ≥ (97 : Int))) = true] (by kernel_rfl) (by kernel_rfl) ⟨(fun q0 => q0), (fun q0 => q0), trivial⟩ (fun s1 hs1 => ?_)
    refine (T.weaken ?_ hs1 : T Try.prog C (at_ chalf [1, 0, 0, 1, 1, 1]) _ _)
    refine T_condp (p := [1, 0, 0, 1, 1, 1]) (by kernel_rfl) ((decide (c ≥ (97 : Int))) && (decide (c ≤ (102 : Int)))) (by kernel_rfl) (fun hb => ?_) (fun hb => ?_)
    · have h := ite_t h hb
      refine T_seqp (p := [1, 0, 0, 1, 1, 1, 0]) (by kernel_rfl) ?_
      obtain ⟨hob, h⟩ := ite_get h
      refine T_reg henv hC [] [(2, .p (.int .i64 ((IntKind.u8.wrap (c - (97 : Int))) + (10 : Int))))] [] [i64ok ((IntKind.u8.wrap (c - (97 : Int))) + (10 : Int))] (by kernel_rfl) (by kernel_rfl) ⟨hob, trivial⟩ (fun s1 hs1 => ?_)
      refine (T.weaken ?_ hs1 : T Try.prog C (at_ chalf [1, 0, 0, 1, 1, 1, 0, 1]) _ _)
      refine T_retp (p := [1, 0, 0, 1, 1, 1, 0, 1]) (by kernel_rfl) ?_
      refine inblock_ret ?_
      refine then_ret ?_
      have h := Option.some.inj h; subst h
      exact ⟨mkS [(2, .p (.int .i64 ((IntKind.u8.wrap (c - (97 : Int))) + (10 : Int))))] [], (Sub.refl _), by kernel_rfl⟩
    · have h := ite_f h hb
      refine T_seqp (p := [1, 0, 0, 1, 1, 1, 1]) (by kernel_rfl) ?_
      refine T_reg henv hC [] [(0, .p (.int .u8 c)), (24, .p (.bool ((decide (c ≥ (65 : Int))) && (decide (c ≤ (70 : Int))))))] [] [(decide (c ≥ (65 : Int))) = true → (decide (c ≥ (65 : Int))) = true, (decide (c ≥ (65 : Int))) = true → (decide (c ≥ (65 : Int))) = true] (by kernel_rfl) (by kernel_rfl) ⟨(fun q0 => q0), (fun q0 => q0), trivial⟩ (fun s1 hs1 => ?_)
      refine (T.weaken ?_ hs1 : T Try.prog C (at_ chalf [1, 0, 0, 1, 1, 1, 1, 1]) _ _)
      refine T_condp (p := [1, 0, 0, 1, 1, 1, 1, 1]) (by kernel_rfl) ((decide (c ≥ (65 : Int))) && (decide (c ≤ (70 : Int)))) (by kernel_rfl) (fun hb => ?_) (fun hb => ?_)
      · have h := ite_t h hb
        refine T_seqp (p := [1, 0, 0, 1, 1, 1, 1, 1, 0]) (by kernel_rfl) ?_
        obtain ⟨hob, h⟩ := ite_get h
        refine T_reg henv hC [] [(2, .p (.int .i64 ((IntKind.u8.wrap (c - (65 : Int))) + (10 : Int))))] [] [i64ok ((IntKind.u8.wrap (c - (65 : Int))) + (10 : Int))] (by kernel_rfl) (by kernel_rfl) ⟨hob, trivial⟩ (fun s1 hs1 => ?_)
        refine (T.weaken ?_ hs1 : T Try.prog C (at_ chalf [1, 0, 0, 1, 1, 1, 1, 1, 0, 1]) _ _)
        refine T_retp (p := [1, 0, 0, 1, 1, 1, 1, 1, 0, 1]) (by kernel_rfl) ?_
        refine inblock_ret ?_
        refine then_ret ?_
        have h := Option.some.inj h; subst h
        exact ⟨mkS [(2, .p (.int .i64 ((IntKind.u8.wrap (c - (65 : Int))) + (10 : Int))))] [], (Sub.refl _), by kernel_rfl⟩
      · have h := ite_f h hb
        refine T_skipp (p := [1, 0, 0, 1, 1, 1, 1, 1, 1]) (by kernel_rfl) ?_
        refine (T.weaken ?_ (Sub.refl _) : T Try.prog C (at_ chalf [1, 1]) _ _)
        refine T_seqp (p := [1, 1]) (by kernel_rfl) ?_
        refine T_reg henv hC [] [(2, .p (.int .i64 (-1 : Int)))] [] [] (by kernel_rfl) (by kernel_rfl) trivial (fun s1 hs1 => ?_)
        refine (T.weaken ?_ hs1 : T Try.prog C (at_ chalf [1, 1, 1]) _ _)
        refine T_retp (p := [1, 1, 1]) (by kernel_rfl) ?_
        have h := Option.some.inj h; subst h
        exact ⟨mkS [(2, .p (.int .i64 (-1 : Int)))] [], (Sub.refl _), by kernel_rfl⟩

theorem fn_half (fuel : Nat) (c : Int) (res : Int) (h : (∃ M vs, ARels γ0 M [.p (.int .u8 c)] vs) → Fhalf fuel c = some res) : FnP Try.prog 16 [.p (.int .u8 c)] (.p (.int .i64 res)) :=
  FnP_lift (fn := Try.f16) (by kernel_rfl) (by kernel_rfl) fun M vs hvs C hC0 => have hC : CtxOk C 35 [] := ⟨hC0.nt.trans (by kernel_rfl), hC0.fx⟩; T.weaken (Thalf fuel c res (h ⟨M, vs, hvs⟩) C hC) (sinit_sub hC (by kernel_rfl) (by kernel_rfl))

def Fhexd (fuel : Nat) (c : Int) : Option Bool := some ((((decide (c ≥ (48 : Int))) && (decide (c ≤ (57 : Int)))) || ((decide (c ≥ (97 : Int))) && (decide (c ≤ (102 : Int))))) || ((decide (c ≥ (65 : Int))) && (decide (c ≤ (70 : Int)))))

noncomputable def chexd : Code := bodyOf Try.f13

def envhexd : Env := mkEnv []

theorem envhexd_ok : EnvOk Try.prog envhexd := EnvOk_mk trivial

theorem Thexd (fuel : Nat) (c : Int) (res : Bool) (h : Fhexd fuel c = some res) (C : Ctx) (hC : CtxOk C 25 []) :
    T Try.prog C (at_ chexd []) (mkS [(0, .p (.int .u8 c))] []) (Qend Try.prog C Try.f13.results.toList (.p (.bool res))) := by
  have henv := envhexd_ok
  unfold Fhexd at h
  refine T_seqp (p := []) (by kernel_rfl) ?_
  refine T_reg henv hC [] [(0, .p (.int .u8 c))] [] [] (by kernel_rfl) (by kernel_rfl) trivial (fun s1 hs1 => ?_)
  refine (T.weaken ?_ hs1 : T Try.prog C (at_ chexd [1]) _ _)
  refine T_seqp (p := [1]) (by kernel_rfl) ?_
  refine T_reg henv hC [] [(2, .p (.bool ((((decide (c ≥ (48 : Int))) && (decide (c ≤ (57 : Int)))) || ((decide (c ≥ (97 : Int))) && (decide (c ≤ (102 : Int))))) || ((decide (c ≥ (65 : Int))) && (decide (c ≤ (70 : Int)))))))] [] [(decide (c ≥ (48 : Int))) = true → (decide (c ≥ (48 : Int))) = true, (decide (c ≥ (48 : Int))) = true → (decide (c ≥ (48 : Int))) = true, (!((decide (c ≥ (48 : Int))) && (decide (c ≤ (57 : Int))))) = true → (!((decide (c ≥ (48 : Int))) && (decide (c ≤ (57 : Int))))) = true, (!((decide (c ≥ (48 : Int))) && (decide (c ≤ (57 : Int))))) = true → (!((decide (c ≥ (48 : Int))) && (decide (c ≤ (57 : Int))))) = true, ((!((decide (c ≥ (48 : Int))) && (decide (c ≤ (57 : Int))))) && (decide (c ≥ (97 : Int)))) = true → ((!((decide (c ≥ (48 : Int))) && (decide (c ≤ (57 : Int))))) && (decide (c ≥ (97 : Int)))) = true, (!((decide (c ≥ (48 : Int))) && (decide (c ≤ (57 : Int))))) = true → (!((decide (c ≥ (48 : Int))) && (decide (c ≤ (57 : Int))))) = true, (!((decide (c ≥ (48 : Int))) && (decide (c ≤ (57 : Int))))) = true → (decide (c ≥ (97 : Int))) = true → ((!((decide (c ≥ (48 : Int))) && (decide (c ≤ (57 : Int))))) && (decide (c ≥ (97 : Int)))) = true, ((decide (c ≥ (48 : Int))) && (decide (c ≤ (57 : Int)))) = false → (!((decide (c ≥ (48 : Int))) && (decide (c ≤ (57 : Int))))) = true, (!(((decide (c ≥ (48 : Int))) && (decide (c ≤ (57 : Int)))) || ((decide (c ≥ (97 : Int))) && (decide (c ≤ (102 : Int)))))) = true → (!(((decide (c ≥ (48 : Int))) && (decide (c ≤ (57 : Int)))) || ((decide (c ≥ (97 : Int))) && (decide (c ≤ (102 : Int)))))) = true, (!(((decide (c ≥ (48 : Int))) && (decide (c ≤ (57 : Int)))) || ((decide (c ≥ (97 : Int))) && (decide (c ≤ (102 : Int)))))) = true → (!(((decide (c ≥ (48 : Int))) && (decide (c ≤ (57 : Int)))) || ((decide (c ≥ (97 : Int))) && (decide (c ≤ (102 : Int)))))) = true, ((!(((decide (c ≥ (48 : Int))) && (decide (c ≤ (57 : Int)))) || ((decide (c ≥ (97 : Int))) && (decide (c ≤ (102 : Int)))))) && (decide (c ≥ (65 : Int)))) = true → ((!(((decide (c ≥ (48 : Int))) && (decide (c ≤ (57 : Int)))) || ((decide (c ≥ (97 : Int))) && (decide (c ≤ (102 : Int)))))) && (decide (c ≥ (65 : Int)))) = true, (!(((decide (c ≥ (48 : Int))) && (decide (c ≤ (57 : Int)))) || ((decide (c ≥ (97 : Int))) && (decide (c ≤ (102 : Int)))))) = true → (!(((decide (c ≥ (48 : Int))) && (decide (c ≤ (57 : Int)))) || ((decide (c ≥ (97 : Int))) && (decide (c ≤ (102 : Int)))))) = true, (!(((decide (c ≥ (48 : Int))) && (decide (c ≤ (57 : Int)))) || ((decide (c ≥ (97 : Int))) && (decide (c ≤ (102 : Int)))))) = true → (decide (c ≥ (65 : Int))) = true → ((!(((decide (c ≥ (48 : Int))) && (decide (c ≤ (57 : Int)))) || ((decide (c ≥ (97 : Int))) && (decide (c ≤ (102 : Int)))))) && (decide (c ≥ (65 : Int)))) = true, (((decide (c ≥ (48 : Int))) && (decide (c ≤ (57 : Int)))) || ((decide (c ≥ (97 : Int))) && (decide (c ≤ (102 : Int))))) = false → (!(((decide (c ≥ (48 : Int))) && (decide (c ≤ (57 : Int)))) || ((decide (c ≥ (97 : Int))) && (decide (c ≤ (102 : Int)))))) = true] (by kernel_rfl) (by kernel_rfl) ⟨(fun q0 => q0), (fun q0 => q0), (fun q0 => q0), (fun q0 => q0), (fun q0 => q0), (fun q0 => q0), (fun q0 q1 => (and_mk q0 q1)), (fun q0 => (not_mk q0)), (fun q0 => q0), (fun q0 => q0), (fun q0 => q0), (fun q0 => q0), (fun q0 q1 => (and_mk q0 q1)), (fun q0 => (not_mk q0)), trivial⟩ (fun s1 hs1 => ?_)
  refine (T.weaken ?_ hs1 : T Try.prog C (at_ chexd [1, 1]) _ _)
  refine T_retp (p := [1, 1]) (by kernel_rfl) ?_
  have h := Option.some.inj h; subst h
  exact ⟨mkS [(2, .p (.bool ((((decide (c ≥ (48 : Int))) && (decide (c ≤ (57 : Int)))) || ((decide (c ≥ (97 : Int))) && (decide (c ≤ (102 : Int))))) || ((decide (c ≥ (65 : Int))) && (decide (c ≤ (70 : Int)))))))] [], (Sub.refl _), by kernel_rfl⟩

theorem fn_hexd (fuel : Nat) (c : Int) (res : Bool) (h : (∃ M vs, ARels γ0 M [.p (.int .u8 c)] vs) → Fhexd fuel c = some res) : FnP Try.prog 13 [.p (.int .u8 c)] (.p (.bool res)) :=
  FnP_lift (fn := Try.f13) (by kernel_rfl) (by kernel_rfl) fun M vs hvs C hC0 => have hC : CtxOk C 25 [] := ⟨hC0.nt.trans (by kernel_rfl), hC0.fx⟩; T.weaken (Thexd fuel c res (h ⟨M, vs, hvs⟩) C hC) (sinit_sub hC (by kernel_rfl) (by kernel_rfl))

def Bput_1 (fuel : Nat)  (piece : List UInt8) (vi1 : Int) (vb2 : List UInt8) : Option (Int × List UInt8) := if (vb2.length + piece.length) * 1 ≤ 140737488355328 then (if i64ok (vi1 + (piece.length : Int)) then (some (vi1 + (piece.length : Int), vb2 ++ piece)) else none) else none

def Fput (fuel : Nat) (piece : List UInt8) (line : Int) (b : List UInt8) : Option (Int × List UInt8) := if i64ok (line + (piece.length : Int)) then (if (decide ((line + (piece.length : Int)) > (75 : Int))) = true then (if (b.length + ([61, 13, 10] : List UInt8).length) * 1 ≤ 140737488355328 then (Bput_1 fuel piece (0 : Int) (b ++ ([61, 13, 10] : List UInt8))) else none) else (Bput_1 fuel piece line b)) else none

noncomputable def cput : Code := bodyOf Try.f14

def envput : Env := mkEnv []

theorem envput_ok : EnvOk Try.prog envput := EnvOk_mk trivial

theorem Tput (fuel : Nat) (piece : List UInt8) (line : Int) (b : List UInt8) (res : Int × List UInt8) (h : Fput fuel piece line b = some res) (C : Ctx) (hC : CtxOk C 18 [70000, 70001]) :
    T Try.prog C (at_ cput []) (mkS [(0, .p (.bytes piece)), (1, .ref 70000 0), (2, .ref 70001 0)] [(70000, .cells [.p (.int .i64 line)]), (70001, .cells [.arr 70002]), (70002, .barr 5 false b)]) (QendR Try.prog C Try.f14.results.toList (.tup []) [(70000, .cells [.p (.int .i64 res.1)]), (70001, .cells [.arr 70002]), (70002, .barr 5 false res.2)]) := by
  have henv := envput_ok
  unfold Fput at h
  refine T_join (p := []) (by kernel_rfl) (fun s2 => ∃ (piece : List UInt8) (vi1 : Int) (vb2 : List UInt8), Bput_1 fuel piece vi1 vb2 = some res ∧ Sub C s2 (mkS [(0, .p (.bytes piece)), (1, .ref 70000 0), (2, .ref 70001 0)] [(70000, .cells [.p (.int .i64 vi1)]), (70001, .cells [.arr 70002000]), (70002000, .barr 5 false vb2)])) ?_ ?_
  · refine T_seqp (p := [0]) (by kernel_rfl) ?_
    obtain ⟨hob, h⟩ := ite_get h
    refine T_reg henv hC [(70000, some 70000), (70001, some 70001), (70002000, some 70002)] [(0, .p (.bytes piece)), (1, .ref 70000 0), (2, .ref 70001 0), (8, .p (.bool (decide ((line + (piece.length : Int)) > (75 : Int)))))] [(70000, .cells [.p (.int .i64 line)]), (70001, .cells [.arr 70002000]), (70002000, .barr 5 false b)] [i64ok (line + (piece.length : Int))] (by kernel_rfl) (by kernel_rfl) ⟨hob, trivial⟩ (fun s1 hs1 => ?_)
    refine (T.weaken ?_ hs1 : T Try.prog C (at_ cput [0, 1]) _ _)
    refine T_condp (p := [0, 1]) (by kernel_rfl) (decide ((line + (piece.length : Int)) > (75 : Int))) (by kernel_rfl) (fun hb => ?_) (fun hb => ?_)
    · have h := ite_t h hb
      refine T_seqp (p := [0, 1, 0]) (by kernel_rfl) ?_
      obtain ⟨hob, h⟩ := ite_get h
      refine T_reg henv hC [(70000, some 70000), (70001, some 70001), (70002000, some 10)] [(0, .p (.bytes piece)), (1, .ref 70000 0), (2, .ref 70001 0)] [(70000, .cells [.p (.int .i64 line)]), (70001, .cells [.arr 70002000]), (70002000, .barr 5 false (b ++ ([61, 13, 10] : List UInt8)))] [(b.length + ([61, 13, 10] : List UInt8).length) * 1 ≤ 140737488355328] (by kernel_rfl) (by kernel_rfl) ⟨hob, trivial⟩ (fun s1 hs1 => ?_)
      refine (T.weaken ?_ hs1 : T Try.prog C (at_ cput [0, 1, 0, 1]) _ _)
      refine T_reg henv hC [(70000, some 70000), (70001, some 70001), (70002000, some 70002000)] [(0, .p (.bytes piece)), (1, .ref 70000 0), (2, .ref 70001 0)] [(70000, .cells [.p (.int .i64 (0 : Int))]), (70001, .cells [.arr 70002000]), (70002000, .barr 5 false (b ++ ([61, 13, 10] : List UInt8)))] [] (by kernel_rfl) (by kernel_rfl) trivial (fun s1 hs1 => ?_)
      exact ⟨piece, (0 : Int), b ++ ([61, 13, 10] : List UInt8), h, Sub.trans hs1 (Sub_view hC [(70000, some 70000), (70001, some 70001), (70002000, some 70002000)] (by kernel_rfl) (by kernel_rfl) (by kernel_rfl))⟩
    · have h := ite_f h hb
      refine T_skipp (p := [0, 1, 1]) (by kernel_rfl) ?_
      exact ⟨piece, line, b, h, Sub.trans (Sub.refl _) (Sub_view hC [(70000, some 70000), (70001, some 70001), (70002000, some 70002000)] (by kernel_rfl) (by kernel_rfl) (by kernel_rfl))⟩
  · rintro s2 ⟨piece, vi1, vb2, h, hs2⟩
    unfold Bput_1 at h
    refine (T.weaken ?_ hs2 : T Try.prog C (at_ cput [1]) _ _)
    refine T_seqp (p := [1]) (by kernel_rfl) ?_
    obtain ⟨hob, h⟩ := ite_get h
    refine T_reg henv hC [(70000, some 70000), (70001, some 70001), (70002000, some 13)] [(0, .p (.bytes piece)), (1, .ref 70000 0)] [(70000, .cells [.p (.int .i64 vi1)]), (70001, .cells [.arr 70002000]), (70002000, .barr 5 false (vb2 ++ piece))] [(vb2.length + piece.length) * 1 ≤ 140737488355328] (by kernel_rfl) (by kernel_rfl) ⟨hob, trivial⟩ (fun s1 hs1 => ?_)
    refine (T.weaken ?_ hs1 : T Try.prog C (at_ cput [1, 1]) _ _)
    obtain ⟨hob, h⟩ := ite_get h
    refine T_reg henv hC [(70000, some 70000), (70001, some 70001), (70002000, some 70002000)] [] [(70000, .cells [.p (.int .i64 (vi1 + (piece.length : Int)))]), (70001, .cells [.arr 70002000]), (70002000, .barr 5 false (vb2 ++ piece))] [i64ok (vi1 + (piece.length : Int))] (by kernel_rfl) (by kernel_rfl) ⟨hob, trivial⟩ (fun s1 hs1 => ?_)
    have h := Option.some.inj h; subst h
    exact ⟨mkS [] [(70000, .cells [.p (.int .i64 (vi1 + (piece.length : Int)))]), (70001, .cells [.arr 70002]), (70002, .barr 5 false (vb2 ++ piece))], Sub.trans hs1 (Sub_view hC [(70000, some 70000), (70001, some 70001), (70002, some 70002000)] (by kernel_rfl) (by kernel_rfl) (by kernel_rfl)), by kernel_rfl, by unfold outsAre; kernel_rfl⟩

theorem fn_put (fuel : Nat) (piece : List UInt8) (line : Int) (b : List UInt8) (res : Int × List UInt8) (h : (∃ γ M w vs, ARels γ M [.p (.bytes piece), .ref 70000 0, .ref 70001 0] vs ∧ Objs γ M w (fun i => lookO i [(70000, .cells [.p (.int .i64 line)]), (70001, .cells [.arr 70002]), (70002, .barr 5 false b)]) (fun b => b < w.heap.size)) → Fput fuel piece line b = some res) : FnR Try.prog 14 [.p (.bytes piece), .ref 70000 0, .ref 70001 0] [(70000, .cells [.p (.int .i64 line)]), (70001, .cells [.arr 70002]), (70002, .barr 5 false b)] [70000, 70001] (.tup []) [(70000, .cells [.p (.int .i64 res.1)]), (70001, .cells [.arr 70002]), (70002, .barr 5 false res.2)] :=
  FnR_lift (fn := Try.f14) (by kernel_rfl) (by kernel_rfl) fun γ M w vs hvs hO C hC0 => have hC : CtxOk C 18 [70000, 70001] := ⟨hC0.nt.trans (by kernel_rfl), hC0.fx⟩; T.weaken (Tput fuel piece line b res (h ⟨γ, M, w, vs, hvs, hO⟩) C hC) (Sub_view hC [(70000, some 70000), (70001, some 70001), (70002, some 70002)] (by kernel_rfl) (by kernel_rfl) (by kernel_rfl))
end Go.Proofs.Ytnojfkkdihchiaa
