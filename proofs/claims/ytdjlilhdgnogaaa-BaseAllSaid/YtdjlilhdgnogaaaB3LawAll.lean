/-
  Lifted functions, and facts about them.
-/
import Derived.Test.YtdjlilhdgnogaaaRows
import Derived.Test.YtdjlilhdgnogaaaAmB
import Derived.Test.YtdjlilhdgnogaaaB3Lits
import Derived.Test.YtdjlilhdgnogaaaB3Spec7
set_option linter.unusedVariables false
namespace Go.Proofs.Ytdjlilhdgnogaaa
open Go Go.Am
def FAll (fuel : Nat) (s : List UInt8) : Option Bool := if (decide ((s.length : Int) > (3000 : Int))) = true then (some true) else (if s.length ≤ 100000 then (if s.length ≤ 100000 then (if (s.length ≤ 1000000) ∧ (s.length ≤ 1000000) ∧ (((((encB s) == (encB s)) && (((decB s).1) == ((decB s).1))) && (((decB s).2) == ((decB s).2))) = true → s.length ≤ 1000000) ∧ (((((encB s) == (encB s)) && (((decB s).1) == ((decB s).1))) && (((decB s).2) == ((decB s).2))) = true → s.length ≤ 1000000) then (some ((((((encB s) == (encB s)) && (((decB s).1) == ((decB s).1))) && (((decB s).2) == ((decB s).2))) && ((looseB s) == (looseB s))) && true)) else none) else none) else none)

noncomputable def cAll : Code := bodyOf Try.f5

def envAll : Env := mkEnv [(8, sp_awake), (9, sp_Encode), (10, sp_Decode), (11, sp_Decode64), (12, sp_Encode64), (13, sp_Num), (14, sp_Loose), (15, sp_rLoose)]

theorem envAll_ok : EnvOk Try.prog envAll := EnvOk_mk ⟨ok_awake.any, ok_Encode.any, ok_Decode.any, ok_Decode64.any, ok_Encode64.any, ok_Num.any, ok_Loose.any, ok_rLoose.any, trivial⟩

theorem TAll (fuel : Nat) (s : List UInt8) (res : Bool) (h : FAll fuel s = some res) (C : Ctx) (hC : CtxOk C 47 []) :
    T Try.prog C (at_ cAll []) (mkS [(0, .p (.str s))] []) (Qend Try.prog C Try.f5.results.toList (.p (.bool res))) := by
  have henv := envAll_ok
  unfold FAll at h
  refine T_seqp (p := []) (by kernel_rfl) ?_
  refine T_reg henv hC [] [(0, .p (.str s))] [] [] (by kernel_rfl) (by kernel_rfl) trivial (fun s1 hs1 => ?_)
  refine (T.weaken ?_ hs1 : T Try.prog C (at_ cAll [1]) _ _)
  refine T_seqp (p := [1]) (by kernel_rfl) ?_
  refine T_seqp (p := [1, 0]) (by kernel_rfl) ?_
  refine T_reg henv hC [] [(0, .p (.str s)), (9, .p (.bool (decide ((s.length : Int) > (3000 : Int)))))] [] [] (by kernel_rfl) (by kernel_rfl) trivial (fun s1 hs1 => ?_)
  refine (T.weaken ?_ hs1 : T Try.prog C (at_ cAll [1, 0, 1]) _ _)
  refine T_condp (p := [1, 0, 1]) (by kernel_rfl) (decide ((s.length : Int) > (3000 : Int))) (by kernel_rfl) (fun hb => ?_) (fun hb => ?_)
  · have h := ite_t h hb
    refine T_seqp (p := [1, 0, 1, 0]) (by kernel_rfl) ?_
    refine T_reg henv hC [] [(2, .p (.bool true))] [] [] (by kernel_rfl) (by kernel_rfl) trivial (fun s1 hs1 => ?_)
    refine (T.weaken ?_ hs1 : T Try.prog C (at_ cAll [1, 0, 1, 0, 1]) _ _)
    refine T_retp (p := [1, 0, 1, 0, 1]) (by kernel_rfl) ?_
    refine then_ret ?_
    have h := Option.some.inj h; subst h
    exact ⟨mkS [(2, .p (.bool true))] [], (Sub.refl _), by kernel_rfl⟩
  · have h := ite_f h hb
    refine T_skipp (p := [1, 0, 1, 1]) (by kernel_rfl) ?_
    refine (T.weaken ?_ (Sub.refl _) : T Try.prog C (at_ cAll [1, 1]) _ _)
    refine T_seqp (p := [1, 1]) (by kernel_rfl) ?_
    obtain ⟨hob, h⟩ := ite_get h
    refine T_reg henv hC [] [(0, .p (.str s)), (3, .p (.str ((decB s).1))), (4, .p (.int .i64 ((decB s).2)))] [] [s.length ≤ 100000] (by kernel_rfl) (by kernel_rfl) ⟨hob, trivial⟩ (fun s1 hs1 => ?_)
    refine (T.weaken ?_ hs1 : T Try.prog C (at_ cAll [1, 1, 1]) _ _)
    refine T_seqp (p := [1, 1, 1]) (by kernel_rfl) ?_
    obtain ⟨hob, h⟩ := ite_get h
    refine T_reg henv hC [] [(0, .p (.str s)), (3, .p (.str ((decB s).1))), (4, .p (.int .i64 ((decB s).2))), (5, .p (.str ((decB s).1))), (6, .p (.int .i64 ((decB s).2)))] [] [s.length ≤ 100000] (by kernel_rfl) (by kernel_rfl) ⟨hob, trivial⟩ (fun s1 hs1 => ?_)
    refine (T.weaken ?_ hs1 : T Try.prog C (at_ cAll [1, 1, 1, 1]) _ _)
    refine T_seqp (p := [1, 1, 1, 1]) (by kernel_rfl) ?_
    obtain ⟨hob, h⟩ := ite_get h
    refine T_reg henv hC [] [(2, .p (.bool ((((((encB s) == (encB s)) && (((decB s).1) == ((decB s).1))) && (((decB s).2) == ((decB s).2))) && ((looseB s) == (looseB s))) && true)))] [] [s.length ≤ 1000000, s.length ≤ 1000000, ((encB s) == (encB s)) = true → ((encB s) == (encB s)) = true, ((encB s) == (encB s)) = true → ((encB s) == (encB s)) = true, ((encB s) == (encB s)) = true → ((encB s) == (encB s)) = true, (((encB s) == (encB s)) && (((decB s).1) == ((decB s).1))) = true → (((encB s) == (encB s)) && (((decB s).1) == ((decB s).1))) = true, (((encB s) == (encB s)) && (((decB s).1) == ((decB s).1))) = true → (((encB s) == (encB s)) && (((decB s).1) == ((decB s).1))) = true, (((encB s) == (encB s)) && (((decB s).1) == ((decB s).1))) = true → (((encB s) == (encB s)) && (((decB s).1) == ((decB s).1))) = true, (((encB s) == (encB s)) && (((decB s).1) == ((decB s).1))) = true → (((encB s) == (encB s)) && (((decB s).1) == ((decB s).1))) = true, ((((encB s) == (encB s)) && (((decB s).1) == ((decB s).1))) && (((decB s).2) == ((decB s).2))) = true → ((((encB s) == (encB s)) && (((decB s).1) == ((decB s).1))) && (((decB s).2) == ((decB s).2))) = true, ((((encB s) == (encB s)) && (((decB s).1) == ((decB s).1))) && (((decB s).2) == ((decB s).2))) = true → s.length ≤ 1000000, ((((encB s) == (encB s)) && (((decB s).1) == ((decB s).1))) && (((decB s).2) == ((decB s).2))) = true → ((((encB s) == (encB s)) && (((decB s).1) == ((decB s).1))) && (((decB s).2) == ((decB s).2))) = true, ((((encB s) == (encB s)) && (((decB s).1) == ((decB s).1))) && (((decB s).2) == ((decB s).2))) = true → s.length ≤ 1000000, ((((encB s) == (encB s)) && (((decB s).1) == ((decB s).1))) && (((decB s).2) == ((decB s).2))) = true → ((((encB s) == (encB s)) && (((decB s).1) == ((decB s).1))) && (((decB s).2) == ((decB s).2))) = true, ((((encB s) == (encB s)) && (((decB s).1) == ((decB s).1))) && (((decB s).2) == ((decB s).2))) = true → ((((encB s) == (encB s)) && (((decB s).1) == ((decB s).1))) && (((decB s).2) == ((decB s).2))) = true, ((((encB s) == (encB s)) && (((decB s).1) == ((decB s).1))) && (((decB s).2) == ((decB s).2))) = true → ((((encB s) == (encB s)) && (((decB s).1) == ((decB s).1))) && (((decB s).2) == ((decB s).2))) = true, (((((encB s) == (encB s)) && (((decB s).1) == ((decB s).1))) && (((decB s).2) == ((decB s).2))) && ((looseB s) == (looseB s))) = true → (((((encB s) == (encB s)) && (((decB s).1) == ((decB s).1))) && (((decB s).2) == ((decB s).2))) && ((looseB s) == (looseB s))) = true] (by kernel_rfl) (by kernel_rfl) ⟨hob.1, hob.2.1, (fun q0 => q0), (fun q0 => q0), (fun q0 => q0), (fun q0 => q0), (fun q0 => q0), (fun q0 => q0), (fun q0 => q0), (fun q0 => q0), hob.2.2.1, (fun q0 => q0), hob.2.2.2, (fun q0 => q0), (fun q0 => q0), (fun q0 => q0), (fun q0 => q0), trivial⟩ (fun s1 hs1 => ?_)
    refine (T.weaken ?_ hs1 : T Try.prog C (at_ cAll [1, 1, 1, 1, 1]) _ _)
    refine T_retp (p := [1, 1, 1, 1, 1]) (by kernel_rfl) ?_
    have h := Option.some.inj h; subst h
    exact ⟨mkS [(2, .p (.bool ((((((encB s) == (encB s)) && (((decB s).1) == ((decB s).1))) && (((decB s).2) == ((decB s).2))) && ((looseB s) == (looseB s))) && true)))] [], (Sub.refl _), by kernel_rfl⟩

theorem fn_All (fuel : Nat) (s : List UInt8) (res : Bool) (h : (∃ M vs, ARels γ0 M [.p (.str s)] vs) → FAll fuel s = some res) : FnP Try.prog 5 [.p (.str s)] (.p (.bool res)) :=
  FnP_lift (fn := Try.f5) (by kernel_rfl) (by kernel_rfl) fun M vs hvs C hC0 => have hC : CtxOk C 47 [] := ⟨hC0.nt.trans (by kernel_rfl), hC0.fx⟩; T.weaken (TAll fuel s res (h ⟨M, vs, hvs⟩) C hC) (sinit_sub hC (by kernel_rfl) (by kernel_rfl))
end Go.Proofs.Ytdjlilhdgnogaaa
