/-
  Lifted functions, and facts about them.
-/
import Derived.Test.YtdjlilhdgnogaaaRows
import Derived.Test.YtdjlilhdgnogaaaAmB
import Derived.Test.YtdjlilhdgnogaaaB3Lits
import Derived.Test.YtdjlilhdgnogaaaB3Spec4
set_option linter.unusedVariables false
namespace Go.Proofs.Ytdjlilhdgnogaaa
open Go Go.Am
def Fawake (fuel : Nat)  : Option Bool := if (([97] : List UInt8).length ≤ 1000000) ∧ (((encB ([97] : List UInt8)) == ([89, 81, 61, 61] : List UInt8)) = true → ([89, 32, 81] : List UInt8).length ≤ 1000000) then (some (((encB ([97] : List UInt8)) == ([89, 81, 61, 61] : List UInt8)) && ((looseB ([89, 32, 81] : List UInt8)) == ([97] : List UInt8)))) else none

noncomputable def cawake : Code := bodyOf Try.f8

def envawake : Env := mkEnv [(9, sp_Encode), (14, sp_Loose)]

theorem envawake_ok : EnvOk Try.prog envawake := EnvOk_mk ⟨ok_Encode.any, ok_Loose.any, trivial⟩

theorem Tawake (fuel : Nat)  (res : Bool) (h : Fawake fuel  = some res) (C : Ctx) (hC : CtxOk C 7 []) :
    T Try.prog C (at_ cawake []) (mkS [] []) (Qend Try.prog C Try.f8.results.toList (.p (.bool res))) := by
  have henv := envawake_ok
  unfold Fawake at h
  refine T_seqp (p := []) (by kernel_rfl) ?_
  refine T_reg henv hC [] [] [] [] (by kernel_rfl) (by kernel_rfl) trivial (fun s1 hs1 => ?_)
  refine (T.weaken ?_ hs1 : T Try.prog C (at_ cawake [1]) _ _)
  refine T_seqp (p := [1]) (by kernel_rfl) ?_
  obtain ⟨hob, h⟩ := ite_get h
  refine T_reg henv hC [] [(0, .p (.bool (((encB ([97] : List UInt8)) == ([89, 81, 61, 61] : List UInt8)) && ((looseB ([89, 32, 81] : List UInt8)) == ([97] : List UInt8)))))] [] [([97] : List UInt8).length ≤ 1000000, ((encB ([97] : List UInt8)) == ([89, 81, 61, 61] : List UInt8)) = true → ([89, 32, 81] : List UInt8).length ≤ 1000000, ((encB ([97] : List UInt8)) == ([89, 81, 61, 61] : List UInt8)) = true → ((encB ([97] : List UInt8)) == ([89, 81, 61, 61] : List UInt8)) = true, ((encB ([97] : List UInt8)) == ([89, 81, 61, 61] : List UInt8)) = true → ((encB ([97] : List UInt8)) == ([89, 81, 61, 61] : List UInt8)) = true] (by kernel_rfl) (by kernel_rfl) ⟨hob.1, hob.2, (fun q0 => q0), (fun q0 => q0), trivial⟩ (fun s1 hs1 => ?_)
  refine (T.weaken ?_ hs1 : T Try.prog C (at_ cawake [1, 1]) _ _)
  refine T_retp (p := [1, 1]) (by kernel_rfl) ?_
  have h := Option.some.inj h; subst h
  exact ⟨mkS [(0, .p (.bool (((encB ([97] : List UInt8)) == ([89, 81, 61, 61] : List UInt8)) && ((looseB ([89, 32, 81] : List UInt8)) == ([97] : List UInt8)))))] [], (Sub.refl _), by kernel_rfl⟩

theorem fn_awake (fuel : Nat)  (res : Bool) (h : (∃ M vs, ARels γ0 M [] vs) → Fawake fuel  = some res) : FnP Try.prog 8 [] (.p (.bool res)) :=
  FnP_lift (fn := Try.f8) (by kernel_rfl) (by kernel_rfl) fun M vs hvs C hC0 => have hC : CtxOk C 7 [] := ⟨hC0.nt.trans (by kernel_rfl), hC0.fx⟩; T.weaken (Tawake fuel  res (h ⟨M, vs, hvs⟩) C hC) (sinit_sub hC (by kernel_rfl) (by kernel_rfl))
end Go.Proofs.Ytdjlilhdgnogaaa
