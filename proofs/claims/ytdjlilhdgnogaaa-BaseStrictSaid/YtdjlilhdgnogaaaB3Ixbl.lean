/-
  Lifted functions, and facts about them.
-/
import Derived.Test.YtdjlilhdgnogaaaRows
import Derived.Test.YtdjlilhdgnogaaaAmB
import Derived.Test.YtdjlilhdgnogaaaB3Lits
import Derived.Test.YtdjlilhdgnogaaaB3Spec
set_option linter.unusedVariables false
namespace Go.Proofs.Ytdjlilhdgnogaaa
open Go Go.Am
def Fixbl (fuel : Nat) (s : List UInt8) (c : Int) : Option Int := some (ixS s c)

noncomputable def cixbl : Code := bodyOf Try.f21

def envixbl : Env := mkEnv [(22, sp_ext22)]

theorem envixbl_ok : EnvOk Try.prog envixbl := EnvOk_mk ⟨ok_ext22.any, trivial⟩

theorem Tixbl (fuel : Nat) (s : List UInt8) (c : Int) (res : Int) (h : Fixbl fuel s c = some res) (C : Ctx) (hC : CtxOk C 8 []) :
    T Try.prog C (at_ cixbl []) (mkS [(0, .p (.str s)), (1, .p (.int .u8 c))] []) (Qend Try.prog C Try.f21.results.toList (.p (.int .i64 res))) := by
  have henv := envixbl_ok
  unfold Fixbl at h
  refine T_seqp (p := []) (by kernel_rfl) ?_
  refine T_reg henv hC [] [(0, .p (.str s)), (1, .p (.int .u8 c))] [] [] (by kernel_rfl) (by kernel_rfl) trivial (fun s1 hs1 => ?_)
  refine (T.weaken ?_ hs1 : T Try.prog C (at_ cixbl [1]) _ _)
  refine T_seqp (p := [1]) (by kernel_rfl) ?_
  refine T_reg henv hC [] [(4, .p (.int .i64 (ixS s c)))] [] [] (by kernel_rfl) (by kernel_rfl) trivial (fun s1 hs1 => ?_)
  refine (T.weaken ?_ hs1 : T Try.prog C (at_ cixbl [1, 1]) _ _)
  refine T_retp (p := [1, 1]) (by kernel_rfl) ?_
  have h := Option.some.inj h; subst h
  exact ⟨mkS [(4, .p (.int .i64 (ixS s c)))] [], (Sub.refl _), by kernel_rfl⟩

theorem fn_ixbl (fuel : Nat) (s : List UInt8) (c : Int) (res : Int) (h : (∃ M vs, ARels γ0 M [.p (.str s), .p (.int .u8 c)] vs) → Fixbl fuel s c = some res) : FnP Try.prog 21 [.p (.str s), .p (.int .u8 c)] (.p (.int .i64 res)) :=
  FnP_lift (fn := Try.f21) (by kernel_rfl) (by kernel_rfl) fun M vs hvs C hC0 => have hC : CtxOk C 8 [] := ⟨hC0.nt.trans (by kernel_rfl), hC0.fx⟩; T.weaken (Tixbl fuel s c res (h ⟨M, vs, hvs⟩) C hC) (sinit_sub hC (by kernel_rfl) (by kernel_rfl))
end Go.Proofs.Ytdjlilhdgnogaaa
