/-
  Lifted functions, and facts about them.
-/
import Derived.Test.YthfgklcdkehgjaaDoorRows
import Derived.Test.YthfgklcdkehgjaaDoorAmC
import Derived.Test.YthfgklcdkehgjaaDoorC13Ixb0
namespace Go.Proofs.YthfgklcdkehgjaaDoor
open Go Go.Am
set_option linter.unusedVariables false
def Fixbl (fuel : Nat) (s : List UInt8) (c : Int) : Option Int := some (ixS s c)

noncomputable def cixbl : Code := bodyOf Tryd.f80

def envixbl : Env := mkEnv [(94, sp_extib)]

theorem envixbl_ok : EnvOk Tryd.prog envixbl := EnvOk_mk ⟨ok_extib.any, trivial⟩

theorem Tixbl (fuel : Nat) (s : List UInt8) (c res : Int) (h : Fixbl fuel s c = some res) (C : Ctx) (hC : CtxOk C 8 []) :
    T Tryd.prog C (at_ cixbl []) (mkS [(0, .p (.str s)), (1, .p (.int .u8 c))] []) (Qend Tryd.prog C Tryd.f80.results.toList (.p (.int .i64 res))) := by
  have henv := envixbl_ok
  unfold Fixbl at h
  refine T_seqp (p := []) (by kernel_rfl) ?_
  refine T_reg henv hC [] [(0, .p (.str s)), (1, .p (.int .u8 c))] [] [] (by kernel_rfl) (by kernel_rfl) trivial (fun s1 hs1 => ?_)
  refine (T.weaken ?_ hs1 : T Tryd.prog C (at_ cixbl [1]) _ _)
  refine T_seqp (p := [1]) (by kernel_rfl) ?_
  refine T_reg henv hC [] [(4, .p (.int .i64 (ixS s c)))] [] [] (by kernel_rfl) (by kernel_rfl) trivial (fun s1 hs1 => ?_)
  refine (T.weaken ?_ hs1 : T Tryd.prog C (at_ cixbl [1, 1]) _ _)
  refine T_retp (p := [1, 1]) (by kernel_rfl) ?_
  have h := Option.some.inj h; subst h
  exact ⟨mkS [(4, .p (.int .i64 (ixS s c)))] [], (Sub.refl _), by kernel_rfl⟩

theorem fn_ixbl (fuel : Nat) (s : List UInt8) (c res : Int) (h : (∃ M vs, ARels γ0 M [.p (.str s), .p (.int .u8 c)] vs) → Fixbl fuel s c = some res) : FnP Tryd.prog 80 [.p (.str s), .p (.int .u8 c)] (.p (.int .i64 res)) :=
  FnP_lift (fn := Tryd.f80) (by kernel_rfl) (by kernel_rfl) fun M vs hvs C hC0 => have hC : CtxOk C 8 [] := ⟨hC0.nt.trans (by kernel_rfl), hC0.fx⟩; T.weaken (Tixbl fuel s c res (h ⟨M, vs, hvs⟩) C hC) (sinit_sub hC (by kernel_rfl) (by kernel_rfl))
def sp_ixbl : List AV → Option (AV × Option Prop) := sp_extib
theorem ok_ixbl : SpecOk Tryd.prog 80 sp_ixbl := by
  intro zs r ok h hok
  unfold sp_ixbl sp_extib at h
  split at h
  · cases h; exact ⟨by kernel_rfl, fn_ixbl 0 _ _ _ fun _ => rfl⟩
  · cases h
end Go.Proofs.YthfgklcdkehgjaaDoor
