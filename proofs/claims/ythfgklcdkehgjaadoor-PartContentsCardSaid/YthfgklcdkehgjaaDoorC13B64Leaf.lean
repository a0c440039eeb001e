/-
  Lifted functions, and facts about them.
-/
import Derived.Test.YthfgklcdkehgjaaDoorRows
import Derived.Test.YthfgklcdkehgjaaDoorAmC
import Derived.Test.YthfgklcdkehgjaaDoorC13Lits
import Derived.Test.YthfgklcdkehgjaaDoorC13Small
namespace Go.Proofs.YthfgklcdkehgjaaDoor
open Go Go.Am
set_option linter.unusedVariables false
def Falpha (fuel : Nat)  : Option (List UInt8) := some LB_7543b37f

noncomputable def calpha : Code := bodyOf Tryd.f83

def envalpha : Env := mkEnv []

theorem envalpha_ok : EnvOk Tryd.prog envalpha := EnvOk_mk trivial

theorem Talpha (fuel : Nat)  (res : List UInt8) (h : Falpha fuel  = some res) (C : Ctx) (hC : CtxOk C 1 []) :
    T Tryd.prog C (at_ calpha []) (mkS [] []) (Qend Tryd.prog C Tryd.f83.results.toList (.p (.str res))) := by
  have henv := envalpha_ok
  unfold Falpha at h
  refine T_seqp (p := []) (by kernel_rfl) ?_
  refine T_reg henv hC [] [] [] [] (by kernel_rfl) (by kernel_rfl) trivial (fun s1 hs1 => ?_)
  refine (T.weaken ?_ hs1 : T Tryd.prog C (at_ calpha [1]) _ _)
  refine T_seqp (p := [1]) (by kernel_rfl) ?_
  refine T_reg henv hC [] [(0, .p (.str LB_7543b37f))] [] [] (by kernel_rfl) (by kernel_rfl) trivial (fun s1 hs1 => ?_)
  refine (T.weaken ?_ hs1 : T Tryd.prog C (at_ calpha [1, 1]) _ _)
  refine T_retp (p := [1, 1]) (by kernel_rfl) ?_
  have h := Option.some.inj h; subst h
  exact ⟨mkS [(0, .p (.str LB_7543b37f))] [], (Sub.refl _), by kernel_rfl⟩

theorem fn_alpha (fuel : Nat)  (res : List UInt8) (h : (∃ M vs, ARels γ0 M [] vs) → Falpha fuel  = some res) : FnP Tryd.prog 83 [] (.p (.str res)) :=
  FnP_lift (fn := Tryd.f83) (by kernel_rfl) (by kernel_rfl) fun M vs hvs C hC0 => have hC : CtxOk C 1 [] := ⟨hC0.nt.trans (by kernel_rfl), hC0.fx⟩; T.weaken (Talpha fuel  res (h ⟨M, vs, hvs⟩) C hC) (sinit_sub hC (by kernel_rfl) (by kernel_rfl))







/-! Base64: what the small functions answer. -/

abbrev alphaS : List UInt8 := LB_7543b37f
def letter (k : Nat) : UInt8 := alphaS.getD k 0
def letS (bits : Int) (n : Nat) : List UInt8 := (List.range' 0 n).map fun i => letter (bits.toNat / 2 ^ (18 - 6 * i) % 64)
abbrev letok (bits n : Int) : Prop := 0 ≤ bits ∧ bits < 16777216 ∧ 0 ≤ n ∧ n ≤ 4
theorem alpha_len : LB_7543b37f.length = 64 := by decide


def sp_letters : List AV → Option (AV × Option Prop)
  | [.p (.int .i64 bits), .p (.int .i64 n)] => some (.p (.bytes (letS bits n.toNat)), some (letok bits n))
  | _ => none
def sp_alpha : List AV → Option (AV × Option Prop)
  | [] => some (.p (.str alphaS), none)
  | _ => none
theorem ok_alpha : SpecOk Tryd.prog 83 sp_alpha := by
  intro zs r ok h hok
  unfold sp_alpha at h
  split at h
  · cases h; exact ⟨by kernel_rfl, fn_alpha 0 _ fun _ => rfl⟩
  · cases h


end Go.Proofs.YthfgklcdkehgjaaDoor
