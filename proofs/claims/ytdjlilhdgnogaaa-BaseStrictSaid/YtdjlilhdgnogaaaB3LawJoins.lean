/-
  Lifted functions, and facts about them.
-/
import Derived.Test.YtdjlilhdgnogaaaRows
import Derived.Test.YtdjlilhdgnogaaaAmB
import Derived.Test.YtdjlilhdgnogaaaB3Lits
import Derived.Test.YtdjlilhdgnogaaaB3Spec5
set_option linter.unusedVariables false
namespace Go.Proofs.Ytdjlilhdgnogaaa
open Go Go.Am
def FJoins (fuel : Nat) (a : List UInt8) (b : List UInt8) : Option Bool := if ((decide ((a.length : Int) > (1000 : Int))) || (decide ((b.length : Int) > (1000 : Int)))) = true then (some true) else (if ((3 : Int) ≠ 0 ∧ i64ok ((a.length : Int).tdiv (3 : Int))) ∧ (i64ok (((a.length : Int).tdiv (3 : Int)) * (3 : Int))) ∧ (0 ≤ (((a.length : Int).tdiv (3 : Int)) * (3 : Int)) ∧ (((a.length : Int).tdiv (3 : Int)) * (3 : Int)) ≤ (a.length : Int)) then (if (lenok ((a.take (((a.length : Int).tdiv (3 : Int)) * (3 : Int)).toNat).length + b.length)) ∧ (((a.take (((a.length : Int).tdiv (3 : Int)) * (3 : Int)).toNat) ++ b).length ≤ 1000000) ∧ ((a.take (((a.length : Int).tdiv (3 : Int)) * (3 : Int)).toNat).length ≤ 1000000) ∧ (b.length ≤ 1000000) ∧ (lenok ((encB (a.take (((a.length : Int).tdiv (3 : Int)) * (3 : Int)).toNat)).length + (encB b).length)) then (some (((encB ((a.take (((a.length : Int).tdiv (3 : Int)) * (3 : Int)).toNat) ++ b)) == ((encB (a.take (((a.length : Int).tdiv (3 : Int)) * (3 : Int)).toNat)) ++ (encB b))) && true)) else none) else none)

noncomputable def cJoins : Code := bodyOf Try.f3

def envJoins : Env := mkEnv [(8, sp_awake), (9, sp_Encode)]

theorem envJoins_ok : EnvOk Try.prog envJoins := EnvOk_mk ⟨ok_awake.any, ok_Encode.any, trivial⟩

theorem TJoins (fuel : Nat) (a : List UInt8) (b : List UInt8) (res : Bool) (h : FJoins fuel a b = some res) (C : Ctx) (hC : CtxOk C 33 []) :
    T Try.prog C (at_ cJoins []) (mkS [(0, .p (.str a)), (1, .p (.str b))] []) (Qend Try.prog C Try.f3.results.toList (.p (.bool res))) := by
  have henv := envJoins_ok
  unfold FJoins at h
  refine T_seqp (p := []) (by kernel_rfl) ?_
  refine T_reg henv hC [] [(0, .p (.str a)), (1, .p (.str b))] [] [] (by kernel_rfl) (by kernel_rfl) trivial (fun s1 hs1 => ?_)
  refine (T.weaken ?_ hs1 : T Try.prog C (at_ cJoins [1]) _ _)
  refine T_seqp (p := [1]) (by kernel_rfl) ?_
  refine T_seqp (p := [1, 0]) (by kernel_rfl) ?_
  refine T_reg henv hC [] [(0, .p (.str a)), (1, .p (.str b)), (12, .p (.bool ((decide ((a.length : Int) > (1000 : Int))) || (decide ((b.length : Int) > (1000 : Int))))))] [] [(!(decide ((a.length : Int) > (1000 : Int)))) = true → (!(decide ((a.length : Int) > (1000 : Int)))) = true, (!(decide ((a.length : Int) > (1000 : Int)))) = true → (!(decide ((a.length : Int) > (1000 : Int)))) = true, (decide ((a.length : Int) > (1000 : Int))) = false → (!(decide ((a.length : Int) > (1000 : Int)))) = true] (by kernel_rfl) (by kernel_rfl) ⟨(fun q0 => q0), (fun q0 => q0), (fun q0 => (not_mk q0)), trivial⟩ (fun s1 hs1 => ?_)
  refine (T.weaken ?_ hs1 : T Try.prog C (at_ cJoins [1, 0, 1]) _ _)
  refine T_condp (p := [1, 0, 1]) (by kernel_rfl) ((decide ((a.length : Int) > (1000 : Int))) || (decide ((b.length : Int) > (1000 : Int)))) (by kernel_rfl) (fun hb => ?_) (fun hb => ?_)
  · have h := ite_t h hb
    refine T_seqp (p := [1, 0, 1, 0]) (by kernel_rfl) ?_
    refine T_reg henv hC [] [(4, .p (.bool true))] [] [] (by kernel_rfl) (by kernel_rfl) trivial (fun s1 hs1 => ?_)
    refine (T.weaken ?_ hs1 : T Try.prog C (at_ cJoins [1, 0, 1, 0, 1]) _ _)
    refine T_retp (p := [1, 0, 1, 0, 1]) (by kernel_rfl) ?_
    refine then_ret ?_
    have h := Option.some.inj h; subst h
    exact ⟨mkS [(4, .p (.bool true))] [], (Sub.refl _), by kernel_rfl⟩
  · have h := ite_f h hb
    refine T_skipp (p := [1, 0, 1, 1]) (by kernel_rfl) ?_
    refine (T.weaken ?_ (Sub.refl _) : T Try.prog C (at_ cJoins [1, 1]) _ _)
    refine T_seqp (p := [1, 1]) (by kernel_rfl) ?_
    obtain ⟨hob, h⟩ := ite_get h
    refine T_reg henv hC [] [(0, .p (.str (a.take (((a.length : Int).tdiv (3 : Int)) * (3 : Int)).toNat))), (1, .p (.str b))] [] [(3 : Int) ≠ 0 ∧ i64ok ((a.length : Int).tdiv (3 : Int)), i64ok (((a.length : Int).tdiv (3 : Int)) * (3 : Int)), 0 ≤ (((a.length : Int).tdiv (3 : Int)) * (3 : Int)) ∧ (((a.length : Int).tdiv (3 : Int)) * (3 : Int)) ≤ (a.length : Int)] (by kernel_rfl) (by kernel_rfl) ⟨hob.1, hob.2.1, hob.2.2, trivial⟩ (fun s1 hs1 => ?_)
    refine (T.weaken ?_ hs1 : T Try.prog C (at_ cJoins [1, 1, 1]) _ _)
    refine T_seqp (p := [1, 1, 1]) (by kernel_rfl) ?_
    obtain ⟨hob, h⟩ := ite_get h
    refine T_reg henv hC [] [(4, .p (.bool (((encB ((a.take (((a.length : Int).tdiv (3 : Int)) * (3 : Int)).toNat) ++ b)) == ((encB (a.take (((a.length : Int).tdiv (3 : Int)) * (3 : Int)).toNat)) ++ (encB b))) && true)))] [] [lenok ((a.take (((a.length : Int).tdiv (3 : Int)) * (3 : Int)).toNat).length + b.length), ((a.take (((a.length : Int).tdiv (3 : Int)) * (3 : Int)).toNat) ++ b).length ≤ 1000000, (a.take (((a.length : Int).tdiv (3 : Int)) * (3 : Int)).toNat).length ≤ 1000000, b.length ≤ 1000000, lenok ((encB (a.take (((a.length : Int).tdiv (3 : Int)) * (3 : Int)).toNat)).length + (encB b).length), ((encB ((a.take (((a.length : Int).tdiv (3 : Int)) * (3 : Int)).toNat) ++ b)) == ((encB (a.take (((a.length : Int).tdiv (3 : Int)) * (3 : Int)).toNat)) ++ (encB b))) = true → ((encB ((a.take (((a.length : Int).tdiv (3 : Int)) * (3 : Int)).toNat) ++ b)) == ((encB (a.take (((a.length : Int).tdiv (3 : Int)) * (3 : Int)).toNat)) ++ (encB b))) = true] (by kernel_rfl) (by kernel_rfl) ⟨hob.1, hob.2.1, hob.2.2.1, hob.2.2.2.1, hob.2.2.2.2, (fun q0 => q0), trivial⟩ (fun s1 hs1 => ?_)
    refine (T.weaken ?_ hs1 : T Try.prog C (at_ cJoins [1, 1, 1, 1]) _ _)
    refine T_retp (p := [1, 1, 1, 1]) (by kernel_rfl) ?_
    have h := Option.some.inj h; subst h
    exact ⟨mkS [(4, .p (.bool (((encB ((a.take (((a.length : Int).tdiv (3 : Int)) * (3 : Int)).toNat) ++ b)) == ((encB (a.take (((a.length : Int).tdiv (3 : Int)) * (3 : Int)).toNat)) ++ (encB b))) && true)))] [], (Sub.refl _), by kernel_rfl⟩

theorem fn_Joins (fuel : Nat) (a : List UInt8) (b : List UInt8) (res : Bool) (h : (∃ M vs, ARels γ0 M [.p (.str a), .p (.str b)] vs) → FJoins fuel a b = some res) : FnP Try.prog 3 [.p (.str a), .p (.str b)] (.p (.bool res)) :=
  FnP_lift (fn := Try.f3) (by kernel_rfl) (by kernel_rfl) fun M vs hvs C hC0 => have hC : CtxOk C 33 [] := ⟨hC0.nt.trans (by kernel_rfl), hC0.fx⟩; T.weaken (TJoins fuel a b res (h ⟨M, vs, hvs⟩) C hC) (sinit_sub hC (by kernel_rfl) (by kernel_rfl))
end Go.Proofs.Ytdjlilhdgnogaaa
