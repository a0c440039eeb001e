/-
  Lifted functions, and facts about them.
-/
import Derived.Test.YtdjlilhdgnogaaaRows
import Derived.Test.YtdjlilhdgnogaaaAmB
import Derived.Test.YtdjlilhdgnogaaaB3Lits
import Derived.Test.YtdjlilhdgnogaaaB3PlainE
set_option linter.unusedVariables false
namespace Go.Proofs.Ytdjlilhdgnogaaa
open Go Go.Am
def FDecode64 (fuel : Nat) (s : List UInt8) : Option (List UInt8 × Int) := if s.length ≤ 1000000 then (if (looseB s).length ≤ 1000000 then (if ((encB (looseB s)) != s) = true then (some (([] : List UInt8), (3 : Int))) else (some (looseB s, (0 : Int)))) else none) else none

noncomputable def cDecode64 : Code := bodyOf Try.f11

def envDecode64 : Env := mkEnv [(12, sp_Encode64), (15, sp_rLoose)]

theorem envDecode64_ok : EnvOk Try.prog envDecode64 := EnvOk_mk ⟨ok_Encode64.any, ok_rLoose.any, trivial⟩

theorem TDecode64 (fuel : Nat) (s : List UInt8) (res : List UInt8 × Int) (h : FDecode64 fuel s = some res) (C : Ctx) (hC : CtxOk C 12 []) :
    T Try.prog C (at_ cDecode64 []) (mkS [(0, .p (.str s))] []) (Qend Try.prog C Try.f11.results.toList (.tup [.p (.str res.1), .p (.int .i64 res.2)])) := by
  have henv := envDecode64_ok
  unfold FDecode64 at h
  refine T_seqp (p := []) (by kernel_rfl) ?_
  refine T_reg henv hC [] [(0, .p (.str s))] [] [] (by kernel_rfl) (by kernel_rfl) trivial (fun s1 hs1 => ?_)
  refine (T.weaken ?_ hs1 : T Try.prog C (at_ cDecode64 [1]) _ _)
  refine T_seqp (p := [1]) (by kernel_rfl) ?_
  obtain ⟨hob, h⟩ := ite_get h
  refine T_reg henv hC [] [(0, .p (.str s)), (4, .p (.str (looseB s)))] [] [s.length ≤ 1000000] (by kernel_rfl) (by kernel_rfl) ⟨hob, trivial⟩ (fun s1 hs1 => ?_)
  refine (T.weaken ?_ hs1 : T Try.prog C (at_ cDecode64 [1, 1]) _ _)
  refine T_seqp (p := [1, 1]) (by kernel_rfl) ?_
  refine T_seqp (p := [1, 1, 0]) (by kernel_rfl) ?_
  obtain ⟨hob, h⟩ := ite_get h
  refine T_reg henv hC [] [(4, .p (.str (looseB s))), (10, .p (.bool ((encB (looseB s)) != s)))] [] [(looseB s).length ≤ 1000000] (by kernel_rfl) (by kernel_rfl) ⟨hob, trivial⟩ (fun s1 hs1 => ?_)
  refine (T.weaken ?_ hs1 : T Try.prog C (at_ cDecode64 [1, 1, 0, 1]) _ _)
  refine T_condp (p := [1, 1, 0, 1]) (by kernel_rfl) ((encB (looseB s)) != s) (by kernel_rfl) (fun hb => ?_) (fun hb => ?_)
  · have h := ite_t h hb
    refine T_seqp (p := [1, 1, 0, 1, 0]) (by kernel_rfl) ?_
    refine T_reg henv hC [] [(2, .p (.str ([] : List UInt8))), (3, .p (.int .i64 (3 : Int)))] [] [] (by kernel_rfl) (by kernel_rfl) trivial (fun s1 hs1 => ?_)
    refine (T.weaken ?_ hs1 : T Try.prog C (at_ cDecode64 [1, 1, 0, 1, 0, 1]) _ _)
    refine T_retp (p := [1, 1, 0, 1, 0, 1]) (by kernel_rfl) ?_
    refine then_ret ?_
    have h := Option.some.inj h; subst h
    exact ⟨mkS [(2, .p (.str ([] : List UInt8))), (3, .p (.int .i64 (3 : Int)))] [], (Sub.refl _), by kernel_rfl⟩
  · have h := ite_f h hb
    refine T_skipp (p := [1, 1, 0, 1, 1]) (by kernel_rfl) ?_
    refine (T.weaken ?_ (Sub.refl _) : T Try.prog C (at_ cDecode64 [1, 1, 1]) _ _)
    refine T_seqp (p := [1, 1, 1]) (by kernel_rfl) ?_
    refine T_reg henv hC [] [(2, .p (.str (looseB s))), (3, .p (.int .i64 (0 : Int)))] [] [] (by kernel_rfl) (by kernel_rfl) trivial (fun s1 hs1 => ?_)
    refine (T.weaken ?_ hs1 : T Try.prog C (at_ cDecode64 [1, 1, 1, 1]) _ _)
    refine T_retp (p := [1, 1, 1, 1]) (by kernel_rfl) ?_
    have h := Option.some.inj h; subst h
    exact ⟨mkS [(2, .p (.str (looseB s))), (3, .p (.int .i64 (0 : Int)))] [], (Sub.refl _), by kernel_rfl⟩

theorem fn_Decode64 (fuel : Nat) (s : List UInt8) (res : List UInt8 × Int) (h : (∃ M vs, ARels γ0 M [.p (.str s)] vs) → FDecode64 fuel s = some res) : FnP Try.prog 11 [.p (.str s)] (.tup [.p (.str res.1), .p (.int .i64 res.2)]) :=
  FnP_lift (fn := Try.f11) (by kernel_rfl) (by kernel_rfl) fun M vs hvs C hC0 => have hC : CtxOk C 12 [] := ⟨hC0.nt.trans (by kernel_rfl), hC0.fx⟩; T.weaken (TDecode64 fuel s res (h ⟨M, vs, hvs⟩) C hC) (sinit_sub hC (by kernel_rfl) (by kernel_rfl))
end Go.Proofs.Ytdjlilhdgnogaaa
