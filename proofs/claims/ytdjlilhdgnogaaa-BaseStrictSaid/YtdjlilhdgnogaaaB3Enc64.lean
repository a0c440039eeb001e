/-
  Lifted functions, and facts about them.
-/
import Derived.Test.YtdjlilhdgnogaaaRows
import Derived.Test.YtdjlilhdgnogaaaAmB
import Derived.Test.YtdjlilhdgnogaaaB3Lits
import Derived.Test.YtdjlilhdgnogaaaB3PlainD
set_option linter.unusedVariables false
namespace Go.Proofs.Ytdjlilhdgnogaaa
open Go Go.Am
def BEncode64_1 (fuel : Nat)  : Nat → List UInt8 → Option (List UInt8)
  | 0, _ => none
  | f1 + 1, vs1 => if (4 : Int) ≠ 0 then (if (((vs1.length : Int).tmod (4 : Int)) != (0 : Int)) = true then (if lenok (vs1.length + ([61] : List UInt8).length) then (BEncode64_1 fuel f1 (vs1 ++ ([61] : List UInt8))) else none) else (some vs1)) else none

def FEncode64 (fuel : Nat) (s : List UInt8) : Option (List UInt8) := if s.length ≤ 1000000 then (BEncode64_1 fuel fuel (encL64 s)) else none

noncomputable def cEncode64 : Code := bodyOf Try.f12

def envEncode64 : Env := mkEnv [(17, sp_rletters)]

theorem envEncode64_ok : EnvOk Try.prog envEncode64 := EnvOk_mk ⟨ok_rletters.any, trivial⟩

theorem TEncode64 (fuel : Nat) (s : List UInt8) (res : List UInt8) (h : FEncode64 fuel s = some res) (C : Ctx) (hC : CtxOk C 13 []) :
    T Try.prog C (at_ cEncode64 []) (mkS [(0, .p (.str s))] []) (Qend Try.prog C Try.f12.results.toList (.p (.str res))) := by
  have henv := envEncode64_ok
  unfold FEncode64 at h
  refine T_seqp (p := []) (by kernel_rfl) ?_
  refine T_reg henv hC [] [(0, .p (.str s))] [] [] (by kernel_rfl) (by kernel_rfl) trivial (fun s1 hs1 => ?_)
  refine (T.weaken ?_ hs1 : T Try.prog C (at_ cEncode64 [1]) _ _)
  refine T_seqp (p := [1]) (by kernel_rfl) ?_
  obtain ⟨hob, h⟩ := ite_get h
  refine T_reg henv hC [] [(3, .p (.str (encL64 s)))] [] [s.length ≤ 1000000] (by kernel_rfl) (by kernel_rfl) ⟨hob, trivial⟩ (fun s1 hs1 => ?_)
  refine (T.weaken ?_ hs1 : T Try.prog C (at_ cEncode64 [1, 1]) _ _)
  refine T_seqp (p := [1, 1]) (by kernel_rfl) ?_
  refine T_blockp (p := [1, 1, 0]) 0 (by kernel_rfl) ?_
  refine T.weaken ?_ (Sub_view (l := [(3, .p (.str (encL64 s)))]) (o := []) hC [] (by kernel_rfl) (by kernel_rfl) (by kernel_rfl))
  refine T_loopp (p := [1, 1, 0, 0]) (by kernel_rfl) (fun f1 s2 => ∃ (vs1 : List UInt8), s2 = mkS [(3, .p (.str vs1))] [] ∧ BEncode64_1 fuel f1 vs1 = some res) ?_ fuel ⟨encL64 s, rfl, h⟩
  rintro f1 s2 ⟨vs1, rfl, h⟩
  cases f1 with
  | zero => cases h
  | succ f1 =>
    rw [BEncode64_1] at h
    refine T_seqp (p := [1, 1, 0, 0, 0]) (by kernel_rfl) ?_
    refine T_seqp (p := [1, 1, 0, 0, 0, 0]) (by kernel_rfl) ?_
    obtain ⟨hob, h⟩ := ite_get h
    refine T_reg henv hC [] [(3, .p (.str vs1)), (9, .p (.bool (((vs1.length : Int).tmod (4 : Int)) != (0 : Int))))] [] [(4 : Int) ≠ 0] (by kernel_rfl) (by kernel_rfl) ⟨hob, trivial⟩ (fun s1 hs1 => ?_)
    refine (T.weaken ?_ hs1 : T Try.prog C (at_ cEncode64 [1, 1, 0, 0, 0, 0, 1]) _ _)
    refine T_condp (p := [1, 1, 0, 0, 0, 0, 1]) (by kernel_rfl) (((vs1.length : Int).tmod (4 : Int)) != (0 : Int)) (by kernel_rfl) (fun hb => ?_) (fun hb => ?_)
    · have h := ite_t h hb
      refine T_skipp (p := [1, 1, 0, 0, 0, 0, 1, 0]) (by kernel_rfl) ?_
      refine (T.weaken ?_ (Sub.refl _) : T Try.prog C (at_ cEncode64 [1, 1, 0, 0, 0, 1]) _ _)
      refine T_blockp (p := [1, 1, 0, 0, 0, 1]) 1 (by kernel_rfl) ?_
      obtain ⟨hob, h⟩ := ite_get h
      refine T_reg henv hC [] [(3, .p (.str (vs1 ++ ([61] : List UInt8))))] [] [lenok (vs1.length + ([61] : List UInt8).length)] (by kernel_rfl) (by kernel_rfl) ⟨hob, trivial⟩ (fun s1 hs1 => ?_)
      exact ⟨f1, _, Nat.lt_succ_self f1, ⟨vs1 ++ ([61] : List UInt8), rfl, h⟩, Sub.trans hs1 (Sub_view hC [] (by kernel_rfl) (by kernel_rfl) (by kernel_rfl))⟩
    · have h := ite_f h hb
      refine T_exitp (p := [1, 1, 0, 0, 0, 0, 1, 1]) 0 (by kernel_rfl) ?_
      refine then_exit ?_
      refine then_exit ?_
      refine inblock_hit ?_
      refine (T.weaken ?_ (Sub.refl _) : T Try.prog C (at_ cEncode64 [1, 1, 1]) _ _)
      refine T_seqp (p := [1, 1, 1]) (by kernel_rfl) ?_
      refine T_reg henv hC [] [(2, .p (.str vs1))] [] [] (by kernel_rfl) (by kernel_rfl) trivial (fun s1 hs1 => ?_)
      refine (T.weaken ?_ hs1 : T Try.prog C (at_ cEncode64 [1, 1, 1, 1]) _ _)
      refine T_retp (p := [1, 1, 1, 1]) (by kernel_rfl) ?_
      have h := Option.some.inj h; subst h
      exact ⟨mkS [(2, .p (.str vs1))] [], (Sub.refl _), by kernel_rfl⟩

theorem fn_Encode64 (fuel : Nat) (s : List UInt8) (res : List UInt8) (h : (∃ M vs, ARels γ0 M [.p (.str s)] vs) → FEncode64 fuel s = some res) : FnP Try.prog 12 [.p (.str s)] (.p (.str res)) :=
  FnP_lift (fn := Try.f12) (by kernel_rfl) (by kernel_rfl) fun M vs hvs C hC0 => have hC : CtxOk C 13 [] := ⟨hC0.nt.trans (by kernel_rfl), hC0.fx⟩; T.weaken (TEncode64 fuel s res (h ⟨M, vs, hvs⟩) C hC) (sinit_sub hC (by kernel_rfl) (by kernel_rfl))
end Go.Proofs.Ytdjlilhdgnogaaa
