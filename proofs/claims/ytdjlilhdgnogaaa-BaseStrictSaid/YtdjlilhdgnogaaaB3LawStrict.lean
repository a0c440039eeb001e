/-
  Lifted functions, and facts about them.
-/
import Derived.Test.YtdjlilhdgnogaaaRows
import Derived.Test.YtdjlilhdgnogaaaAmB
import Derived.Test.YtdjlilhdgnogaaaB3Lits
import Derived.Test.YtdjlilhdgnogaaaB3Spec5
set_option linter.unusedVariables false
namespace Go.Proofs.Ytdjlilhdgnogaaa
open Go Go.Am
def FStrict (fuel : Nat) (s : List UInt8) (att : Int) : Option Bool := if (((s.length : Int) == (0 : Int)) || (decide ((s.length : Int) > (3000 : Int)))) = true then (some true) else (if s.length ≤ 1000000 then (if (((encB s).length : Int) == (0 : Int)) = true then (some false) else (if ((encB s).length : Int) ≠ 0 then (if (0 ≤ (att.tmod ((encB s).length : Int)) ∧ (att.tmod ((encB s).length : Int)) ≤ ((encB s).length : Int)) ∧ (lenok (((encB s).take (att.tmod ((encB s).length : Int)).toNat).length + ([32] : List UInt8).length)) ∧ (0 ≤ (att.tmod ((encB s).length : Int)) ∧ (att.tmod ((encB s).length : Int)) ≤ ((encB s).length : Int)) ∧ (lenok ((((encB s).take (att.tmod ((encB s).length : Int)).toNat) ++ ([32] : List UInt8)).length + ((encB s).drop (att.tmod ((encB s).length : Int)).toNat).length)) ∧ (((((encB s).take (att.tmod ((encB s).length : Int)).toNat) ++ ([32] : List UInt8)) ++ ((encB s).drop (att.tmod ((encB s).length : Int)).toNat)).length ≤ 100000) then (if (0 ≤ (att.tmod ((encB s).length : Int)) ∧ (att.tmod ((encB s).length : Int)) ≤ ((encB s).length : Int)) ∧ (i64ok ((att.tmod ((encB s).length : Int)) + (1 : Int))) ∧ (0 ≤ ((att.tmod ((encB s).length : Int)) + (1 : Int)) ∧ ((att.tmod ((encB s).length : Int)) + (1 : Int)) ≤ ((encB s).length : Int)) ∧ (lenok (((encB s).take (att.tmod ((encB s).length : Int)).toNat).length + ((encB s).drop ((att.tmod ((encB s).length : Int)) + (1 : Int)).toNat).length)) ∧ ((((encB s).take (att.tmod ((encB s).length : Int)).toNat) ++ ((encB s).drop ((att.tmod ((encB s).length : Int)) + (1 : Int)).toNat)).length ≤ 100000) then (if (lenok ((encB s).length + ([61] : List UInt8).length)) ∧ (((encB s) ++ ([61] : List UInt8)).length ≤ 100000) then (some ((((((decB ((((encB s).take (att.tmod ((encB s).length : Int)).toNat) ++ ([32] : List UInt8)) ++ ((encB s).drop (att.tmod ((encB s).length : Int)).toNat))).2) == (3 : Int)) && (((decB (((encB s).take (att.tmod ((encB s).length : Int)).toNat) ++ ((encB s).drop ((att.tmod ((encB s).length : Int)) + (1 : Int)).toNat))).2) == (3 : Int))) && (((decB ((encB s) ++ ([61] : List UInt8))).2) == (3 : Int))) && true)) else none) else none) else none) else none)) else none)

noncomputable def cStrict : Code := bodyOf Try.f7

def envStrict : Env := mkEnv [(8, sp_awake), (9, sp_Encode), (10, sp_Decode), (13, sp_Num)]

theorem envStrict_ok : EnvOk Try.prog envStrict := EnvOk_mk ⟨ok_awake.any, ok_Encode.any, ok_Decode.any, ok_Num.any, trivial⟩

def envrStrict : EnvR := mkEnvR []

theorem envrStrict_ok : EnvROk Try.prog envrStrict := EnvROk_mk trivial

theorem TStrict (fuel : Nat) (s : List UInt8) (att : Int) (res : Bool) (h : FStrict fuel s att = some res) (C : Ctx) (hC : CtxOk C 78 []) :
    T Try.prog C (at_ cStrict []) (mkS [(0, .p (.str s)), (1, .p (.int .u16 att))] []) (Qend Try.prog C Try.f7.results.toList (.p (.bool res))) := by
  have henv := envStrict_ok
  have henvR := envrStrict_ok
  have hmx : Try.prog.follows .mixedOrders = true := Checked.mixed Try.checked
  unfold FStrict at h
  refine T_seqp (p := []) (by kernel_rfl) ?_
  refine T_reg henv hC [] [(0, .p (.str s)), (1, .p (.int .u16 att))] [] [] (by kernel_rfl) (by kernel_rfl) trivial (fun s1 hs1 => ?_)
  refine (T.weaken ?_ hs1 : T Try.prog C (at_ cStrict [1]) _ _)
  refine T_seqp (p := [1]) (by kernel_rfl) ?_
  refine T_seqp (p := [1, 0]) (by kernel_rfl) ?_
  refine T_reg henv hC [] [(0, .p (.str s)), (1, .p (.int .u16 att)), (20, .p (.bool (((s.length : Int) == (0 : Int)) || (decide ((s.length : Int) > (3000 : Int))))))] [] [(!((s.length : Int) == (0 : Int))) = true → (!((s.length : Int) == (0 : Int))) = true, (!((s.length : Int) == (0 : Int))) = true → (!((s.length : Int) == (0 : Int))) = true, ((s.length : Int) == (0 : Int)) = false → (!((s.length : Int) == (0 : Int))) = true] (by kernel_rfl) (by kernel_rfl) ⟨(fun q0 => q0), (fun q0 => q0), (fun q0 => (not_mk q0)), trivial⟩ (fun s1 hs1 => ?_)
  refine (T.weaken ?_ hs1 : T Try.prog C (at_ cStrict [1, 0, 1]) _ _)
  refine T_condp (p := [1, 0, 1]) (by kernel_rfl) (((s.length : Int) == (0 : Int)) || (decide ((s.length : Int) > (3000 : Int)))) (by kernel_rfl) (fun hb => ?_) (fun hb => ?_)
  · have h := ite_t h hb
    refine T_seqp (p := [1, 0, 1, 0]) (by kernel_rfl) ?_
    refine T_reg henv hC [] [(4, .p (.bool true))] [] [] (by kernel_rfl) (by kernel_rfl) trivial (fun s1 hs1 => ?_)
    refine (T.weaken ?_ hs1 : T Try.prog C (at_ cStrict [1, 0, 1, 0, 1]) _ _)
    refine T_retp (p := [1, 0, 1, 0, 1]) (by kernel_rfl) ?_
    refine then_ret ?_
    have h := Option.some.inj h; subst h
    exact ⟨mkS [(4, .p (.bool true))] [], (Sub.refl _), by kernel_rfl⟩
  · have h := ite_f h hb
    refine T_skipp (p := [1, 0, 1, 1]) (by kernel_rfl) ?_
    refine (T.weaken ?_ (Sub.refl _) : T Try.prog C (at_ cStrict [1, 1]) _ _)
    refine T_seqp (p := [1, 1]) (by kernel_rfl) ?_
    obtain ⟨hob, h⟩ := ite_get h
    refine T_reg henv hC [] [(1, .p (.int .u16 att)), (5, .p (.str (encB s)))] [] [s.length ≤ 1000000] (by kernel_rfl) (by kernel_rfl) ⟨hob, trivial⟩ (fun s1 hs1 => ?_)
    refine (T.weaken ?_ hs1 : T Try.prog C (at_ cStrict [1, 1, 1]) _ _)
    refine T_seqp (p := [1, 1, 1]) (by kernel_rfl) ?_
    refine T_seqp (p := [1, 1, 1, 0]) (by kernel_rfl) ?_
    refine T_reg henv hC [] [(1, .p (.int .u16 att)), (5, .p (.str (encB s))), (26, .p (.bool (((encB s).length : Int) == (0 : Int))))] [] [] (by kernel_rfl) (by kernel_rfl) trivial (fun s1 hs1 => ?_)
    refine (T.weaken ?_ hs1 : T Try.prog C (at_ cStrict [1, 1, 1, 0, 1]) _ _)
    refine T_condp (p := [1, 1, 1, 0, 1]) (by kernel_rfl) (((encB s).length : Int) == (0 : Int)) (by kernel_rfl) (fun hb => ?_) (fun hb => ?_)
    · have h := ite_t h hb
      refine T_seqp (p := [1, 1, 1, 0, 1, 0]) (by kernel_rfl) ?_
      refine T_reg henv hC [] [(4, .p (.bool false))] [] [] (by kernel_rfl) (by kernel_rfl) trivial (fun s1 hs1 => ?_)
      refine (T.weaken ?_ hs1 : T Try.prog C (at_ cStrict [1, 1, 1, 0, 1, 0, 1]) _ _)
      refine T_retp (p := [1, 1, 1, 0, 1, 0, 1]) (by kernel_rfl) ?_
      refine then_ret ?_
      have h := Option.some.inj h; subst h
      exact ⟨mkS [(4, .p (.bool false))] [], (Sub.refl _), by kernel_rfl⟩
    · have h := ite_f h hb
      refine T_skipp (p := [1, 1, 1, 0, 1, 1]) (by kernel_rfl) ?_
      refine (T.weaken ?_ (Sub.refl _) : T Try.prog C (at_ cStrict [1, 1, 1, 1]) _ _)
      refine T_seqp (p := [1, 1, 1, 1]) (by kernel_rfl) ?_
      obtain ⟨hob, h⟩ := ite_get h
      refine T_reg henv hC [] [(5, .p (.str (encB s))), (6, .p (.int .i64 (att.tmod ((encB s).length : Int))))] [] [((encB s).length : Int) ≠ 0] (by kernel_rfl) (by kernel_rfl) ⟨hob, trivial⟩ (fun s1 hs1 => ?_)
      refine (T.weaken ?_ hs1 : T Try.prog C (at_ cStrict [1, 1, 1, 1, 1]) _ _)
      refine T_seqp (p := [1, 1, 1, 1, 1]) (by kernel_rfl) ?_
      obtain ⟨hob, h⟩ := ite_get h
      refine T_regdW henv henvR hmx hC [] [] [(5, .p (.str (encB s))), (6, .p (.int .i64 (att.tmod ((encB s).length : Int)))), (8, .p (.int .i64 ((decB ((((encB s).take (att.tmod ((encB s).length : Int)).toNat) ++ ([32] : List UInt8)) ++ ((encB s).drop (att.tmod ((encB s).length : Int)).toNat))).2)))] [] [0 ≤ (att.tmod ((encB s).length : Int)) ∧ (att.tmod ((encB s).length : Int)) ≤ ((encB s).length : Int), lenok (((encB s).take (att.tmod ((encB s).length : Int)).toNat).length + ([32] : List UInt8).length), 0 ≤ (att.tmod ((encB s).length : Int)) ∧ (att.tmod ((encB s).length : Int)) ≤ ((encB s).length : Int), lenok ((((encB s).take (att.tmod ((encB s).length : Int)).toNat) ++ ([32] : List UInt8)).length + ((encB s).drop (att.tmod ((encB s).length : Int)).toNat).length), ((((encB s).take (att.tmod ((encB s).length : Int)).toNat) ++ ([32] : List UInt8)) ++ ((encB s).drop (att.tmod ((encB s).length : Int)).toNat)).length ≤ 100000] (by kernel_rfl) (by kernel_rfl) (by kernel_rfl) ⟨hob.1, hob.2.1, hob.2.2.1, hob.2.2.2.1, hob.2.2.2.2, trivial⟩ (fun s1 hs1 => ?_)
      refine (T.weaken ?_ hs1 : T Try.prog C (at_ cStrict [1, 1, 1, 1, 1, 1]) _ _)
      refine T_seqp (p := [1, 1, 1, 1, 1, 1]) (by kernel_rfl) ?_
      obtain ⟨hob, h⟩ := ite_get h
      refine T_regdW henv henvR hmx hC [] [] [(5, .p (.str (encB s))), (8, .p (.int .i64 ((decB ((((encB s).take (att.tmod ((encB s).length : Int)).toNat) ++ ([32] : List UInt8)) ++ ((encB s).drop (att.tmod ((encB s).length : Int)).toNat))).2))), (10, .p (.int .i64 ((decB (((encB s).take (att.tmod ((encB s).length : Int)).toNat) ++ ((encB s).drop ((att.tmod ((encB s).length : Int)) + (1 : Int)).toNat))).2)))] [] [0 ≤ (att.tmod ((encB s).length : Int)) ∧ (att.tmod ((encB s).length : Int)) ≤ ((encB s).length : Int), i64ok ((att.tmod ((encB s).length : Int)) + (1 : Int)), 0 ≤ ((att.tmod ((encB s).length : Int)) + (1 : Int)) ∧ ((att.tmod ((encB s).length : Int)) + (1 : Int)) ≤ ((encB s).length : Int), lenok (((encB s).take (att.tmod ((encB s).length : Int)).toNat).length + ((encB s).drop ((att.tmod ((encB s).length : Int)) + (1 : Int)).toNat).length), (((encB s).take (att.tmod ((encB s).length : Int)).toNat) ++ ((encB s).drop ((att.tmod ((encB s).length : Int)) + (1 : Int)).toNat)).length ≤ 100000] (by kernel_rfl) (by kernel_rfl) (by kernel_rfl) ⟨hob.1, hob.2.1, hob.2.2.1, hob.2.2.2.1, hob.2.2.2.2, trivial⟩ (fun s1 hs1 => ?_)
      refine (T.weaken ?_ hs1 : T Try.prog C (at_ cStrict [1, 1, 1, 1, 1, 1, 1]) _ _)
      refine T_seqp (p := [1, 1, 1, 1, 1, 1, 1]) (by kernel_rfl) ?_
      obtain ⟨hob, h⟩ := ite_get h
      refine T_reg henv hC [] [(8, .p (.int .i64 ((decB ((((encB s).take (att.tmod ((encB s).length : Int)).toNat) ++ ([32] : List UInt8)) ++ ((encB s).drop (att.tmod ((encB s).length : Int)).toNat))).2))), (10, .p (.int .i64 ((decB (((encB s).take (att.tmod ((encB s).length : Int)).toNat) ++ ((encB s).drop ((att.tmod ((encB s).length : Int)) + (1 : Int)).toNat))).2))), (12, .p (.int .i64 ((decB ((encB s) ++ ([61] : List UInt8))).2)))] [] [lenok ((encB s).length + ([61] : List UInt8).length), ((encB s) ++ ([61] : List UInt8)).length ≤ 100000] (by kernel_rfl) (by kernel_rfl) ⟨hob.1, hob.2, trivial⟩ (fun s1 hs1 => ?_)
      refine (T.weaken ?_ hs1 : T Try.prog C (at_ cStrict [1, 1, 1, 1, 1, 1, 1, 1]) _ _)
      refine T_seqp (p := [1, 1, 1, 1, 1, 1, 1, 1]) (by kernel_rfl) ?_
      refine T_reg henv hC [] [(4, .p (.bool ((((((decB ((((encB s).take (att.tmod ((encB s).length : Int)).toNat) ++ ([32] : List UInt8)) ++ ((encB s).drop (att.tmod ((encB s).length : Int)).toNat))).2) == (3 : Int)) && (((decB (((encB s).take (att.tmod ((encB s).length : Int)).toNat) ++ ((encB s).drop ((att.tmod ((encB s).length : Int)) + (1 : Int)).toNat))).2) == (3 : Int))) && (((decB ((encB s) ++ ([61] : List UInt8))).2) == (3 : Int))) && true)))] [] [(((decB ((((encB s).take (att.tmod ((encB s).length : Int)).toNat) ++ ([32] : List UInt8)) ++ ((encB s).drop (att.tmod ((encB s).length : Int)).toNat))).2) == (3 : Int)) = true → (((decB ((((encB s).take (att.tmod ((encB s).length : Int)).toNat) ++ ([32] : List UInt8)) ++ ((encB s).drop (att.tmod ((encB s).length : Int)).toNat))).2) == (3 : Int)) = true, (((decB ((((encB s).take (att.tmod ((encB s).length : Int)).toNat) ++ ([32] : List UInt8)) ++ ((encB s).drop (att.tmod ((encB s).length : Int)).toNat))).2) == (3 : Int)) = true → (((decB ((((encB s).take (att.tmod ((encB s).length : Int)).toNat) ++ ([32] : List UInt8)) ++ ((encB s).drop (att.tmod ((encB s).length : Int)).toNat))).2) == (3 : Int)) = true, (((decB ((((encB s).take (att.tmod ((encB s).length : Int)).toNat) ++ ([32] : List UInt8)) ++ ((encB s).drop (att.tmod ((encB s).length : Int)).toNat))).2) == (3 : Int)) = true → (((decB ((((encB s).take (att.tmod ((encB s).length : Int)).toNat) ++ ([32] : List UInt8)) ++ ((encB s).drop (att.tmod ((encB s).length : Int)).toNat))).2) == (3 : Int)) = true, ((((decB ((((encB s).take (att.tmod ((encB s).length : Int)).toNat) ++ ([32] : List UInt8)) ++ ((encB s).drop (att.tmod ((encB s).length : Int)).toNat))).2) == (3 : Int)) && (((decB (((encB s).take (att.tmod ((encB s).length : Int)).toNat) ++ ((encB s).drop ((att.tmod ((encB s).length : Int)) + (1 : Int)).toNat))).2) == (3 : Int))) = true → ((((decB ((((encB s).take (att.tmod ((encB s).length : Int)).toNat) ++ ([32] : List UInt8)) ++ ((encB s).drop (att.tmod ((encB s).length : Int)).toNat))).2) == (3 : Int)) && (((decB (((encB s).take (att.tmod ((encB s).length : Int)).toNat) ++ ((encB s).drop ((att.tmod ((encB s).length : Int)) + (1 : Int)).toNat))).2) == (3 : Int))) = true, ((((decB ((((encB s).take (att.tmod ((encB s).length : Int)).toNat) ++ ([32] : List UInt8)) ++ ((encB s).drop (att.tmod ((encB s).length : Int)).toNat))).2) == (3 : Int)) && (((decB (((encB s).take (att.tmod ((encB s).length : Int)).toNat) ++ ((encB s).drop ((att.tmod ((encB s).length : Int)) + (1 : Int)).toNat))).2) == (3 : Int))) = true → ((((decB ((((encB s).take (att.tmod ((encB s).length : Int)).toNat) ++ ([32] : List UInt8)) ++ ((encB s).drop (att.tmod ((encB s).length : Int)).toNat))).2) == (3 : Int)) && (((decB (((encB s).take (att.tmod ((encB s).length : Int)).toNat) ++ ((encB s).drop ((att.tmod ((encB s).length : Int)) + (1 : Int)).toNat))).2) == (3 : Int))) = true, ((((decB ((((encB s).take (att.tmod ((encB s).length : Int)).toNat) ++ ([32] : List UInt8)) ++ ((encB s).drop (att.tmod ((encB s).length : Int)).toNat))).2) == (3 : Int)) && (((decB (((encB s).take (att.tmod ((encB s).length : Int)).toNat) ++ ((encB s).drop ((att.tmod ((encB s).length : Int)) + (1 : Int)).toNat))).2) == (3 : Int))) = true → ((((decB ((((encB s).take (att.tmod ((encB s).length : Int)).toNat) ++ ([32] : List UInt8)) ++ ((encB s).drop (att.tmod ((encB s).length : Int)).toNat))).2) == (3 : Int)) && (((decB (((encB s).take (att.tmod ((encB s).length : Int)).toNat) ++ ((encB s).drop ((att.tmod ((encB s).length : Int)) + (1 : Int)).toNat))).2) == (3 : Int))) = true, (((((decB ((((encB s).take (att.tmod ((encB s).length : Int)).toNat) ++ ([32] : List UInt8)) ++ ((encB s).drop (att.tmod ((encB s).length : Int)).toNat))).2) == (3 : Int)) && (((decB (((encB s).take (att.tmod ((encB s).length : Int)).toNat) ++ ((encB s).drop ((att.tmod ((encB s).length : Int)) + (1 : Int)).toNat))).2) == (3 : Int))) && (((decB ((encB s) ++ ([61] : List UInt8))).2) == (3 : Int))) = true → (((((decB ((((encB s).take (att.tmod ((encB s).length : Int)).toNat) ++ ([32] : List UInt8)) ++ ((encB s).drop (att.tmod ((encB s).length : Int)).toNat))).2) == (3 : Int)) && (((decB (((encB s).take (att.tmod ((encB s).length : Int)).toNat) ++ ((encB s).drop ((att.tmod ((encB s).length : Int)) + (1 : Int)).toNat))).2) == (3 : Int))) && (((decB ((encB s) ++ ([61] : List UInt8))).2) == (3 : Int))) = true] (by kernel_rfl) (by kernel_rfl) ⟨(fun q0 => q0), (fun q0 => q0), (fun q0 => q0), (fun q0 => q0), (fun q0 => q0), (fun q0 => q0), (fun q0 => q0), trivial⟩ (fun s1 hs1 => ?_)
      refine (T.weaken ?_ hs1 : T Try.prog C (at_ cStrict [1, 1, 1, 1, 1, 1, 1, 1, 1]) _ _)
      refine T_retp (p := [1, 1, 1, 1, 1, 1, 1, 1, 1]) (by kernel_rfl) ?_
      have h := Option.some.inj h; subst h
      exact ⟨mkS [(4, .p (.bool ((((((decB ((((encB s).take (att.tmod ((encB s).length : Int)).toNat) ++ ([32] : List UInt8)) ++ ((encB s).drop (att.tmod ((encB s).length : Int)).toNat))).2) == (3 : Int)) && (((decB (((encB s).take (att.tmod ((encB s).length : Int)).toNat) ++ ((encB s).drop ((att.tmod ((encB s).length : Int)) + (1 : Int)).toNat))).2) == (3 : Int))) && (((decB ((encB s) ++ ([61] : List UInt8))).2) == (3 : Int))) && true)))] [], (Sub.refl _), by kernel_rfl⟩

theorem fn_Strict (fuel : Nat) (s : List UInt8) (att : Int) (res : Bool) (h : (∃ M vs, ARels γ0 M [.p (.str s), .p (.int .u16 att)] vs) → FStrict fuel s att = some res) : FnP Try.prog 7 [.p (.str s), .p (.int .u16 att)] (.p (.bool res)) :=
  FnP_lift (fn := Try.f7) (by kernel_rfl) (by kernel_rfl) fun M vs hvs C hC0 => have hC : CtxOk C 78 [] := ⟨hC0.nt.trans (by kernel_rfl), hC0.fx⟩; T.weaken (TStrict fuel s att res (h ⟨M, vs, hvs⟩) C hC) (sinit_sub hC (by kernel_rfl) (by kernel_rfl))
end Go.Proofs.Ytdjlilhdgnogaaa
