/-
  Lifted functions, and facts about them.
-/
import Derived.Test.YtdjlilhdgnogaaaRows
import Derived.Test.YtdjlilhdgnogaaaAmB
import Derived.Test.YtdjlilhdgnogaaaB3Lits
import Derived.Test.YtdjlilhdgnogaaaB3Spec2
set_option linter.unusedVariables false
namespace Go.Proofs.Ytdjlilhdgnogaaa
open Go Go.Am
def BIndex_1 (fuel : Nat)  : Nat → List UInt8 → List UInt8 → Int → Option Int
  | 0, _, _, _ => none
  | f1 + 1, s, sub, vi1 => if i64ok (vi1 + (sub.length : Int)) then (if (decide ((vi1 + (sub.length : Int)) ≤ (s.length : Int))) = true then (if (i64ok (vi1 + (sub.length : Int))) ∧ (0 ≤ vi1 ∧ vi1 ≤ (vi1 + (sub.length : Int)) ∧ (vi1 + (sub.length : Int)) ≤ (s.length : Int)) then (if (((s.take (vi1 + (sub.length : Int)).toNat).drop (vi1).toNat) == sub) = true then (some vi1) else (if i64ok (vi1 + (1 : Int)) then (BIndex_1 fuel f1 s sub (vi1 + (1 : Int))) else none)) else none) else (some (-1 : Int))) else none

def FIndex (fuel : Nat) (s : List UInt8) (sub : List UInt8) (from_ : Int) : Option Int := BIndex_1 fuel fuel s sub from_

noncomputable def cIndex : Code := bodyOf Try.f20

def envIndex : Env := mkEnv []

theorem envIndex_ok : EnvOk Try.prog envIndex := EnvOk_mk trivial

theorem TIndex (fuel : Nat) (s : List UInt8) (sub : List UInt8) (from_ : Int) (res : Int) (h : FIndex fuel s sub from_ = some res) (C : Ctx) (hC : CtxOk C 28 []) :
    T Try.prog C (at_ cIndex []) (mkS [(0, .p (.str s)), (1, .p (.str sub)), (2, .p (.int .i64 from_))] []) (Qend Try.prog C Try.f20.results.toList (.p (.int .i64 res))) := by
  have henv := envIndex_ok
  unfold FIndex at h
  refine T_seqp (p := []) (by kernel_rfl) ?_
  refine T_reg henv hC [] [(0, .p (.str s)), (1, .p (.str sub)), (2, .p (.int .i64 from_))] [] [] (by kernel_rfl) (by kernel_rfl) trivial (fun s1 hs1 => ?_)
  refine (T.weaken ?_ hs1 : T Try.prog C (at_ cIndex [1]) _ _)
  refine T_seqp (p := [1]) (by kernel_rfl) ?_
  refine T_seqp (p := [1, 0]) (by kernel_rfl) ?_
  refine T_reg henv hC [] [(0, .p (.str s)), (1, .p (.str sub)), (7, .p (.int .i64 from_))] [] [] (by kernel_rfl) (by kernel_rfl) trivial (fun s1 hs1 => ?_)
  refine (T.weaken ?_ hs1 : T Try.prog C (at_ cIndex [1, 0, 1]) _ _)
  refine T_blockp (p := [1, 0, 1]) 0 (by kernel_rfl) ?_
  refine T.weaken ?_ (Sub_view (l := [(0, .p (.str s)), (1, .p (.str sub)), (7, .p (.int .i64 from_))]) (o := []) hC [] (by kernel_rfl) (by kernel_rfl) (by kernel_rfl))
  refine T_loopp (p := [1, 0, 1, 0]) (by kernel_rfl) (fun f1 s2 => ∃ (s : List UInt8) (sub : List UInt8) (vi1 : Int), s2 = mkS [(0, .p (.str s)), (1, .p (.str sub)), (7, .p (.int .i64 vi1))] [] ∧ BIndex_1 fuel f1 s sub vi1 = some res) ?_ fuel ⟨s, sub, from_, rfl, h⟩
  rintro f1 s2 ⟨s, sub, vi1, rfl, h⟩
  cases f1 with
  | zero => cases h
  | succ f1 =>
    rw [BIndex_1] at h
    refine T_seqp (p := [1, 0, 1, 0, 0]) (by kernel_rfl) ?_
    refine T_seqp (p := [1, 0, 1, 0, 0, 0]) (by kernel_rfl) ?_
    obtain ⟨hob, h⟩ := ite_get h
    refine T_reg henv hC [] [(0, .p (.str s)), (1, .p (.str sub)), (7, .p (.int .i64 vi1)), (15, .p (.bool (decide ((vi1 + (sub.length : Int)) ≤ (s.length : Int)))))] [] [i64ok (vi1 + (sub.length : Int))] (by kernel_rfl) (by kernel_rfl) ⟨hob, trivial⟩ (fun s1 hs1 => ?_)
    refine (T.weaken ?_ hs1 : T Try.prog C (at_ cIndex [1, 0, 1, 0, 0, 0, 1]) _ _)
    refine T_condp (p := [1, 0, 1, 0, 0, 0, 1]) (by kernel_rfl) (decide ((vi1 + (sub.length : Int)) ≤ (s.length : Int))) (by kernel_rfl) (fun hb => ?_) (fun hb => ?_)
    · have h := ite_t h hb
      refine T_skipp (p := [1, 0, 1, 0, 0, 0, 1, 0]) (by kernel_rfl) ?_
      refine (T.weaken ?_ (Sub.refl _) : T Try.prog C (at_ cIndex [1, 0, 1, 0, 0, 1]) _ _)
      refine T_seqp (p := [1, 0, 1, 0, 0, 1]) (by kernel_rfl) ?_
      refine T_blockp (p := [1, 0, 1, 0, 0, 1, 0]) 1 (by kernel_rfl) ?_
      refine T_seqp (p := [1, 0, 1, 0, 0, 1, 0, 0]) (by kernel_rfl) ?_
      obtain ⟨hob, h⟩ := ite_get h
      refine T_reg henv hC [] [(0, .p (.str s)), (1, .p (.str sub)), (7, .p (.int .i64 vi1)), (26, .p (.bool (((s.take (vi1 + (sub.length : Int)).toNat).drop (vi1).toNat) == sub)))] [] [i64ok (vi1 + (sub.length : Int)), 0 ≤ vi1 ∧ vi1 ≤ (vi1 + (sub.length : Int)) ∧ (vi1 + (sub.length : Int)) ≤ (s.length : Int)] (by kernel_rfl) (by kernel_rfl) ⟨hob.1, hob.2, trivial⟩ (fun s1 hs1 => ?_)
      refine (T.weaken ?_ hs1 : T Try.prog C (at_ cIndex [1, 0, 1, 0, 0, 1, 0, 0, 1]) _ _)
      refine T_condp (p := [1, 0, 1, 0, 0, 1, 0, 0, 1]) (by kernel_rfl) (((s.take (vi1 + (sub.length : Int)).toNat).drop (vi1).toNat) == sub) (by kernel_rfl) (fun hb => ?_) (fun hb => ?_)
      · have h := ite_t h hb
        refine T_seqp (p := [1, 0, 1, 0, 0, 1, 0, 0, 1, 0]) (by kernel_rfl) ?_
        refine T_reg henv hC [] [(6, .p (.int .i64 vi1))] [] [] (by kernel_rfl) (by kernel_rfl) trivial (fun s1 hs1 => ?_)
        refine (T.weaken ?_ hs1 : T Try.prog C (at_ cIndex [1, 0, 1, 0, 0, 1, 0, 0, 1, 0, 1]) _ _)
        refine T_retp (p := [1, 0, 1, 0, 0, 1, 0, 0, 1, 0, 1]) (by kernel_rfl) ?_
        refine inblock_ret ?_
        refine then_ret ?_
        refine then_ret ?_
        refine inblock_ret ?_
        refine then_ret ?_
        have h := Option.some.inj h; subst h
        exact ⟨mkS [(6, .p (.int .i64 vi1))] [], (Sub.refl _), by kernel_rfl⟩
      · have h := ite_f h hb
        refine T_skipp (p := [1, 0, 1, 0, 0, 1, 0, 0, 1, 1]) (by kernel_rfl) ?_
        refine (T.weaken ?_ (Sub.refl _) : T Try.prog C (at_ cIndex [1, 0, 1, 0, 0, 1, 1]) _ _)
        obtain ⟨hob, h⟩ := ite_get h
        refine T_reg henv hC [] [(0, .p (.str s)), (1, .p (.str sub)), (7, .p (.int .i64 (vi1 + (1 : Int))))] [] [i64ok (vi1 + (1 : Int))] (by kernel_rfl) (by kernel_rfl) ⟨hob, trivial⟩ (fun s1 hs1 => ?_)
        exact ⟨f1, _, Nat.lt_succ_self f1, ⟨s, sub, vi1 + (1 : Int), rfl, h⟩, Sub.trans hs1 (Sub_view hC [] (by kernel_rfl) (by kernel_rfl) (by kernel_rfl))⟩
    · have h := ite_f h hb
      refine T_exitp (p := [1, 0, 1, 0, 0, 0, 1, 1]) 0 (by kernel_rfl) ?_
      refine then_exit ?_
      refine then_exit ?_
      refine inblock_hit ?_
      refine (T.weaken ?_ (Sub.refl _) : T Try.prog C (at_ cIndex [1, 1]) _ _)
      refine T_seqp (p := [1, 1]) (by kernel_rfl) ?_
      refine T_reg henv hC [] [(6, .p (.int .i64 (-1 : Int)))] [] [] (by kernel_rfl) (by kernel_rfl) trivial (fun s1 hs1 => ?_)
      refine (T.weaken ?_ hs1 : T Try.prog C (at_ cIndex [1, 1, 1]) _ _)
      refine T_retp (p := [1, 1, 1]) (by kernel_rfl) ?_
      have h := Option.some.inj h; subst h
      exact ⟨mkS [(6, .p (.int .i64 (-1 : Int)))] [], (Sub.refl _), by kernel_rfl⟩

theorem fn_Index (fuel : Nat) (s : List UInt8) (sub : List UInt8) (from_ : Int) (res : Int) (h : (∃ M vs, ARels γ0 M [.p (.str s), .p (.str sub), .p (.int .i64 from_)] vs) → FIndex fuel s sub from_ = some res) : FnP Try.prog 20 [.p (.str s), .p (.str sub), .p (.int .i64 from_)] (.p (.int .i64 res)) :=
  FnP_lift (fn := Try.f20) (by kernel_rfl) (by kernel_rfl) fun M vs hvs C hC0 => have hC : CtxOk C 28 [] := ⟨hC0.nt.trans (by kernel_rfl), hC0.fx⟩; T.weaken (TIndex fuel s sub from_ res (h ⟨M, vs, hvs⟩) C hC) (sinit_sub hC (by kernel_rfl) (by kernel_rfl))
end Go.Proofs.Ytdjlilhdgnogaaa
