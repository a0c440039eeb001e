/-
  Lifted functions, and facts about them.
-/
import Derived.Test.YtdjlilhdgnogaaaRows
import Derived.Test.YtdjlilhdgnogaaaAmB
import Derived.Test.YtdjlilhdgnogaaaB3Lits
import Derived.Test.YtdjlilhdgnogaaaB3Spec5
set_option linter.unusedVariables false
namespace Go.Proofs.Ytdjlilhdgnogaaa
open Go Go.Am
def BLet_2 (fuel : Nat) (k1 : List UInt8 → List UInt8 → Int → Int → Option Bool) (s : List UInt8) (vs1 : List UInt8) (vi4 : Int) (vi3 : Int) : Option Bool := if i64ok (vi3 + (1 : Int)) then (k1 s vs1 vi4 (vi3 + (1 : Int))) else none

def BLet_1 (fuel : Nat)  : Nat → List UInt8 → List UInt8 → Int → Int → Option Bool
  | 0, _, _, _, _ => none
  | f1 + 1, s, vs1, vi2, vi3 => if (decide (vi3 < (vs1.length : Int))) = true then (if 0 ≤ vi3 ∧ vi3 < (vs1.length : Int) then (if (((vs1.getD (vi3).toNat 0).toNat : Int) == (61 : Int)) = true then (if i64ok (vi2 + (1 : Int)) then (BLet_2 fuel (BLet_1 fuel f1) s vs1 (vi2 + (1 : Int)) vi3) else none) else (if ((decide (vi2 > (0 : Int))) || (!((((((decide (((vs1.getD (vi3).toNat 0).toNat : Int) ≥ (97 : Int))) && (decide (((vs1.getD (vi3).toNat 0).toNat : Int) ≤ (122 : Int)))) || ((decide (((vs1.getD (vi3).toNat 0).toNat : Int) ≥ (65 : Int))) && (decide (((vs1.getD (vi3).toNat 0).toNat : Int) ≤ (90 : Int))))) || ((decide (((vs1.getD (vi3).toNat 0).toNat : Int) ≥ (48 : Int))) && (decide (((vs1.getD (vi3).toNat 0).toNat : Int) ≤ (57 : Int))))) || (((vs1.getD (vi3).toNat 0).toNat : Int) == (43 : Int))) || (((vs1.getD (vi3).toNat 0).toNat : Int) == (47 : Int))))) = true then (some false) else (BLet_2 fuel (BLet_1 fuel f1) s vs1 vi2 vi3))) else none) else (if ((3 : Int) ≠ 0) ∧ (i64ok ((3 : Int) - ((s.length : Int).tmod (3 : Int)))) ∧ ((3 : Int) ≠ 0) then (some ((vi2 == (((3 : Int) - ((s.length : Int).tmod (3 : Int))).tmod (3 : Int))) && true)) else none)

def FLet (fuel : Nat) (s : List UInt8) : Option Bool := if (decide ((s.length : Int) > (2000 : Int))) = true then (some true) else (if s.length ≤ 1000000 then (BLet_1 fuel fuel s (encB s) (0 : Int) (0 : Int)) else none)

noncomputable def cLet : Code := bodyOf Try.f4

def envLet : Env := mkEnv [(8, sp_awake), (9, sp_Encode)]

theorem envLet_ok : EnvOk Try.prog envLet := EnvOk_mk ⟨ok_awake.any, ok_Encode.any, trivial⟩

theorem TLet (fuel : Nat) (s : List UInt8) (res : Bool) (h : FLet fuel s = some res) (C : Ctx) (hC : CtxOk C 71 []) :
    T Try.prog C (at_ cLet []) (mkS [(0, .p (.str s))] []) (Qend Try.prog C Try.f4.results.toList (.p (.bool res))) := by
  have henv := envLet_ok
  unfold FLet at h
  refine T_seqp (p := []) (by kernel_rfl) ?_
  refine T_reg henv hC [] [(0, .p (.str s))] [] [] (by kernel_rfl) (by kernel_rfl) trivial (fun s1 hs1 => ?_)
  refine (T.weaken ?_ hs1 : T Try.prog C (at_ cLet [1]) _ _)
  refine T_seqp (p := [1]) (by kernel_rfl) ?_
  refine T_seqp (p := [1, 0]) (by kernel_rfl) ?_
  refine T_reg henv hC [] [(0, .p (.str s)), (9, .p (.bool (decide ((s.length : Int) > (2000 : Int)))))] [] [] (by kernel_rfl) (by kernel_rfl) trivial (fun s1 hs1 => ?_)
  refine (T.weaken ?_ hs1 : T Try.prog C (at_ cLet [1, 0, 1]) _ _)
  refine T_condp (p := [1, 0, 1]) (by kernel_rfl) (decide ((s.length : Int) > (2000 : Int))) (by kernel_rfl) (fun hb => ?_) (fun hb => ?_)
  · have h := ite_t h hb
    refine T_seqp (p := [1, 0, 1, 0]) (by kernel_rfl) ?_
    refine T_reg henv hC [] [(2, .p (.bool true))] [] [] (by kernel_rfl) (by kernel_rfl) trivial (fun s1 hs1 => ?_)
    refine (T.weaken ?_ hs1 : T Try.prog C (at_ cLet [1, 0, 1, 0, 1]) _ _)
    refine T_retp (p := [1, 0, 1, 0, 1]) (by kernel_rfl) ?_
    refine then_ret ?_
    have h := Option.some.inj h; subst h
    exact ⟨mkS [(2, .p (.bool true))] [], (Sub.refl _), by kernel_rfl⟩
  · have h := ite_f h hb
    refine T_skipp (p := [1, 0, 1, 1]) (by kernel_rfl) ?_
    refine (T.weaken ?_ (Sub.refl _) : T Try.prog C (at_ cLet [1, 1]) _ _)
    refine T_seqp (p := [1, 1]) (by kernel_rfl) ?_
    obtain ⟨hob, h⟩ := ite_get h
    refine T_reg henv hC [] [(0, .p (.str s)), (3, .p (.str (encB s)))] [] [s.length ≤ 1000000] (by kernel_rfl) (by kernel_rfl) ⟨hob, trivial⟩ (fun s1 hs1 => ?_)
    refine (T.weaken ?_ hs1 : T Try.prog C (at_ cLet [1, 1, 1]) _ _)
    refine T_seqp (p := [1, 1, 1]) (by kernel_rfl) ?_
    refine T_reg henv hC [] [(0, .p (.str s)), (3, .p (.str (encB s))), (4, .p (.int .i64 (0 : Int)))] [] [] (by kernel_rfl) (by kernel_rfl) trivial (fun s1 hs1 => ?_)
    refine (T.weaken ?_ hs1 : T Try.prog C (at_ cLet [1, 1, 1, 1]) _ _)
    refine T_seqp (p := [1, 1, 1, 1]) (by kernel_rfl) ?_
    refine T_seqp (p := [1, 1, 1, 1, 0]) (by kernel_rfl) ?_
    refine T_reg henv hC [] [(0, .p (.str s)), (3, .p (.str (encB s))), (4, .p (.int .i64 (0 : Int))), (5, .p (.int .i64 (0 : Int)))] [] [] (by kernel_rfl) (by kernel_rfl) trivial (fun s1 hs1 => ?_)
    refine (T.weaken ?_ hs1 : T Try.prog C (at_ cLet [1, 1, 1, 1, 0, 1]) _ _)
    refine T_blockp (p := [1, 1, 1, 1, 0, 1]) 0 (by kernel_rfl) ?_
    refine T.weaken ?_ (Sub_view (l := [(0, .p (.str s)), (3, .p (.str (encB s))), (4, .p (.int .i64 (0 : Int))), (5, .p (.int .i64 (0 : Int)))]) (o := []) hC [] (by kernel_rfl) (by kernel_rfl) (by kernel_rfl))
    refine T_loopp (p := [1, 1, 1, 1, 0, 1, 0]) (by kernel_rfl) (fun f1 s2 => ∃ (s : List UInt8) (vs1 : List UInt8) (vi2 : Int) (vi3 : Int), s2 = mkS [(0, .p (.str s)), (3, .p (.str vs1)), (4, .p (.int .i64 vi2)), (5, .p (.int .i64 vi3))] [] ∧ BLet_1 fuel f1 s vs1 vi2 vi3 = some res) ?_ fuel ⟨s, encB s, (0 : Int), (0 : Int), rfl, h⟩
    rintro f1 s2 ⟨s, vs1, vi2, vi3, rfl, h⟩
    cases f1 with
    | zero => cases h
    | succ f1 =>
      rw [BLet_1] at h
      refine T_seqp (p := [1, 1, 1, 1, 0, 1, 0, 0]) (by kernel_rfl) ?_
      refine T_seqp (p := [1, 1, 1, 1, 0, 1, 0, 0, 0]) (by kernel_rfl) ?_
      refine T_reg henv hC [] [(0, .p (.str s)), (3, .p (.str vs1)), (4, .p (.int .i64 vi2)), (5, .p (.int .i64 vi3)), (16, .p (.bool (decide (vi3 < (vs1.length : Int)))))] [] [] (by kernel_rfl) (by kernel_rfl) trivial (fun s1 hs1 => ?_)
      refine (T.weaken ?_ hs1 : T Try.prog C (at_ cLet [1, 1, 1, 1, 0, 1, 0, 0, 0, 1]) _ _)
      refine T_condp (p := [1, 1, 1, 1, 0, 1, 0, 0, 0, 1]) (by kernel_rfl) (decide (vi3 < (vs1.length : Int))) (by kernel_rfl) (fun hb => ?_) (fun hb => ?_)
      · have h := ite_t h hb
        refine T_skipp (p := [1, 1, 1, 1, 0, 1, 0, 0, 0, 1, 0]) (by kernel_rfl) ?_
        refine (T.weaken ?_ (Sub.refl _) : T Try.prog C (at_ cLet [1, 1, 1, 1, 0, 1, 0, 0, 1]) _ _)
        refine T_join (p := [1, 1, 1, 1, 0, 1, 0, 0, 1]) (by kernel_rfl) (fun s2 => ∃ (s : List UInt8) (vs1 : List UInt8) (vi4 : Int) (vi3 : Int), BLet_2 fuel (BLet_1 fuel f1) s vs1 vi4 vi3 = some res ∧ Sub C s2 (mkS [(0, .p (.str s)), (3, .p (.str vs1)), (4, .p (.int .i64 vi4)), (5, .p (.int .i64 vi3))] [])) ?_ ?_
        · refine T_blockp (p := [1, 1, 1, 1, 0, 1, 0, 0, 1, 0]) 1 (by kernel_rfl) ?_
          refine T_seqp (p := [1, 1, 1, 1, 0, 1, 0, 0, 1, 0, 0]) (by kernel_rfl) ?_
          obtain ⟨hob, h⟩ := ite_get h
          refine T_reg henv hC [] [(0, .p (.str s)), (3, .p (.str vs1)), (4, .p (.int .i64 vi2)), (5, .p (.int .i64 vi3)), (6, .p (.int .u8 ((vs1.getD (vi3).toNat 0).toNat : Int)))] [] [0 ≤ vi3 ∧ vi3 < (vs1.length : Int)] (by kernel_rfl) (by kernel_rfl) ⟨hob, trivial⟩ (fun s1 hs1 => ?_)
          refine (T.weaken ?_ hs1 : T Try.prog C (at_ cLet [1, 1, 1, 1, 0, 1, 0, 0, 1, 0, 0, 1]) _ _)
          refine T_seqp (p := [1, 1, 1, 1, 0, 1, 0, 0, 1, 0, 0, 1]) (by kernel_rfl) ?_
          refine T_seqp (p := [1, 1, 1, 1, 0, 1, 0, 0, 1, 0, 0, 1, 0]) (by kernel_rfl) ?_
          refine T_reg henv hC [] [(0, .p (.str s)), (3, .p (.str vs1)), (4, .p (.int .i64 vi2)), (5, .p (.int .i64 vi3)), (6, .p (.int .u8 ((vs1.getD (vi3).toNat 0).toNat : Int))), (23, .p (.bool (((vs1.getD (vi3).toNat 0).toNat : Int) == (61 : Int))))] [] [] (by kernel_rfl) (by kernel_rfl) trivial (fun s1 hs1 => ?_)
          refine (T.weaken ?_ hs1 : T Try.prog C (at_ cLet [1, 1, 1, 1, 0, 1, 0, 0, 1, 0, 0, 1, 0, 1]) _ _)
          refine T_condp (p := [1, 1, 1, 1, 0, 1, 0, 0, 1, 0, 0, 1, 0, 1]) (by kernel_rfl) (((vs1.getD (vi3).toNat 0).toNat : Int) == (61 : Int)) (by kernel_rfl) (fun hb => ?_) (fun hb => ?_)
          · have h := ite_t h hb
            refine T_seqp (p := [1, 1, 1, 1, 0, 1, 0, 0, 1, 0, 0, 1, 0, 1, 0]) (by kernel_rfl) ?_
            obtain ⟨hob, h⟩ := ite_get h
            refine T_reg henv hC [] [(0, .p (.str s)), (3, .p (.str vs1)), (4, .p (.int .i64 (vi2 + (1 : Int)))), (5, .p (.int .i64 vi3))] [] [i64ok (vi2 + (1 : Int))] (by kernel_rfl) (by kernel_rfl) ⟨hob, trivial⟩ (fun s1 hs1 => ?_)
            refine (T.weaken ?_ hs1 : T Try.prog C (at_ cLet [1, 1, 1, 1, 0, 1, 0, 0, 1, 0, 0, 1, 0, 1, 0, 1]) _ _)
            refine T_exitp (p := [1, 1, 1, 1, 0, 1, 0, 0, 1, 0, 0, 1, 0, 1, 0, 1]) 1 (by kernel_rfl) ?_
            refine then_exit ?_
            refine inblock_hit ?_
            exact ⟨s, vs1, vi2 + (1 : Int), vi3, h, Sub.trans (Sub.refl _) (Sub_view hC [] (by kernel_rfl) (by kernel_rfl) (by kernel_rfl))⟩
          · have h := ite_f h hb
            refine T_skipp (p := [1, 1, 1, 1, 0, 1, 0, 0, 1, 0, 0, 1, 0, 1, 1]) (by kernel_rfl) ?_
            refine (T.weaken ?_ (Sub.refl _) : T Try.prog C (at_ cLet [1, 1, 1, 1, 0, 1, 0, 0, 1, 0, 0, 1, 1]) _ _)
            refine T_seqp (p := [1, 1, 1, 1, 0, 1, 0, 0, 1, 0, 0, 1, 1]) (by kernel_rfl) ?_
            refine T_reg henv hC [] [(0, .p (.str s)), (3, .p (.str vs1)), (4, .p (.int .i64 vi2)), (5, .p (.int .i64 vi3)), (60, .p (.bool ((decide (vi2 > (0 : Int))) || (!((((((decide (((vs1.getD (vi3).toNat 0).toNat : Int) ≥ (97 : Int))) && (decide (((vs1.getD (vi3).toNat 0).toNat : Int) ≤ (122 : Int)))) || ((decide (((vs1.getD (vi3).toNat 0).toNat : Int) ≥ (65 : Int))) && (decide (((vs1.getD (vi3).toNat 0).toNat : Int) ≤ (90 : Int))))) || ((decide (((vs1.getD (vi3).toNat 0).toNat : Int) ≥ (48 : Int))) && (decide (((vs1.getD (vi3).toNat 0).toNat : Int) ≤ (57 : Int))))) || (((vs1.getD (vi3).toNat 0).toNat : Int) == (43 : Int))) || (((vs1.getD (vi3).toNat 0).toNat : Int) == (47 : Int)))))))] [] [(!(decide (vi2 > (0 : Int)))) = true → (!(decide (vi2 > (0 : Int)))) = true, (!(decide (vi2 > (0 : Int)))) = true → (!(decide (vi2 > (0 : Int)))) = true, ((!(decide (vi2 > (0 : Int)))) && (decide (((vs1.getD (vi3).toNat 0).toNat : Int) ≥ (97 : Int)))) = true → ((!(decide (vi2 > (0 : Int)))) && (decide (((vs1.getD (vi3).toNat 0).toNat : Int) ≥ (97 : Int)))) = true, (!(decide (vi2 > (0 : Int)))) = true → (!(decide (vi2 > (0 : Int)))) = true, (!(decide (vi2 > (0 : Int)))) = true → (decide (((vs1.getD (vi3).toNat 0).toNat : Int) ≥ (97 : Int))) = true → ((!(decide (vi2 > (0 : Int)))) && (decide (((vs1.getD (vi3).toNat 0).toNat : Int) ≥ (97 : Int)))) = true, (!(decide (vi2 > (0 : Int)))) = true → (!(decide (vi2 > (0 : Int)))) = true, ((!(decide (vi2 > (0 : Int)))) && (!((decide (((vs1.getD (vi3).toNat 0).toNat : Int) ≥ (97 : Int))) && (decide (((vs1.getD (vi3).toNat 0).toNat : Int) ≤ (122 : Int)))))) = true → ((!(decide (vi2 > (0 : Int)))) && (!((decide (((vs1.getD (vi3).toNat 0).toNat : Int) ≥ (97 : Int))) && (decide (((vs1.getD (vi3).toNat 0).toNat : Int) ≤ (122 : Int)))))) = true, ((!(decide (vi2 > (0 : Int)))) && (!((decide (((vs1.getD (vi3).toNat 0).toNat : Int) ≥ (97 : Int))) && (decide (((vs1.getD (vi3).toNat 0).toNat : Int) ≤ (122 : Int)))))) = true → ((!(decide (vi2 > (0 : Int)))) && (!((decide (((vs1.getD (vi3).toNat 0).toNat : Int) ≥ (97 : Int))) && (decide (((vs1.getD (vi3).toNat 0).toNat : Int) ≤ (122 : Int)))))) = true, (((!(decide (vi2 > (0 : Int)))) && (!((decide (((vs1.getD (vi3).toNat 0).toNat : Int) ≥ (97 : Int))) && (decide (((vs1.getD (vi3).toNat 0).toNat : Int) ≤ (122 : Int)))))) && (decide (((vs1.getD (vi3).toNat 0).toNat : Int) ≥ (65 : Int)))) = true → (((!(decide (vi2 > (0 : Int)))) && (!((decide (((vs1.getD (vi3).toNat 0).toNat : Int) ≥ (97 : Int))) && (decide (((vs1.getD (vi3).toNat 0).toNat : Int) ≤ (122 : Int)))))) && (decide (((vs1.getD (vi3).toNat 0).toNat : Int) ≥ (65 : Int)))) = true, ((!(decide (vi2 > (0 : Int)))) && (!((decide (((vs1.getD (vi3).toNat 0).toNat : Int) ≥ (97 : Int))) && (decide (((vs1.getD (vi3).toNat 0).toNat : Int) ≤ (122 : Int)))))) = true → ((!(decide (vi2 > (0 : Int)))) && (!((decide (((vs1.getD (vi3).toNat 0).toNat : Int) ≥ (97 : Int))) && (decide (((vs1.getD (vi3).toNat 0).toNat : Int) ≤ (122 : Int)))))) = true, ((!(decide (vi2 > (0 : Int)))) && (!((decide (((vs1.getD (vi3).toNat 0).toNat : Int) ≥ (97 : Int))) && (decide (((vs1.getD (vi3).toNat 0).toNat : Int) ≤ (122 : Int)))))) = true → (decide (((vs1.getD (vi3).toNat 0).toNat : Int) ≥ (65 : Int))) = true → (((!(decide (vi2 > (0 : Int)))) && (!((decide (((vs1.getD (vi3).toNat 0).toNat : Int) ≥ (97 : Int))) && (decide (((vs1.getD (vi3).toNat 0).toNat : Int) ≤ (122 : Int)))))) && (decide (((vs1.getD (vi3).toNat 0).toNat : Int) ≥ (65 : Int)))) = true, (!(decide (vi2 > (0 : Int)))) = true → (!(decide (vi2 > (0 : Int)))) = true, (!(decide (vi2 > (0 : Int)))) = true → ((decide (((vs1.getD (vi3).toNat 0).toNat : Int) ≥ (97 : Int))) && (decide (((vs1.getD (vi3).toNat 0).toNat : Int) ≤ (122 : Int)))) = false → ((!(decide (vi2 > (0 : Int)))) && (!((decide (((vs1.getD (vi3).toNat 0).toNat : Int) ≥ (97 : Int))) && (decide (((vs1.getD (vi3).toNat 0).toNat : Int) ≤ (122 : Int)))))) = true, (!(decide (vi2 > (0 : Int)))) = true → (!(decide (vi2 > (0 : Int)))) = true, ((!(decide (vi2 > (0 : Int)))) && (!(((decide (((vs1.getD (vi3).toNat 0).toNat : Int) ≥ (97 : Int))) && (decide (((vs1.getD (vi3).toNat 0).toNat : Int) ≤ (122 : Int)))) || ((decide (((vs1.getD (vi3).toNat 0).toNat : Int) ≥ (65 : Int))) && (decide (((vs1.getD (vi3).toNat 0).toNat : Int) ≤ (90 : Int))))))) = true → ((!(decide (vi2 > (0 : Int)))) && (!(((decide (((vs1.getD (vi3).toNat 0).toNat : Int) ≥ (97 : Int))) && (decide (((vs1.getD (vi3).toNat 0).toNat : Int) ≤ (122 : Int)))) || ((decide (((vs1.getD (vi3).toNat 0).toNat : Int) ≥ (65 : Int))) && (decide (((vs1.getD (vi3).toNat 0).toNat : Int) ≤ (90 : Int))))))) = true, ((!(decide (vi2 > (0 : Int)))) && (!(((decide (((vs1.getD (vi3).toNat 0).toNat : Int) ≥ (97 : Int))) && (decide (((vs1.getD (vi3).toNat 0).toNat : Int) ≤ (122 : Int)))) || ((decide (((vs1.getD (vi3).toNat 0).toNat : Int) ≥ (65 : Int))) && (decide (((vs1.getD (vi3).toNat 0).toNat : Int) ≤ (90 : Int))))))) = true → ((!(decide (vi2 > (0 : Int)))) && (!(((decide (((vs1.getD (vi3).toNat 0).toNat : Int) ≥ (97 : Int))) && (decide (((vs1.getD (vi3).toNat 0).toNat : Int) ≤ (122 : Int)))) || ((decide (((vs1.getD (vi3).toNat 0).toNat : Int) ≥ (65 : Int))) && (decide (((vs1.getD (vi3).toNat 0).toNat : Int) ≤ (90 : Int))))))) = true, (((!(decide (vi2 > (0 : Int)))) && (!(((decide (((vs1.getD (vi3).toNat 0).toNat : Int) ≥ (97 : Int))) && (decide (((vs1.getD (vi3).toNat 0).toNat : Int) ≤ (122 : Int)))) || ((decide (((vs1.getD (vi3).toNat 0).toNat : Int) ≥ (65 : Int))) && (decide (((vs1.getD (vi3).toNat 0).toNat : Int) ≤ (90 : Int))))))) && (decide (((vs1.getD (vi3).toNat 0).toNat : Int) ≥ (48 : Int)))) = true → (((!(decide (vi2 > (0 : Int)))) && (!(((decide (((vs1.getD (vi3).toNat 0).toNat : Int) ≥ (97 : Int))) && (decide (((vs1.getD (vi3).toNat 0).toNat : Int) ≤ (122 : Int)))) || ((decide (((vs1.getD (vi3).toNat 0).toNat : Int) ≥ (65 : Int))) && (decide (((vs1.getD (vi3).toNat 0).toNat : Int) ≤ (90 : Int))))))) && (decide (((vs1.getD (vi3).toNat 0).toNat : Int) ≥ (48 : Int)))) = true, ((!(decide (vi2 > (0 : Int)))) && (!(((decide (((vs1.getD (vi3).toNat 0).toNat : Int) ≥ (97 : Int))) && (decide (((vs1.getD (vi3).toNat 0).toNat : Int) ≤ (122 : Int)))) || ((decide (((vs1.getD (vi3).toNat 0).toNat : Int) ≥ (65 : Int))) && (decide (((vs1.getD (vi3).toNat 0).toNat : Int) ≤ (90 : Int))))))) = true → ((!(decide (vi2 > (0 : Int)))) && (!(((decide (((vs1.getD (vi3).toNat 0).toNat : Int) ≥ (97 : Int))) && (decide (((vs1.getD (vi3).toNat 0).toNat : Int) ≤ (122 : Int)))) || ((decide (((vs1.getD (vi3).toNat 0).toNat : Int) ≥ (65 : Int))) && (decide (((vs1.getD (vi3).toNat 0).toNat : Int) ≤ (90 : Int))))))) = true, ((!(decide (vi2 > (0 : Int)))) && (!(((decide (((vs1.getD (vi3).toNat 0).toNat : Int) ≥ (97 : Int))) && (decide (((vs1.getD (vi3).toNat 0).toNat : Int) ≤ (122 : Int)))) || ((decide (((vs1.getD (vi3).toNat 0).toNat : Int) ≥ (65 : Int))) && (decide (((vs1.getD (vi3).toNat 0).toNat : Int) ≤ (90 : Int))))))) = true → (decide (((vs1.getD (vi3).toNat 0).toNat : Int) ≥ (48 : Int))) = true → (((!(decide (vi2 > (0 : Int)))) && (!(((decide (((vs1.getD (vi3).toNat 0).toNat : Int) ≥ (97 : Int))) && (decide (((vs1.getD (vi3).toNat 0).toNat : Int) ≤ (122 : Int)))) || ((decide (((vs1.getD (vi3).toNat 0).toNat : Int) ≥ (65 : Int))) && (decide (((vs1.getD (vi3).toNat 0).toNat : Int) ≤ (90 : Int))))))) && (decide (((vs1.getD (vi3).toNat 0).toNat : Int) ≥ (48 : Int)))) = true, (!(decide (vi2 > (0 : Int)))) = true → (!(decide (vi2 > (0 : Int)))) = true, (!(decide (vi2 > (0 : Int)))) = true → (((decide (((vs1.getD (vi3).toNat 0).toNat : Int) ≥ (97 : Int))) && (decide (((vs1.getD (vi3).toNat 0).toNat : Int) ≤ (122 : Int)))) || ((decide (((vs1.getD (vi3).toNat 0).toNat : Int) ≥ (65 : Int))) && (decide (((vs1.getD (vi3).toNat 0).toNat : Int) ≤ (90 : Int))))) = false → ((!(decide (vi2 > (0 : Int)))) && (!(((decide (((vs1.getD (vi3).toNat 0).toNat : Int) ≥ (97 : Int))) && (decide (((vs1.getD (vi3).toNat 0).toNat : Int) ≤ (122 : Int)))) || ((decide (((vs1.getD (vi3).toNat 0).toNat : Int) ≥ (65 : Int))) && (decide (((vs1.getD (vi3).toNat 0).toNat : Int) ≤ (90 : Int))))))) = true, (!(decide (vi2 > (0 : Int)))) = true → (!(decide (vi2 > (0 : Int)))) = true, ((!(decide (vi2 > (0 : Int)))) && (!((((decide (((vs1.getD (vi3).toNat 0).toNat : Int) ≥ (97 : Int))) && (decide (((vs1.getD (vi3).toNat 0).toNat : Int) ≤ (122 : Int)))) || ((decide (((vs1.getD (vi3).toNat 0).toNat : Int) ≥ (65 : Int))) && (decide (((vs1.getD (vi3).toNat 0).toNat : Int) ≤ (90 : Int))))) || ((decide (((vs1.getD (vi3).toNat 0).toNat : Int) ≥ (48 : Int))) && (decide (((vs1.getD (vi3).toNat 0).toNat : Int) ≤ (57 : Int))))))) = true → ((!(decide (vi2 > (0 : Int)))) && (!((((decide (((vs1.getD (vi3).toNat 0).toNat : Int) ≥ (97 : Int))) && (decide (((vs1.getD (vi3).toNat 0).toNat : Int) ≤ (122 : Int)))) || ((decide (((vs1.getD (vi3).toNat 0).toNat : Int) ≥ (65 : Int))) && (decide (((vs1.getD (vi3).toNat 0).toNat : Int) ≤ (90 : Int))))) || ((decide (((vs1.getD (vi3).toNat 0).toNat : Int) ≥ (48 : Int))) && (decide (((vs1.getD (vi3).toNat 0).toNat : Int) ≤ (57 : Int))))))) = true, (!(decide (vi2 > (0 : Int)))) = true → (!(decide (vi2 > (0 : Int)))) = true, (!(decide (vi2 > (0 : Int)))) = true → ((((decide (((vs1.getD (vi3).toNat 0).toNat : Int) ≥ (97 : Int))) && (decide (((vs1.getD (vi3).toNat 0).toNat : Int) ≤ (122 : Int)))) || ((decide (((vs1.getD (vi3).toNat 0).toNat : Int) ≥ (65 : Int))) && (decide (((vs1.getD (vi3).toNat 0).toNat : Int) ≤ (90 : Int))))) || ((decide (((vs1.getD (vi3).toNat 0).toNat : Int) ≥ (48 : Int))) && (decide (((vs1.getD (vi3).toNat 0).toNat : Int) ≤ (57 : Int))))) = false → ((!(decide (vi2 > (0 : Int)))) && (!((((decide (((vs1.getD (vi3).toNat 0).toNat : Int) ≥ (97 : Int))) && (decide (((vs1.getD (vi3).toNat 0).toNat : Int) ≤ (122 : Int)))) || ((decide (((vs1.getD (vi3).toNat 0).toNat : Int) ≥ (65 : Int))) && (decide (((vs1.getD (vi3).toNat 0).toNat : Int) ≤ (90 : Int))))) || ((decide (((vs1.getD (vi3).toNat 0).toNat : Int) ≥ (48 : Int))) && (decide (((vs1.getD (vi3).toNat 0).toNat : Int) ≤ (57 : Int))))))) = true, (!(decide (vi2 > (0 : Int)))) = true → (!(decide (vi2 > (0 : Int)))) = true, ((!(decide (vi2 > (0 : Int)))) && (!(((((decide (((vs1.getD (vi3).toNat 0).toNat : Int) ≥ (97 : Int))) && (decide (((vs1.getD (vi3).toNat 0).toNat : Int) ≤ (122 : Int)))) || ((decide (((vs1.getD (vi3).toNat 0).toNat : Int) ≥ (65 : Int))) && (decide (((vs1.getD (vi3).toNat 0).toNat : Int) ≤ (90 : Int))))) || ((decide (((vs1.getD (vi3).toNat 0).toNat : Int) ≥ (48 : Int))) && (decide (((vs1.getD (vi3).toNat 0).toNat : Int) ≤ (57 : Int))))) || (((vs1.getD (vi3).toNat 0).toNat : Int) == (43 : Int))))) = true → ((!(decide (vi2 > (0 : Int)))) && (!(((((decide (((vs1.getD (vi3).toNat 0).toNat : Int) ≥ (97 : Int))) && (decide (((vs1.getD (vi3).toNat 0).toNat : Int) ≤ (122 : Int)))) || ((decide (((vs1.getD (vi3).toNat 0).toNat : Int) ≥ (65 : Int))) && (decide (((vs1.getD (vi3).toNat 0).toNat : Int) ≤ (90 : Int))))) || ((decide (((vs1.getD (vi3).toNat 0).toNat : Int) ≥ (48 : Int))) && (decide (((vs1.getD (vi3).toNat 0).toNat : Int) ≤ (57 : Int))))) || (((vs1.getD (vi3).toNat 0).toNat : Int) == (43 : Int))))) = true, (!(decide (vi2 > (0 : Int)))) = true → (!(decide (vi2 > (0 : Int)))) = true, (!(decide (vi2 > (0 : Int)))) = true → (((((decide (((vs1.getD (vi3).toNat 0).toNat : Int) ≥ (97 : Int))) && (decide (((vs1.getD (vi3).toNat 0).toNat : Int) ≤ (122 : Int)))) || ((decide (((vs1.getD (vi3).toNat 0).toNat : Int) ≥ (65 : Int))) && (decide (((vs1.getD (vi3).toNat 0).toNat : Int) ≤ (90 : Int))))) || ((decide (((vs1.getD (vi3).toNat 0).toNat : Int) ≥ (48 : Int))) && (decide (((vs1.getD (vi3).toNat 0).toNat : Int) ≤ (57 : Int))))) || (((vs1.getD (vi3).toNat 0).toNat : Int) == (43 : Int))) = false → ((!(decide (vi2 > (0 : Int)))) && (!(((((decide (((vs1.getD (vi3).toNat 0).toNat : Int) ≥ (97 : Int))) && (decide (((vs1.getD (vi3).toNat 0).toNat : Int) ≤ (122 : Int)))) || ((decide (((vs1.getD (vi3).toNat 0).toNat : Int) ≥ (65 : Int))) && (decide (((vs1.getD (vi3).toNat 0).toNat : Int) ≤ (90 : Int))))) || ((decide (((vs1.getD (vi3).toNat 0).toNat : Int) ≥ (48 : Int))) && (decide (((vs1.getD (vi3).toNat 0).toNat : Int) ≤ (57 : Int))))) || (((vs1.getD (vi3).toNat 0).toNat : Int) == (43 : Int))))) = true, (!(decide (vi2 > (0 : Int)))) = true → (!(decide (vi2 > (0 : Int)))) = true, (decide (vi2 > (0 : Int))) = false → (!(decide (vi2 > (0 : Int)))) = true] (by kernel_rfl) (by kernel_rfl) ⟨(fun q0 => q0), (fun q0 => q0), (fun q0 => q0), (fun q0 => q0), (fun q0 q1 => (and_mk q0 q1)), (fun q0 => q0), (fun q0 => q0), (fun q0 => q0), (fun q0 => q0), (fun q0 => q0), (fun q0 q1 => (and_mk q0 q1)), (fun q0 => q0), (fun q0 q1 => (and_mk q0 (not_mk q1))), (fun q0 => q0), (fun q0 => q0), (fun q0 => q0), (fun q0 => q0), (fun q0 => q0), (fun q0 q1 => (and_mk q0 q1)), (fun q0 => q0), (fun q0 q1 => (and_mk q0 (not_mk q1))), (fun q0 => q0), (fun q0 => q0), (fun q0 => q0), (fun q0 q1 => (and_mk q0 (not_mk q1))), (fun q0 => q0), (fun q0 => q0), (fun q0 => q0), (fun q0 q1 => (and_mk q0 (not_mk q1))), (fun q0 => q0), (fun q0 => (not_mk q0)), trivial⟩ (fun s1 hs1 => ?_)
            refine (T.weaken ?_ hs1 : T Try.prog C (at_ cLet [1, 1, 1, 1, 0, 1, 0, 0, 1, 0, 0, 1, 1, 1]) _ _)
            refine T_condp (p := [1, 1, 1, 1, 0, 1, 0, 0, 1, 0, 0, 1, 1, 1]) (by kernel_rfl) ((decide (vi2 > (0 : Int))) || (!((((((decide (((vs1.getD (vi3).toNat 0).toNat : Int) ≥ (97 : Int))) && (decide (((vs1.getD (vi3).toNat 0).toNat : Int) ≤ (122 : Int)))) || ((decide (((vs1.getD (vi3).toNat 0).toNat : Int) ≥ (65 : Int))) && (decide (((vs1.getD (vi3).toNat 0).toNat : Int) ≤ (90 : Int))))) || ((decide (((vs1.getD (vi3).toNat 0).toNat : Int) ≥ (48 : Int))) && (decide (((vs1.getD (vi3).toNat 0).toNat : Int) ≤ (57 : Int))))) || (((vs1.getD (vi3).toNat 0).toNat : Int) == (43 : Int))) || (((vs1.getD (vi3).toNat 0).toNat : Int) == (47 : Int))))) (by kernel_rfl) (fun hb => ?_) (fun hb => ?_)
            · have h := ite_t h hb
              refine T_seqp (p := [1, 1, 1, 1, 0, 1, 0, 0, 1, 0, 0, 1, 1, 1, 0]) (by kernel_rfl) ?_
              refine T_reg henv hC [] [(2, .p (.bool false))] [] [] (by kernel_rfl) (by kernel_rfl) trivial (fun s1 hs1 => ?_)
              refine (T.weaken ?_ hs1 : T Try.prog C (at_ cLet [1, 1, 1, 1, 0, 1, 0, 0, 1, 0, 0, 1, 1, 1, 0, 1]) _ _)
              refine T_retp (p := [1, 1, 1, 1, 0, 1, 0, 0, 1, 0, 0, 1, 1, 1, 0, 1]) (by kernel_rfl) ?_
              refine inblock_ret ?_
              refine then_ret ?_
              refine then_ret ?_
              refine inblock_ret ?_
              refine then_ret ?_
              have h := Option.some.inj h; subst h
              exact ⟨mkS [(2, .p (.bool false))] [], (Sub.refl _), by kernel_rfl⟩
            · have h := ite_f h hb
              refine T_skipp (p := [1, 1, 1, 1, 0, 1, 0, 0, 1, 0, 0, 1, 1, 1, 1]) (by kernel_rfl) ?_
              exact ⟨s, vs1, vi2, vi3, h, Sub.trans (Sub.refl _) (Sub_view hC [] (by kernel_rfl) (by kernel_rfl) (by kernel_rfl))⟩
        · rintro s2 ⟨s, vs1, vi4, vi3, h, hs2⟩
          unfold BLet_2 at h
          refine (T.weaken ?_ hs2 : T Try.prog C (at_ cLet [1, 1, 1, 1, 0, 1, 0, 0, 1, 1]) _ _)
          obtain ⟨hob, h⟩ := ite_get h
          refine T_reg henv hC [] [(0, .p (.str s)), (3, .p (.str vs1)), (4, .p (.int .i64 vi4)), (5, .p (.int .i64 (vi3 + (1 : Int))))] [] [i64ok (vi3 + (1 : Int))] (by kernel_rfl) (by kernel_rfl) ⟨hob, trivial⟩ (fun s1 hs1 => ?_)
          exact ⟨f1, _, Nat.lt_succ_self f1, ⟨s, vs1, vi4, vi3 + (1 : Int), rfl, h⟩, Sub.trans hs1 (Sub_view hC [] (by kernel_rfl) (by kernel_rfl) (by kernel_rfl))⟩
      · have h := ite_f h hb
        refine T_exitp (p := [1, 1, 1, 1, 0, 1, 0, 0, 0, 1, 1]) 0 (by kernel_rfl) ?_
        refine then_exit ?_
        refine then_exit ?_
        refine inblock_hit ?_
        refine (T.weaken ?_ (Sub.refl _) : T Try.prog C (at_ cLet [1, 1, 1, 1, 1]) _ _)
        refine T_seqp (p := [1, 1, 1, 1, 1]) (by kernel_rfl) ?_
        obtain ⟨hob, h⟩ := ite_get h
        refine T_reg henv hC [] [(2, .p (.bool ((vi2 == (((3 : Int) - ((s.length : Int).tmod (3 : Int))).tmod (3 : Int))) && true)))] [] [(3 : Int) ≠ 0, i64ok ((3 : Int) - ((s.length : Int).tmod (3 : Int))), (3 : Int) ≠ 0, (vi2 == (((3 : Int) - ((s.length : Int).tmod (3 : Int))).tmod (3 : Int))) = true → (vi2 == (((3 : Int) - ((s.length : Int).tmod (3 : Int))).tmod (3 : Int))) = true] (by kernel_rfl) (by kernel_rfl) ⟨hob.1, hob.2.1, hob.2.2, (fun q0 => q0), trivial⟩ (fun s1 hs1 => ?_)
        refine (T.weaken ?_ hs1 : T Try.prog C (at_ cLet [1, 1, 1, 1, 1, 1]) _ _)
        refine T_retp (p := [1, 1, 1, 1, 1, 1]) (by kernel_rfl) ?_
        have h := Option.some.inj h; subst h
        exact ⟨mkS [(2, .p (.bool ((vi2 == (((3 : Int) - ((s.length : Int).tmod (3 : Int))).tmod (3 : Int))) && true)))] [], (Sub.refl _), by kernel_rfl⟩

theorem fn_Let (fuel : Nat) (s : List UInt8) (res : Bool) (h : (∃ M vs, ARels γ0 M [.p (.str s)] vs) → FLet fuel s = some res) : FnP Try.prog 4 [.p (.str s)] (.p (.bool res)) :=
  FnP_lift (fn := Try.f4) (by kernel_rfl) (by kernel_rfl) fun M vs hvs C hC0 => have hC : CtxOk C 71 [] := ⟨hC0.nt.trans (by kernel_rfl), hC0.fx⟩; T.weaken (TLet fuel s res (h ⟨M, vs, hvs⟩) C hC) (sinit_sub hC (by kernel_rfl) (by kernel_rfl))
end Go.Proofs.Ytdjlilhdgnogaaa
