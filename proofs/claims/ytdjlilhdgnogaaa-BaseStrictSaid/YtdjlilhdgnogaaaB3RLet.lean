/-
  Lifted functions, and facts about them.
-/
import Derived.Test.YtdjlilhdgnogaaaRows
import Derived.Test.YtdjlilhdgnogaaaAmB
import Derived.Test.YtdjlilhdgnogaaaB3Lits
import Derived.Test.YtdjlilhdgnogaaaB3Spec
set_option linter.unusedVariables false
namespace Go.Proofs.Ytdjlilhdgnogaaa
open Go Go.Am
def Brletters_3 (fuel : Nat) (k1 : List UInt8 → List UInt8 → Int → List UInt8 → Option (List UInt8)) (k2 : List UInt8 → List UInt8 → Int → Int → Int → Int → List UInt8 → Option (List UInt8)) (s : List UInt8) (vs1 : List UInt8) (vi2 : Int) (vi4 : Int) (vi7 : Int) (vi6 : Int) (vb3 : List UInt8) : Option (List UInt8) := if i64ok (vi6 + (1 : Int)) then (k2 s vs1 vi2 vi4 vi7 (vi6 + (1 : Int)) vb3) else none

def Brletters_4 (fuel : Nat) (k1 : List UInt8 → List UInt8 → Int → List UInt8 → Option (List UInt8)) : Nat → List UInt8 → List UInt8 → Int → Int → Int → Int → List UInt8 → Option (List UInt8)
  | 0, _, _, _, _, _, _, _ => none
  | f4 + 1, s, vs1, vi2, vi4, vi5, vi8, vb9 => if (decide (vi8 ≤ vi4)) = true then (if (i64ok ((6 : Int) * vi8)) ∧ (i64ok ((18 : Int) - ((6 : Int) * vi8))) ∧ (0 ≤ (IntKind.u64.wrap ((18 : Int) - ((6 : Int) * vi8)))) ∧ (0 ≤ (ibits .and .i64 (vi5.fdiv (2 ^ (min (IntKind.u64.wrap ((18 : Int) - ((6 : Int) * vi8))).toNat 64))) (63 : Int)) ∧ (ibits .and .i64 (vi5.fdiv (2 ^ (min (IntKind.u64.wrap ((18 : Int) - ((6 : Int) * vi8))).toNat 64))) (63 : Int)) < (vs1.length : Int)) ∧ ((vb9.length + [UInt8.ofNat (((vs1.getD (ibits .and .i64 (vi5.fdiv (2 ^ (min (IntKind.u64.wrap ((18 : Int) - ((6 : Int) * vi8))).toNat 64))) (63 : Int)).toNat 0).toNat : Int)).toNat].length) * 1 ≤ 140737488355328) then (if i64ok (vi8 + (1 : Int)) then (Brletters_4 fuel k1 f4 s vs1 vi2 vi4 vi5 (vi8 + (1 : Int)) (vb9 ++ [UInt8.ofNat (((vs1.getD (ibits .and .i64 (vi5.fdiv (2 ^ (min (IntKind.u64.wrap ((18 : Int) - ((6 : Int) * vi8))).toNat 64))) (63 : Int)).toNat 0).toNat : Int)).toNat])) else none) else none) else (if i64ok (vi2 + (3 : Int)) then (k1 s vs1 (vi2 + (3 : Int)) vb9) else none)

def Brletters_2 (fuel : Nat) (k1 : List UInt8 → List UInt8 → Int → List UInt8 → Option (List UInt8)) : Nat → List UInt8 → List UInt8 → Int → Int → Int → Int → List UInt8 → Option (List UInt8)
  | 0, _, _, _, _, _, _, _ => none
  | f2 + 1, s, vs1, vi2, vi4, vi5, vi6, vb3 => if (decide (vi6 < (3 : Int))) = true then (if 0 ≤ (8 : Int) then (if (decide (vi6 < vi4)) = true then (if (i64ok (vi2 + vi6)) ∧ (0 ≤ (vi2 + vi6) ∧ (vi2 + vi6) < (s.length : Int)) then (Brletters_3 fuel k1 (Brletters_2 fuel k1 f2) s vs1 vi2 vi4 (ibits .or .i64 (IntKind.i64.wrap (vi5 * 2 ^ (min ((8 : Int)).toNat 64))) ((s.getD (vi2 + vi6).toNat 0).toNat : Int)) vi6 vb3) else none) else (Brletters_3 fuel k1 (Brletters_2 fuel k1 f2) s vs1 vi2 vi4 (IntKind.i64.wrap (vi5 * 2 ^ (min ((8 : Int)).toNat 64))) vi6 vb3)) else none) else (Brletters_4 fuel k1 fuel s vs1 vi2 vi4 vi5 (0 : Int) vb3)

def Brletters_1 (fuel : Nat)  : Nat → List UInt8 → List UInt8 → Int → List UInt8 → Option (List UInt8)
  | 0, _, _, _, _ => none
  | f1 + 1, s, vs1, vi2, vb3 => if (decide (vi2 < (s.length : Int))) = true then (if i64ok ((s.length : Int) - vi2) then (Brletters_2 fuel (Brletters_1 fuel f1) fuel s vs1 vi2 (if ((s.length : Int) - vi2) < (3 : Int) then ((s.length : Int) - vi2) else (3 : Int)) (0 : Int) (0 : Int) vb3) else none) else (some vb3)

def Frletters (fuel : Nat) (s : List UInt8) : Option (List UInt8) := Brletters_1 fuel fuel s alphaS (0 : Int) []

noncomputable def crletters : Code := bodyOf Try.f17

def envrletters : Env := mkEnv [(19, sp_alpha)]

theorem envrletters_ok : EnvOk Try.prog envrletters := EnvOk_mk ⟨ok_alpha.any, trivial⟩

theorem Trletters (fuel : Nat) (s : List UInt8) (res : List UInt8) (h : Frletters fuel s = some res) (C : Ctx) (hC : CtxOk C 58 []) :
    T Try.prog C (at_ crletters []) (mkS [(0, .p (.str s))] []) (Qend Try.prog C Try.f17.results.toList (.p (.str res))) := by
  have henv := envrletters_ok
  unfold Frletters at h
  refine T_seqp (p := []) (by kernel_rfl) ?_
  refine T_reg henv hC [] [(0, .p (.str s))] [] [] (by kernel_rfl) (by kernel_rfl) trivial (fun s1 hs1 => ?_)
  refine (T.weaken ?_ hs1 : T Try.prog C (at_ crletters [1]) _ _)
  refine T_seqp (p := [1]) (by kernel_rfl) ?_
  refine T_reg henv hC [] [(0, .p (.str s)), (3, .p (.str alphaS))] [] [] (by kernel_rfl) (by kernel_rfl) trivial (fun s1 hs1 => ?_)
  refine (T.weaken ?_ hs1 : T Try.prog C (at_ crletters [1, 1]) _ _)
  refine T_seqp (p := [1, 1]) (by kernel_rfl) ?_
  refine T_reg henv hC [(4, none)] [(0, .p (.str s)), (3, .p (.str alphaS)), (4, .arr 4)] [(4, .barr 5 false [])] [] (by kernel_rfl) (by kernel_rfl) trivial (fun s1 hs1 => ?_)
  refine (T.weaken ?_ hs1 : T Try.prog C (at_ crletters [1, 1, 1]) _ _)
  refine T_seqp (p := [1, 1, 1]) (by kernel_rfl) ?_
  refine T_seqp (p := [1, 1, 1, 0]) (by kernel_rfl) ?_
  refine T_reg henv hC [(4, some 4)] [(0, .p (.str s)), (3, .p (.str alphaS)), (4, .arr 4), (5, .p (.int .i64 (0 : Int)))] [(4, .barr 5 false [])] [] (by kernel_rfl) (by kernel_rfl) trivial (fun s1 hs1 => ?_)
  refine (T.weaken ?_ hs1 : T Try.prog C (at_ crletters [1, 1, 1, 0, 1]) _ _)
  refine T_blockp (p := [1, 1, 1, 0, 1]) 0 (by kernel_rfl) ?_
  refine T.weaken ?_ (Sub_view (l := [(0, .p (.str s)), (3, .p (.str alphaS)), (4, .arr 4), (5, .p (.int .i64 (0 : Int)))]) (o := [(4, .barr 5 false [])]) hC [(4, some 4)] (by kernel_rfl) (by kernel_rfl) (by kernel_rfl))
  refine T_loopp (p := [1, 1, 1, 0, 1, 0]) (by kernel_rfl) (fun f1 s2 => ∃ (s : List UInt8) (vs1 : List UInt8) (vi2 : Int) (vb3 : List UInt8), s2 = mkS [(0, .p (.str s)), (3, .p (.str vs1)), (4, .arr 4), (5, .p (.int .i64 vi2))] [(4, .barr 5 false vb3)] ∧ Brletters_1 fuel f1 s vs1 vi2 vb3 = some res) ?_ fuel ⟨s, alphaS, (0 : Int), [], rfl, h⟩
  rintro f1 s2 ⟨s, vs1, vi2, vb3, rfl, h⟩
  cases f1 with
  | zero => cases h
  | succ f1 =>
    rw [Brletters_1] at h
    refine T_seqp (p := [1, 1, 1, 0, 1, 0, 0]) (by kernel_rfl) ?_
    refine T_seqp (p := [1, 1, 1, 0, 1, 0, 0, 0]) (by kernel_rfl) ?_
    refine T_reg henv hC [(4, some 4)] [(0, .p (.str s)), (3, .p (.str vs1)), (4, .arr 4), (5, .p (.int .i64 vi2)), (14, .p (.bool (decide (vi2 < (s.length : Int)))))] [(4, .barr 5 false vb3)] [] (by kernel_rfl) (by kernel_rfl) trivial (fun s1 hs1 => ?_)
    refine (T.weaken ?_ hs1 : T Try.prog C (at_ crletters [1, 1, 1, 0, 1, 0, 0, 0, 1]) _ _)
    refine T_condp (p := [1, 1, 1, 0, 1, 0, 0, 0, 1]) (by kernel_rfl) (decide (vi2 < (s.length : Int))) (by kernel_rfl) (fun hb => ?_) (fun hb => ?_)
    · have h := ite_t h hb
      refine T_skipp (p := [1, 1, 1, 0, 1, 0, 0, 0, 1, 0]) (by kernel_rfl) ?_
      refine (T.weaken ?_ (Sub.refl _) : T Try.prog C (at_ crletters [1, 1, 1, 0, 1, 0, 0, 1]) _ _)
      refine T_seqp (p := [1, 1, 1, 0, 1, 0, 0, 1]) (by kernel_rfl) ?_
      refine T_blockp (p := [1, 1, 1, 0, 1, 0, 0, 1, 0]) 1 (by kernel_rfl) ?_
      refine T_seqp (p := [1, 1, 1, 0, 1, 0, 0, 1, 0, 0]) (by kernel_rfl) ?_
      obtain ⟨hob, h⟩ := ite_get h
      refine T_reg henv hC [(4, some 4)] [(0, .p (.str s)), (3, .p (.str vs1)), (4, .arr 4), (5, .p (.int .i64 vi2)), (6, .p (.int .i64 (if ((s.length : Int) - vi2) < (3 : Int) then ((s.length : Int) - vi2) else (3 : Int))))] [(4, .barr 5 false vb3)] [i64ok ((s.length : Int) - vi2)] (by kernel_rfl) (by kernel_rfl) ⟨hob, trivial⟩ (fun s1 hs1 => ?_)
      refine (T.weaken ?_ hs1 : T Try.prog C (at_ crletters [1, 1, 1, 0, 1, 0, 0, 1, 0, 0, 1]) _ _)
      refine T_seqp (p := [1, 1, 1, 0, 1, 0, 0, 1, 0, 0, 1]) (by kernel_rfl) ?_
      refine T_reg henv hC [(4, some 4)] [(0, .p (.str s)), (3, .p (.str vs1)), (4, .arr 4), (5, .p (.int .i64 vi2)), (6, .p (.int .i64 (if ((s.length : Int) - vi2) < (3 : Int) then ((s.length : Int) - vi2) else (3 : Int)))), (7, .p (.int .i64 (0 : Int)))] [(4, .barr 5 false vb3)] [] (by kernel_rfl) (by kernel_rfl) trivial (fun s1 hs1 => ?_)
      refine (T.weaken ?_ hs1 : T Try.prog C (at_ crletters [1, 1, 1, 0, 1, 0, 0, 1, 0, 0, 1, 1]) _ _)
      refine T_seqp (p := [1, 1, 1, 0, 1, 0, 0, 1, 0, 0, 1, 1]) (by kernel_rfl) ?_
      refine T_seqp (p := [1, 1, 1, 0, 1, 0, 0, 1, 0, 0, 1, 1, 0]) (by kernel_rfl) ?_
      refine T_reg henv hC [(4, some 4)] [(0, .p (.str s)), (3, .p (.str vs1)), (4, .arr 4), (5, .p (.int .i64 vi2)), (6, .p (.int .i64 (if ((s.length : Int) - vi2) < (3 : Int) then ((s.length : Int) - vi2) else (3 : Int)))), (7, .p (.int .i64 (0 : Int))), (8, .p (.int .i64 (0 : Int)))] [(4, .barr 5 false vb3)] [] (by kernel_rfl) (by kernel_rfl) trivial (fun s1 hs1 => ?_)
      refine (T.weaken ?_ hs1 : T Try.prog C (at_ crletters [1, 1, 1, 0, 1, 0, 0, 1, 0, 0, 1, 1, 0, 1]) _ _)
      refine T_blockp (p := [1, 1, 1, 0, 1, 0, 0, 1, 0, 0, 1, 1, 0, 1]) 2 (by kernel_rfl) ?_
      refine T.weaken ?_ (Sub_view (l := [(0, .p (.str s)), (3, .p (.str vs1)), (4, .arr 4), (5, .p (.int .i64 vi2)), (6, .p (.int .i64 (if ((s.length : Int) - vi2) < (3 : Int) then ((s.length : Int) - vi2) else (3 : Int)))), (7, .p (.int .i64 (0 : Int))), (8, .p (.int .i64 (0 : Int)))]) (o := [(4, .barr 5 false vb3)]) hC [(4, some 4)] (by kernel_rfl) (by kernel_rfl) (by kernel_rfl))
      refine T_loopp (p := [1, 1, 1, 0, 1, 0, 0, 1, 0, 0, 1, 1, 0, 1, 0]) (by kernel_rfl) (fun f2 s2 => ∃ (s : List UInt8) (vs1 : List UInt8) (vi2 : Int) (vi4 : Int) (vi5 : Int) (vi6 : Int) (vb3 : List UInt8), s2 = mkS [(0, .p (.str s)), (3, .p (.str vs1)), (4, .arr 4), (5, .p (.int .i64 vi2)), (6, .p (.int .i64 vi4)), (7, .p (.int .i64 vi5)), (8, .p (.int .i64 vi6))] [(4, .barr 5 false vb3)] ∧ Brletters_2 fuel (Brletters_1 fuel f1) f2 s vs1 vi2 vi4 vi5 vi6 vb3 = some res) ?_ fuel ⟨s, vs1, vi2, if ((s.length : Int) - vi2) < (3 : Int) then ((s.length : Int) - vi2) else (3 : Int), (0 : Int), (0 : Int), vb3, rfl, h⟩
      rintro f2 s2 ⟨s, vs1, vi2, vi4, vi5, vi6, vb3, rfl, h⟩
      cases f2 with
      | zero => cases h
      | succ f2 =>
        rw [Brletters_2] at h
        refine T_seqp (p := [1, 1, 1, 0, 1, 0, 0, 1, 0, 0, 1, 1, 0, 1, 0, 0]) (by kernel_rfl) ?_
        refine T_seqp (p := [1, 1, 1, 0, 1, 0, 0, 1, 0, 0, 1, 1, 0, 1, 0, 0, 0]) (by kernel_rfl) ?_
        refine T_reg henv hC [(4, some 4)] [(0, .p (.str s)), (3, .p (.str vs1)), (4, .arr 4), (5, .p (.int .i64 vi2)), (6, .p (.int .i64 vi4)), (7, .p (.int .i64 vi5)), (8, .p (.int .i64 vi6)), (23, .p (.bool (decide (vi6 < (3 : Int)))))] [(4, .barr 5 false vb3)] [] (by kernel_rfl) (by kernel_rfl) trivial (fun s1 hs1 => ?_)
        refine (T.weaken ?_ hs1 : T Try.prog C (at_ crletters [1, 1, 1, 0, 1, 0, 0, 1, 0, 0, 1, 1, 0, 1, 0, 0, 0, 1]) _ _)
        refine T_condp (p := [1, 1, 1, 0, 1, 0, 0, 1, 0, 0, 1, 1, 0, 1, 0, 0, 0, 1]) (by kernel_rfl) (decide (vi6 < (3 : Int))) (by kernel_rfl) (fun hb => ?_) (fun hb => ?_)
        · have h := ite_t h hb
          refine T_skipp (p := [1, 1, 1, 0, 1, 0, 0, 1, 0, 0, 1, 1, 0, 1, 0, 0, 0, 1, 0]) (by kernel_rfl) ?_
          refine (T.weaken ?_ (Sub.refl _) : T Try.prog C (at_ crletters [1, 1, 1, 0, 1, 0, 0, 1, 0, 0, 1, 1, 0, 1, 0, 0, 1]) _ _)
          refine T_join (p := [1, 1, 1, 0, 1, 0, 0, 1, 0, 0, 1, 1, 0, 1, 0, 0, 1]) (by kernel_rfl) (fun s2 => ∃ (s : List UInt8) (vs1 : List UInt8) (vi2 : Int) (vi4 : Int) (vi7 : Int) (vi6 : Int) (vb3 : List UInt8), Brletters_3 fuel (Brletters_1 fuel f1) (Brletters_2 fuel (Brletters_1 fuel f1) f2) s vs1 vi2 vi4 vi7 vi6 vb3 = some res ∧ Sub C s2 (mkS [(0, .p (.str s)), (3, .p (.str vs1)), (4, .arr 4), (5, .p (.int .i64 vi2)), (6, .p (.int .i64 vi4)), (7, .p (.int .i64 vi7)), (8, .p (.int .i64 vi6))] [(4, .barr 5 false vb3)])) ?_ ?_
          · refine T_blockp (p := [1, 1, 1, 0, 1, 0, 0, 1, 0, 0, 1, 1, 0, 1, 0, 0, 1, 0]) 3 (by kernel_rfl) ?_
            refine T_seqp (p := [1, 1, 1, 0, 1, 0, 0, 1, 0, 0, 1, 1, 0, 1, 0, 0, 1, 0, 0]) (by kernel_rfl) ?_
            obtain ⟨hob, h⟩ := ite_get h
            refine T_reg henv hC [(4, some 4)] [(0, .p (.str s)), (3, .p (.str vs1)), (4, .arr 4), (5, .p (.int .i64 vi2)), (6, .p (.int .i64 vi4)), (7, .p (.int .i64 (IntKind.i64.wrap (vi5 * 2 ^ (min ((8 : Int)).toNat 64))))), (8, .p (.int .i64 vi6))] [(4, .barr 5 false vb3)] [0 ≤ (8 : Int)] (by kernel_rfl) (by kernel_rfl) ⟨hob, trivial⟩ (fun s1 hs1 => ?_)
            refine (T.weaken ?_ hs1 : T Try.prog C (at_ crletters [1, 1, 1, 0, 1, 0, 0, 1, 0, 0, 1, 1, 0, 1, 0, 0, 1, 0, 0, 1]) _ _)
            refine T_seqp (p := [1, 1, 1, 0, 1, 0, 0, 1, 0, 0, 1, 1, 0, 1, 0, 0, 1, 0, 0, 1]) (by kernel_rfl) ?_
            refine T_reg henv hC [(4, some 4)] [(0, .p (.str s)), (3, .p (.str vs1)), (4, .arr 4), (5, .p (.int .i64 vi2)), (6, .p (.int .i64 vi4)), (7, .p (.int .i64 (IntKind.i64.wrap (vi5 * 2 ^ (min ((8 : Int)).toNat 64))))), (8, .p (.int .i64 vi6)), (30, .p (.bool (decide (vi6 < vi4))))] [(4, .barr 5 false vb3)] [] (by kernel_rfl) (by kernel_rfl) trivial (fun s1 hs1 => ?_)
            refine (T.weaken ?_ hs1 : T Try.prog C (at_ crletters [1, 1, 1, 0, 1, 0, 0, 1, 0, 0, 1, 1, 0, 1, 0, 0, 1, 0, 0, 1, 1]) _ _)
            refine T_condp (p := [1, 1, 1, 0, 1, 0, 0, 1, 0, 0, 1, 1, 0, 1, 0, 0, 1, 0, 0, 1, 1]) (by kernel_rfl) (decide (vi6 < vi4)) (by kernel_rfl) (fun hb => ?_) (fun hb => ?_)
            · have h := ite_t h hb
              obtain ⟨hob, h⟩ := ite_get h
              refine T_reg henv hC [(4, some 4)] [(0, .p (.str s)), (3, .p (.str vs1)), (4, .arr 4), (5, .p (.int .i64 vi2)), (6, .p (.int .i64 vi4)), (7, .p (.int .i64 (ibits .or .i64 (IntKind.i64.wrap (vi5 * 2 ^ (min ((8 : Int)).toNat 64))) ((s.getD (vi2 + vi6).toNat 0).toNat : Int)))), (8, .p (.int .i64 vi6))] [(4, .barr 5 false vb3)] [i64ok (vi2 + vi6), 0 ≤ (vi2 + vi6) ∧ (vi2 + vi6) < (s.length : Int)] (by kernel_rfl) (by kernel_rfl) ⟨hob.1, hob.2, trivial⟩ (fun s1 hs1 => ?_)
              exact ⟨s, vs1, vi2, vi4, ibits .or .i64 (IntKind.i64.wrap (vi5 * 2 ^ (min ((8 : Int)).toNat 64))) ((s.getD (vi2 + vi6).toNat 0).toNat : Int), vi6, vb3, h, Sub.trans hs1 (Sub_view hC [(4, some 4)] (by kernel_rfl) (by kernel_rfl) (by kernel_rfl))⟩
            · have h := ite_f h hb
              refine T_skipp (p := [1, 1, 1, 0, 1, 0, 0, 1, 0, 0, 1, 1, 0, 1, 0, 0, 1, 0, 0, 1, 1, 1]) (by kernel_rfl) ?_
              exact ⟨s, vs1, vi2, vi4, IntKind.i64.wrap (vi5 * 2 ^ (min ((8 : Int)).toNat 64)), vi6, vb3, h, Sub.trans (Sub.refl _) (Sub_view hC [(4, some 4)] (by kernel_rfl) (by kernel_rfl) (by kernel_rfl))⟩
          · rintro s2 ⟨s, vs1, vi2, vi4, vi7, vi6, vb3, h, hs2⟩
            unfold Brletters_3 at h
            refine (T.weaken ?_ hs2 : T Try.prog C (at_ crletters [1, 1, 1, 0, 1, 0, 0, 1, 0, 0, 1, 1, 0, 1, 0, 0, 1, 1]) _ _)
            obtain ⟨hob, h⟩ := ite_get h
            refine T_reg henv hC [(4, some 4)] [(0, .p (.str s)), (3, .p (.str vs1)), (4, .arr 4), (5, .p (.int .i64 vi2)), (6, .p (.int .i64 vi4)), (7, .p (.int .i64 vi7)), (8, .p (.int .i64 (vi6 + (1 : Int))))] [(4, .barr 5 false vb3)] [i64ok (vi6 + (1 : Int))] (by kernel_rfl) (by kernel_rfl) ⟨hob, trivial⟩ (fun s1 hs1 => ?_)
            exact ⟨f2, _, Nat.lt_succ_self f2, ⟨s, vs1, vi2, vi4, vi7, vi6 + (1 : Int), vb3, rfl, h⟩, Sub.trans hs1 (Sub_view hC [(4, some 4)] (by kernel_rfl) (by kernel_rfl) (by kernel_rfl))⟩
        · have h := ite_f h hb
          refine T_exitp (p := [1, 1, 1, 0, 1, 0, 0, 1, 0, 0, 1, 1, 0, 1, 0, 0, 0, 1, 1]) 2 (by kernel_rfl) ?_
          refine then_exit ?_
          refine then_exit ?_
          refine inblock_hit ?_
          refine (T.weaken ?_ (Sub.refl _) : T Try.prog C (at_ crletters [1, 1, 1, 0, 1, 0, 0, 1, 0, 0, 1, 1, 1]) _ _)
          refine T_seqp (p := [1, 1, 1, 0, 1, 0, 0, 1, 0, 0, 1, 1, 1]) (by kernel_rfl) ?_
          refine T_reg henv hC [(4, some 4)] [(0, .p (.str s)), (3, .p (.str vs1)), (4, .arr 4), (5, .p (.int .i64 vi2)), (6, .p (.int .i64 vi4)), (7, .p (.int .i64 vi5)), (9, .p (.int .i64 (0 : Int)))] [(4, .barr 5 false vb3)] [] (by kernel_rfl) (by kernel_rfl) trivial (fun s1 hs1 => ?_)
          refine (T.weaken ?_ hs1 : T Try.prog C (at_ crletters [1, 1, 1, 0, 1, 0, 0, 1, 0, 0, 1, 1, 1, 1]) _ _)
          refine T_blockp (p := [1, 1, 1, 0, 1, 0, 0, 1, 0, 0, 1, 1, 1, 1]) 4 (by kernel_rfl) ?_
          refine T.weaken ?_ (Sub_view (l := [(0, .p (.str s)), (3, .p (.str vs1)), (4, .arr 4), (5, .p (.int .i64 vi2)), (6, .p (.int .i64 vi4)), (7, .p (.int .i64 vi5)), (9, .p (.int .i64 (0 : Int)))]) (o := [(4, .barr 5 false vb3)]) hC [(4, some 4)] (by kernel_rfl) (by kernel_rfl) (by kernel_rfl))
          refine T_loopp (p := [1, 1, 1, 0, 1, 0, 0, 1, 0, 0, 1, 1, 1, 1, 0]) (by kernel_rfl) (fun f4 s2 => ∃ (s : List UInt8) (vs1 : List UInt8) (vi2 : Int) (vi4 : Int) (vi5 : Int) (vi8 : Int) (vb9 : List UInt8), s2 = mkS [(0, .p (.str s)), (3, .p (.str vs1)), (4, .arr 4), (5, .p (.int .i64 vi2)), (6, .p (.int .i64 vi4)), (7, .p (.int .i64 vi5)), (9, .p (.int .i64 vi8))] [(4, .barr 5 false vb9)] ∧ Brletters_4 fuel (Brletters_1 fuel f1) f4 s vs1 vi2 vi4 vi5 vi8 vb9 = some res) ?_ fuel ⟨s, vs1, vi2, vi4, vi5, (0 : Int), vb3, rfl, h⟩
          rintro f4 s2 ⟨s, vs1, vi2, vi4, vi5, vi8, vb9, rfl, h⟩
          cases f4 with
          | zero => cases h
          | succ f4 =>
            rw [Brletters_4] at h
            refine T_seqp (p := [1, 1, 1, 0, 1, 0, 0, 1, 0, 0, 1, 1, 1, 1, 0, 0]) (by kernel_rfl) ?_
            refine T_seqp (p := [1, 1, 1, 0, 1, 0, 0, 1, 0, 0, 1, 1, 1, 1, 0, 0, 0]) (by kernel_rfl) ?_
            refine T_reg henv hC [(4, some 4)] [(0, .p (.str s)), (3, .p (.str vs1)), (4, .arr 4), (5, .p (.int .i64 vi2)), (6, .p (.int .i64 vi4)), (7, .p (.int .i64 vi5)), (9, .p (.int .i64 vi8)), (41, .p (.bool (decide (vi8 ≤ vi4))))] [(4, .barr 5 false vb9)] [] (by kernel_rfl) (by kernel_rfl) trivial (fun s1 hs1 => ?_)
            refine (T.weaken ?_ hs1 : T Try.prog C (at_ crletters [1, 1, 1, 0, 1, 0, 0, 1, 0, 0, 1, 1, 1, 1, 0, 0, 0, 1]) _ _)
            refine T_condp (p := [1, 1, 1, 0, 1, 0, 0, 1, 0, 0, 1, 1, 1, 1, 0, 0, 0, 1]) (by kernel_rfl) (decide (vi8 ≤ vi4)) (by kernel_rfl) (fun hb => ?_) (fun hb => ?_)
            · have h := ite_t h hb
              refine T_skipp (p := [1, 1, 1, 0, 1, 0, 0, 1, 0, 0, 1, 1, 1, 1, 0, 0, 0, 1, 0]) (by kernel_rfl) ?_
              refine (T.weaken ?_ (Sub.refl _) : T Try.prog C (at_ crletters [1, 1, 1, 0, 1, 0, 0, 1, 0, 0, 1, 1, 1, 1, 0, 0, 1]) _ _)
              refine T_seqp (p := [1, 1, 1, 0, 1, 0, 0, 1, 0, 0, 1, 1, 1, 1, 0, 0, 1]) (by kernel_rfl) ?_
              refine T_blockp (p := [1, 1, 1, 0, 1, 0, 0, 1, 0, 0, 1, 1, 1, 1, 0, 0, 1, 0]) 5 (by kernel_rfl) ?_
              obtain ⟨hob, h⟩ := ite_get h
              refine T_reg henv hC [(4, some 55)] [(0, .p (.str s)), (3, .p (.str vs1)), (4, .arr 4), (5, .p (.int .i64 vi2)), (6, .p (.int .i64 vi4)), (7, .p (.int .i64 vi5)), (9, .p (.int .i64 vi8))] [(4, .barr 5 false (vb9 ++ [UInt8.ofNat (((vs1.getD (ibits .and .i64 (vi5.fdiv (2 ^ (min (IntKind.u64.wrap ((18 : Int) - ((6 : Int) * vi8))).toNat 64))) (63 : Int)).toNat 0).toNat : Int)).toNat]))] [i64ok ((6 : Int) * vi8), i64ok ((18 : Int) - ((6 : Int) * vi8)), 0 ≤ (IntKind.u64.wrap ((18 : Int) - ((6 : Int) * vi8))), 0 ≤ (ibits .and .i64 (vi5.fdiv (2 ^ (min (IntKind.u64.wrap ((18 : Int) - ((6 : Int) * vi8))).toNat 64))) (63 : Int)) ∧ (ibits .and .i64 (vi5.fdiv (2 ^ (min (IntKind.u64.wrap ((18 : Int) - ((6 : Int) * vi8))).toNat 64))) (63 : Int)) < (vs1.length : Int), (vb9.length + [UInt8.ofNat (((vs1.getD (ibits .and .i64 (vi5.fdiv (2 ^ (min (IntKind.u64.wrap ((18 : Int) - ((6 : Int) * vi8))).toNat 64))) (63 : Int)).toNat 0).toNat : Int)).toNat].length) * 1 ≤ 140737488355328] (by kernel_rfl) (by kernel_rfl) ⟨hob.1, hob.2.1, hob.2.2.1, hob.2.2.2.1, hob.2.2.2.2, trivial⟩ (fun s1 hs1 => ?_)
              refine (T.weaken ?_ hs1 : T Try.prog C (at_ crletters [1, 1, 1, 0, 1, 0, 0, 1, 0, 0, 1, 1, 1, 1, 0, 0, 1, 1]) _ _)
              obtain ⟨hob, h⟩ := ite_get h
              refine T_reg henv hC [(4, some 4)] [(0, .p (.str s)), (3, .p (.str vs1)), (4, .arr 4), (5, .p (.int .i64 vi2)), (6, .p (.int .i64 vi4)), (7, .p (.int .i64 vi5)), (9, .p (.int .i64 (vi8 + (1 : Int))))] [(4, .barr 5 false (vb9 ++ [UInt8.ofNat (((vs1.getD (ibits .and .i64 (vi5.fdiv (2 ^ (min (IntKind.u64.wrap ((18 : Int) - ((6 : Int) * vi8))).toNat 64))) (63 : Int)).toNat 0).toNat : Int)).toNat]))] [i64ok (vi8 + (1 : Int))] (by kernel_rfl) (by kernel_rfl) ⟨hob, trivial⟩ (fun s1 hs1 => ?_)
              exact ⟨f4, _, Nat.lt_succ_self f4, ⟨s, vs1, vi2, vi4, vi5, vi8 + (1 : Int), vb9 ++ [UInt8.ofNat (((vs1.getD (ibits .and .i64 (vi5.fdiv (2 ^ (min (IntKind.u64.wrap ((18 : Int) - ((6 : Int) * vi8))).toNat 64))) (63 : Int)).toNat 0).toNat : Int)).toNat], rfl, h⟩, Sub.trans hs1 (Sub_view hC [(4, some 4)] (by kernel_rfl) (by kernel_rfl) (by kernel_rfl))⟩
            · have h := ite_f h hb
              refine T_exitp (p := [1, 1, 1, 0, 1, 0, 0, 1, 0, 0, 1, 1, 1, 1, 0, 0, 0, 1, 1]) 4 (by kernel_rfl) ?_
              refine then_exit ?_
              refine then_exit ?_
              refine inblock_hit ?_
              refine (T.weaken ?_ (Sub.refl _) : T Try.prog C (at_ crletters [1, 1, 1, 0, 1, 0, 0, 1, 1]) _ _)
              obtain ⟨hob, h⟩ := ite_get h
              refine T_reg henv hC [(4, some 4)] [(0, .p (.str s)), (3, .p (.str vs1)), (4, .arr 4), (5, .p (.int .i64 (vi2 + (3 : Int))))] [(4, .barr 5 false vb9)] [i64ok (vi2 + (3 : Int))] (by kernel_rfl) (by kernel_rfl) ⟨hob, trivial⟩ (fun s1 hs1 => ?_)
              exact ⟨f1, _, Nat.lt_succ_self f1, ⟨s, vs1, vi2 + (3 : Int), vb9, rfl, h⟩, Sub.trans hs1 (Sub_view hC [(4, some 4)] (by kernel_rfl) (by kernel_rfl) (by kernel_rfl))⟩
    · have h := ite_f h hb
      refine T_exitp (p := [1, 1, 1, 0, 1, 0, 0, 0, 1, 1]) 0 (by kernel_rfl) ?_
      refine then_exit ?_
      refine then_exit ?_
      refine inblock_hit ?_
      refine (T.weaken ?_ (Sub.refl _) : T Try.prog C (at_ crletters [1, 1, 1, 1]) _ _)
      refine T_seqp (p := [1, 1, 1, 1]) (by kernel_rfl) ?_
      refine T_reg henv hC [] [(2, .p (.str vb3))] [] [] (by kernel_rfl) (by kernel_rfl) trivial (fun s1 hs1 => ?_)
      refine (T.weaken ?_ hs1 : T Try.prog C (at_ crletters [1, 1, 1, 1, 1]) _ _)
      refine T_retp (p := [1, 1, 1, 1, 1]) (by kernel_rfl) ?_
      have h := Option.some.inj h; subst h
      exact ⟨mkS [(2, .p (.str vb3))] [], (Sub.refl _), by kernel_rfl⟩

theorem fn_rletters (fuel : Nat) (s : List UInt8) (res : List UInt8) (h : (∃ M vs, ARels γ0 M [.p (.str s)] vs) → Frletters fuel s = some res) : FnP Try.prog 17 [.p (.str s)] (.p (.str res)) :=
  FnP_lift (fn := Try.f17) (by kernel_rfl) (by kernel_rfl) fun M vs hvs C hC0 => have hC : CtxOk C 58 [] := ⟨hC0.nt.trans (by kernel_rfl), hC0.fx⟩; T.weaken (Trletters fuel s res (h ⟨M, vs, hvs⟩) C hC) (sinit_sub hC (by kernel_rfl) (by kernel_rfl))
end Go.Proofs.Ytdjlilhdgnogaaa
