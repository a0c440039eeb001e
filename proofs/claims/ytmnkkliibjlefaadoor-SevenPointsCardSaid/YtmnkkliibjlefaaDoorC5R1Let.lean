/-
  Lifted functions, and facts about them.
-/
import Derived.Test.YtmnkkliibjlefaaDoorRows
import Derived.Test.YtmnkkliibjlefaaDoorAmC
import Derived.Test.YtmnkkliibjlefaaDoorC5Lits
import Derived.Test.YtmnkkliibjlefaaDoorC5B64Enc
namespace Go.Proofs.YtmnkkliibjlefaaDoor
open Go Go.Am
set_option linter.unusedVariables false
def Brletters_3 (fuel : Nat) (k1 : List UInt8 → List UInt8 → Int → List UInt8 → Option (List UInt8)) (k2 : List UInt8 → List UInt8 → Int → Int → Int → Int → List UInt8 → Option (List UInt8)) (s : List UInt8) (vs1 : List UInt8) (vi2 : Int) (vi4 : Int) (vi7 : Int) (vi6 : Int) (vb3 : List UInt8) : Option (List UInt8) := if i64ok (vi6 + (1 : Int)) then (k2 s vs1 vi2 vi4 vi7 (vi6 + (1 : Int)) vb3) else none

def Brletters_4 (fuel : Nat) (k1 : List UInt8 → List UInt8 → Int → List UInt8 → Option (List UInt8)) : Nat → List UInt8 → List UInt8 → Int → Int → Int → Int → List UInt8 → Option (List UInt8)
  | 0, _, _, _, _, _, _, _ => none
  | f4 + 1, s, vs1, vi2, vi4, vi5, vi8, vb9 => if (decide (vi8 ≤ vi4)) = true then (if (i64ok ((6 : Int) * vi8)) ∧ (i64ok ((18 : Int) - ((6 : Int) * vi8))) ∧ (0 ≤ (IntKind.u64.wrap ((18 : Int) - ((6 : Int) * vi8)))) ∧ (0 ≤ (ibits .and .i64 (vi5.fdiv (2 ^ (min (IntKind.u64.wrap ((18 : Int) - ((6 : Int) * vi8))).toNat 64))) (63 : Int)) ∧ (ibits .and .i64 (vi5.fdiv (2 ^ (min (IntKind.u64.wrap ((18 : Int) - ((6 : Int) * vi8))).toNat 64))) (63 : Int)) < (vs1.length : Int)) ∧ ((vb9.length + [UInt8.ofNat (((vs1.getD (ibits .and .i64 (vi5.fdiv (2 ^ (min (IntKind.u64.wrap ((18 : Int) - ((6 : Int) * vi8))).toNat 64))) (63 : Int)).toNat 0).toNat : Int)).toNat].length) * 1 ≤ 140737488355328) then (if i64ok (vi8 + (1 : Int)) then (Brletters_4 fuel k1 f4 s vs1 vi2 vi4 vi5 (vi8 + (1 : Int)) (vb9 ++ [UInt8.ofNat (((vs1.getD (ibits .and .i64 (vi5.fdiv (2 ^ (min (IntKind.u64.wrap ((18 : Int) - ((6 : Int) * vi8))).toNat 64))) (63 : Int)).toNat 0).toNat : Int)).toNat])) else none) else none) else (if i64ok (vi2 + (3 : Int)) then (k1 s vs1 (vi2 + (3 : Int)) vb9) else none)

def Brletters_2 (fuel : Nat) (k1 : List UInt8 → List UInt8 → Int → List UInt8 → Option (List UInt8)) : Nat → List UInt8 → List UInt8 → Int → Int → Int → Int → List UInt8 → Option (List UInt8)
  | 0, _, _, _, _, _, _, _ => none
  | f2 + 1, s, vs1, vi2, vi4, vi5, vi6, vb3 => if (decide (vi6 < (3 : Int))) = true then (if 0 ≤ (8 : Int) then (if (decide (vi6 < vi4)) = true then (if (i64ok (vi2 + vi6)) ∧ (0 ≤ (vi2 + vi6) ∧ (vi2 + vi6) < (s.length : Int)) then (Brletters_3 fuel k1 (Brletters_2 fuel k1 f2) s vs1 vi2 vi4 (ibits .or .i64 (IntKind.i64.wrap (vi5 * 2 ^ (min ((8 : Int)).toNat 64))) ((s.getD (vi2 + vi6).toNat 0).toNat : Int)) vi6 vb3) else none) else (Brletters_3 fuel k1 (Brletters_2 fuel k1 f2) s vs1 vi2 vi4 (IntKind.i64.wrap (vi5 * 2 ^ (min ((8 : Int)).toNat 64))) vi6 vb3)) else none) else (Brletters_4 fuel k1 fuel s vs1 vi2 vi4 vi5 (0 : Int) vb3)

def Brletters_1 (fuel : Nat)  : Nat → List UInt8 → List UInt8 → Int → List UInt8 → Option (List UInt8)
  | 0, _, _, _, _ => none
  | f1 + 1, s, vs1, vi2, vb3 => if (decide (vi2 < (s.length : Int))) = true then (if i64ok ((s.length : Int) - vi2) then (Brletters_2 fuel (Brletters_1 fuel f1) fuel s vs1 vi2 (if ((s.length : Int) - vi2) < (3 : Int) then ((s.length : Int) - vi2) else (3 : Int)) (0 : Int) (0 : Int) vb3) else none) else (some vb3)

def Frletters (fuel : Nat) (s : List UInt8) : Option (List UInt8) := Brletters_1 fuel fuel s alphaS (0 : Int) []

noncomputable def crletters : Code := bodyOf Tryd.f26

def envrletters : Env := mkEnv [(39, sp_alpha)]

theorem envrletters_ok : EnvOk Tryd.prog envrletters := EnvOk_mk ⟨ok_alpha.any, trivial⟩

theorem Trletters (fuel : Nat) (s : List UInt8) (res : List UInt8) (h : Frletters fuel s = some res) (C : Ctx) (hC : CtxOk C 58 []) :
    T Tryd.prog C (at_ crletters []) (mkS [(0, .p (.str s))] []) (Qend Tryd.prog C Tryd.f26.results.toList (.p (.str res))) := by
  have henv := envrletters_ok
  unfold Frletters at h
  refine T_seqp (p := []) (by kernel_rfl) ?_
  refine T_reg henv hC [] [(0, .p (.str s))] [] [] (by kernel_rfl) (by kernel_rfl) trivial (fun s1 hs1 => ?_)
  refine (T.weaken ?_ hs1 : T Tryd.prog C (at_ crletters [1]) _ _)
  refine T_seqp (p := [1]) (by kernel_rfl) ?_
  refine T_reg henv hC [] [(0, .p (.str s)), (3, .p (.str alphaS))] [] [] (by kernel_rfl) (by kernel_rfl) trivial (fun s1 hs1 => ?_)
  refine (T.weaken ?_ hs1 : T Tryd.prog C (at_ crletters [1, 1]) _ _)
  refine T_seqp (p := [1, 1]) (by kernel_rfl) ?_
  refine T_reg henv hC [(4, none)] [(0, .p (.str s)), (3, .p (.str alphaS)), (4, .arr 4)] [(4, .barr 5 false [])] [] (by kernel_rfl) (by kernel_rfl) trivial (fun s1 hs1 => ?_)
  refine (T.weaken ?_ hs1 : T Tryd.prog C (at_ crletters [1, 1, 1]) _ _)
  refine T_seqp (p := [1, 1, 1]) (by kernel_rfl) ?_
  refine T_seqp (p := [1, 1, 1, 0]) (by kernel_rfl) ?_
  refine T_reg henv hC [(4, some 4)] [(0, .p (.str s)), (3, .p (.str alphaS)), (4, .arr 4), (5, .p (.int .i64 (0 : Int)))] [(4, .barr 5 false [])] [] (by kernel_rfl) (by kernel_rfl) trivial (fun s1 hs1 => ?_)
  refine (T.weaken ?_ hs1 : T Tryd.prog C (at_ crletters [1, 1, 1, 0, 1]) _ _)
  refine T_blockp (p := [1, 1, 1, 0, 1]) 0 (by kernel_rfl) ?_
  refine T.weaken ?_ (Sub_view (l := [(0, .p (.str s)), (3, .p (.str alphaS)), (4, .arr 4), (5, .p (.int .i64 (0 : Int)))]) (o := [(4, .barr 5 false [])]) hC [(4, some 4)] (by kernel_rfl) (by kernel_rfl) (by kernel_rfl))
  refine T_loopp (p := [1, 1, 1, 0, 1, 0]) (by kernel_rfl) (fun f1 s2 => ∃ (s : List UInt8) (vs1 : List UInt8) (vi2 : Int) (vb3 : List UInt8), s2 = mkS [(0, .p (.str s)), (3, .p (.str vs1)), (4, .arr 4), (5, .p (.int .i64 vi2))] [(4, .barr 5 false vb3)] ∧ Brletters_1 fuel f1 s vs1 vi2 vb3 = some res) ?_ fuel ⟨s, alphaS, (0 : Int), [], rfl, h⟩
  rintro f1 s2 ⟨s, vs1, vi2, vb3, rfl, h⟩
  cases f1 with
  | zero => cases h
  | succ f1 =>
    rw [Brletters_1] at h
    refine T_seqp (p := [1, 1, 1, 0, 1, 0, 0]) (by kernel_rfl) ?_
    refine T_seqp (p := [1, 1, 1, 0, 1, 0, 0, 0]) (by kernel_rfl) ?_
    refine T_reg henv hC [(4, some 4)] [(0, .p (.str s)), (3, .p (.str vs1)), (4, .arr 4), (5, .p (.int .i64 vi2)), (14, .p (.bool (decide (vi2 < (s.length : Int)))))] [(4, .barr 5 false vb3)] [] (by kernel_rfl) (by kernel_rfl) trivial (fun s1 hs1 => ?_)
    refine (T.weaken ?_ hs1 : T Tryd.prog C (at_ crletters [1, 1, 1, 0, 1, 0, 0, 0, 1]) _ _)
    refine T_condp (p := [1, 1, 1, 0, 1, 0, 0, 0, 1]) (by kernel_rfl) (decide (vi2 < (s.length : Int))) (by kernel_rfl) (fun hb => ?_) (fun hb => ?_)
    · have h := ite_t h hb
      refine T_skipp (p := [1, 1, 1, 0, 1, 0, 0, 0, 1, 0]) (by kernel_rfl) ?_
      refine (T.weaken ?_ (Sub.refl _) : T Tryd.prog C (at_ crletters [1, 1, 1, 0, 1, 0, 0, 1]) _ _)
      refine T_seqp (p := [1, 1, 1, 0, 1, 0, 0, 1]) (by kernel_rfl) ?_
      refine T_blockp (p := [1, 1, 1, 0, 1, 0, 0, 1, 0]) 1 (by kernel_rfl) ?_
      refine T_seqp (p := [1, 1, 1, 0, 1, 0, 0, 1, 0, 0]) (by kernel_rfl) ?_
      obtain ⟨hob, h⟩ := ite_get h
      refine T_reg henv hC [(4, some 4)] [(0, .p (.str s)), (3, .p (.str vs1)), (4, .arr 4), (5, .p (.int .i64 vi2)), (6, .p (.int .i64 (if ((s.length : Int) - vi2) < (3 : Int) then ((s.length : Int) - vi2) else (3 : Int))))] [(4, .barr 5 false vb3)] [i64ok ((s.length : Int) - vi2)] (by kernel_rfl) (by kernel_rfl) ⟨hob, trivial⟩ (fun s1 hs1 => ?_)
      refine (T.weaken ?_ hs1 : T Tryd.prog C (at_ crletters [1, 1, 1, 0, 1, 0, 0, 1, 0, 0, 1]) _ _)
      refine T_seqp (p := [1, 1, 1, 0, 1, 0, 0, 1, 0, 0, 1]) (by kernel_rfl) ?_
      refine T_reg henv hC [(4, some 4)] [(0, .p (.str s)), (3, .p (.str vs1)), (4, .arr 4), (5, .p (.int .i64 vi2)), (6, .p (.int .i64 (if ((s.length : Int) - vi2) < (3 : Int) then ((s.length : Int) - vi2) else (3 : Int)))), (7, .p (.int .i64 (0 : Int)))] [(4, .barr 5 false vb3)] [] (by kernel_rfl) (by kernel_rfl) trivial (fun s1 hs1 => ?_)
      refine (T.weaken ?_ hs1 : T Tryd.prog C (at_ crletters [1, 1, 1, 0, 1, 0, 0, 1, 0, 0, 1, 1]) _ _)
      refine T_seqp (p := [1, 1, 1, 0, 1, 0, 0, 1, 0, 0, 1, 1]) (by kernel_rfl) ?_
      refine T_seqp (p := [1, 1, 1, 0, 1, 0, 0, 1, 0, 0, 1, 1, 0]) (by kernel_rfl) ?_
      refine T_reg henv hC [(4, some 4)] [(0, .p (.str s)), (3, .p (.str vs1)), (4, .arr 4), (5, .p (.int .i64 vi2)), (6, .p (.int .i64 (if ((s.length : Int) - vi2) < (3 : Int) then ((s.length : Int) - vi2) else (3 : Int)))), (7, .p (.int .i64 (0 : Int))), (8, .p (.int .i64 (0 : Int)))] [(4, .barr 5 false vb3)] [] (by kernel_rfl) (by kernel_rfl) trivial (fun s1 hs1 => ?_)
      refine (T.weaken ?_ hs1 : T Tryd.prog C (at_ crletters [1, 1, 1, 0, 1, 0, 0, 1, 0, 0, 1, 1, 0, 1]) _ _)
      refine T_blockp (p := [1, 1, 1, 0, 1, 0, 0, 1, 0, 0, 1, 1, 0, 1]) 2 (by kernel_rfl) ?_
      refine T.weaken ?_ (Sub_view (l := [(0, .p (.str s)), (3, .p (.str vs1)), (4, .arr 4), (5, .p (.int .i64 vi2)), (6, .p (.int .i64 (if ((s.length : Int) - vi2) < (3 : Int) then ((s.length : Int) - vi2) else (3 : Int)))), (7, .p (.int .i64 (0 : Int))), (8, .p (.int .i64 (0 : Int)))]) (o := [(4, .barr 5 false vb3)]) hC [(4, some 4)] (by kernel_rfl) (by kernel_rfl) (by kernel_rfl))
      refine T_loopp (p := [1, 1, 1, 0, 1, 0, 0, 1, 0, 0, 1, 1, 0, 1, 0]) (by kernel_rfl) (fun f2 s2 => ∃ (s : List UInt8) (vs1 : List UInt8) (vi2 : Int) (vi4 : Int) (vi5 : Int) (vi6 : Int) (vb3 : List UInt8), s2 = mkS [(0, .p (.str s)), (3, .p (.str vs1)), (4, .arr 4), (5, .p (.int .i64 vi2)), (6, .p (.int .i64 vi4)), (7, .p (.int .i64 vi5)), (8, .p (.int .i64 vi6))] [(4, .barr 5 false vb3)] ∧ Brletters_2 fuel (Brletters_1 fuel f1) f2 s vs1 vi2 vi4 vi5 vi6 vb3 = some res) ?_ fuel ⟨s, vs1, vi2, if ((s.length : Int) - vi2) < (3 : Int) then ((s.length : Int) - vi2) else (3 : Int), (0 : Int), (0 : Int), vb3, rfl, h⟩
      rintro f2 s2 ⟨s, vs1, vi2, vi4, vi5, vi6, vb3, rfl, h⟩
      cases f2 with
      | zero => cases h
      | succ f2 =>
        rw [Brletters_2] at h
        refine T_seqp (p := [1, 1, 1, 0, 1, 0, 0, 1, 0, 0, 1, 1, 0, 1, 0, 0]) (by kernel_rfl) ?_
        refine T_seqp (p := [1, 1, 1, 0, 1, 0, 0, 1, 0, 0, 1, 1, 0, 1, 0, 0, 0]) (by kernel_rfl) ?_
        refine T_reg henv hC [(4, some 4)] [(0, .p (.str s)), (3, .p (.str vs1)), (4, .arr 4), (5, .p (.int .i64 vi2)), (6, .p (.int .i64 vi4)), (7, .p (.int .i64 vi5)), (8, .p (.int .i64 vi6)), (23, .p (.bool (decide (vi6 < (3 : Int)))))] [(4, .barr 5 false vb3)] [] (by kernel_rfl) (by kernel_rfl) trivial (fun s1 hs1 => ?_)
        refine (T.weaken ?_ hs1 : T Tryd.prog C (at_ crletters [1, 1, 1, 0, 1, 0, 0, 1, 0, 0, 1, 1, 0, 1, 0, 0, 0, 1]) _ _)
        refine T_condp (p := [1, 1, 1, 0, 1, 0, 0, 1, 0, 0, 1, 1, 0, 1, 0, 0, 0, 1]) (by kernel_rfl) (decide (vi6 < (3 : Int))) (by kernel_rfl) (fun hb => ?_) (fun hb => ?_)
        · have h := ite_t h hb
          refine T_skipp (p := [1, 1, 1, 0, 1, 0, 0, 1, 0, 0, 1, 1, 0, 1, 0, 0, 0, 1, 0]) (by kernel_rfl) ?_
          refine (T.weaken ?_ (Sub.refl _) : T Tryd.prog C (at_ crletters [1, 1, 1, 0, 1, 0, 0, 1, 0, 0, 1, 1, 0, 1, 0, 0, 1]) _ _)
          refine T_join (p := [1, 1, 1, 0, 1, 0, 0, 1, 0, 0, 1, 1, 0, 1, 0, 0, 1]) (by kernel_rfl) (fun s2 => ∃ (s : List UInt8) (vs1 : List UInt8) (vi2 : Int) (vi4 : Int) (vi7 : Int) (vi6 : Int) (vb3 : List UInt8), Brletters_3 fuel (Brletters_1 fuel f1) (Brletters_2 fuel (Brletters_1 fuel f1) f2) s vs1 vi2 vi4 vi7 vi6 vb3 = some res ∧ Sub C s2 (mkS [(0, .p (.str s)), (3, .p (.str vs1)), (4, .arr 4), (5, .p (.int .i64 vi2)), (6, .p (.int .i64 vi4)), (7, .p (.int .i64 vi7)), (8, .p (.int .i64 vi6))] [(4, .barr 5 false vb3)])) ?_ ?_
          · refine T_blockp (p := [1, 1, 1, 0, 1, 0, 0, 1, 0, 0, 1, 1, 0, 1, 0, 0, 1, 0]) 3 (by kernel_rfl) ?_
            refine T_seqp (p := [1, 1, 1, 0, 1, 0, 0, 1, 0, 0, 1, 1, 0, 1, 0, 0, 1, 0, 0]) (by kernel_rfl) ?_
            obtain ⟨hob, h⟩ := ite_get h
            refine T_reg henv hC [(4, some 4)] [(0, .p (.str s)), (3, .p (.str vs1)), (4, .arr 4), (5, .p (.int .i64 vi2)), (6, .p (.int .i64 vi4)), (7, .p (.int .i64 (IntKind.i64.wrap (vi5 * 2 ^ (min ((8 : Int)).toNat 64))))), (8, .p (.int .i64 vi6))] [(4, .barr 5 false vb3)] [0 ≤ (8 : Int)] (by kernel_rfl) (by kernel_rfl) ⟨hob, trivial⟩ (fun s1 hs1 => ?_)
            refine (T.weaken ?_ hs1 : T Tryd.prog C (at_ crletters [1, 1, 1, 0, 1, 0, 0, 1, 0, 0, 1, 1, 0, 1, 0, 0, 1, 0, 0, 1]) _ _)
            refine T_seqp (p := [1, 1, 1, 0, 1, 0, 0, 1, 0, 0, 1, 1, 0, 1, 0, 0, 1, 0, 0, 1]) (by kernel_rfl) ?_
            refine T_reg henv hC [(4, some 4)] [(0, .p (.str s)), (3, .p (.str vs1)), (4, .arr 4), (5, .p (.int .i64 vi2)), (6, .p (.int .i64 vi4)), (7, .p (.int .i64 (IntKind.i64.wrap (vi5 * 2 ^ (min ((8 : Int)).toNat 64))))), (8, .p (.int .i64 vi6)), (30, .p (.bool (decide (vi6 < vi4))))] [(4, .barr 5 false vb3)] [] (by kernel_rfl) (by kernel_rfl) trivial (fun s1 hs1 => ?_)
            refine (T.weaken ?_ hs1 : T Tryd.prog C (at_ crletters [1, 1, 1, 0, 1, 0, 0, 1, 0, 0, 1, 1, 0, 1, 0, 0, 1, 0, 0, 1, 1]) _ _)
            refine T_condp (p := [1, 1, 1, 0, 1, 0, 0, 1, 0, 0, 1, 1, 0, 1, 0, 0, 1, 0, 0, 1, 1]) (by kernel_rfl) (decide (vi6 < vi4)) (by kernel_rfl) (fun hb => ?_) (fun hb => ?_)
            · have h := ite_t h hb
              obtain ⟨hob, h⟩ := ite_get h
              refine T_reg henv hC [(4, some 4)] [(0, .p (.str s)), (3, .p (.str vs1)), (4, .arr 4), (5, .p (.int .i64 vi2)), (6, .p (.int .i64 vi4)), (7, .p (.int .i64 (ibits .or .i64 (IntKind.i64.wrap (vi5 * 2 ^ (min ((8 : Int)).toNat 64))) ((s.getD (vi2 + vi6).toNat 0).toNat : Int)))), (8, .p (.int .i64 vi6))] [(4, .barr 5 false vb3)] [i64ok (vi2 + vi6), 0 ≤ (vi2 + vi6) ∧ (vi2 + vi6) < (s.length : Int)] (by kernel_rfl) (by kernel_rfl) ⟨hob.1, hob.2, trivial⟩ (fun s1 hs1 => ?_)
              exact ⟨s, vs1, vi2, vi4, ibits .or .i64 (IntKind.i64.wrap (vi5 * 2 ^ (min ((8 : Int)).toNat 64))) ((s.getD (vi2 + vi6).toNat 0).toNat : Int), vi6, vb3, h, Sub.trans hs1 (Sub_view hC [(4, some 4)] (by kernel_rfl) (by kernel_rfl) (by kernel_rfl))⟩
            · have h := ite_f h hb
              refine T_skipp (p := [1, 1, 1, 0, 1, 0, 0, 1, 0, 0, 1, 1, 0, 1, 0, 0, 1, 0, 0, 1, 1, 1]) (by kernel_rfl) ?_
              exact ⟨s, vs1, vi2, vi4, IntKind.i64.wrap (vi5 * 2 ^ (min ((8 : Int)).toNat 64)), vi6, vb3, h, Sub.trans (Sub.refl _) (Sub_view hC [(4, some 4)] (by kernel_rfl) (by kernel_rfl) (by kernel_rfl))⟩
          · rintro s2 ⟨s, vs1, vi2, vi4, vi7, vi6, vb3, h, hs2⟩
            unfold Brletters_3 at h
            refine (T.weaken ?_ hs2 : T Tryd.prog C (at_ crletters [1, 1, 1, 0, 1, 0, 0, 1, 0, 0, 1, 1, 0, 1, 0, 0, 1, 1]) _ _)
            obtain ⟨hob, h⟩ := ite_get h
            refine T_reg henv hC [(4, some 4)] [(0, .p (.str s)), (3, .p (.str vs1)), (4, .arr 4), (5, .p (.int .i64 vi2)), (6, .p (.int .i64 vi4)), (7, .p (.int .i64 vi7)), (8, .p (.int .i64 (vi6 + (1 : Int))))] [(4, .barr 5 false vb3)] [i64ok (vi6 + (1 : Int))] (by kernel_rfl) (by kernel_rfl) ⟨hob, trivial⟩ (fun s1 hs1 => ?_)
            exact ⟨f2, _, Nat.lt_succ_self f2, ⟨s, vs1, vi2, vi4, vi7, vi6 + (1 : Int), vb3, rfl, h⟩, Sub.trans hs1 (Sub_view hC [(4, some 4)] (by kernel_rfl) (by kernel_rfl) (by kernel_rfl))⟩
        · have h := ite_f h hb
          refine T_exitp (p := [1, 1, 1, 0, 1, 0, 0, 1, 0, 0, 1, 1, 0, 1, 0, 0, 0, 1, 1]) 2 (by kernel_rfl) ?_
          refine then_exit ?_
          refine then_exit ?_
          refine inblock_hit ?_
          refine (T.weaken ?_ (Sub.refl _) : T Tryd.prog C (at_ crletters [1, 1, 1, 0, 1, 0, 0, 1, 0, 0, 1, 1, 1]) _ _)
          refine T_seqp (p := [1, 1, 1, 0, 1, 0, 0, 1, 0, 0, 1, 1, 1]) (by kernel_rfl) ?_
          refine T_reg henv hC [(4, some 4)] [(0, .p (.str s)), (3, .p (.str vs1)), (4, .arr 4), (5, .p (.int .i64 vi2)), (6, .p (.int .i64 vi4)), (7, .p (.int .i64 vi5)), (9, .p (.int .i64 (0 : Int)))] [(4, .barr 5 false vb3)] [] (by kernel_rfl) (by kernel_rfl) trivial (fun s1 hs1 => ?_)
          refine (T.weaken ?_ hs1 : T Tryd.prog C (at_ crletters [1, 1, 1, 0, 1, 0, 0, 1, 0, 0, 1, 1, 1, 1]) _ _)
          refine T_blockp (p := [1, 1, 1, 0, 1, 0, 0, 1, 0, 0, 1, 1, 1, 1]) 4 (by kernel_rfl) ?_
          refine T.weaken ?_ (Sub_view (l := [(0, .p (.str s)), (3, .p (.str vs1)), (4, .arr 4), (5, .p (.int .i64 vi2)), (6, .p (.int .i64 vi4)), (7, .p (.int .i64 vi5)), (9, .p (.int .i64 (0 : Int)))]) (o := [(4, .barr 5 false vb3)]) hC [(4, some 4)] (by kernel_rfl) (by kernel_rfl) (by kernel_rfl))
          refine T_loopp (p := [1, 1, 1, 0, 1, 0, 0, 1, 0, 0, 1, 1, 1, 1, 0]) (by kernel_rfl) (fun f4 s2 => ∃ (s : List UInt8) (vs1 : List UInt8) (vi2 : Int) (vi4 : Int) (vi5 : Int) (vi8 : Int) (vb9 : List UInt8), s2 = mkS [(0, .p (.str s)), (3, .p (.str vs1)), (4, .arr 4), (5, .p (.int .i64 vi2)), (6, .p (.int .i64 vi4)), (7, .p (.int .i64 vi5)), (9, .p (.int .i64 vi8))] [(4, .barr 5 false vb9)] ∧ Brletters_4 fuel (Brletters_1 fuel f1) f4 s vs1 vi2 vi4 vi5 vi8 vb9 = some res) ?_ fuel ⟨s, vs1, vi2, vi4, vi5, (0 : Int), vb3, rfl, h⟩
          rintro f4 s2 ⟨s, vs1, vi2, vi4, vi5, vi8, vb9, rfl, h⟩
          cases f4 with
          | zero => cases h
          | succ f4 =>
            rw [Brletters_4] at h
            refine T_seqp (p := [1, 1, 1, 0, 1, 0, 0, 1, 0, 0, 1, 1, 1, 1, 0, 0]) (by kernel_rfl) ?_
            refine T_seqp (p := [1, 1, 1, 0, 1, 0, 0, 1, 0, 0, 1, 1, 1, 1, 0, 0, 0]) (by kernel_rfl) ?_
            refine T_reg henv hC [(4, some 4)] [(0, .p (.str s)), (3, .p (.str vs1)), (4, .arr 4), (5, .p (.int .i64 vi2)), (6, .p (.int .i64 vi4)), (7, .p (.int .i64 vi5)), (9, .p (.int .i64 vi8)), (41, .p (.bool (decide (vi8 ≤ vi4))))] [(4, .barr 5 false vb9)] [] (by kernel_rfl) (by kernel_rfl) trivial (fun s1 hs1 => ?_)
            refine (T.weaken ?_ hs1 : T Tryd.prog C (at_ crletters [1, 1, 1, 0, 1, 0, 0, 1, 0, 0, 1, 1, 1, 1, 0, 0, 0, 1]) _ _)
            refine T_condp (p := [1, 1, 1, 0, 1, 0, 0, 1, 0, 0, 1, 1, 1, 1, 0, 0, 0, 1]) (by kernel_rfl) (decide (vi8 ≤ vi4)) (by kernel_rfl) (fun hb => ?_) (fun hb => ?_)
            · have h := ite_t h hb
              refine T_skipp (p := [1, 1, 1, 0, 1, 0, 0, 1, 0, 0, 1, 1, 1, 1, 0, 0, 0, 1, 0]) (by kernel_rfl) ?_
              refine (T.weaken ?_ (Sub.refl _) : T Tryd.prog C (at_ crletters [1, 1, 1, 0, 1, 0, 0, 1, 0, 0, 1, 1, 1, 1, 0, 0, 1]) _ _)
              refine T_seqp (p := [1, 1, 1, 0, 1, 0, 0, 1, 0, 0, 1, 1, 1, 1, 0, 0, 1]) (by kernel_rfl) ?_
              refine T_blockp (p := [1, 1, 1, 0, 1, 0, 0, 1, 0, 0, 1, 1, 1, 1, 0, 0, 1, 0]) 5 (by kernel_rfl) ?_
              obtain ⟨hob, h⟩ := ite_get h
              refine T_reg henv hC [(4, some 55)] [(0, .p (.str s)), (3, .p (.str vs1)), (4, .arr 4), (5, .p (.int .i64 vi2)), (6, .p (.int .i64 vi4)), (7, .p (.int .i64 vi5)), (9, .p (.int .i64 vi8))] [(4, .barr 5 false (vb9 ++ [UInt8.ofNat (((vs1.getD (ibits .and .i64 (vi5.fdiv (2 ^ (min (IntKind.u64.wrap ((18 : Int) - ((6 : Int) * vi8))).toNat 64))) (63 : Int)).toNat 0).toNat : Int)).toNat]))] [i64ok ((6 : Int) * vi8), i64ok ((18 : Int) - ((6 : Int) * vi8)), 0 ≤ (IntKind.u64.wrap ((18 : Int) - ((6 : Int) * vi8))), 0 ≤ (ibits .and .i64 (vi5.fdiv (2 ^ (min (IntKind.u64.wrap ((18 : Int) - ((6 : Int) * vi8))).toNat 64))) (63 : Int)) ∧ (ibits .and .i64 (vi5.fdiv (2 ^ (min (IntKind.u64.wrap ((18 : Int) - ((6 : Int) * vi8))).toNat 64))) (63 : Int)) < (vs1.length : Int), (vb9.length + [UInt8.ofNat (((vs1.getD (ibits .and .i64 (vi5.fdiv (2 ^ (min (IntKind.u64.wrap ((18 : Int) - ((6 : Int) * vi8))).toNat 64))) (63 : Int)).toNat 0).toNat : Int)).toNat].length) * 1 ≤ 140737488355328] (by kernel_rfl) (by kernel_rfl) ⟨hob.1, hob.2.1, hob.2.2.1, hob.2.2.2.1, hob.2.2.2.2, trivial⟩ (fun s1 hs1 => ?_)
              refine (T.weaken ?_ hs1 : T Tryd.prog C (at_ crletters [1, 1, 1, 0, 1, 0, 0, 1, 0, 0, 1, 1, 1, 1, 0, 0, 1, 1]) _ _)
              obtain ⟨hob, h⟩ := ite_get h
              refine T_reg henv hC [(4, some 4)] [(0, .p (.str s)), (3, .p (.str vs1)), (4, .arr 4), (5, .p (.int .i64 vi2)), (6, .p (.int .i64 vi4)), (7, .p (.int .i64 vi5)), (9, .p (.int .i64 (vi8 + (1 : Int))))] [(4, .barr 5 false (vb9 ++ [UInt8.ofNat (((vs1.getD (ibits .and .i64 (vi5.fdiv (2 ^ (min (IntKind.u64.wrap ((18 : Int) - ((6 : Int) * vi8))).toNat 64))) (63 : Int)).toNat 0).toNat : Int)).toNat]))] [i64ok (vi8 + (1 : Int))] (by kernel_rfl) (by kernel_rfl) ⟨hob, trivial⟩ (fun s1 hs1 => ?_)
              exact ⟨f4, _, Nat.lt_succ_self f4, ⟨s, vs1, vi2, vi4, vi5, vi8 + (1 : Int), vb9 ++ [UInt8.ofNat (((vs1.getD (ibits .and .i64 (vi5.fdiv (2 ^ (min (IntKind.u64.wrap ((18 : Int) - ((6 : Int) * vi8))).toNat 64))) (63 : Int)).toNat 0).toNat : Int)).toNat], rfl, h⟩, Sub.trans hs1 (Sub_view hC [(4, some 4)] (by kernel_rfl) (by kernel_rfl) (by kernel_rfl))⟩
            · have h := ite_f h hb
              refine T_exitp (p := [1, 1, 1, 0, 1, 0, 0, 1, 0, 0, 1, 1, 1, 1, 0, 0, 0, 1, 1]) 4 (by kernel_rfl) ?_
              refine then_exit ?_
              refine then_exit ?_
              refine inblock_hit ?_
              refine (T.weaken ?_ (Sub.refl _) : T Tryd.prog C (at_ crletters [1, 1, 1, 0, 1, 0, 0, 1, 1]) _ _)
              obtain ⟨hob, h⟩ := ite_get h
              refine T_reg henv hC [(4, some 4)] [(0, .p (.str s)), (3, .p (.str vs1)), (4, .arr 4), (5, .p (.int .i64 (vi2 + (3 : Int))))] [(4, .barr 5 false vb9)] [i64ok (vi2 + (3 : Int))] (by kernel_rfl) (by kernel_rfl) ⟨hob, trivial⟩ (fun s1 hs1 => ?_)
              exact ⟨f1, _, Nat.lt_succ_self f1, ⟨s, vs1, vi2 + (3 : Int), vb9, rfl, h⟩, Sub.trans hs1 (Sub_view hC [(4, some 4)] (by kernel_rfl) (by kernel_rfl) (by kernel_rfl))⟩
    · have h := ite_f h hb
      refine T_exitp (p := [1, 1, 1, 0, 1, 0, 0, 0, 1, 1]) 0 (by kernel_rfl) ?_
      refine then_exit ?_
      refine then_exit ?_
      refine inblock_hit ?_
      refine (T.weaken ?_ (Sub.refl _) : T Tryd.prog C (at_ crletters [1, 1, 1, 1]) _ _)
      refine T_seqp (p := [1, 1, 1, 1]) (by kernel_rfl) ?_
      refine T_reg henv hC [] [(2, .p (.str vb3))] [] [] (by kernel_rfl) (by kernel_rfl) trivial (fun s1 hs1 => ?_)
      refine (T.weaken ?_ hs1 : T Tryd.prog C (at_ crletters [1, 1, 1, 1, 1]) _ _)
      refine T_retp (p := [1, 1, 1, 1, 1]) (by kernel_rfl) ?_
      have h := Option.some.inj h; subst h
      exact ⟨mkS [(2, .p (.str vb3))] [], (Sub.refl _), by kernel_rfl⟩

theorem fn_rletters (fuel : Nat) (s : List UInt8) (res : List UInt8) (h : (∃ M vs, ARels γ0 M [.p (.str s)] vs) → Frletters fuel s = some res) : FnP Tryd.prog 26 [.p (.str s)] (.p (.str res)) :=
  FnP_lift (fn := Tryd.f26) (by kernel_rfl) (by kernel_rfl) fun M vs hvs C hC0 => have hC : CtxOk C 58 [] := ⟨hC0.nt.trans (by kernel_rfl), hC0.fx⟩; T.weaken (Trletters fuel s res (h ⟨M, vs, hvs⟩) C hC) (sinit_sub hC (by kernel_rfl) (by kernel_rfl))
/-! What the document's letters compute. -/

def encL64 : List UInt8 → List UInt8
  | a :: b :: c :: r => lets (num3 a b c) 4 ++ encL64 r
  | [a, b] => lets (num3 a b 0) 3
  | [a] => lets (num3 a 0 0) 2
  | [] => []

theorem Bl4_eq (fuel : Nat) (K : List UInt8 → List UInt8 → Int → List UInt8 → Option (List UInt8)) (s : List UInt8) (i n v : Nat) (hn : n ≤ 3) (hv : v < 16777216) (hi : i ≤ 1000000000) :
    ∀ (k f j : Nat) (b : List UInt8), k < f → j + k = n + 1 → b.length ≤ 1000000000 + j →
    Brletters_4 fuel K f s LB_7543b37f (i : Int) (n : Int) (v : Int) (j : Int) b = K s LB_7543b37f ((i + 3 : Nat) : Int) (b ++ (List.range' j k).map fun i => letter (v / 2 ^ (18 - 6 * i) % 64)) := by
  intro k
  induction k with
  | zero =>
    intro f j b hf hj hb
    cases f with
    | zero => omega
    | succ f => rw [Brletters_4, if_neg (by simp; omega), if_pos (ok64 (by omega) (by omega))]; simp
  | succ k ih =>
    intro f j b hf hj hb
    cases f with
    | zero => omega
    | succ f =>
      have hm : (min (IntKind.u64.wrap ((18 : Int) - (6 : Int) * (j : Int))).toNat 64) = 18 - 6 * j := by rw [u64_small (by omega) (by omega)]; omega
      have hlt : v / 2 ^ (18 - 6 * j) % 64 < 64 := Nat.mod_lt _ (by decide)
      rw [Brletters_4, if_pos (by simp; omega)]
      rw [hm, shr_and v _ (by omega)]
      simp only [Int.toNat_natCast, UInt8.ofNat_toNat, letter_fold, alpha_len]
      rw [if_pos ⟨ok64 (by omega) (by omega), ok64 (by omega) (by omega), by rw [u64_small (by omega) (by omega)]; omega, ⟨by omega, by omega⟩, by simp only [List.length_cons, List.length_nil]; omega⟩, if_pos (ok64 (by omega) (by omega))]
      have := ih f (j + 1) (b ++ [letter (v / 2 ^ (18 - 6 * j) % 64)]) (by omega) (by omega) (by simp; omega)
      refine Eq.trans ?_ (this.trans ?_)
      · congr 1
      · rw [List.range'_succ]; simp

def byteAt (s : List UInt8) (i n j : Nat) : UInt8 := if j < n then s.getD (i + j) 0 else 0
theorem Bl2_step (fuel : Nat) (K : List UInt8 → List UInt8 → Int → List UInt8 → Option (List UInt8)) (s b : List UInt8) (f i n x j : Nat) (hj : j < 3) (hx : x < 65536) (hn : n ≤ 3) (hi : i + n ≤ s.length) (hs : s.length ≤ 1000000000) :
    Brletters_2 fuel K (f + 1) s LB_7543b37f (i : Int) (n : Int) (x : Int) (j : Int) b = Brletters_2 fuel K f s LB_7543b37f (i : Int) (n : Int) ((x * 256 + (byteAt s i n j).toNat : Nat) : Int) ((j + 1 : Nat) : Int) b := by
  have e8 : (2 : Int) ^ (min ((8 : Int)).toNat 64) = 256 := rfl
  have hlt := (byteAt s i n j).toNat_lt
  have hw : IntKind.i64.wrap ((x : Int) * 256) = ((x * 256 : Nat) : Int) := by rw [i64_small (by omega) (by omega)]; simp
  rw [Brletters_2, if_pos (by simp; omega), if_pos (by decide), e8, hw]
  unfold byteAt at hlt ⊢
  by_cases h : j < n
  · rw [if_pos (by simp; omega), if_pos ⟨ok64 (by omega) (by omega), by omega, by omega⟩]
    simp only [h, if_true] at hlt ⊢
    have e : ((i : Int) + (j : Int)).toNat = i + j := by omega
    unfold Brletters_3
    rw [e, i64_or (by omega) (by omega), or_add x _ 8 hlt, if_pos (ok64 (by omega) (by omega))]
    rfl
  · rw [if_neg (by simp; omega)]
    simp only [h, if_false] at hlt ⊢
    unfold Brletters_3
    have z : (0 : UInt8).toNat = 0 := by decide
    rw [if_pos (ok64 (by omega) (by omega)), z, Nat.add_zero]
    rfl

theorem Bl2_eq (fuel : Nat) (hf : 5 ≤ fuel) (K : List UInt8 → List UInt8 → Int → List UInt8 → Option (List UInt8)) (s b : List UInt8) (i n : Nat) (hn : n ≤ 3) (hi : i + n ≤ s.length) (hs : s.length ≤ 1000000000) (hb : b.length ≤ 1000000000) :
    Brletters_2 fuel K fuel s LB_7543b37f (i : Int) (n : Int) (0 : Int) (0 : Int) b = K s LB_7543b37f ((i + 3 : Nat) : Int) (b ++ lets (num3 (byteAt s i n 0) (byteAt s i n 1) (byteAt s i n 2)) (n + 1)) := by
  obtain ⟨f, rfl⟩ : ∃ f, fuel = f + 4 := ⟨fuel - 4, by omega⟩
  have h0 := (byteAt s i n 0).toNat_lt
  have h1 := (byteAt s i n 1).toNat_lt
  have h2 := (byteAt s i n 2).toNat_lt
  have s0 := Bl2_step (f + 4) K s b (f + 3) i n 0 0 (by omega) (by omega) hn hi hs
  have s1 := Bl2_step (f + 4) K s b (f + 2) i n (0 * 256 + (byteAt s i n 0).toNat) 1 (by omega) (by omega) hn hi hs
  have s2 := Bl2_step (f + 4) K s b (f + 1) i n ((0 * 256 + (byteAt s i n 0).toNat) * 256 + (byteAt s i n 1).toNat) 2 (by omega) (by omega) hn hi hs
  have e : ((0 * 256 + (byteAt s i n 0).toNat) * 256 + (byteAt s i n 1).toNat) * 256 + (byteAt s i n 2).toNat = num3 (byteAt s i n 0) (byteAt s i n 1) (byteAt s i n 2) := by unfold num3; omega
  rw [e] at s2
  refine s0.trans (s1.trans (s2.trans ?_))
  rw [Brletters_2, if_neg (by decide)]
  exact Bl4_eq (f + 4) K s i n _ hn (num3_lt _ _ _) (by omega) (n + 1) (f + 4) 0 b (by omega) (by omega) (by omega)

theorem byteAt_drop {s r : List UInt8} {i j n : Nat} {c : UInt8} (h : (s.drop i)[j]? = some c) (hj : j < n) : byteAt s i n j = c := by
  unfold byteAt
  rw [if_pos hj, List.getD_eq_getElem?_getD]
  rw [List.getElem?_drop] at h
  rw [h]; rfl
theorem byteAt_out {s : List UInt8} {i j n : Nat} (hj : n ≤ j) : byteAt s i n j = 0 := by
  unfold byteAt; rw [if_neg (by omega)]

theorem Bl1_eq (fuel : Nat) (hfu : 5 ≤ fuel) (s : List UInt8) (hs : s.length ≤ 1000000) : ∀ (f i : Nat) (b : List UInt8), s.length + 2 < f + i → b.length ≤ 2 * i →  i ≤ s.length + 2 →
    Brletters_1 fuel f s LB_7543b37f (i : Int) b = some (b ++ encL64 (s.drop i)) := by
  intro f
  induction f with
  | zero =>
    intro i b h1 h2 h3
    omega
  | succ f ih =>
    intro i b h1 h2 h3
    rw [Brletters_1]
    have hl : (s.drop i).length = s.length - i := List.length_drop
    match hd : s.drop i with
    | [] =>
      rw [hd] at hl; simp at hl
      rw [if_neg (by simp; omega), encL64]; simp
    | x :: y :: z :: r =>
      rw [hd] at hl; simp at hl
      have hn : (if ((s.length : Int) - (i : Int)) < (3 : Int) then ((s.length : Int) - (i : Int)) else (3 : Int)) = ((3 : Nat) : Int) := by rw [if_neg (by omega)]; rfl
      rw [if_pos (by simp; omega), if_pos (ok64 (by omega) (by omega)), hn, Bl2_eq fuel hfu _ s b i 3 (by omega) (by omega) (by omega) (by omega)]
      have g0 : byteAt s i 3 0 = x := byteAt_drop (r := r) (by rw [hd]; rfl) (by omega)
      have g1 : byteAt s i 3 1 = y := byteAt_drop (r := r) (by rw [hd]; rfl) (by omega)
      have g2 : byteAt s i 3 2 = z := byteAt_drop (r := r) (by rw [hd]; rfl) (by omega)
      rw [g0, g1, g2, ih (i + 3) _ (by omega) (by simp [lets_len]; omega) (by omega)]
      have hdr : s.drop (i + 3) = r := by
        have : (s.drop i).drop 3 = r := by rw [hd]; rfl
        simpa [List.drop_drop] using this
      rw [hdr, encL64]; simp
    | [x, y] =>
      rw [hd] at hl; simp at hl
      have hn : (if ((s.length : Int) - (i : Int)) < (3 : Int) then ((s.length : Int) - (i : Int)) else (3 : Int)) = ((2 : Nat) : Int) := by rw [if_pos (by omega)]; omega
      rw [if_pos (by simp; omega), if_pos (ok64 (by omega) (by omega)), hn, Bl2_eq fuel hfu _ s b i 2 (by omega) (by omega) (by omega) (by omega)]
      have g0 : byteAt s i 2 0 = x := byteAt_drop (r := []) (by rw [hd]; rfl) (by omega)
      have g1 : byteAt s i 2 1 = y := byteAt_drop (r := []) (by rw [hd]; rfl) (by omega)
      have g2 : byteAt s i 2 2 = 0 := byteAt_out (by omega)
      rw [g0, g1, g2, ih (i + 3) _ (by omega) (by simp [lets_len]; omega) (by omega)]
      have hdr : s.drop (i + 3) = [] := List.drop_of_length_le (by omega)
      rw [hdr, encL64, encL64]; simp
    | [x] =>
      rw [hd] at hl; simp at hl
      have hn : (if ((s.length : Int) - (i : Int)) < (3 : Int) then ((s.length : Int) - (i : Int)) else (3 : Int)) = ((1 : Nat) : Int) := by rw [if_pos (by omega)]; omega
      rw [if_pos (by simp; omega), if_pos (ok64 (by omega) (by omega)), hn, Bl2_eq fuel hfu _ s b i 1 (by omega) (by omega) (by omega) (by omega)]
      have g0 : byteAt s i 1 0 = x := byteAt_drop (r := []) (by rw [hd]; rfl) (by omega)
      have g1 : byteAt s i 1 1 = 0 := byteAt_out (by omega)
      have g2 : byteAt s i 1 2 = 0 := byteAt_out (by omega)
      rw [g0, g1, g2, ih (i + 3) _ (by omega) (by simp [lets_len]; omega) (by omega)]
      have hdr : s.drop (i + 3) = [] := List.drop_of_length_le (by omega)
      rw [hdr, encL64, encL64]; simp
theorem rletters_eq (s : List UInt8) (hs : s.length ≤ 1000000) : Frletters 1000010 s = some (encL64 s) := by
  have := Bl1_eq 1000010 (by omega) s hs 1000010 0 [] (by omega) (by simp) (by omega)
  simpa [Frletters] using this

theorem encL64_pad : ∀ (n : Nat) (s : List UInt8), s.length ≤ n → encB s = encL64 s ++ List.replicate ((4 - (encL64 s).length % 4) % 4) 61
  | 0, s, h => by have : s = [] := List.length_eq_zero_iff.1 (by omega); subst this; rw [encB, encL64]; rfl
  | n + 1, s, h => by
    match s, h with
    | x :: y :: z :: r, h =>
      have := encL64_pad n r (by simp at h; omega)
      rw [encB, encL64, this]
      have e : (lets (num3 x y z) 4 ++ encL64 r).length % 4 = (encL64 r).length % 4 := by simp [lets_len]
      rw [e]; simp
    | [x, y], h => rw [encB, encL64]; simp [lets_len]
    | [x], h => rw [encB, encL64]; simp [lets_len]
    | [], h => rw [encB, encL64]; rfl
theorem encL64_len : ∀ (n : Nat) (s : List UInt8), s.length ≤ n → (encL64 s).length ≤ 2 * s.length
  | 0, s, h => by have : s = [] := List.length_eq_zero_iff.1 (by omega); subst this; rw [encL64]; simp
  | n + 1, s, h => by
    match s, h with
    | x :: y :: z :: r, h =>
      have := encL64_len n r (by simp at h; omega)
      rw [encL64]; simp [lets_len]; omega
    | [x, y], h => rw [encL64]; simp [lets_len]
    | [x], h => rw [encL64]; simp [lets_len]
    | [], h => rw [encL64]; simp


def sp_rletters : List AV → Option (AV × Option Prop) := spStr encL64
theorem ok_rletters : SpecOk Tryd.prog 26 sp_rletters := spStr_ok (by kernel_rfl) fun s hs => fn_rletters 1000010 s _ fun _ => rletters_eq s hs
end Go.Proofs.YtmnkkliibjlefaaDoor
