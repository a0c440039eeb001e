/-
  Lifted functions, and facts about them.
-/
import Derived.Test.YthfgklcdkehgjaaDoorRows
import Derived.Test.YthfgklcdkehgjaaDoorAmC
import Derived.Test.YthfgklcdkehgjaaDoorC13Lits
import Derived.Test.YthfgklcdkehgjaaDoorC13B64Loose
import Derived.Test.YthfgklcdkehgjaaDoorC13R1Idx
namespace Go.Proofs.YthfgklcdkehgjaaDoor
open Go Go.Am
set_option linter.unusedVariables false
def BrLoose_2 (fuel : Nat) (k1 : List UInt8 → List UInt8 → Int → Int → Int → List UInt8 → Option (List UInt8)) (s vs1 : List UInt8) (vi6 vi7 vi4 : Int) (vb8 : List UInt8) : Option (List UInt8) := if i64ok (vi4 + (1 : Int)) then (k1 s vs1 vi6 vi7 (vi4 + (1 : Int)) vb8) else none

def BrLoose_4 (fuel : Nat)  (vb10 : List UInt8) : Option (List UInt8) := some vb10

def BrLoose_3 (fuel : Nat)  (vi2 : Int) (vi3 : Int) (vb9 : List UInt8) : Option (List UInt8) := if (vi3 == (3 : Int)) = true then (if (0 ≤ (10 : Int)) ∧ (0 ≤ (2 : Int)) ∧ ((vb9.length + [UInt8.ofNat (IntKind.u8.wrap (vi2.fdiv (2 ^ (min ((10 : Int)).toNat 64)))).toNat, UInt8.ofNat (IntKind.u8.wrap (vi2.fdiv (2 ^ (min ((2 : Int)).toNat 64)))).toNat].length) * 1 ≤ 140737488355328) then (BrLoose_4 fuel (vb9 ++ [UInt8.ofNat (IntKind.u8.wrap (vi2.fdiv (2 ^ (min ((10 : Int)).toNat 64)))).toNat, UInt8.ofNat (IntKind.u8.wrap (vi2.fdiv (2 ^ (min ((2 : Int)).toNat 64)))).toNat])) else none) else (BrLoose_4 fuel vb9)

def BrLoose_1 (fuel : Nat)  : Nat → List UInt8 → List UInt8 → Int → Int → Int → List UInt8 → Option (List UInt8)
  | 0, _, _, _, _, _, _ => none
  | f1 + 1, s, vs1, vi2, vi3, vi4, vb5 => if (decide (vi4 < (s.length : Int))) = true → 0 ≤ vi4 ∧ vi4 < (s.length : Int) then (if ((decide (vi4 < (s.length : Int))) && (((s.getD (vi4).toNat 0).toNat : Int) != (61 : Int))) = true then (if (i64ok (vi4 + (1 : Int))) ∧ (0 ≤ vi4 ∧ vi4 ≤ (vi4 + (1 : Int)) ∧ (vi4 + (1 : Int)) ≤ (s.length : Int)) ∧ (indexok vs1 ((s.take (vi4 + (1 : Int)).toNat).drop (vi4).toNat) (0 : Int)) then (if (decide ((indexS vs1 ((s.take (vi4 + (1 : Int)).toNat).drop (vi4).toNat) (0 : Int)) < (0 : Int))) = true then (BrLoose_2 fuel (BrLoose_1 fuel f1) s vs1 vi2 vi3 vi4 vb5) else (if 0 ≤ (6 : Int) then (if i64ok (vi3 + (1 : Int)) then (if ((vi3 + (1 : Int)) == (4 : Int)) = true then (if (0 ≤ (16 : Int)) ∧ (0 ≤ (8 : Int)) ∧ ((vb5.length + [UInt8.ofNat (IntKind.u8.wrap ((ibits .or .i64 (IntKind.i64.wrap (vi2 * 2 ^ (min ((6 : Int)).toNat 64))) (indexS vs1 ((s.take (vi4 + (1 : Int)).toNat).drop (vi4).toNat) (0 : Int))).fdiv (2 ^ (min ((16 : Int)).toNat 64)))).toNat, UInt8.ofNat (IntKind.u8.wrap ((ibits .or .i64 (IntKind.i64.wrap (vi2 * 2 ^ (min ((6 : Int)).toNat 64))) (indexS vs1 ((s.take (vi4 + (1 : Int)).toNat).drop (vi4).toNat) (0 : Int))).fdiv (2 ^ (min ((8 : Int)).toNat 64)))).toNat, UInt8.ofNat (IntKind.u8.wrap (ibits .or .i64 (IntKind.i64.wrap (vi2 * 2 ^ (min ((6 : Int)).toNat 64))) (indexS vs1 ((s.take (vi4 + (1 : Int)).toNat).drop (vi4).toNat) (0 : Int)))).toNat].length) * 1 ≤ 140737488355328) then (BrLoose_2 fuel (BrLoose_1 fuel f1) s vs1 (0 : Int) (0 : Int) vi4 (vb5 ++ [UInt8.ofNat (IntKind.u8.wrap ((ibits .or .i64 (IntKind.i64.wrap (vi2 * 2 ^ (min ((6 : Int)).toNat 64))) (indexS vs1 ((s.take (vi4 + (1 : Int)).toNat).drop (vi4).toNat) (0 : Int))).fdiv (2 ^ (min ((16 : Int)).toNat 64)))).toNat, UInt8.ofNat (IntKind.u8.wrap ((ibits .or .i64 (IntKind.i64.wrap (vi2 * 2 ^ (min ((6 : Int)).toNat 64))) (indexS vs1 ((s.take (vi4 + (1 : Int)).toNat).drop (vi4).toNat) (0 : Int))).fdiv (2 ^ (min ((8 : Int)).toNat 64)))).toNat, UInt8.ofNat (IntKind.u8.wrap (ibits .or .i64 (IntKind.i64.wrap (vi2 * 2 ^ (min ((6 : Int)).toNat 64))) (indexS vs1 ((s.take (vi4 + (1 : Int)).toNat).drop (vi4).toNat) (0 : Int)))).toNat])) else none) else (BrLoose_2 fuel (BrLoose_1 fuel f1) s vs1 (ibits .or .i64 (IntKind.i64.wrap (vi2 * 2 ^ (min ((6 : Int)).toNat 64))) (indexS vs1 ((s.take (vi4 + (1 : Int)).toNat).drop (vi4).toNat) (0 : Int))) (vi3 + (1 : Int)) vi4 vb5)) else none) else none)) else none) else (if (vi3 == (2 : Int)) = true then (if (0 ≤ (4 : Int)) ∧ ((vb5.length + [UInt8.ofNat (IntKind.u8.wrap (vi2.fdiv (2 ^ (min ((4 : Int)).toNat 64)))).toNat].length) * 1 ≤ 140737488355328) then (BrLoose_3 fuel vi2 vi3 (vb5 ++ [UInt8.ofNat (IntKind.u8.wrap (vi2.fdiv (2 ^ (min ((4 : Int)).toNat 64)))).toNat])) else none) else (BrLoose_3 fuel vi2 vi3 vb5))) else none

def FrLoose (fuel : Nat) (s : List UInt8) : Option (List UInt8) := BrLoose_1 fuel fuel s alphaS (0 : Int) (0 : Int) (0 : Int) []

noncomputable def crLoose : Code := bodyOf Tryd.f62

def envrLoose : Env := mkEnv [(49, sp_Index), (83, sp_alpha)]

theorem envrLoose_ok : EnvOk Tryd.prog envrLoose := EnvOk_mk ⟨ok_Index.any, ok_alpha.any, trivial⟩

theorem TrLoose (fuel : Nat) (s res : List UInt8) (h : FrLoose fuel s = some res) (C : Ctx) (hC : CtxOk C 71 []) :
    T Tryd.prog C (at_ crLoose []) (mkS [(0, .p (.str s))] []) (Qend Tryd.prog C Tryd.f62.results.toList (.p (.str res))) := by
  have henv := envrLoose_ok
  unfold FrLoose at h
  refine T_seqp (p := []) (by kernel_rfl) ?_
  refine T_reg henv hC [] [(0, .p (.str s))] [] [] (by kernel_rfl) (by kernel_rfl) trivial (fun s1 hs1 => ?_)
  refine (T.weaken ?_ hs1 : T Tryd.prog C (at_ crLoose [1]) _ _)
  refine T_seqp (p := [1]) (by kernel_rfl) ?_
  refine T_reg henv hC [] [(0, .p (.str s)), (3, .p (.str alphaS))] [] [] (by kernel_rfl) (by kernel_rfl) trivial (fun s1 hs1 => ?_)
  refine (T.weaken ?_ hs1 : T Tryd.prog C (at_ crLoose [1, 1]) _ _)
  refine T_seqp (p := [1, 1]) (by kernel_rfl) ?_
  refine T_reg henv hC [(4, none)] [(0, .p (.str s)), (3, .p (.str alphaS)), (4, .arr 4)] [(4, .barr 5 false [])] [] (by kernel_rfl) (by kernel_rfl) trivial (fun s1 hs1 => ?_)
  refine (T.weaken ?_ hs1 : T Tryd.prog C (at_ crLoose [1, 1, 1]) _ _)
  refine T_seqp (p := [1, 1, 1]) (by kernel_rfl) ?_
  refine T_reg henv hC [(4, some 4)] [(0, .p (.str s)), (3, .p (.str alphaS)), (4, .arr 4), (5, .p (.int .i64 (0 : Int))), (6, .p (.int .i64 (0 : Int)))] [(4, .barr 5 false [])] [] (by kernel_rfl) (by kernel_rfl) trivial (fun s1 hs1 => ?_)
  refine (T.weaken ?_ hs1 : T Tryd.prog C (at_ crLoose [1, 1, 1, 1]) _ _)
  refine T_seqp (p := [1, 1, 1, 1]) (by kernel_rfl) ?_
  refine T_seqp (p := [1, 1, 1, 1, 0]) (by kernel_rfl) ?_
  refine T_reg henv hC [(4, some 4)] [(0, .p (.str s)), (3, .p (.str alphaS)), (4, .arr 4), (5, .p (.int .i64 (0 : Int))), (6, .p (.int .i64 (0 : Int))), (7, .p (.int .i64 (0 : Int)))] [(4, .barr 5 false [])] [] (by kernel_rfl) (by kernel_rfl) trivial (fun s1 hs1 => ?_)
  refine (T.weaken ?_ hs1 : T Tryd.prog C (at_ crLoose [1, 1, 1, 1, 0, 1]) _ _)
  refine T_blockp (p := [1, 1, 1, 1, 0, 1]) 0 (by kernel_rfl) ?_
  refine T.weaken ?_ (Sub_view (l := [(0, .p (.str s)), (3, .p (.str alphaS)), (4, .arr 4), (5, .p (.int .i64 (0 : Int))), (6, .p (.int .i64 (0 : Int))), (7, .p (.int .i64 (0 : Int)))]) (o := [(4, .barr 5 false [])]) hC [(4, some 4)] (by kernel_rfl) (by kernel_rfl) (by kernel_rfl))
  refine T_loopp (p := [1, 1, 1, 1, 0, 1, 0]) (by kernel_rfl) (fun f1 s2 => ∃ (s : List UInt8) (vs1 : List UInt8) (vi2 : Int) (vi3 : Int) (vi4 : Int) (vb5 : List UInt8), s2 = mkS [(0, .p (.str s)), (3, .p (.str vs1)), (4, .arr 4), (5, .p (.int .i64 vi2)), (6, .p (.int .i64 vi3)), (7, .p (.int .i64 vi4))] [(4, .barr 5 false vb5)] ∧ BrLoose_1 fuel f1 s vs1 vi2 vi3 vi4 vb5 = some res) ?_ fuel ⟨s, alphaS, (0 : Int), (0 : Int), (0 : Int), [], rfl, h⟩
  rintro f1 s2 ⟨s, vs1, vi2, vi3, vi4, vb5, rfl, h⟩
  cases f1 with
  | zero => cases h
  | succ f1 =>
    rw [BrLoose_1] at h
    refine T_seqp (p := [1, 1, 1, 1, 0, 1, 0, 0]) (by kernel_rfl) ?_
    refine T_seqp (p := [1, 1, 1, 1, 0, 1, 0, 0, 0]) (by kernel_rfl) ?_
    obtain ⟨hob, h⟩ := ite_get h
    refine T_reg henv hC [(4, some 4)] [(0, .p (.str s)), (3, .p (.str vs1)), (4, .arr 4), (5, .p (.int .i64 vi2)), (6, .p (.int .i64 vi3)), (7, .p (.int .i64 vi4)), (19, .p (.bool ((decide (vi4 < (s.length : Int))) && (((s.getD (vi4).toNat 0).toNat : Int) != (61 : Int)))))] [(4, .barr 5 false vb5)] [(decide (vi4 < (s.length : Int))) = true → (decide (vi4 < (s.length : Int))) = true, (decide (vi4 < (s.length : Int))) = true → (decide (vi4 < (s.length : Int))) = true, (decide (vi4 < (s.length : Int))) = true → 0 ≤ vi4 ∧ vi4 < (s.length : Int), (decide (vi4 < (s.length : Int))) = true → (decide (vi4 < (s.length : Int))) = true, (decide (vi4 < (s.length : Int))) = true → (decide (vi4 < (s.length : Int))) = true] (by kernel_rfl) (by kernel_rfl) ⟨(fun q0 => q0), (fun q0 => q0), hob, (fun q0 => q0), (fun q0 => q0), trivial⟩ (fun s1 hs1 => ?_)
    refine (T.weaken ?_ hs1 : T Tryd.prog C (at_ crLoose [1, 1, 1, 1, 0, 1, 0, 0, 0, 1]) _ _)
    refine T_condp (p := [1, 1, 1, 1, 0, 1, 0, 0, 0, 1]) (by kernel_rfl) ((decide (vi4 < (s.length : Int))) && (((s.getD (vi4).toNat 0).toNat : Int) != (61 : Int))) (by kernel_rfl) (fun hb => ?_) (fun hb => ?_)
    · have h := ite_t h hb
      refine T_skipp (p := [1, 1, 1, 1, 0, 1, 0, 0, 0, 1, 0]) (by kernel_rfl) ?_
      refine (T.weaken ?_ (Sub.refl _) : T Tryd.prog C (at_ crLoose [1, 1, 1, 1, 0, 1, 0, 0, 1]) _ _)
      refine T_join (p := [1, 1, 1, 1, 0, 1, 0, 0, 1]) (by kernel_rfl) (fun s2 => ∃ (s : List UInt8) (vs1 : List UInt8) (vi6 : Int) (vi7 : Int) (vi4 : Int) (vb8 : List UInt8), BrLoose_2 fuel (BrLoose_1 fuel f1) s vs1 vi6 vi7 vi4 vb8 = some res ∧ Sub C s2 (mkS [(0, .p (.str s)), (3, .p (.str vs1)), (4, .arr 4), (5, .p (.int .i64 vi6)), (6, .p (.int .i64 vi7)), (7, .p (.int .i64 vi4))] [(4, .barr 5 false vb8)])) ?_ ?_
      · refine T_blockp (p := [1, 1, 1, 1, 0, 1, 0, 0, 1, 0]) 1 (by kernel_rfl) ?_
        refine T_seqp (p := [1, 1, 1, 1, 0, 1, 0, 0, 1, 0, 0]) (by kernel_rfl) ?_
        obtain ⟨hob, h⟩ := ite_get h
        refine T_reg henv hC [(4, some 4)] [(0, .p (.str s)), (3, .p (.str vs1)), (4, .arr 4), (5, .p (.int .i64 vi2)), (6, .p (.int .i64 vi3)), (7, .p (.int .i64 vi4)), (8, .p (.int .i64 (indexS vs1 ((s.take (vi4 + (1 : Int)).toNat).drop (vi4).toNat) (0 : Int))))] [(4, .barr 5 false vb5)] [i64ok (vi4 + (1 : Int)), 0 ≤ vi4 ∧ vi4 ≤ (vi4 + (1 : Int)) ∧ (vi4 + (1 : Int)) ≤ (s.length : Int), indexok vs1 ((s.take (vi4 + (1 : Int)).toNat).drop (vi4).toNat) (0 : Int)] (by kernel_rfl) (by kernel_rfl) ⟨hob.1, hob.2.1, hob.2.2, trivial⟩ (fun s1 hs1 => ?_)
        refine (T.weaken ?_ hs1 : T Tryd.prog C (at_ crLoose [1, 1, 1, 1, 0, 1, 0, 0, 1, 0, 0, 1]) _ _)
        refine T_seqp (p := [1, 1, 1, 1, 0, 1, 0, 0, 1, 0, 0, 1]) (by kernel_rfl) ?_
        refine T_seqp (p := [1, 1, 1, 1, 0, 1, 0, 0, 1, 0, 0, 1, 0]) (by kernel_rfl) ?_
        refine T_reg henv hC [(4, some 4)] [(0, .p (.str s)), (3, .p (.str vs1)), (4, .arr 4), (5, .p (.int .i64 vi2)), (6, .p (.int .i64 vi3)), (7, .p (.int .i64 vi4)), (8, .p (.int .i64 (indexS vs1 ((s.take (vi4 + (1 : Int)).toNat).drop (vi4).toNat) (0 : Int)))), (30, .p (.bool (decide ((indexS vs1 ((s.take (vi4 + (1 : Int)).toNat).drop (vi4).toNat) (0 : Int)) < (0 : Int)))))] [(4, .barr 5 false vb5)] [] (by kernel_rfl) (by kernel_rfl) trivial (fun s1 hs1 => ?_)
        refine (T.weaken ?_ hs1 : T Tryd.prog C (at_ crLoose [1, 1, 1, 1, 0, 1, 0, 0, 1, 0, 0, 1, 0, 1]) _ _)
        refine T_condp (p := [1, 1, 1, 1, 0, 1, 0, 0, 1, 0, 0, 1, 0, 1]) (by kernel_rfl) (decide ((indexS vs1 ((s.take (vi4 + (1 : Int)).toNat).drop (vi4).toNat) (0 : Int)) < (0 : Int))) (by kernel_rfl) (fun hb => ?_) (fun hb => ?_)
        · have h := ite_t h hb
          refine T_exitp (p := [1, 1, 1, 1, 0, 1, 0, 0, 1, 0, 0, 1, 0, 1, 0]) 1 (by kernel_rfl) ?_
          refine then_exit ?_
          refine inblock_hit ?_
          exact ⟨s, vs1, vi2, vi3, vi4, vb5, h, Sub.trans (Sub.refl _) (Sub_view hC [(4, some 4)] (by kernel_rfl) (by kernel_rfl) (by kernel_rfl))⟩
        · have h := ite_f h hb
          refine T_skipp (p := [1, 1, 1, 1, 0, 1, 0, 0, 1, 0, 0, 1, 0, 1, 1]) (by kernel_rfl) ?_
          refine (T.weaken ?_ (Sub.refl _) : T Tryd.prog C (at_ crLoose [1, 1, 1, 1, 0, 1, 0, 0, 1, 0, 0, 1, 1]) _ _)
          refine T_seqp (p := [1, 1, 1, 1, 0, 1, 0, 0, 1, 0, 0, 1, 1]) (by kernel_rfl) ?_
          obtain ⟨hob, h⟩ := ite_get h
          refine T_reg henv hC [(4, some 4)] [(0, .p (.str s)), (3, .p (.str vs1)), (4, .arr 4), (5, .p (.int .i64 (ibits .or .i64 (IntKind.i64.wrap (vi2 * 2 ^ (min ((6 : Int)).toNat 64))) (indexS vs1 ((s.take (vi4 + (1 : Int)).toNat).drop (vi4).toNat) (0 : Int))))), (6, .p (.int .i64 vi3)), (7, .p (.int .i64 vi4))] [(4, .barr 5 false vb5)] [0 ≤ (6 : Int)] (by kernel_rfl) (by kernel_rfl) ⟨hob, trivial⟩ (fun s1 hs1 => ?_)
          refine (T.weaken ?_ hs1 : T Tryd.prog C (at_ crLoose [1, 1, 1, 1, 0, 1, 0, 0, 1, 0, 0, 1, 1, 1]) _ _)
          refine T_seqp (p := [1, 1, 1, 1, 0, 1, 0, 0, 1, 0, 0, 1, 1, 1]) (by kernel_rfl) ?_
          obtain ⟨hob, h⟩ := ite_get h
          refine T_reg henv hC [(4, some 4)] [(0, .p (.str s)), (3, .p (.str vs1)), (4, .arr 4), (5, .p (.int .i64 (ibits .or .i64 (IntKind.i64.wrap (vi2 * 2 ^ (min ((6 : Int)).toNat 64))) (indexS vs1 ((s.take (vi4 + (1 : Int)).toNat).drop (vi4).toNat) (0 : Int))))), (6, .p (.int .i64 (vi3 + (1 : Int)))), (7, .p (.int .i64 vi4))] [(4, .barr 5 false vb5)] [i64ok (vi3 + (1 : Int))] (by kernel_rfl) (by kernel_rfl) ⟨hob, trivial⟩ (fun s1 hs1 => ?_)
          refine (T.weaken ?_ hs1 : T Tryd.prog C (at_ crLoose [1, 1, 1, 1, 0, 1, 0, 0, 1, 0, 0, 1, 1, 1, 1]) _ _)
          refine T_seqp (p := [1, 1, 1, 1, 0, 1, 0, 0, 1, 0, 0, 1, 1, 1, 1]) (by kernel_rfl) ?_
          refine T_reg henv hC [(4, some 4)] [(0, .p (.str s)), (3, .p (.str vs1)), (4, .arr 4), (5, .p (.int .i64 (ibits .or .i64 (IntKind.i64.wrap (vi2 * 2 ^ (min ((6 : Int)).toNat 64))) (indexS vs1 ((s.take (vi4 + (1 : Int)).toNat).drop (vi4).toNat) (0 : Int))))), (6, .p (.int .i64 (vi3 + (1 : Int)))), (7, .p (.int .i64 vi4)), (38, .p (.bool ((vi3 + (1 : Int)) == (4 : Int))))] [(4, .barr 5 false vb5)] [] (by kernel_rfl) (by kernel_rfl) trivial (fun s1 hs1 => ?_)
          refine (T.weaken ?_ hs1 : T Tryd.prog C (at_ crLoose [1, 1, 1, 1, 0, 1, 0, 0, 1, 0, 0, 1, 1, 1, 1, 1]) _ _)
          refine T_condp (p := [1, 1, 1, 1, 0, 1, 0, 0, 1, 0, 0, 1, 1, 1, 1, 1]) (by kernel_rfl) ((vi3 + (1 : Int)) == (4 : Int)) (by kernel_rfl) (fun hb => ?_) (fun hb => ?_)
          · have h := ite_t h hb
            refine T_seqp (p := [1, 1, 1, 1, 0, 1, 0, 0, 1, 0, 0, 1, 1, 1, 1, 1, 0]) (by kernel_rfl) ?_
            obtain ⟨hob, h⟩ := ite_get h
            refine T_reg henv hC [(4, some 49)] [(0, .p (.str s)), (3, .p (.str vs1)), (4, .arr 4), (7, .p (.int .i64 vi4))] [(4, .barr 5 false (vb5 ++ [UInt8.ofNat (IntKind.u8.wrap ((ibits .or .i64 (IntKind.i64.wrap (vi2 * 2 ^ (min ((6 : Int)).toNat 64))) (indexS vs1 ((s.take (vi4 + (1 : Int)).toNat).drop (vi4).toNat) (0 : Int))).fdiv (2 ^ (min ((16 : Int)).toNat 64)))).toNat, UInt8.ofNat (IntKind.u8.wrap ((ibits .or .i64 (IntKind.i64.wrap (vi2 * 2 ^ (min ((6 : Int)).toNat 64))) (indexS vs1 ((s.take (vi4 + (1 : Int)).toNat).drop (vi4).toNat) (0 : Int))).fdiv (2 ^ (min ((8 : Int)).toNat 64)))).toNat, UInt8.ofNat (IntKind.u8.wrap (ibits .or .i64 (IntKind.i64.wrap (vi2 * 2 ^ (min ((6 : Int)).toNat 64))) (indexS vs1 ((s.take (vi4 + (1 : Int)).toNat).drop (vi4).toNat) (0 : Int)))).toNat]))] [0 ≤ (16 : Int), 0 ≤ (8 : Int), (vb5.length + [UInt8.ofNat (IntKind.u8.wrap ((ibits .or .i64 (IntKind.i64.wrap (vi2 * 2 ^ (min ((6 : Int)).toNat 64))) (indexS vs1 ((s.take (vi4 + (1 : Int)).toNat).drop (vi4).toNat) (0 : Int))).fdiv (2 ^ (min ((16 : Int)).toNat 64)))).toNat, UInt8.ofNat (IntKind.u8.wrap ((ibits .or .i64 (IntKind.i64.wrap (vi2 * 2 ^ (min ((6 : Int)).toNat 64))) (indexS vs1 ((s.take (vi4 + (1 : Int)).toNat).drop (vi4).toNat) (0 : Int))).fdiv (2 ^ (min ((8 : Int)).toNat 64)))).toNat, UInt8.ofNat (IntKind.u8.wrap (ibits .or .i64 (IntKind.i64.wrap (vi2 * 2 ^ (min ((6 : Int)).toNat 64))) (indexS vs1 ((s.take (vi4 + (1 : Int)).toNat).drop (vi4).toNat) (0 : Int)))).toNat].length) * 1 ≤ 140737488355328] (by kernel_rfl) (by kernel_rfl) ⟨hob.1, hob.2.1, hob.2.2, trivial⟩ (fun s1 hs1 => ?_)
            refine (T.weaken ?_ hs1 : T Tryd.prog C (at_ crLoose [1, 1, 1, 1, 0, 1, 0, 0, 1, 0, 0, 1, 1, 1, 1, 1, 0, 1]) _ _)
            refine T_seqp (p := [1, 1, 1, 1, 0, 1, 0, 0, 1, 0, 0, 1, 1, 1, 1, 1, 0, 1]) (by kernel_rfl) ?_
            refine T_reg henv hC [(4, some 4)] [(0, .p (.str s)), (3, .p (.str vs1)), (4, .arr 4), (5, .p (.int .i64 (0 : Int))), (7, .p (.int .i64 vi4))] [(4, .barr 5 false (vb5 ++ [UInt8.ofNat (IntKind.u8.wrap ((ibits .or .i64 (IntKind.i64.wrap (vi2 * 2 ^ (min ((6 : Int)).toNat 64))) (indexS vs1 ((s.take (vi4 + (1 : Int)).toNat).drop (vi4).toNat) (0 : Int))).fdiv (2 ^ (min ((16 : Int)).toNat 64)))).toNat, UInt8.ofNat (IntKind.u8.wrap ((ibits .or .i64 (IntKind.i64.wrap (vi2 * 2 ^ (min ((6 : Int)).toNat 64))) (indexS vs1 ((s.take (vi4 + (1 : Int)).toNat).drop (vi4).toNat) (0 : Int))).fdiv (2 ^ (min ((8 : Int)).toNat 64)))).toNat, UInt8.ofNat (IntKind.u8.wrap (ibits .or .i64 (IntKind.i64.wrap (vi2 * 2 ^ (min ((6 : Int)).toNat 64))) (indexS vs1 ((s.take (vi4 + (1 : Int)).toNat).drop (vi4).toNat) (0 : Int)))).toNat]))] [] (by kernel_rfl) (by kernel_rfl) trivial (fun s1 hs1 => ?_)
            refine (T.weaken ?_ hs1 : T Tryd.prog C (at_ crLoose [1, 1, 1, 1, 0, 1, 0, 0, 1, 0, 0, 1, 1, 1, 1, 1, 0, 1, 1]) _ _)
            refine T_reg henv hC [(4, some 4)] [(0, .p (.str s)), (3, .p (.str vs1)), (4, .arr 4), (5, .p (.int .i64 (0 : Int))), (6, .p (.int .i64 (0 : Int))), (7, .p (.int .i64 vi4))] [(4, .barr 5 false (vb5 ++ [UInt8.ofNat (IntKind.u8.wrap ((ibits .or .i64 (IntKind.i64.wrap (vi2 * 2 ^ (min ((6 : Int)).toNat 64))) (indexS vs1 ((s.take (vi4 + (1 : Int)).toNat).drop (vi4).toNat) (0 : Int))).fdiv (2 ^ (min ((16 : Int)).toNat 64)))).toNat, UInt8.ofNat (IntKind.u8.wrap ((ibits .or .i64 (IntKind.i64.wrap (vi2 * 2 ^ (min ((6 : Int)).toNat 64))) (indexS vs1 ((s.take (vi4 + (1 : Int)).toNat).drop (vi4).toNat) (0 : Int))).fdiv (2 ^ (min ((8 : Int)).toNat 64)))).toNat, UInt8.ofNat (IntKind.u8.wrap (ibits .or .i64 (IntKind.i64.wrap (vi2 * 2 ^ (min ((6 : Int)).toNat 64))) (indexS vs1 ((s.take (vi4 + (1 : Int)).toNat).drop (vi4).toNat) (0 : Int)))).toNat]))] [] (by kernel_rfl) (by kernel_rfl) trivial (fun s1 hs1 => ?_)
            exact ⟨s, vs1, (0 : Int), (0 : Int), vi4, vb5 ++ [UInt8.ofNat (IntKind.u8.wrap ((ibits .or .i64 (IntKind.i64.wrap (vi2 * 2 ^ (min ((6 : Int)).toNat 64))) (indexS vs1 ((s.take (vi4 + (1 : Int)).toNat).drop (vi4).toNat) (0 : Int))).fdiv (2 ^ (min ((16 : Int)).toNat 64)))).toNat, UInt8.ofNat (IntKind.u8.wrap ((ibits .or .i64 (IntKind.i64.wrap (vi2 * 2 ^ (min ((6 : Int)).toNat 64))) (indexS vs1 ((s.take (vi4 + (1 : Int)).toNat).drop (vi4).toNat) (0 : Int))).fdiv (2 ^ (min ((8 : Int)).toNat 64)))).toNat, UInt8.ofNat (IntKind.u8.wrap (ibits .or .i64 (IntKind.i64.wrap (vi2 * 2 ^ (min ((6 : Int)).toNat 64))) (indexS vs1 ((s.take (vi4 + (1 : Int)).toNat).drop (vi4).toNat) (0 : Int)))).toNat], h, Sub.trans hs1 (Sub_view hC [(4, some 4)] (by kernel_rfl) (by kernel_rfl) (by kernel_rfl))⟩
          · have h := ite_f h hb
            refine T_skipp (p := [1, 1, 1, 1, 0, 1, 0, 0, 1, 0, 0, 1, 1, 1, 1, 1, 1]) (by kernel_rfl) ?_
            exact ⟨s, vs1, ibits .or .i64 (IntKind.i64.wrap (vi2 * 2 ^ (min ((6 : Int)).toNat 64))) (indexS vs1 ((s.take (vi4 + (1 : Int)).toNat).drop (vi4).toNat) (0 : Int)), vi3 + (1 : Int), vi4, vb5, h, Sub.trans (Sub.refl _) (Sub_view hC [(4, some 4)] (by kernel_rfl) (by kernel_rfl) (by kernel_rfl))⟩
      · rintro s2 ⟨s, vs1, vi6, vi7, vi4, vb8, h, hs2⟩
        unfold BrLoose_2 at h
        refine (T.weaken ?_ hs2 : T Tryd.prog C (at_ crLoose [1, 1, 1, 1, 0, 1, 0, 0, 1, 1]) _ _)
        obtain ⟨hob, h⟩ := ite_get h
        refine T_reg henv hC [(4, some 4)] [(0, .p (.str s)), (3, .p (.str vs1)), (4, .arr 4), (5, .p (.int .i64 vi6)), (6, .p (.int .i64 vi7)), (7, .p (.int .i64 (vi4 + (1 : Int))))] [(4, .barr 5 false vb8)] [i64ok (vi4 + (1 : Int))] (by kernel_rfl) (by kernel_rfl) ⟨hob, trivial⟩ (fun s1 hs1 => ?_)
        exact ⟨f1, _, Nat.lt_succ_self f1, ⟨s, vs1, vi6, vi7, vi4 + (1 : Int), vb8, rfl, h⟩, Sub.trans hs1 (Sub_view hC [(4, some 4)] (by kernel_rfl) (by kernel_rfl) (by kernel_rfl))⟩
    · have h := ite_f h hb
      refine T_exitp (p := [1, 1, 1, 1, 0, 1, 0, 0, 0, 1, 1]) 0 (by kernel_rfl) ?_
      refine then_exit ?_
      refine then_exit ?_
      refine inblock_hit ?_
      refine (T.weaken ?_ (Sub.refl _) : T Tryd.prog C (at_ crLoose [1, 1, 1, 1, 1]) _ _)
      refine T_join (p := [1, 1, 1, 1, 1]) (by kernel_rfl) (fun s2 => ∃ (vi2 : Int) (vi3 : Int) (vb9 : List UInt8), BrLoose_3 fuel vi2 vi3 vb9 = some res ∧ Sub C s2 (mkS [(4, .arr 4), (5, .p (.int .i64 vi2)), (6, .p (.int .i64 vi3))] [(4, .barr 5 false vb9)])) ?_ ?_
      · refine T_seqp (p := [1, 1, 1, 1, 1, 0]) (by kernel_rfl) ?_
        refine T_reg henv hC [(4, some 4)] [(4, .arr 4), (5, .p (.int .i64 vi2)), (6, .p (.int .i64 vi3)), (51, .p (.bool (vi3 == (2 : Int))))] [(4, .barr 5 false vb5)] [] (by kernel_rfl) (by kernel_rfl) trivial (fun s1 hs1 => ?_)
        refine (T.weaken ?_ hs1 : T Tryd.prog C (at_ crLoose [1, 1, 1, 1, 1, 0, 1]) _ _)
        refine T_condp (p := [1, 1, 1, 1, 1, 0, 1]) (by kernel_rfl) (vi3 == (2 : Int)) (by kernel_rfl) (fun hb => ?_) (fun hb => ?_)
        · have h := ite_t h hb
          obtain ⟨hob, h⟩ := ite_get h
          refine T_reg henv hC [(4, some 57)] [(4, .arr 4), (5, .p (.int .i64 vi2)), (6, .p (.int .i64 vi3))] [(4, .barr 5 false (vb5 ++ [UInt8.ofNat (IntKind.u8.wrap (vi2.fdiv (2 ^ (min ((4 : Int)).toNat 64)))).toNat]))] [0 ≤ (4 : Int), (vb5.length + [UInt8.ofNat (IntKind.u8.wrap (vi2.fdiv (2 ^ (min ((4 : Int)).toNat 64)))).toNat].length) * 1 ≤ 140737488355328] (by kernel_rfl) (by kernel_rfl) ⟨hob.1, hob.2, trivial⟩ (fun s1 hs1 => ?_)
          exact ⟨vi2, vi3, vb5 ++ [UInt8.ofNat (IntKind.u8.wrap (vi2.fdiv (2 ^ (min ((4 : Int)).toNat 64)))).toNat], h, Sub.trans hs1 (Sub_view hC [(4, some 4)] (by kernel_rfl) (by kernel_rfl) (by kernel_rfl))⟩
        · have h := ite_f h hb
          refine T_skipp (p := [1, 1, 1, 1, 1, 0, 1, 1]) (by kernel_rfl) ?_
          exact ⟨vi2, vi3, vb5, h, Sub.trans (Sub.refl _) (Sub_view hC [(4, some 4)] (by kernel_rfl) (by kernel_rfl) (by kernel_rfl))⟩
      · rintro s2 ⟨vi2, vi3, vb9, h, hs2⟩
        unfold BrLoose_3 at h
        refine (T.weaken ?_ hs2 : T Tryd.prog C (at_ crLoose [1, 1, 1, 1, 1, 1]) _ _)
        refine T_join (p := [1, 1, 1, 1, 1, 1]) (by kernel_rfl) (fun s2 => ∃ (vb10 : List UInt8), BrLoose_4 fuel vb10 = some res ∧ Sub C s2 (mkS [(4, .arr 4)] [(4, .barr 5 false vb10)])) ?_ ?_
        · refine T_seqp (p := [1, 1, 1, 1, 1, 1, 0]) (by kernel_rfl) ?_
          refine T_reg henv hC [(4, some 4)] [(4, .arr 4), (5, .p (.int .i64 vi2)), (59, .p (.bool (vi3 == (3 : Int))))] [(4, .barr 5 false vb9)] [] (by kernel_rfl) (by kernel_rfl) trivial (fun s1 hs1 => ?_)
          refine (T.weaken ?_ hs1 : T Tryd.prog C (at_ crLoose [1, 1, 1, 1, 1, 1, 0, 1]) _ _)
          refine T_condp (p := [1, 1, 1, 1, 1, 1, 0, 1]) (by kernel_rfl) (vi3 == (3 : Int)) (by kernel_rfl) (fun hb => ?_) (fun hb => ?_)
          · have h := ite_t h hb
            obtain ⟨hob, h⟩ := ite_get h
            refine T_reg henv hC [(4, some 68)] [(4, .arr 4)] [(4, .barr 5 false (vb9 ++ [UInt8.ofNat (IntKind.u8.wrap (vi2.fdiv (2 ^ (min ((10 : Int)).toNat 64)))).toNat, UInt8.ofNat (IntKind.u8.wrap (vi2.fdiv (2 ^ (min ((2 : Int)).toNat 64)))).toNat]))] [0 ≤ (10 : Int), 0 ≤ (2 : Int), (vb9.length + [UInt8.ofNat (IntKind.u8.wrap (vi2.fdiv (2 ^ (min ((10 : Int)).toNat 64)))).toNat, UInt8.ofNat (IntKind.u8.wrap (vi2.fdiv (2 ^ (min ((2 : Int)).toNat 64)))).toNat].length) * 1 ≤ 140737488355328] (by kernel_rfl) (by kernel_rfl) ⟨hob.1, hob.2.1, hob.2.2, trivial⟩ (fun s1 hs1 => ?_)
            exact ⟨vb9 ++ [UInt8.ofNat (IntKind.u8.wrap (vi2.fdiv (2 ^ (min ((10 : Int)).toNat 64)))).toNat, UInt8.ofNat (IntKind.u8.wrap (vi2.fdiv (2 ^ (min ((2 : Int)).toNat 64)))).toNat], h, Sub.trans hs1 (Sub_view hC [(4, some 4)] (by kernel_rfl) (by kernel_rfl) (by kernel_rfl))⟩
          · have h := ite_f h hb
            refine T_skipp (p := [1, 1, 1, 1, 1, 1, 0, 1, 1]) (by kernel_rfl) ?_
            exact ⟨vb9, h, Sub.trans (Sub.refl _) (Sub_view hC [(4, some 4)] (by kernel_rfl) (by kernel_rfl) (by kernel_rfl))⟩
        · rintro s2 ⟨vb10, h, hs2⟩
          unfold BrLoose_4 at h
          refine (T.weaken ?_ hs2 : T Tryd.prog C (at_ crLoose [1, 1, 1, 1, 1, 1, 1]) _ _)
          refine T_seqp (p := [1, 1, 1, 1, 1, 1, 1]) (by kernel_rfl) ?_
          refine T_reg henv hC [] [(2, .p (.str vb10))] [] [] (by kernel_rfl) (by kernel_rfl) trivial (fun s1 hs1 => ?_)
          refine (T.weaken ?_ hs1 : T Tryd.prog C (at_ crLoose [1, 1, 1, 1, 1, 1, 1, 1]) _ _)
          refine T_retp (p := [1, 1, 1, 1, 1, 1, 1, 1]) (by kernel_rfl) ?_
          have h := Option.some.inj h; subst h
          exact ⟨mkS [(2, .p (.str vb10))] [], (Sub.refl _), by kernel_rfl⟩

theorem fn_rLoose (fuel : Nat) (s res : List UInt8) (h : (∃ M vs, ARels γ0 M [.p (.str s)] vs) → FrLoose fuel s = some res) : FnP Tryd.prog 62 [.p (.str s)] (.p (.str res)) :=
  FnP_lift (fn := Tryd.f62) (by kernel_rfl) (by kernel_rfl) fun M vs hvs C hC0 => have hC : CtxOk C 71 [] := ⟨hC0.nt.trans (by kernel_rfl), hC0.fx⟩; T.weaken (TrLoose fuel s res (h ⟨M, vs, hvs⟩) C hC) (sinit_sub hC (by kernel_rfl) (by kernel_rfl))
/-! What the document's Loose computes. -/

theorem BrLoose_tail (fuel bits n : Nat) (b : List UInt8) (hb : bits < 16777216) (hl : b.length ≤ 10000000) :
    (if ((n : Int) == (2 : Int)) = true then (if (0 ≤ (4 : Int)) ∧ ((b.length + [UInt8.ofNat (IntKind.u8.wrap ((bits : Int).fdiv (2 ^ (min ((4 : Int)).toNat 64)))).toNat].length) * 1 ≤ 140737488355328) then (BrLoose_3 fuel (bits : Int) (n : Int) (b ++ [UInt8.ofNat (IntKind.u8.wrap ((bits : Int).fdiv (2 ^ (min ((4 : Int)).toNat 64)))).toNat])) else none) else (BrLoose_3 fuel (bits : Int) (n : Int) b)) = some (b ++ tailB bits n) := by
  have e4 : (min ((4 : Int)).toNat 64) = 4 := rfl
  have e10 : (min ((10 : Int)).toNat 64) = 10 := rfl
  have e2 : (min ((2 : Int)).toNat 64) = 2 := rfl
  unfold BrLoose_3 BrLoose_4 tailB
  rw [e4, e10, e2, fdiv_nat, fdiv_nat, fdiv_nat, u8_of, u8_of, u8_of]
  by_cases h2 : n = 2
  · rw [if_pos (by simp; omega), if_pos ⟨by omega, by simp; omega⟩, if_neg (by simp; omega), if_pos h2]
  · rw [if_neg (by simp; omega), if_neg h2]
    by_cases h3 : n = 3
    · rw [if_pos (by simp; omega), if_pos ⟨by omega, by omega, by simp; omega⟩, if_pos h3]
    · rw [if_neg (by simp; omega), if_neg h3]; simp

theorem indexS_val (c : UInt8) : indexS LB_7543b37f [c] (0 : Int) = valI c := by
  rw [indexS_one]; unfold valI ixS
  congr 1
  apply UInt8.toNat_inj.1
  simp

theorem BrLoose_eq (fuel : Nat) (s : List UInt8) (hs : s.length ≤ 1000000) : ∀ (f i bits n : Nat) (b : List UInt8), s.length < f + i → i ≤ s.length → n ≤ 3 → bits < 64 ^ n → b.length ≤ 3 * i →
    BrLoose_1 fuel f s LB_7543b37f (bits : Int) (n : Int) (i : Int) b = some (b ++ looseG bits n (s.drop i)) := by
  intro f
  induction f with
  | zero => intro i bits n b h1 h2; omega
  | succ f ih =>
    intro i bits n b h1 h2 hn hbits h3
    have hp : 64 ^ n ≤ 64 ^ 3 := Nat.pow_le_pow_right (by decide) hn
    have hlt : bits < 262144 := Nat.lt_of_lt_of_le hbits hp
    rw [BrLoose_1, if_pos (by simp)]
    cases hd : s.drop i with
    | nil =>
      have : s.length ≤ i := by have := congrArg List.length hd; simp at this; omega
      rw [if_neg (by simp; omega), BrLoose_tail fuel bits n b (by omega) (by omega), looseG]
    | cons c r =>
      obtain ⟨e1, e2, e3⟩ := drop_cons hd
      have next : ∀ (bits' n' : Nat) (b' : List UInt8), n' ≤ 3 → bits' < 64 ^ n' → b'.length ≤ 3 * (i + 1) → BrLoose_2 fuel (BrLoose_1 fuel f) s LB_7543b37f (bits' : Int) (n' : Int) (i : Int) b' = some (b' ++ looseG bits' n' r) := by
        intro bits' n' b' hn' hb' hl'
        unfold BrLoose_2
        rw [if_pos (ok64 (by omega) (by omega))]
        have := ih (i + 1) bits' n' b' (by omega) (by omega) hn' hb' hl'
        rw [e2] at this
        rw [← this]; congr 1
      have hsl : (s.take ((i : Int) + 1).toNat).drop (i : Int).toNat = [c] := by
        have h1 : i + 1 - i = 1 := by omega
        have et : ((i : Int) + 1).toNat = i + 1 := by omega
        rw [et, Int.toNat_natCast, List.drop_take, hd, h1]; rfl
      have e1' : s.getD (i : Int).toNat 0 = c := e1
      rw [e1', looseG]
      by_cases hc : c = 61
      · subst hc
        rw [if_neg (by simp), if_pos rfl, BrLoose_tail fuel bits n b (by omega) (by omega)]
      · have hne : ¬ ((c.toNat : Int) = 61) := fun e => hc (u8_eq (d := 61) |>.1 e)
        rw [if_pos (by simp [hne]; omega), if_neg hc, hsl, indexS_val, if_pos ⟨ok64 (by omega) (by omega), ⟨by omega, by omega, by omega⟩, by omega, by omega, by rw [alpha_len]; simp⟩]
        have hv := valI_range c
        by_cases hv0 : valI c < 0
        · rw [if_pos (by simpa using hv0), if_pos hv0]
          exact next bits n b hn hbits (by omega)
        · rw [if_neg (by simpa using hv0), if_neg hv0]
          obtain ⟨v, hv2⟩ := Int.eq_ofNat_of_zero_le (show 0 ≤ valI c by omega)
          have e6 : (2 : Int) ^ (min ((6 : Int)).toNat 64) = 64 := rfl
          have x1 : ibits .or .i64 (IntKind.i64.wrap ((bits : Int) * 2 ^ (min ((6 : Int)).toNat 64))) (valI c) = ((bits * 64 + (valI c).toNat : Nat) : Int) := by
            rw [hv2, e6, i64_small (by omega) (by omega), show (bits : Int) * 64 = ((bits * 64 : Nat) : Int) by simp, i64_or (by omega) (by omega)]
            have := or_add bits v 6 (by omega)
            rw [show bits * 64 = bits * 2 ^ 6 by rfl, this]; simp
          have hx : bits * 64 + (valI c).toNat < 16777216 := by omega
          have e16 : (min ((16 : Int)).toNat 64) = 16 := rfl
          have e8 : (min ((8 : Int)).toNat 64) = 8 := rfl
          rw [if_pos (by omega), if_pos (ok64 (by omega) (by omega)), x1, e16, e8, fdiv_nat, fdiv_nat, u8_of, u8_of, u8_of]
          by_cases h4 : n + 1 = 4
          · rw [if_pos (by simp; omega), if_pos ⟨by omega, by omega, by simp; omega⟩, if_pos h4]
            refine (next 0 0 _ (by omega) (by decide) (by simp; omega)).trans ?_
            simp
          · rw [if_neg (by simp; omega), if_neg h4]
            refine next (bits * 64 + (valI c).toNat) (n + 1) b (by omega) ?_ (by omega)
            rw [Nat.pow_succ]; omega
theorem rLoose_eq (s : List UInt8) (hs : s.length ≤ 1000000) : FrLoose 1000001 s = some (looseB s) := by
  have := BrLoose_eq 1000001 s hs 1000001 0 0 0 [] (by omega) (by omega) (by omega) (by decide) (by simp)
  simpa [FrLoose, looseB] using this
def sp_rLoose : List AV → Option (AV × Option Prop) := spStr looseB
theorem ok_rLoose : SpecOk Tryd.prog 62 sp_rLoose := spStr_ok (by kernel_rfl) fun s hs => fn_rLoose 1000001 s _ fun _ => rLoose_eq s hs
end Go.Proofs.YthfgklcdkehgjaaDoor
