/-
  Lifted functions, and facts about them.
-/
import Derived.Test.YtdjlilhdgnogaaaRows
import Derived.Test.YtdjlilhdgnogaaaAmB
import Derived.Test.YtdjlilhdgnogaaaB3Lits
import Derived.Test.YtdjlilhdgnogaaaB3Spec6
set_option linter.unusedVariables false
namespace Go.Proofs.Ytdjlilhdgnogaaa
open Go Go.Am
def BrLoose_2 (fuel : Nat) (k1 : List UInt8 → List UInt8 → Int → Int → Int → List UInt8 → Option (List UInt8)) (s : List UInt8) (vs1 : List UInt8) (vi6 : Int) (vi7 : Int) (vi4 : Int) (vb8 : List UInt8) : Option (List UInt8) := if i64ok (vi4 + (1 : Int)) then (k1 s vs1 vi6 vi7 (vi4 + (1 : Int)) vb8) else none

def BrLoose_4 (fuel : Nat)  (vb10 : List UInt8) : Option (List UInt8) := some vb10

def BrLoose_3 (fuel : Nat)  (vi2 : Int) (vi3 : Int) (vb9 : List UInt8) : Option (List UInt8) := if (vi3 == (3 : Int)) = true then (if (0 ≤ (10 : Int)) ∧ (0 ≤ (2 : Int)) ∧ ((vb9.length + [UInt8.ofNat (IntKind.u8.wrap (vi2.fdiv (2 ^ (min ((10 : Int)).toNat 64)))).toNat, UInt8.ofNat (IntKind.u8.wrap (vi2.fdiv (2 ^ (min ((2 : Int)).toNat 64)))).toNat].length) * 1 ≤ 140737488355328) then (BrLoose_4 fuel (vb9 ++ [UInt8.ofNat (IntKind.u8.wrap (vi2.fdiv (2 ^ (min ((10 : Int)).toNat 64)))).toNat, UInt8.ofNat (IntKind.u8.wrap (vi2.fdiv (2 ^ (min ((2 : Int)).toNat 64)))).toNat])) else none) else (BrLoose_4 fuel vb9)

def BrLoose_1 (fuel : Nat)  : Nat → List UInt8 → List UInt8 → Int → Int → Int → List UInt8 → Option (List UInt8)
  | 0, _, _, _, _, _, _ => none
  | f1 + 1, s, vs1, vi2, vi3, vi4, vb5 => if (decide (vi4 < (s.length : Int))) = true → 0 ≤ vi4 ∧ vi4 < (s.length : Int) then (if ((decide (vi4 < (s.length : Int))) && (((s.getD (vi4).toNat 0).toNat : Int) != (61 : Int))) = true then (if (i64ok (vi4 + (1 : Int))) ∧ (0 ≤ vi4 ∧ vi4 ≤ (vi4 + (1 : Int)) ∧ (vi4 + (1 : Int)) ≤ (s.length : Int)) ∧ (indexok vs1 ((s.take (vi4 + (1 : Int)).toNat).drop (vi4).toNat) (0 : Int)) then (if (decide ((indexS vs1 ((s.take (vi4 + (1 : Int)).toNat).drop (vi4).toNat) (0 : Int)) < (0 : Int))) = true then (BrLoose_2 fuel (BrLoose_1 fuel f1) s vs1 vi2 vi3 vi4 vb5) else (if 0 ≤ (6 : Int) then (if i64ok (vi3 + (1 : Int)) then (if ((vi3 + (1 : Int)) == (4 : Int)) = true then (if (0 ≤ (16 : Int)) ∧ (0 ≤ (8 : Int)) ∧ ((vb5.length + [UInt8.ofNat (IntKind.u8.wrap ((ibits .or .i64 (IntKind.i64.wrap (vi2 * 2 ^ (min ((6 : Int)).toNat 64))) (indexS vs1 ((s.take (vi4 + (1 : Int)).toNat).drop (vi4).toNat) (0 : Int))).fdiv (2 ^ (min ((16 : Int)).toNat 64)))).toNat, UInt8.ofNat (IntKind.u8.wrap ((ibits .or .i64 (IntKind.i64.wrap (vi2 * 2 ^ (min ((6 : Int)).toNat 64))) (indexS vs1 ((s.take (vi4 + (1 : Int)).toNat).drop (vi4).toNat) (0 : Int))).fdiv (2 ^ (min ((8 : Int)).toNat 64)))).toNat, UInt8.ofNat (IntKind.u8.wrap (ibits .or .i64 (IntKind.i64.wrap (vi2 * 2 ^ (min ((6 : Int)).toNat 64))) (indexS vs1 ((s.take (vi4 + (1 : Int)).toNat).drop (vi4).toNat) (0 : Int)))).toNat].length) * 1 ≤ 140737488355328) then (BrLoose_2 fuel (BrLoose_1 fuel f1) s vs1 (0 : Int) (0 : Int) vi4 (vb5 ++ [UInt8.ofNat (IntKind.u8.wrap ((ibits .or .i64 (IntKind.i64.wrap (vi2 * 2 ^ (min ((6 : Int)).toNat 64))) (indexS vs1 ((s.take (vi4 + (1 : Int)).toNat).drop (vi4).toNat) (0 : Int))).fdiv (2 ^ (min ((16 : Int)).toNat 64)))).toNat, UInt8.ofNat (IntKind.u8.wrap ((ibits .or .i64 (IntKind.i64.wrap (vi2 * 2 ^ (min ((6 : Int)).toNat 64))) (indexS vs1 ((s.take (vi4 + (1 : Int)).toNat).drop (vi4).toNat) (0 : Int))).fdiv (2 ^ (min ((8 : Int)).toNat 64)))).toNat, UInt8.ofNat (IntKind.u8.wrap (ibits .or .i64 (IntKind.i64.wrap (vi2 * 2 ^ (min ((6 : Int)).toNat 64))) (indexS vs1 ((s.take (vi4 + (1 : Int)).toNat).drop (vi4).toNat) (0 : Int)))).toNat])) else none) else (BrLoose_2 fuel (BrLoose_1 fuel f1) s vs1 (ibits .or .i64 (IntKind.i64.wrap (vi2 * 2 ^ (min ((6 : Int)).toNat 64))) (indexS vs1 ((s.take (vi4 + (1 : Int)).toNat).drop (vi4).toNat) (0 : Int))) (vi3 + (1 : Int)) vi4 vb5)) else none) else none)) else none) else (if (vi3 == (2 : Int)) = true then (if (0 ≤ (4 : Int)) ∧ ((vb5.length + [UInt8.ofNat (IntKind.u8.wrap (vi2.fdiv (2 ^ (min ((4 : Int)).toNat 64)))).toNat].length) * 1 ≤ 140737488355328) then (BrLoose_3 fuel vi2 vi3 (vb5 ++ [UInt8.ofNat (IntKind.u8.wrap (vi2.fdiv (2 ^ (min ((4 : Int)).toNat 64)))).toNat])) else none) else (BrLoose_3 fuel vi2 vi3 vb5))) else none

def FrLoose (fuel : Nat) (s : List UInt8) : Option (List UInt8) := BrLoose_1 fuel fuel s alphaS (0 : Int) (0 : Int) (0 : Int) []

noncomputable def crLoose : Code := bodyOf Try.f15

def envrLoose : Env := mkEnv [(19, sp_alpha), (20, sp_Index)]

theorem envrLoose_ok : EnvOk Try.prog envrLoose := EnvOk_mk ⟨ok_alpha.any, ok_Index.any, trivial⟩

theorem TrLoose (fuel : Nat) (s : List UInt8) (res : List UInt8) (h : FrLoose fuel s = some res) (C : Ctx) (hC : CtxOk C 71 []) :
    T Try.prog C (at_ crLoose []) (mkS [(0, .p (.str s))] []) (Qend Try.prog C Try.f15.results.toList (.p (.str res))) := by
  have henv := envrLoose_ok
  unfold FrLoose at h
  refine T_seqp (p := []) (by kernel_rfl) ?_
  refine T_reg henv hC [] [(0, .p (.str s))] [] [] (by kernel_rfl) (by kernel_rfl) trivial (fun s1 hs1 => ?_)
  refine (T.weaken ?_ hs1 : T Try.prog C (at_ crLoose [1]) _ _)
  refine T_seqp (p := [1]) (by kernel_rfl) ?_
  refine T_reg henv hC [] [(0, .p (.str s)), (3, .p (.str alphaS))] [] [] (by kernel_rfl) (by kernel_rfl) trivial (fun s1 hs1 => ?_)
  refine (T.weaken ?_ hs1 : T Try.prog C (at_ crLoose [1, 1]) _ _)
  refine T_seqp (p := [1, 1]) (by kernel_rfl) ?_
  refine T_reg henv hC [(4, none)] [(0, .p (.str s)), (3, .p (.str alphaS)), (4, .arr 4)] [(4, .barr 5 false [])] [] (by kernel_rfl) (by kernel_rfl) trivial (fun s1 hs1 => ?_)
  refine (T.weaken ?_ hs1 : T Try.prog C (at_ crLoose [1, 1, 1]) _ _)
  refine T_seqp (p := [1, 1, 1]) (by kernel_rfl) ?_
  refine T_reg henv hC [(4, some 4)] [(0, .p (.str s)), (3, .p (.str alphaS)), (4, .arr 4), (5, .p (.int .i64 (0 : Int))), (6, .p (.int .i64 (0 : Int)))] [(4, .barr 5 false [])] [] (by kernel_rfl) (by kernel_rfl) trivial (fun s1 hs1 => ?_)
  refine (T.weaken ?_ hs1 : T Try.prog C (at_ crLoose [1, 1, 1, 1]) _ _)
  refine T_seqp (p := [1, 1, 1, 1]) (by kernel_rfl) ?_
  refine T_seqp (p := [1, 1, 1, 1, 0]) (by kernel_rfl) ?_
  refine T_reg henv hC [(4, some 4)] [(0, .p (.str s)), (3, .p (.str alphaS)), (4, .arr 4), (5, .p (.int .i64 (0 : Int))), (6, .p (.int .i64 (0 : Int))), (7, .p (.int .i64 (0 : Int)))] [(4, .barr 5 false [])] [] (by kernel_rfl) (by kernel_rfl) trivial (fun s1 hs1 => ?_)
  refine (T.weaken ?_ hs1 : T Try.prog C (at_ crLoose [1, 1, 1, 1, 0, 1]) _ _)
  refine T_blockp (p := [1, 1, 1, 1, 0, 1]) 0 (by kernel_rfl) ?_
  refine T.weaken ?_ (Sub_view (l := [(0, .p (.str s)), (3, .p (.str alphaS)), (4, .arr 4), (5, .p (.int .i64 (0 : Int))), (6, .p (.int .i64 (0 : Int))), (7, .p (.int .i64 (0 : Int)))]) (o := [(4, .barr 5 false [])]) hC [(4, some 4)] (by kernel_rfl) (by kernel_rfl) (by kernel_rfl))
  refine T_loopp (p := [1, 1, 1, 1, 0, 1, 0]) (by kernel_rfl) (fun f1 s2 => ∃ (s : List UInt8) (vs1 : List UInt8) (vi2 : Int) (vi3 : Int) (vi4 : Int) (vb5 : List UInt8), s2 = mkS [(0, .p (.str s)), (3, .p (.str vs1)), (4, .arr 4), (5, .p (.int .i64 vi2)), (6, .p (.int .i64 vi3)), (7, .p (.int .i64 vi4))] [(4, .barr 5 false vb5)] ∧ BrLoose_1 fuel f1 s vs1 vi2 vi3 vi4 vb5 = some res) ?_ fuel ⟨s, alphaS, (0 : Int), (0 : Int), (0 : Int), [], rfl, h⟩
  rintro f1 s2 ⟨s, vs1, vi2, vi3, vi4, vb5, rfl, h⟩
  cases f1 with
  | zero => cases h
  | succ f1 =>
    rw [BrLoose_1] at h
    refine T_seqp (p := [1, 1, 1, 1, 0, 1, 0, 0]) (by kernel_rfl) ?_
    refine T_seqp (p := [1, 1, 1, 1, 0, 1, 0, 0, 0]) (by kernel_rfl) ?_
    obtain ⟨hob, h⟩ := ite_get h
    refine T_reg henv hC [(4, some 4)] [(0, .p (.str s)), (3, .p (.str vs1)), (4, .arr 4), (5, .p (.int .i64 vi2)), (6, .p (.int .i64 vi3)), (7, .p (.int .i64 vi4)), (19, .p (.bool ((decide (vi4 < (s.length : Int))) && (((s.getD (vi4).toNat 0).toNat : Int) != (61 : Int)))))] [(4, .barr 5 false vb5)] [(decide (vi4 < (s.length : Int))) = true → (decide (vi4 < (s.length : Int))) = true, (decide (vi4 < (s.length : Int))) = true → (decide (vi4 < (s.length : Int))) = true, (decide (vi4 < (s.length : Int))) = true → 0 ≤ vi4 ∧ vi4 < (s.length : Int), (decide (vi4 < (s.length : Int))) = true → (decide (vi4 < (s.length : Int))) = true, (decide (vi4 < (s.length : Int))) = true → (decide (vi4 < (s.length : Int))) = true] (by kernel_rfl) (by kernel_rfl) ⟨(fun q0 => q0), (fun q0 => q0), hob, (fun q0 => q0), (fun q0 => q0), trivial⟩ (fun s1 hs1 => ?_)
    refine (T.weaken ?_ hs1 : T Try.prog C (at_ crLoose [1, 1, 1, 1, 0, 1, 0, 0, 0, 1]) _ _)
    refine T_condp (p := [1, 1, 1, 1, 0, 1, 0, 0, 0, 1]) (by kernel_rfl) ((decide (vi4 < (s.length : Int))) && (((s.getD (vi4).toNat 0).toNat : Int) != (61 : Int))) (by kernel_rfl) (fun hb => ?_) (fun hb => ?_)
    · have h := ite_t h hb
      refine T_skipp (p := [1, 1, 1, 1, 0, 1, 0, 0, 0, 1, 0]) (by kernel_rfl) ?_
      refine (T.weaken ?_ (Sub.refl _) : T Try.prog C (at_ crLoose [1, 1, 1, 1, 0, 1, 0, 0, 1]) _ _)
      refine T_join (p := [1, 1, 1, 1, 0, 1, 0, 0, 1]) (by kernel_rfl) (fun s2 => ∃ (s : List UInt8) (vs1 : List UInt8) (vi6 : Int) (vi7 : Int) (vi4 : Int) (vb8 : List UInt8), BrLoose_2 fuel (BrLoose_1 fuel f1) s vs1 vi6 vi7 vi4 vb8 = some res ∧ Sub C s2 (mkS [(0, .p (.str s)), (3, .p (.str vs1)), (4, .arr 4), (5, .p (.int .i64 vi6)), (6, .p (.int .i64 vi7)), (7, .p (.int .i64 vi4))] [(4, .barr 5 false vb8)])) ?_ ?_
      · refine T_blockp (p := [1, 1, 1, 1, 0, 1, 0, 0, 1, 0]) 1 (by kernel_rfl) ?_
        refine T_seqp (p := [1, 1, 1, 1, 0, 1, 0, 0, 1, 0, 0]) (by kernel_rfl) ?_
        obtain ⟨hob, h⟩ := ite_get h
        refine T_reg henv hC [(4, some 4)] [(0, .p (.str s)), (3, .p (.str vs1)), (4, .arr 4), (5, .p (.int .i64 vi2)), (6, .p (.int .i64 vi3)), (7, .p (.int .i64 vi4)), (8, .p (.int .i64 (indexS vs1 ((s.take (vi4 + (1 : Int)).toNat).drop (vi4).toNat) (0 : Int))))] [(4, .barr 5 false vb5)] [i64ok (vi4 + (1 : Int)), 0 ≤ vi4 ∧ vi4 ≤ (vi4 + (1 : Int)) ∧ (vi4 + (1 : Int)) ≤ (s.length : Int), indexok vs1 ((s.take (vi4 + (1 : Int)).toNat).drop (vi4).toNat) (0 : Int)] (by kernel_rfl) (by kernel_rfl) ⟨hob.1, hob.2.1, hob.2.2, trivial⟩ (fun s1 hs1 => ?_)
        refine (T.weaken ?_ hs1 : T Try.prog C (at_ crLoose [1, 1, 1, 1, 0, 1, 0, 0, 1, 0, 0, 1]) _ _)
        refine T_seqp (p := [1, 1, 1, 1, 0, 1, 0, 0, 1, 0, 0, 1]) (by kernel_rfl) ?_
        refine T_seqp (p := [1, 1, 1, 1, 0, 1, 0, 0, 1, 0, 0, 1, 0]) (by kernel_rfl) ?_
        refine T_reg henv hC [(4, some 4)] [(0, .p (.str s)), (3, .p (.str vs1)), (4, .arr 4), (5, .p (.int .i64 vi2)), (6, .p (.int .i64 vi3)), (7, .p (.int .i64 vi4)), (8, .p (.int .i64 (indexS vs1 ((s.take (vi4 + (1 : Int)).toNat).drop (vi4).toNat) (0 : Int)))), (30, .p (.bool (decide ((indexS vs1 ((s.take (vi4 + (1 : Int)).toNat).drop (vi4).toNat) (0 : Int)) < (0 : Int)))))] [(4, .barr 5 false vb5)] [] (by kernel_rfl) (by kernel_rfl) trivial (fun s1 hs1 => ?_)
        refine (T.weaken ?_ hs1 : T Try.prog C (at_ crLoose [1, 1, 1, 1, 0, 1, 0, 0, 1, 0, 0, 1, 0, 1]) _ _)
        refine T_condp (p := [1, 1, 1, 1, 0, 1, 0, 0, 1, 0, 0, 1, 0, 1]) (by kernel_rfl) (decide ((indexS vs1 ((s.take (vi4 + (1 : Int)).toNat).drop (vi4).toNat) (0 : Int)) < (0 : Int))) (by kernel_rfl) (fun hb => ?_) (fun hb => ?_)
        · have h := ite_t h hb
          refine T_exitp (p := [1, 1, 1, 1, 0, 1, 0, 0, 1, 0, 0, 1, 0, 1, 0]) 1 (by kernel_rfl) ?_
          refine then_exit ?_
          refine inblock_hit ?_
          exact ⟨s, vs1, vi2, vi3, vi4, vb5, h, Sub.trans (Sub.refl _) (Sub_view hC [(4, some 4)] (by kernel_rfl) (by kernel_rfl) (by kernel_rfl))⟩
        · have h := ite_f h hb
          refine T_skipp (p := [1, 1, 1, 1, 0, 1, 0, 0, 1, 0, 0, 1, 0, 1, 1]) (by kernel_rfl) ?_
          refine (T.weaken ?_ (Sub.refl _) : T Try.prog C (at_ crLoose [1, 1, 1, 1, 0, 1, 0, 0, 1, 0, 0, 1, 1]) _ _)
          refine T_seqp (p := [1, 1, 1, 1, 0, 1, 0, 0, 1, 0, 0, 1, 1]) (by kernel_rfl) ?_
          obtain ⟨hob, h⟩ := ite_get h
          refine T_reg henv hC [(4, some 4)] [(0, .p (.str s)), (3, .p (.str vs1)), (4, .arr 4), (5, .p (.int .i64 (ibits .or .i64 (IntKind.i64.wrap (vi2 * 2 ^ (min ((6 : Int)).toNat 64))) (indexS vs1 ((s.take (vi4 + (1 : Int)).toNat).drop (vi4).toNat) (0 : Int))))), (6, .p (.int .i64 vi3)), (7, .p (.int .i64 vi4))] [(4, .barr 5 false vb5)] [0 ≤ (6 : Int)] (by kernel_rfl) (by kernel_rfl) ⟨hob, trivial⟩ (fun s1 hs1 => ?_)
          refine (T.weaken ?_ hs1 : T Try.prog C (at_ crLoose [1, 1, 1, 1, 0, 1, 0, 0, 1, 0, 0, 1, 1, 1]) _ _)
          refine T_seqp (p := [1, 1, 1, 1, 0, 1, 0, 0, 1, 0, 0, 1, 1, 1]) (by kernel_rfl) ?_
          obtain ⟨hob, h⟩ := ite_get h
          refine T_reg henv hC [(4, some 4)] [(0, .p (.str s)), (3, .p (.str vs1)), (4, .arr 4), (5, .p (.int .i64 (ibits .or .i64 (IntKind.i64.wrap (vi2 * 2 ^ (min ((6 : Int)).toNat 64))) (indexS vs1 ((s.take (vi4 + (1 : Int)).toNat).drop (vi4).toNat) (0 : Int))))), (6, .p (.int .i64 (vi3 + (1 : Int)))), (7, .p (.int .i64 vi4))] [(4, .barr 5 false vb5)] [i64ok (vi3 + (1 : Int))] (by kernel_rfl) (by kernel_rfl) ⟨hob, trivial⟩ (fun s1 hs1 => ?_)
          refine (T.weaken ?_ hs1 : T Try.prog C (at_ crLoose [1, 1, 1, 1, 0, 1, 0, 0, 1, 0, 0, 1, 1, 1, 1]) _ _)
          refine T_seqp (p := [1, 1, 1, 1, 0, 1, 0, 0, 1, 0, 0, 1, 1, 1, 1]) (by kernel_rfl) ?_
          refine T_reg henv hC [(4, some 4)] [(0, .p (.str s)), (3, .p (.str vs1)), (4, .arr 4), (5, .p (.int .i64 (ibits .or .i64 (IntKind.i64.wrap (vi2 * 2 ^ (min ((6 : Int)).toNat 64))) (indexS vs1 ((s.take (vi4 + (1 : Int)).toNat).drop (vi4).toNat) (0 : Int))))), (6, .p (.int .i64 (vi3 + (1 : Int)))), (7, .p (.int .i64 vi4)), (38, .p (.bool ((vi3 + (1 : Int)) == (4 : Int))))] [(4, .barr 5 false vb5)] [] (by kernel_rfl) (by kernel_rfl) trivial (fun s1 hs1 => ?_)
          refine (T.weaken ?_ hs1 : T Try.prog C (at_ crLoose [1, 1, 1, 1, 0, 1, 0, 0, 1, 0, 0, 1, 1, 1, 1, 1]) _ _)
          refine T_condp (p := [1, 1, 1, 1, 0, 1, 0, 0, 1, 0, 0, 1, 1, 1, 1, 1]) (by kernel_rfl) ((vi3 + (1 : Int)) == (4 : Int)) (by kernel_rfl) (fun hb => ?_) (fun hb => ?_)
          · have h := ite_t h hb
            refine T_seqp (p := [1, 1, 1, 1, 0, 1, 0, 0, 1, 0, 0, 1, 1, 1, 1, 1, 0]) (by kernel_rfl) ?_
            obtain ⟨hob, h⟩ := ite_get h
            refine T_reg henv hC [(4, some 49)] [(0, .p (.str s)), (3, .p (.str vs1)), (4, .arr 4), (7, .p (.int .i64 vi4))] [(4, .barr 5 false (vb5 ++ [UInt8.ofNat (IntKind.u8.wrap ((ibits .or .i64 (IntKind.i64.wrap (vi2 * 2 ^ (min ((6 : Int)).toNat 64))) (indexS vs1 ((s.take (vi4 + (1 : Int)).toNat).drop (vi4).toNat) (0 : Int))).fdiv (2 ^ (min ((16 : Int)).toNat 64)))).toNat, UInt8.ofNat (IntKind.u8.wrap ((ibits .or .i64 (IntKind.i64.wrap (vi2 * 2 ^ (min ((6 : Int)).toNat 64))) (indexS vs1 ((s.take (vi4 + (1 : Int)).toNat).drop (vi4).toNat) (0 : Int))).fdiv (2 ^ (min ((8 : Int)).toNat 64)))).toNat, UInt8.ofNat (IntKind.u8.wrap (ibits .or .i64 (IntKind.i64.wrap (vi2 * 2 ^ (min ((6 : Int)).toNat 64))) (indexS vs1 ((s.take (vi4 + (1 : Int)).toNat).drop (vi4).toNat) (0 : Int)))).toNat]))] [0 ≤ (16 : Int), 0 ≤ (8 : Int), (vb5.length + [UInt8.ofNat (IntKind.u8.wrap ((ibits .or .i64 (IntKind.i64.wrap (vi2 * 2 ^ (min ((6 : Int)).toNat 64))) (indexS vs1 ((s.take (vi4 + (1 : Int)).toNat).drop (vi4).toNat) (0 : Int))).fdiv (2 ^ (min ((16 : Int)).toNat 64)))).toNat, UInt8.ofNat (IntKind.u8.wrap ((ibits .or .i64 (IntKind.i64.wrap (vi2 * 2 ^ (min ((6 : Int)).toNat 64))) (indexS vs1 ((s.take (vi4 + (1 : Int)).toNat).drop (vi4).toNat) (0 : Int))).fdiv (2 ^ (min ((8 : Int)).toNat 64)))).toNat, UInt8.ofNat (IntKind.u8.wrap (ibits .or .i64 (IntKind.i64.wrap (vi2 * 2 ^ (min ((6 : Int)).toNat 64))) (indexS vs1 ((s.take (vi4 + (1 : Int)).toNat).drop (vi4).toNat) (0 : Int)))).toNat].length) * 1 ≤ 140737488355328] (by kernel_rfl) (by kernel_rfl) ⟨hob.1, hob.2.1, hob.2.2, trivial⟩ (fun s1 hs1 => ?_)
            refine (T.weaken ?_ hs1 : T Try.prog C (at_ crLoose [1, 1, 1, 1, 0, 1, 0, 0, 1, 0, 0, 1, 1, 1, 1, 1, 0, 1]) _ _)
            refine T_seqp (p := [1, 1, 1, 1, 0, 1, 0, 0, 1, 0, 0, 1, 1, 1, 1, 1, 0, 1]) (by kernel_rfl) ?_
            refine T_reg henv hC [(4, some 4)] [(0, .p (.str s)), (3, .p (.str vs1)), (4, .arr 4), (5, .p (.int .i64 (0 : Int))), (7, .p (.int .i64 vi4))] [(4, .barr 5 false (vb5 ++ [UInt8.ofNat (IntKind.u8.wrap ((ibits .or .i64 (IntKind.i64.wrap (vi2 * 2 ^ (min ((6 : Int)).toNat 64))) (indexS vs1 ((s.take (vi4 + (1 : Int)).toNat).drop (vi4).toNat) (0 : Int))).fdiv (2 ^ (min ((16 : Int)).toNat 64)))).toNat, UInt8.ofNat (IntKind.u8.wrap ((ibits .or .i64 (IntKind.i64.wrap (vi2 * 2 ^ (min ((6 : Int)).toNat 64))) (indexS vs1 ((s.take (vi4 + (1 : Int)).toNat).drop (vi4).toNat) (0 : Int))).fdiv (2 ^ (min ((8 : Int)).toNat 64)))).toNat, UInt8.ofNat (IntKind.u8.wrap (ibits .or .i64 (IntKind.i64.wrap (vi2 * 2 ^ (min ((6 : Int)).toNat 64))) (indexS vs1 ((s.take (vi4 + (1 : Int)).toNat).drop (vi4).toNat) (0 : Int)))).toNat]))] [] (by kernel_rfl) (by kernel_rfl) trivial (fun s1 hs1 => ?_)
            refine (T.weaken ?_ hs1 : T Try.prog C (at_ crLoose [1, 1, 1, 1, 0, 1, 0, 0, 1, 0, 0, 1, 1, 1, 1, 1, 0, 1, 1]) _ _)
            refine T_reg henv hC [(4, some 4)] [(0, .p (.str s)), (3, .p (.str vs1)), (4, .arr 4), (5, .p (.int .i64 (0 : Int))), (6, .p (.int .i64 (0 : Int))), (7, .p (.int .i64 vi4))] [(4, .barr 5 false (vb5 ++ [UInt8.ofNat (IntKind.u8.wrap ((ibits .or .i64 (IntKind.i64.wrap (vi2 * 2 ^ (min ((6 : Int)).toNat 64))) (indexS vs1 ((s.take (vi4 + (1 : Int)).toNat).drop (vi4).toNat) (0 : Int))).fdiv (2 ^ (min ((16 : Int)).toNat 64)))).toNat, UInt8.ofNat (IntKind.u8.wrap ((ibits .or .i64 (IntKind.i64.wrap (vi2 * 2 ^ (min ((6 : Int)).toNat 64))) (indexS vs1 ((s.take (vi4 + (1 : Int)).toNat).drop (vi4).toNat) (0 : Int))).fdiv (2 ^ (min ((8 : Int)).toNat 64)))).toNat, UInt8.ofNat (IntKind.u8.wrap (ibits .or .i64 (IntKind.i64.wrap (vi2 * 2 ^ (min ((6 : Int)).toNat 64))) (indexS vs1 ((s.take (vi4 + (1 : Int)).toNat).drop (vi4).toNat) (0 : Int)))).toNat]))] [] (by kernel_rfl) (by kernel_rfl) trivial (fun s1 hs1 => ?_)
            exact ⟨s, vs1, (0 : Int), (0 : Int), vi4, vb5 ++ [UInt8.ofNat (IntKind.u8.wrap ((ibits .or .i64 (IntKind.i64.wrap (vi2 * 2 ^ (min ((6 : Int)).toNat 64))) (indexS vs1 ((s.take (vi4 + (1 : Int)).toNat).drop (vi4).toNat) (0 : Int))).fdiv (2 ^ (min ((16 : Int)).toNat 64)))).toNat, UInt8.ofNat (IntKind.u8.wrap ((ibits .or .i64 (IntKind.i64.wrap (vi2 * 2 ^ (min ((6 : Int)).toNat 64))) (indexS vs1 ((s.take (vi4 + (1 : Int)).toNat).drop (vi4).toNat) (0 : Int))).fdiv (2 ^ (min ((8 : Int)).toNat 64)))).toNat, UInt8.ofNat (IntKind.u8.wrap (ibits .or .i64 (IntKind.i64.wrap (vi2 * 2 ^ (min ((6 : Int)).toNat 64))) (indexS vs1 ((s.take (vi4 + (1 : Int)).toNat).drop (vi4).toNat) (0 : Int)))).toNat], h, Sub.trans hs1 (Sub_view hC [(4, some 4)] (by kernel_rfl) (by kernel_rfl) (by kernel_rfl))⟩
          · have h := ite_f h hb
            refine T_skipp (p := [1, 1, 1, 1, 0, 1, 0, 0, 1, 0, 0, 1, 1, 1, 1, 1, 1]) (by kernel_rfl) ?_
            exact ⟨s, vs1, ibits .or .i64 (IntKind.i64.wrap (vi2 * 2 ^ (min ((6 : Int)).toNat 64))) (indexS vs1 ((s.take (vi4 + (1 : Int)).toNat).drop (vi4).toNat) (0 : Int)), vi3 + (1 : Int), vi4, vb5, h, Sub.trans (Sub.refl _) (Sub_view hC [(4, some 4)] (by kernel_rfl) (by kernel_rfl) (by kernel_rfl))⟩
      · rintro s2 ⟨s, vs1, vi6, vi7, vi4, vb8, h, hs2⟩
        unfold BrLoose_2 at h
        refine (T.weaken ?_ hs2 : T Try.prog C (at_ crLoose [1, 1, 1, 1, 0, 1, 0, 0, 1, 1]) _ _)
        obtain ⟨hob, h⟩ := ite_get h
        refine T_reg henv hC [(4, some 4)] [(0, .p (.str s)), (3, .p (.str vs1)), (4, .arr 4), (5, .p (.int .i64 vi6)), (6, .p (.int .i64 vi7)), (7, .p (.int .i64 (vi4 + (1 : Int))))] [(4, .barr 5 false vb8)] [i64ok (vi4 + (1 : Int))] (by kernel_rfl) (by kernel_rfl) ⟨hob, trivial⟩ (fun s1 hs1 => ?_)
        exact ⟨f1, _, Nat.lt_succ_self f1, ⟨s, vs1, vi6, vi7, vi4 + (1 : Int), vb8, rfl, h⟩, Sub.trans hs1 (Sub_view hC [(4, some 4)] (by kernel_rfl) (by kernel_rfl) (by kernel_rfl))⟩
    · have h := ite_f h hb
      refine T_exitp (p := [1, 1, 1, 1, 0, 1, 0, 0, 0, 1, 1]) 0 (by kernel_rfl) ?_
      refine then_exit ?_
      refine then_exit ?_
      refine inblock_hit ?_
      refine (T.weaken ?_ (Sub.refl _) : T Try.prog C (at_ crLoose [1, 1, 1, 1, 1]) _ _)
      refine T_join (p := [1, 1, 1, 1, 1]) (by kernel_rfl) (fun s2 => ∃ (vi2 : Int) (vi3 : Int) (vb9 : List UInt8), BrLoose_3 fuel vi2 vi3 vb9 = some res ∧ Sub C s2 (mkS [(4, .arr 4), (5, .p (.int .i64 vi2)), (6, .p (.int .i64 vi3))] [(4, .barr 5 false vb9)])) ?_ ?_
      · refine T_seqp (p := [1, 1, 1, 1, 1, 0]) (by kernel_rfl) ?_
        refine T_reg henv hC [(4, some 4)] [(4, .arr 4), (5, .p (.int .i64 vi2)), (6, .p (.int .i64 vi3)), (51, .p (.bool (vi3 == (2 : Int))))] [(4, .barr 5 false vb5)] [] (by kernel_rfl) (by kernel_rfl) trivial (fun s1 hs1 => ?_)
        refine (T.weaken ?_ hs1 : T Try.prog C (at_ crLoose [1, 1, 1, 1, 1, 0, 1]) _ _)
        refine T_condp (p := [1, 1, 1, 1, 1, 0, 1]) (by kernel_rfl) (vi3 == (2 : Int)) (by kernel_rfl) (fun hb => ?_) (fun hb => ?_)
        · have h := ite_t h hb
          obtain ⟨hob, h⟩ := ite_get h
          refine T_reg henv hC [(4, some 57)] [(4, .arr 4), (5, .p (.int .i64 vi2)), (6, .p (.int .i64 vi3))] [(4, .barr 5 false (vb5 ++ [UInt8.ofNat (IntKind.u8.wrap (vi2.fdiv (2 ^ (min ((4 : Int)).toNat 64)))).toNat]))] [0 ≤ (4 : Int), (vb5.length + [UInt8.ofNat (IntKind.u8.wrap (vi2.fdiv (2 ^ (min ((4 : Int)).toNat 64)))).toNat].length) * 1 ≤ 140737488355328] (by kernel_rfl) (by kernel_rfl) ⟨hob.1, hob.2, trivial⟩ (fun s1 hs1 => ?_)
          exact ⟨vi2, vi3, vb5 ++ [UInt8.ofNat (IntKind.u8.wrap (vi2.fdiv (2 ^ (min ((4 : Int)).toNat 64)))).toNat], h, Sub.trans hs1 (Sub_view hC [(4, some 4)] (by kernel_rfl) (by kernel_rfl) (by kernel_rfl))⟩
        · have h := ite_f h hb
          refine T_skipp (p := [1, 1, 1, 1, 1, 0, 1, 1]) (by kernel_rfl) ?_
          exact ⟨vi2, vi3, vb5, h, Sub.trans (Sub.refl _) (Sub_view hC [(4, some 4)] (by kernel_rfl) (by kernel_rfl) (by kernel_rfl))⟩
      · rintro s2 ⟨vi2, vi3, vb9, h, hs2⟩
        unfold BrLoose_3 at h
        refine (T.weaken ?_ hs2 : T Try.prog C (at_ crLoose [1, 1, 1, 1, 1, 1]) _ _)
        refine T_join (p := [1, 1, 1, 1, 1, 1]) (by kernel_rfl) (fun s2 => ∃ (vb10 : List UInt8), BrLoose_4 fuel vb10 = some res ∧ Sub C s2 (mkS [(4, .arr 4)] [(4, .barr 5 false vb10)])) ?_ ?_
        · refine T_seqp (p := [1, 1, 1, 1, 1, 1, 0]) (by kernel_rfl) ?_
          refine T_reg henv hC [(4, some 4)] [(4, .arr 4), (5, .p (.int .i64 vi2)), (59, .p (.bool (vi3 == (3 : Int))))] [(4, .barr 5 false vb9)] [] (by kernel_rfl) (by kernel_rfl) trivial (fun s1 hs1 => ?_)
          refine (T.weaken ?_ hs1 : T Try.prog C (at_ crLoose [1, 1, 1, 1, 1, 1, 0, 1]) _ _)
          refine T_condp (p := [1, 1, 1, 1, 1, 1, 0, 1]) (by kernel_rfl) (vi3 == (3 : Int)) (by kernel_rfl) (fun hb => ?_) (fun hb => ?_)
          · have h := ite_t h hb
            obtain ⟨hob, h⟩ := ite_get h
            refine T_reg henv hC [(4, some 68)] [(4, .arr 4)] [(4, .barr 5 false (vb9 ++ [UInt8.ofNat (IntKind.u8.wrap (vi2.fdiv (2 ^ (min ((10 : Int)).toNat 64)))).toNat, UInt8.ofNat (IntKind.u8.wrap (vi2.fdiv (2 ^ (min ((2 : Int)).toNat 64)))).toNat]))] [0 ≤ (10 : Int), 0 ≤ (2 : Int), (vb9.length + [UInt8.ofNat (IntKind.u8.wrap (vi2.fdiv (2 ^ (min ((10 : Int)).toNat 64)))).toNat, UInt8.ofNat (IntKind.u8.wrap (vi2.fdiv (2 ^ (min ((2 : Int)).toNat 64)))).toNat].length) * 1 ≤ 140737488355328] (by kernel_rfl) (by kernel_rfl) ⟨hob.1, hob.2.1, hob.2.2, trivial⟩ (fun s1 hs1 => ?_)
            exact ⟨vb9 ++ [UInt8.ofNat (IntKind.u8.wrap (vi2.fdiv (2 ^ (min ((10 : Int)).toNat 64)))).toNat, UInt8.ofNat (IntKind.u8.wrap (vi2.fdiv (2 ^ (min ((2 : Int)).toNat 64)))).toNat], h, Sub.trans hs1 (Sub_view hC [(4, some 4)] (by kernel_rfl) (by kernel_rfl) (by kernel_rfl))⟩
          · have h := ite_f h hb
            refine T_skipp (p := [1, 1, 1, 1, 1, 1, 0, 1, 1]) (by kernel_rfl) ?_
            exact ⟨vb9, h, Sub.trans (Sub.refl _) (Sub_view hC [(4, some 4)] (by kernel_rfl) (by kernel_rfl) (by kernel_rfl))⟩
        · rintro s2 ⟨vb10, h, hs2⟩
          unfold BrLoose_4 at h
          refine (T.weaken ?_ hs2 : T Try.prog C (at_ crLoose [1, 1, 1, 1, 1, 1, 1]) _ _)
          refine T_seqp (p := [1, 1, 1, 1, 1, 1, 1]) (by kernel_rfl) ?_
          refine T_reg henv hC [] [(2, .p (.str vb10))] [] [] (by kernel_rfl) (by kernel_rfl) trivial (fun s1 hs1 => ?_)
          refine (T.weaken ?_ hs1 : T Try.prog C (at_ crLoose [1, 1, 1, 1, 1, 1, 1, 1]) _ _)
          refine T_retp (p := [1, 1, 1, 1, 1, 1, 1, 1]) (by kernel_rfl) ?_
          have h := Option.some.inj h; subst h
          exact ⟨mkS [(2, .p (.str vb10))] [], (Sub.refl _), by kernel_rfl⟩

theorem fn_rLoose (fuel : Nat) (s : List UInt8) (res : List UInt8) (h : (∃ M vs, ARels γ0 M [.p (.str s)] vs) → FrLoose fuel s = some res) : FnP Try.prog 15 [.p (.str s)] (.p (.str res)) :=
  FnP_lift (fn := Try.f15) (by kernel_rfl) (by kernel_rfl) fun M vs hvs C hC0 => have hC : CtxOk C 71 [] := ⟨hC0.nt.trans (by kernel_rfl), hC0.fx⟩; T.weaken (TrLoose fuel s res (h ⟨M, vs, hvs⟩) C hC) (sinit_sub hC (by kernel_rfl) (by kernel_rfl))
end Go.Proofs.Ytdjlilhdgnogaaa
