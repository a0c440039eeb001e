/-
  Lifted functions, and facts about them.
-/
import Derived.Test.YtdjlilhdgnogaaaRows
import Derived.Test.YtdjlilhdgnogaaaAmB
import Derived.Test.YtdjlilhdgnogaaaB3Lits
import Derived.Test.YtdjlilhdgnogaaaB3Spec3
set_option linter.unusedVariables false
namespace Go.Proofs.Ytdjlilhdgnogaaa
open Go Go.Am
def BLoose_2 (fuel : Nat)  (vb4 : List UInt8) : Option (List UInt8) := some vb4

def BLoose_1 (fuel : Nat)  (vi1 : Int) (vi2 : Int) (vb3 : List UInt8) : Option (List UInt8) := if (vi2 == (2 : Int)) = true then (if (0 ≤ (4 : Int)) ∧ ((vb3.length + [UInt8.ofNat (IntKind.u8.wrap (vi1.fdiv (2 ^ (min ((4 : Int)).toNat 64)))).toNat].length) * 1 ≤ 140737488355328) then (BLoose_2 fuel (vb3 ++ [UInt8.ofNat (IntKind.u8.wrap (vi1.fdiv (2 ^ (min ((4 : Int)).toNat 64)))).toNat])) else none) else (if (vi2 == (3 : Int)) = true then (if (0 ≤ (10 : Int)) ∧ (0 ≤ (2 : Int)) ∧ ((vb3.length + [UInt8.ofNat (IntKind.u8.wrap (vi1.fdiv (2 ^ (min ((10 : Int)).toNat 64)))).toNat, UInt8.ofNat (IntKind.u8.wrap (vi1.fdiv (2 ^ (min ((2 : Int)).toNat 64)))).toNat].length) * 1 ≤ 140737488355328) then (BLoose_2 fuel (vb3 ++ [UInt8.ofNat (IntKind.u8.wrap (vi1.fdiv (2 ^ (min ((10 : Int)).toNat 64)))).toNat, UInt8.ofNat (IntKind.u8.wrap (vi1.fdiv (2 ^ (min ((2 : Int)).toNat 64)))).toNat])) else none) else (BLoose_2 fuel vb3))

def BLoose_4 (fuel : Nat) (k3 : List UInt8 → Int → Int → Int → Int → List UInt8 → Option (List UInt8)) (s : List UInt8) (vi10 : Int) (vi11 : Int) (vi7 : Int) (vi8 : Int) (vb12 : List UInt8) : Option (List UInt8) := if i64ok (vi8 + (1 : Int)) then (k3 s vi10 vi11 vi7 (vi8 + (1 : Int)) vb12) else none

def BLoose_3 (fuel : Nat)  : Nat → List UInt8 → Int → Int → Int → Int → List UInt8 → Option (List UInt8)
  | 0, _, _, _, _, _, _ => none
  | f3 + 1, s, vi5, vi6, vi7, vi8, vb9 => if (decide (vi8 < vi7)) = true then (if 0 ≤ vi8 ∧ vi8 < (s.length : Int) then (if (((s.getD (vi8).toNat 0).toNat : Int) == (61 : Int)) = true then (BLoose_1 fuel vi5 vi6 vb9) else (if 0 ≤ vi8 ∧ vi8 < (s.length : Int) then (if (decide ((ixS LB_7543b37f ((s.getD (vi8).toNat 0).toNat : Int)) < (0 : Int))) = true then (BLoose_4 fuel (BLoose_3 fuel f3) s vi5 vi6 vi7 vi8 vb9) else (if 0 ≤ (6 : Int) then (if i64ok (vi6 + (1 : Int)) then (if ((vi6 + (1 : Int)) == (4 : Int)) = true then (if (0 ≤ (16 : Int)) ∧ (0 ≤ (8 : Int)) ∧ ((vb9.length + [UInt8.ofNat (IntKind.u8.wrap ((ibits .or .i64 (IntKind.i64.wrap (vi5 * 2 ^ (min ((6 : Int)).toNat 64))) (ixS LB_7543b37f ((s.getD (vi8).toNat 0).toNat : Int))).fdiv (2 ^ (min ((16 : Int)).toNat 64)))).toNat, UInt8.ofNat (IntKind.u8.wrap ((ibits .or .i64 (IntKind.i64.wrap (vi5 * 2 ^ (min ((6 : Int)).toNat 64))) (ixS LB_7543b37f ((s.getD (vi8).toNat 0).toNat : Int))).fdiv (2 ^ (min ((8 : Int)).toNat 64)))).toNat, UInt8.ofNat (IntKind.u8.wrap (ibits .or .i64 (IntKind.i64.wrap (vi5 * 2 ^ (min ((6 : Int)).toNat 64))) (ixS LB_7543b37f ((s.getD (vi8).toNat 0).toNat : Int)))).toNat].length) * 1 ≤ 140737488355328) then (BLoose_4 fuel (BLoose_3 fuel f3) s (0 : Int) (0 : Int) vi7 vi8 (vb9 ++ [UInt8.ofNat (IntKind.u8.wrap ((ibits .or .i64 (IntKind.i64.wrap (vi5 * 2 ^ (min ((6 : Int)).toNat 64))) (ixS LB_7543b37f ((s.getD (vi8).toNat 0).toNat : Int))).fdiv (2 ^ (min ((16 : Int)).toNat 64)))).toNat, UInt8.ofNat (IntKind.u8.wrap ((ibits .or .i64 (IntKind.i64.wrap (vi5 * 2 ^ (min ((6 : Int)).toNat 64))) (ixS LB_7543b37f ((s.getD (vi8).toNat 0).toNat : Int))).fdiv (2 ^ (min ((8 : Int)).toNat 64)))).toNat, UInt8.ofNat (IntKind.u8.wrap (ibits .or .i64 (IntKind.i64.wrap (vi5 * 2 ^ (min ((6 : Int)).toNat 64))) (ixS LB_7543b37f ((s.getD (vi8).toNat 0).toNat : Int)))).toNat])) else none) else (BLoose_4 fuel (BLoose_3 fuel f3) s (ibits .or .i64 (IntKind.i64.wrap (vi5 * 2 ^ (min ((6 : Int)).toNat 64))) (ixS LB_7543b37f ((s.getD (vi8).toNat 0).toNat : Int))) (vi6 + (1 : Int)) vi7 vi8 vb9)) else none) else none)) else none)) else none) else (BLoose_1 fuel vi5 vi6 vb9)

def FLoose (fuel : Nat) (s : List UInt8) : Option (List UInt8) := BLoose_3 fuel fuel s (0 : Int) (0 : Int) (s.length : Int) (0 : Int) []

noncomputable def cLoose : Code := bodyOf Try.f14

def envLoose : Env := mkEnv [(18, sp_ixb)]

theorem envLoose_ok : EnvOk Try.prog envLoose := EnvOk_mk ⟨ok_ixb.any, trivial⟩

theorem TLoose (fuel : Nat) (s : List UInt8) (res : List UInt8) (h : FLoose fuel s = some res) (C : Ctx) (hC : CtxOk C 65 []) :
    T Try.prog C (at_ cLoose []) (mkS [(0, .p (.str s))] []) (Qend Try.prog C Try.f14.results.toList (.p (.str res))) := by
  have henv := envLoose_ok
  unfold FLoose at h
  refine T_seqp (p := []) (by kernel_rfl) ?_
  refine T_reg henv hC [] [(0, .p (.str s))] [] [] (by kernel_rfl) (by kernel_rfl) trivial (fun s1 hs1 => ?_)
  refine (T.weaken ?_ hs1 : T Try.prog C (at_ cLoose [1]) _ _)
  refine T_seqp (p := [1]) (by kernel_rfl) ?_
  refine T_reg henv hC [(3, none)] [(0, .p (.str s)), (3, .arr 3)] [(3, .barr 5 false [])] [] (by kernel_rfl) (by kernel_rfl) trivial (fun s1 hs1 => ?_)
  refine (T.weaken ?_ hs1 : T Try.prog C (at_ cLoose [1, 1]) _ _)
  refine T_seqp (p := [1, 1]) (by kernel_rfl) ?_
  refine T_reg henv hC [(3, some 3)] [(0, .p (.str s)), (3, .arr 3), (4, .p (.int .i64 (0 : Int))), (5, .p (.int .i64 (0 : Int)))] [(3, .barr 5 false [])] [] (by kernel_rfl) (by kernel_rfl) trivial (fun s1 hs1 => ?_)
  refine (T.weaken ?_ hs1 : T Try.prog C (at_ cLoose [1, 1, 1]) _ _)
  refine T_join (p := [1, 1, 1]) (by kernel_rfl) (fun s2 => ∃ (vi1 : Int) (vi2 : Int) (vb3 : List UInt8), BLoose_1 fuel vi1 vi2 vb3 = some res ∧ Sub C s2 (mkS [(3, .arr 3), (4, .p (.int .i64 vi1)), (5, .p (.int .i64 vi2))] [(3, .barr 5 false vb3)])) ?_ ?_
  · refine T_seqp (p := [1, 1, 1, 0]) (by kernel_rfl) ?_
    refine T_reg henv hC [(3, some 3)] [(0, .p (.str s)), (3, .arr 3), (4, .p (.int .i64 (0 : Int))), (5, .p (.int .i64 (0 : Int))), (9, .p (.int .i64 (s.length : Int))), (10, .p (.int .i64 (0 : Int)))] [(3, .barr 5 false [])] [] (by kernel_rfl) (by kernel_rfl) trivial (fun s1 hs1 => ?_)
    refine (T.weaken ?_ hs1 : T Try.prog C (at_ cLoose [1, 1, 1, 0, 1]) _ _)
    refine T_blockp (p := [1, 1, 1, 0, 1]) 0 (by kernel_rfl) ?_
    refine T.weaken ?_ (Sub_view (l := [(0, .p (.str s)), (3, .arr 3), (4, .p (.int .i64 (0 : Int))), (5, .p (.int .i64 (0 : Int))), (9, .p (.int .i64 (s.length : Int))), (10, .p (.int .i64 (0 : Int)))]) (o := [(3, .barr 5 false [])]) hC [(3, some 3)] (by kernel_rfl) (by kernel_rfl) (by kernel_rfl))
    refine T_loopp (p := [1, 1, 1, 0, 1, 0]) (by kernel_rfl) (fun f3 s2 => ∃ (s : List UInt8) (vi5 : Int) (vi6 : Int) (vi7 : Int) (vi8 : Int) (vb9 : List UInt8), s2 = mkS [(0, .p (.str s)), (3, .arr 3), (4, .p (.int .i64 vi5)), (5, .p (.int .i64 vi6)), (9, .p (.int .i64 vi7)), (10, .p (.int .i64 vi8))] [(3, .barr 5 false vb9)] ∧ BLoose_3 fuel f3 s vi5 vi6 vi7 vi8 vb9 = some res) ?_ fuel ⟨s, (0 : Int), (0 : Int), (s.length : Int), (0 : Int), [], rfl, h⟩
    rintro f3 s2 ⟨s, vi5, vi6, vi7, vi8, vb9, rfl, h⟩
    cases f3 with
    | zero => cases h
    | succ f3 =>
      rw [BLoose_3] at h
      refine T_seqp (p := [1, 1, 1, 0, 1, 0, 0]) (by kernel_rfl) ?_
      refine T_reg henv hC [(3, some 3)] [(0, .p (.str s)), (3, .arr 3), (4, .p (.int .i64 vi5)), (5, .p (.int .i64 vi6)), (9, .p (.int .i64 vi7)), (10, .p (.int .i64 vi8)), (11, .p (.bool (decide (vi8 < vi7))))] [(3, .barr 5 false vb9)] [] (by kernel_rfl) (by kernel_rfl) trivial (fun s1 hs1 => ?_)
      refine (T.weaken ?_ hs1 : T Try.prog C (at_ cLoose [1, 1, 1, 0, 1, 0, 0, 1]) _ _)
      refine T_seqp (p := [1, 1, 1, 0, 1, 0, 0, 1]) (by kernel_rfl) ?_
      refine T_condp (p := [1, 1, 1, 0, 1, 0, 0, 1, 0]) (by kernel_rfl) (decide (vi8 < vi7)) (by kernel_rfl) (fun hb => ?_) (fun hb => ?_)
      · have h := ite_t h hb
        refine T_skipp (p := [1, 1, 1, 0, 1, 0, 0, 1, 0, 0]) (by kernel_rfl) ?_
        refine (T.weaken ?_ (Sub.refl _) : T Try.prog C (at_ cLoose [1, 1, 1, 0, 1, 0, 0, 1, 1]) _ _)
        refine T_join (p := [1, 1, 1, 0, 1, 0, 0, 1, 1]) (by kernel_rfl) (fun s2 => ∃ (s : List UInt8) (vi10 : Int) (vi11 : Int) (vi7 : Int) (vi8 : Int) (vb12 : List UInt8), BLoose_4 fuel (BLoose_3 fuel f3) s vi10 vi11 vi7 vi8 vb12 = some res ∧ Sub C s2 (mkS [(0, .p (.str s)), (3, .arr 3), (4, .p (.int .i64 vi10)), (5, .p (.int .i64 vi11)), (9, .p (.int .i64 vi7)), (10, .p (.int .i64 vi8))] [(3, .barr 5 false vb12)])) ?_ ?_
        · refine T_blockp (p := [1, 1, 1, 0, 1, 0, 0, 1, 1, 0]) 1 (by kernel_rfl) ?_
          refine T_seqp (p := [1, 1, 1, 0, 1, 0, 0, 1, 1, 0, 0]) (by kernel_rfl) ?_
          refine T_reg henv hC [(3, some 3)] [(0, .p (.str s)), (3, .arr 3), (4, .p (.int .i64 vi5)), (5, .p (.int .i64 vi6)), (6, .p (.int .i64 vi8)), (9, .p (.int .i64 vi7)), (10, .p (.int .i64 vi8))] [(3, .barr 5 false vb9)] [] (by kernel_rfl) (by kernel_rfl) trivial (fun s1 hs1 => ?_)
          refine (T.weaken ?_ hs1 : T Try.prog C (at_ cLoose [1, 1, 1, 0, 1, 0, 0, 1, 1, 0, 0, 1]) _ _)
          refine T_seqp (p := [1, 1, 1, 0, 1, 0, 0, 1, 1, 0, 0, 1]) (by kernel_rfl) ?_
          refine T_seqp (p := [1, 1, 1, 0, 1, 0, 0, 1, 1, 0, 0, 1, 0]) (by kernel_rfl) ?_
          obtain ⟨hob, h⟩ := ite_get h
          refine T_reg henv hC [(3, some 3)] [(0, .p (.str s)), (3, .arr 3), (4, .p (.int .i64 vi5)), (5, .p (.int .i64 vi6)), (6, .p (.int .i64 vi8)), (9, .p (.int .i64 vi7)), (10, .p (.int .i64 vi8)), (16, .p (.bool (((s.getD (vi8).toNat 0).toNat : Int) == (61 : Int))))] [(3, .barr 5 false vb9)] [0 ≤ vi8 ∧ vi8 < (s.length : Int)] (by kernel_rfl) (by kernel_rfl) ⟨hob, trivial⟩ (fun s1 hs1 => ?_)
          refine (T.weaken ?_ hs1 : T Try.prog C (at_ cLoose [1, 1, 1, 0, 1, 0, 0, 1, 1, 0, 0, 1, 0, 1]) _ _)
          refine T_condp (p := [1, 1, 1, 0, 1, 0, 0, 1, 1, 0, 0, 1, 0, 1]) (by kernel_rfl) (((s.getD (vi8).toNat 0).toNat : Int) == (61 : Int)) (by kernel_rfl) (fun hb => ?_) (fun hb => ?_)
          · have h := ite_t h hb
            refine T_exitp (p := [1, 1, 1, 0, 1, 0, 0, 1, 1, 0, 0, 1, 0, 1, 0]) 0 (by kernel_rfl) ?_
            refine then_exit ?_
            refine inblock_miss (by decide) ?_
            refine then_exit ?_
            refine then_exit ?_
            refine inblock_hit ?_
            exact ⟨vi5, vi6, vb9, h, Sub.trans (Sub.refl _) (Sub_view hC [(3, some 3)] (by kernel_rfl) (by kernel_rfl) (by kernel_rfl))⟩
          · have h := ite_f h hb
            refine T_skipp (p := [1, 1, 1, 0, 1, 0, 0, 1, 1, 0, 0, 1, 0, 1, 1]) (by kernel_rfl) ?_
            refine (T.weaken ?_ (Sub.refl _) : T Try.prog C (at_ cLoose [1, 1, 1, 0, 1, 0, 0, 1, 1, 0, 0, 1, 1]) _ _)
            refine T_seqp (p := [1, 1, 1, 0, 1, 0, 0, 1, 1, 0, 0, 1, 1]) (by kernel_rfl) ?_
            obtain ⟨hob, h⟩ := ite_get h
            refine T_reg henv hC [(3, some 3)] [(0, .p (.str s)), (3, .arr 3), (4, .p (.int .i64 vi5)), (5, .p (.int .i64 vi6)), (7, .p (.int .i64 (ixS LB_7543b37f ((s.getD (vi8).toNat 0).toNat : Int)))), (9, .p (.int .i64 vi7)), (10, .p (.int .i64 vi8))] [(3, .barr 5 false vb9)] [0 ≤ vi8 ∧ vi8 < (s.length : Int)] (by kernel_rfl) (by kernel_rfl) ⟨hob, trivial⟩ (fun s1 hs1 => ?_)
            refine (T.weaken ?_ hs1 : T Try.prog C (at_ cLoose [1, 1, 1, 0, 1, 0, 0, 1, 1, 0, 0, 1, 1, 1]) _ _)
            refine T_seqp (p := [1, 1, 1, 0, 1, 0, 0, 1, 1, 0, 0, 1, 1, 1]) (by kernel_rfl) ?_
            refine T_seqp (p := [1, 1, 1, 0, 1, 0, 0, 1, 1, 0, 0, 1, 1, 1, 0]) (by kernel_rfl) ?_
            refine T_reg henv hC [(3, some 3)] [(0, .p (.str s)), (3, .arr 3), (4, .p (.int .i64 vi5)), (5, .p (.int .i64 vi6)), (7, .p (.int .i64 (ixS LB_7543b37f ((s.getD (vi8).toNat 0).toNat : Int)))), (9, .p (.int .i64 vi7)), (10, .p (.int .i64 vi8)), (22, .p (.bool (decide ((ixS LB_7543b37f ((s.getD (vi8).toNat 0).toNat : Int)) < (0 : Int)))))] [(3, .barr 5 false vb9)] [] (by kernel_rfl) (by kernel_rfl) trivial (fun s1 hs1 => ?_)
            refine (T.weaken ?_ hs1 : T Try.prog C (at_ cLoose [1, 1, 1, 0, 1, 0, 0, 1, 1, 0, 0, 1, 1, 1, 0, 1]) _ _)
            refine T_condp (p := [1, 1, 1, 0, 1, 0, 0, 1, 1, 0, 0, 1, 1, 1, 0, 1]) (by kernel_rfl) (decide ((ixS LB_7543b37f ((s.getD (vi8).toNat 0).toNat : Int)) < (0 : Int))) (by kernel_rfl) (fun hb => ?_) (fun hb => ?_)
            · have h := ite_t h hb
              refine T_exitp (p := [1, 1, 1, 0, 1, 0, 0, 1, 1, 0, 0, 1, 1, 1, 0, 1, 0]) 1 (by kernel_rfl) ?_
              refine then_exit ?_
              refine inblock_hit ?_
              exact ⟨s, vi5, vi6, vi7, vi8, vb9, h, Sub.trans (Sub.refl _) (Sub_view hC [(3, some 3)] (by kernel_rfl) (by kernel_rfl) (by kernel_rfl))⟩
            · have h := ite_f h hb
              refine T_skipp (p := [1, 1, 1, 0, 1, 0, 0, 1, 1, 0, 0, 1, 1, 1, 0, 1, 1]) (by kernel_rfl) ?_
              refine (T.weaken ?_ (Sub.refl _) : T Try.prog C (at_ cLoose [1, 1, 1, 0, 1, 0, 0, 1, 1, 0, 0, 1, 1, 1, 1]) _ _)
              refine T_seqp (p := [1, 1, 1, 0, 1, 0, 0, 1, 1, 0, 0, 1, 1, 1, 1]) (by kernel_rfl) ?_
              obtain ⟨hob, h⟩ := ite_get h
              refine T_reg henv hC [(3, some 3)] [(0, .p (.str s)), (3, .arr 3), (4, .p (.int .i64 (ibits .or .i64 (IntKind.i64.wrap (vi5 * 2 ^ (min ((6 : Int)).toNat 64))) (ixS LB_7543b37f ((s.getD (vi8).toNat 0).toNat : Int))))), (5, .p (.int .i64 vi6)), (9, .p (.int .i64 vi7)), (10, .p (.int .i64 vi8))] [(3, .barr 5 false vb9)] [0 ≤ (6 : Int)] (by kernel_rfl) (by kernel_rfl) ⟨hob, trivial⟩ (fun s1 hs1 => ?_)
              refine (T.weaken ?_ hs1 : T Try.prog C (at_ cLoose [1, 1, 1, 0, 1, 0, 0, 1, 1, 0, 0, 1, 1, 1, 1, 1]) _ _)
              refine T_seqp (p := [1, 1, 1, 0, 1, 0, 0, 1, 1, 0, 0, 1, 1, 1, 1, 1]) (by kernel_rfl) ?_
              obtain ⟨hob, h⟩ := ite_get h
              refine T_reg henv hC [(3, some 3)] [(0, .p (.str s)), (3, .arr 3), (4, .p (.int .i64 (ibits .or .i64 (IntKind.i64.wrap (vi5 * 2 ^ (min ((6 : Int)).toNat 64))) (ixS LB_7543b37f ((s.getD (vi8).toNat 0).toNat : Int))))), (5, .p (.int .i64 (vi6 + (1 : Int)))), (9, .p (.int .i64 vi7)), (10, .p (.int .i64 vi8))] [(3, .barr 5 false vb9)] [i64ok (vi6 + (1 : Int))] (by kernel_rfl) (by kernel_rfl) ⟨hob, trivial⟩ (fun s1 hs1 => ?_)
              refine (T.weaken ?_ hs1 : T Try.prog C (at_ cLoose [1, 1, 1, 0, 1, 0, 0, 1, 1, 0, 0, 1, 1, 1, 1, 1, 1]) _ _)
              refine T_seqp (p := [1, 1, 1, 0, 1, 0, 0, 1, 1, 0, 0, 1, 1, 1, 1, 1, 1]) (by kernel_rfl) ?_
              refine T_reg henv hC [(3, some 3)] [(0, .p (.str s)), (3, .arr 3), (4, .p (.int .i64 (ibits .or .i64 (IntKind.i64.wrap (vi5 * 2 ^ (min ((6 : Int)).toNat 64))) (ixS LB_7543b37f ((s.getD (vi8).toNat 0).toNat : Int))))), (5, .p (.int .i64 (vi6 + (1 : Int)))), (9, .p (.int .i64 vi7)), (10, .p (.int .i64 vi8)), (30, .p (.bool ((vi6 + (1 : Int)) == (4 : Int))))] [(3, .barr 5 false vb9)] [] (by kernel_rfl) (by kernel_rfl) trivial (fun s1 hs1 => ?_)
              refine (T.weaken ?_ hs1 : T Try.prog C (at_ cLoose [1, 1, 1, 0, 1, 0, 0, 1, 1, 0, 0, 1, 1, 1, 1, 1, 1, 1]) _ _)
              refine T_condp (p := [1, 1, 1, 0, 1, 0, 0, 1, 1, 0, 0, 1, 1, 1, 1, 1, 1, 1]) (by kernel_rfl) ((vi6 + (1 : Int)) == (4 : Int)) (by kernel_rfl) (fun hb => ?_) (fun hb => ?_)
              · have h := ite_t h hb
                refine T_seqp (p := [1, 1, 1, 0, 1, 0, 0, 1, 1, 0, 0, 1, 1, 1, 1, 1, 1, 1, 0]) (by kernel_rfl) ?_
                obtain ⟨hob, h⟩ := ite_get h
                refine T_reg henv hC [(3, some 41)] [(0, .p (.str s)), (3, .arr 3), (9, .p (.int .i64 vi7)), (10, .p (.int .i64 vi8))] [(3, .barr 5 false (vb9 ++ [UInt8.ofNat (IntKind.u8.wrap ((ibits .or .i64 (IntKind.i64.wrap (vi5 * 2 ^ (min ((6 : Int)).toNat 64))) (ixS LB_7543b37f ((s.getD (vi8).toNat 0).toNat : Int))).fdiv (2 ^ (min ((16 : Int)).toNat 64)))).toNat, UInt8.ofNat (IntKind.u8.wrap ((ibits .or .i64 (IntKind.i64.wrap (vi5 * 2 ^ (min ((6 : Int)).toNat 64))) (ixS LB_7543b37f ((s.getD (vi8).toNat 0).toNat : Int))).fdiv (2 ^ (min ((8 : Int)).toNat 64)))).toNat, UInt8.ofNat (IntKind.u8.wrap (ibits .or .i64 (IntKind.i64.wrap (vi5 * 2 ^ (min ((6 : Int)).toNat 64))) (ixS LB_7543b37f ((s.getD (vi8).toNat 0).toNat : Int)))).toNat]))] [0 ≤ (16 : Int), 0 ≤ (8 : Int), (vb9.length + [UInt8.ofNat (IntKind.u8.wrap ((ibits .or .i64 (IntKind.i64.wrap (vi5 * 2 ^ (min ((6 : Int)).toNat 64))) (ixS LB_7543b37f ((s.getD (vi8).toNat 0).toNat : Int))).fdiv (2 ^ (min ((16 : Int)).toNat 64)))).toNat, UInt8.ofNat (IntKind.u8.wrap ((ibits .or .i64 (IntKind.i64.wrap (vi5 * 2 ^ (min ((6 : Int)).toNat 64))) (ixS LB_7543b37f ((s.getD (vi8).toNat 0).toNat : Int))).fdiv (2 ^ (min ((8 : Int)).toNat 64)))).toNat, UInt8.ofNat (IntKind.u8.wrap (ibits .or .i64 (IntKind.i64.wrap (vi5 * 2 ^ (min ((6 : Int)).toNat 64))) (ixS LB_7543b37f ((s.getD (vi8).toNat 0).toNat : Int)))).toNat].length) * 1 ≤ 140737488355328] (by kernel_rfl) (by kernel_rfl) ⟨hob.1, hob.2.1, hob.2.2, trivial⟩ (fun s1 hs1 => ?_)
                refine (T.weaken ?_ hs1 : T Try.prog C (at_ cLoose [1, 1, 1, 0, 1, 0, 0, 1, 1, 0, 0, 1, 1, 1, 1, 1, 1, 1, 0, 1]) _ _)
                refine T_reg henv hC [(3, some 3)] [(0, .p (.str s)), (3, .arr 3), (4, .p (.int .i64 (0 : Int))), (5, .p (.int .i64 (0 : Int))), (9, .p (.int .i64 vi7)), (10, .p (.int .i64 vi8))] [(3, .barr 5 false (vb9 ++ [UInt8.ofNat (IntKind.u8.wrap ((ibits .or .i64 (IntKind.i64.wrap (vi5 * 2 ^ (min ((6 : Int)).toNat 64))) (ixS LB_7543b37f ((s.getD (vi8).toNat 0).toNat : Int))).fdiv (2 ^ (min ((16 : Int)).toNat 64)))).toNat, UInt8.ofNat (IntKind.u8.wrap ((ibits .or .i64 (IntKind.i64.wrap (vi5 * 2 ^ (min ((6 : Int)).toNat 64))) (ixS LB_7543b37f ((s.getD (vi8).toNat 0).toNat : Int))).fdiv (2 ^ (min ((8 : Int)).toNat 64)))).toNat, UInt8.ofNat (IntKind.u8.wrap (ibits .or .i64 (IntKind.i64.wrap (vi5 * 2 ^ (min ((6 : Int)).toNat 64))) (ixS LB_7543b37f ((s.getD (vi8).toNat 0).toNat : Int)))).toNat]))] [] (by kernel_rfl) (by kernel_rfl) trivial (fun s1 hs1 => ?_)
                exact ⟨s, (0 : Int), (0 : Int), vi7, vi8, vb9 ++ [UInt8.ofNat (IntKind.u8.wrap ((ibits .or .i64 (IntKind.i64.wrap (vi5 * 2 ^ (min ((6 : Int)).toNat 64))) (ixS LB_7543b37f ((s.getD (vi8).toNat 0).toNat : Int))).fdiv (2 ^ (min ((16 : Int)).toNat 64)))).toNat, UInt8.ofNat (IntKind.u8.wrap ((ibits .or .i64 (IntKind.i64.wrap (vi5 * 2 ^ (min ((6 : Int)).toNat 64))) (ixS LB_7543b37f ((s.getD (vi8).toNat 0).toNat : Int))).fdiv (2 ^ (min ((8 : Int)).toNat 64)))).toNat, UInt8.ofNat (IntKind.u8.wrap (ibits .or .i64 (IntKind.i64.wrap (vi5 * 2 ^ (min ((6 : Int)).toNat 64))) (ixS LB_7543b37f ((s.getD (vi8).toNat 0).toNat : Int)))).toNat], h, Sub.trans hs1 (Sub_view hC [(3, some 3)] (by kernel_rfl) (by kernel_rfl) (by kernel_rfl))⟩
              · have h := ite_f h hb
                refine T_skipp (p := [1, 1, 1, 0, 1, 0, 0, 1, 1, 0, 0, 1, 1, 1, 1, 1, 1, 1, 1]) (by kernel_rfl) ?_
                exact ⟨s, ibits .or .i64 (IntKind.i64.wrap (vi5 * 2 ^ (min ((6 : Int)).toNat 64))) (ixS LB_7543b37f ((s.getD (vi8).toNat 0).toNat : Int)), vi6 + (1 : Int), vi7, vi8, vb9, h, Sub.trans (Sub.refl _) (Sub_view hC [(3, some 3)] (by kernel_rfl) (by kernel_rfl) (by kernel_rfl))⟩
        · rintro s2 ⟨s, vi10, vi11, vi7, vi8, vb12, h, hs2⟩
          unfold BLoose_4 at h
          refine (T.weaken ?_ hs2 : T Try.prog C (at_ cLoose [1, 1, 1, 0, 1, 0, 0, 1, 1, 1]) _ _)
          obtain ⟨hob, h⟩ := ite_get h
          refine T_reg henv hC [(3, some 3)] [(0, .p (.str s)), (3, .arr 3), (4, .p (.int .i64 vi10)), (5, .p (.int .i64 vi11)), (9, .p (.int .i64 vi7)), (10, .p (.int .i64 (vi8 + (1 : Int))))] [(3, .barr 5 false vb12)] [i64ok (vi8 + (1 : Int))] (by kernel_rfl) (by kernel_rfl) ⟨hob, trivial⟩ (fun s1 hs1 => ?_)
          exact ⟨f3, _, Nat.lt_succ_self f3, ⟨s, vi10, vi11, vi7, vi8 + (1 : Int), vb12, rfl, h⟩, Sub.trans hs1 (Sub_view hC [(3, some 3)] (by kernel_rfl) (by kernel_rfl) (by kernel_rfl))⟩
      · have h := ite_f h hb
        refine T_exitp (p := [1, 1, 1, 0, 1, 0, 0, 1, 0, 1]) 0 (by kernel_rfl) ?_
        refine then_exit ?_
        refine then_exit ?_
        refine inblock_hit ?_
        exact ⟨vi5, vi6, vb9, h, Sub.trans (Sub.refl _) (Sub_view hC [(3, some 3)] (by kernel_rfl) (by kernel_rfl) (by kernel_rfl))⟩
  · rintro s2 ⟨vi1, vi2, vb3, h, hs2⟩
    unfold BLoose_1 at h
    refine (T.weaken ?_ hs2 : T Try.prog C (at_ cLoose [1, 1, 1, 1]) _ _)
    refine T_join (p := [1, 1, 1, 1]) (by kernel_rfl) (fun s2 => ∃ (vb4 : List UInt8), BLoose_2 fuel vb4 = some res ∧ Sub C s2 (mkS [(3, .arr 3)] [(3, .barr 5 false vb4)])) ?_ ?_
    · refine T_seqp (p := [1, 1, 1, 1, 0]) (by kernel_rfl) ?_
      refine T_reg henv hC [(3, some 3)] [(3, .arr 3), (4, .p (.int .i64 vi1)), (43, .p (.int .i64 vi2))] [(3, .barr 5 false vb3)] [] (by kernel_rfl) (by kernel_rfl) trivial (fun s1 hs1 => ?_)
      refine (T.weaken ?_ hs1 : T Try.prog C (at_ cLoose [1, 1, 1, 1, 0, 1]) _ _)
      refine T_blockp (p := [1, 1, 1, 1, 0, 1]) 2 (by kernel_rfl) ?_
      refine T_seqp (p := [1, 1, 1, 1, 0, 1, 0]) (by kernel_rfl) ?_
      refine T_reg henv hC [(3, some 3)] [(3, .arr 3), (4, .p (.int .i64 vi1)), (43, .p (.int .i64 vi2)), (44, .p (.bool (vi2 == (2 : Int))))] [(3, .barr 5 false vb3)] [] (by kernel_rfl) (by kernel_rfl) trivial (fun s1 hs1 => ?_)
      refine (T.weaken ?_ hs1 : T Try.prog C (at_ cLoose [1, 1, 1, 1, 0, 1, 0, 1]) _ _)
      refine T_condp (p := [1, 1, 1, 1, 0, 1, 0, 1]) (by kernel_rfl) (vi2 == (2 : Int)) (by kernel_rfl) (fun hb => ?_) (fun hb => ?_)
      · have h := ite_t h hb
        obtain ⟨hob, h⟩ := ite_get h
        refine T_reg henv hC [(3, some 51)] [(3, .arr 3)] [(3, .barr 5 false (vb3 ++ [UInt8.ofNat (IntKind.u8.wrap (vi1.fdiv (2 ^ (min ((4 : Int)).toNat 64)))).toNat]))] [0 ≤ (4 : Int), (vb3.length + [UInt8.ofNat (IntKind.u8.wrap (vi1.fdiv (2 ^ (min ((4 : Int)).toNat 64)))).toNat].length) * 1 ≤ 140737488355328] (by kernel_rfl) (by kernel_rfl) ⟨hob.1, hob.2, trivial⟩ (fun s1 hs1 => ?_)
        exact ⟨vb3 ++ [UInt8.ofNat (IntKind.u8.wrap (vi1.fdiv (2 ^ (min ((4 : Int)).toNat 64)))).toNat], h, Sub.trans hs1 (Sub_view hC [(3, some 3)] (by kernel_rfl) (by kernel_rfl) (by kernel_rfl))⟩
      · have h := ite_f h hb
        refine T_seqp (p := [1, 1, 1, 1, 0, 1, 0, 1, 1]) (by kernel_rfl) ?_
        refine T_reg henv hC [(3, some 3)] [(3, .arr 3), (4, .p (.int .i64 vi1)), (52, .p (.bool (vi2 == (3 : Int))))] [(3, .barr 5 false vb3)] [] (by kernel_rfl) (by kernel_rfl) trivial (fun s1 hs1 => ?_)
        refine (T.weaken ?_ hs1 : T Try.prog C (at_ cLoose [1, 1, 1, 1, 0, 1, 0, 1, 1, 1]) _ _)
        refine T_condp (p := [1, 1, 1, 1, 0, 1, 0, 1, 1, 1]) (by kernel_rfl) (vi2 == (3 : Int)) (by kernel_rfl) (fun hb => ?_) (fun hb => ?_)
        · have h := ite_t h hb
          obtain ⟨hob, h⟩ := ite_get h
          refine T_reg henv hC [(3, some 62)] [(3, .arr 3)] [(3, .barr 5 false (vb3 ++ [UInt8.ofNat (IntKind.u8.wrap (vi1.fdiv (2 ^ (min ((10 : Int)).toNat 64)))).toNat, UInt8.ofNat (IntKind.u8.wrap (vi1.fdiv (2 ^ (min ((2 : Int)).toNat 64)))).toNat]))] [0 ≤ (10 : Int), 0 ≤ (2 : Int), (vb3.length + [UInt8.ofNat (IntKind.u8.wrap (vi1.fdiv (2 ^ (min ((10 : Int)).toNat 64)))).toNat, UInt8.ofNat (IntKind.u8.wrap (vi1.fdiv (2 ^ (min ((2 : Int)).toNat 64)))).toNat].length) * 1 ≤ 140737488355328] (by kernel_rfl) (by kernel_rfl) ⟨hob.1, hob.2.1, hob.2.2, trivial⟩ (fun s1 hs1 => ?_)
          exact ⟨vb3 ++ [UInt8.ofNat (IntKind.u8.wrap (vi1.fdiv (2 ^ (min ((10 : Int)).toNat 64)))).toNat, UInt8.ofNat (IntKind.u8.wrap (vi1.fdiv (2 ^ (min ((2 : Int)).toNat 64)))).toNat], h, Sub.trans hs1 (Sub_view hC [(3, some 3)] (by kernel_rfl) (by kernel_rfl) (by kernel_rfl))⟩
        · have h := ite_f h hb
          refine T_skipp (p := [1, 1, 1, 1, 0, 1, 0, 1, 1, 1, 1]) (by kernel_rfl) ?_
          exact ⟨vb3, h, Sub.trans (Sub.refl _) (Sub_view hC [(3, some 3)] (by kernel_rfl) (by kernel_rfl) (by kernel_rfl))⟩
    · rintro s2 ⟨vb4, h, hs2⟩
      unfold BLoose_2 at h
      refine (T.weaken ?_ hs2 : T Try.prog C (at_ cLoose [1, 1, 1, 1, 1]) _ _)
      refine T_seqp (p := [1, 1, 1, 1, 1]) (by kernel_rfl) ?_
      refine T_reg henv hC [] [(2, .p (.str vb4))] [] [] (by kernel_rfl) (by kernel_rfl) trivial (fun s1 hs1 => ?_)
      refine (T.weaken ?_ hs1 : T Try.prog C (at_ cLoose [1, 1, 1, 1, 1, 1]) _ _)
      refine T_retp (p := [1, 1, 1, 1, 1, 1]) (by kernel_rfl) ?_
      have h := Option.some.inj h; subst h
      exact ⟨mkS [(2, .p (.str vb4))] [], (Sub.refl _), by kernel_rfl⟩

theorem fn_Loose (fuel : Nat) (s : List UInt8) (res : List UInt8) (h : (∃ M vs, ARels γ0 M [.p (.str s)] vs) → FLoose fuel s = some res) : FnP Try.prog 14 [.p (.str s)] (.p (.str res)) :=
  FnP_lift (fn := Try.f14) (by kernel_rfl) (by kernel_rfl) fun M vs hvs C hC0 => have hC : CtxOk C 65 [] := ⟨hC0.nt.trans (by kernel_rfl), hC0.fx⟩; T.weaken (TLoose fuel s res (h ⟨M, vs, hvs⟩) C hC) (sinit_sub hC (by kernel_rfl) (by kernel_rfl))
end Go.Proofs.Ytdjlilhdgnogaaa
