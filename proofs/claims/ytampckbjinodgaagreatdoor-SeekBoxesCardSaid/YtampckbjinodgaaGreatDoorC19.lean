/-
  Lifted functions, and facts about them.
-/
import Derived.Test.YtampckbjinodgaaGreatDoorRows
import Derived.Test.YtampckbjinodgaaGreatDoorAmC
import Derived.Test.YtampckbjinodgaaGreatDoorC01
import Derived.Test.YtampckbjinodgaaGreatDoorC18
import Derived.Deep.Slices
import Derived.Carry
import Derived.Handed
import Derived.Shelf.Vars
import Derived.WalkKit
import Derived.ProofKit
import Derived.OpenShut
namespace Go.Proofs.YtampckbjinodgaaGreatDoor
open Go Go.Am
set_option linter.unusedVariables false
/-! An email is in a mailbox by its members alone. -/
noncomputable def cboxes : Code := bodyOf Tryz.f6

noncomputable def Gboxes : Cfg := ⟨Tryz.prog, mkEnv [(11, sp_awake), (12, sp_holds1)], mkEnvR [], 106, [], [([0, 1, 0, 1, 1, 1, 1], ⟨[0, 5, 6, 7, 8, 9], [⟨.slot 5, 5, .cells []⟩, ⟨.cell 5 4, 6004, (.larr 9 false 1 (.dat .str ([] : List (List UInt8))))⟩, ⟨.cell 5 5, 6005, (.larr 45 false 2 (.dat (.pair (.int .i64) (.int .i64)) ([] : List (Int × Int))))⟩]⟩), ([1, 1, 0, 0, 1, 0, 1, 1, 1, 1], ⟨[0, 5, 6, 7, 8, 9], [⟨.slot 5, 5, .cells []⟩, ⟨.cell 5 4, 6004, (.larr 9 false 1 (.dat .str ([] : List (List UInt8))))⟩, ⟨.cell 5 5, 6005, (.larr 45 false 2 (.dat (.pair (.int .i64) (.int .i64)) ([] : List (Int × Int))))⟩]⟩)], [([0, 1, 1, 1, 1, 1, 1, 1], [10, 20, 30]), ([888888, 1, 1, 1, 1, 1, 1, 1], [60, 0, 67, 0])]⟩

noncomputable def Bboxes_1 (F f1 : Nat) (bs : List Bool) (vi1 : Int) (vc2 vc3 : Bool) (vi4 vi5 vi6 : Int) (vs7 : List UInt8) (vi8 vi9 vi10 : Int) (vl11 : List (List UInt8)) (vl12 : List (Int × Int)) : Option Ans := runR Gboxes cboxes (kP Tryz.prog Tryz.f6.results.toList) F [] [1, 1, 1, 1, 0, 1, 0] f1 [(0, .p (.list 1 (.dat .bool bs))), (5, .ref 5 0), (6, .p (.int .i64 vi1)), (7, .p (.bool vc2)), (8, .p (.bool vc3)), (9, .p (.int .i64 vi4))] [(5, .cells [.p (.int .i64 vi5), .p (.int .i64 vi6), .p (.str vs7), .p (.int .i64 vi8), .arr 6004, .arr 6005, .p (.int .i64 vi9), .p (.int .i64 vi10)]), (6004, .larr 9 false 1 (.dat .str vl11)), (6005, .larr 45 false 2 (.dat (.pair (.int .i64) (.int .i64)) vl12))]

noncomputable def Bboxes_2 (F f1 : Nat) (bs : List Bool) (vi1 : Int) (vc13 vc14 : Bool) (vi4 vi15 vi16 : Int) (vs17 : List UInt8) (vi18 vi19 vi20 : Int) (vl21 : List (List UInt8)) (vl22 : List (Int × Int)) : Option Ans := runB Gboxes cboxes (kP Tryz.prog Tryz.f6.results.toList) F [f1] [1, 1, 1, 1, 0, 1, 0, 0, 1, 1] [(0, .p (.list 1 (.dat .bool bs))), (5, .ref 5 0), (6, .p (.int .i64 vi1)), (7, .p (.bool vc13)), (8, .p (.bool vc14)), (9, .p (.int .i64 vi4))] [(5, .cells [.p (.int .i64 vi15), .p (.int .i64 vi16), .p (.str vs17), .p (.int .i64 vi18), .arr 6004, .arr 6005, .p (.int .i64 vi19), .p (.int .i64 vi20)]), (6004, .larr 9 false 1 (.dat .str vl21)), (6005, .larr 45 false 2 (.dat (.pair (.int .i64) (.int .i64)) vl22))]

noncomputable def Fboxes (F : Nat) (bs : List Bool) (n : Int) : Option Ans := runF Gboxes Tryz.f6 F [.p (.list 1 (.dat .bool bs)), .p (.int .u8 n)]

theorem Bboxes_1_eq (F f1 : Nat) (bs : List Bool) (vi1 : Int) (vc2 vc3 : Bool) (vi4 vi5 vi6 : Int) (vs7 : List UInt8) (vi8 vi9 vi10 : Int) (vl11 : List (List UInt8)) (vl12 : List (Int × Int)) : Bboxes_1 F (f1 + 1) bs vi1 vc2 vc3 vi4 vi5 vi6 vs7 vi8 vi9 vi10 vl11 vl12 = cond ((decide (vi4 < (bs.length : Int))) && (decide (vi4 < (9 : Int)))) (need (0 ≤ vi4 ∧ vi4 < (bs.length : Int)) (cond ((bs.getD (vi4).toNat false)) (need (i64ok (vi4 + (1 : Int))) (need (i64ok ((10 : Int) + vi4)) (need ((vl12.length + [(vi4 + (1 : Int), (10 : Int) + vi4)].length) * 16 ≤ 140737488355328) (need ((!vc2) = true → i64ok (vi4 + (1 : Int))) (need ((!vc3) = true → i64ok (vi4 + (1 : Int))) (Bboxes_2 F f1 bs vi1 (vc2 || ((vi4 + (1 : Int)) == vi1)) (vc3 || ((vi4 + (1 : Int)) != vi1)) vi4 vi5 vi6 vs7 vi8 vi9 vi10 vl11 (vl12 ++ [(vi4 + (1 : Int), (10 : Int) + vi4)]))))))) (Bboxes_2 F f1 bs vi1 vc2 vc3 vi4 vi5 vi6 vs7 vi8 vi9 vi10 vl11 vl12))) (need (i64ok ((9 : Int) + vi1)) (need (i64ok ((9 : Int) + vi1)) (need (i64ok ((8 : Int) + vi1)) (need (i64ok ((10 : Int) + vi1)) (need (h1ok (vi5, (vi6, (vs7, (vi8, (vl11, (vl12, (vi9, vi10))))))) ((4 : Int), (vi1, (([] : List UInt8), (([] : List UInt8), ([], [])))))) (need (((h1F (vi5, (vi6, (vs7, (vi8, (vl11, (vl12, (vi9, vi10))))))) ((4 : Int), (vi1, (([] : List UInt8), (([] : List UInt8), ([], [])))))) == vc2) = true) (need (((h1F (vi5, (vi6, (vs7, (vi8, (vl11, (vl12, (vi9, vi10))))))) ((4 : Int), (vi1, (([] : List UInt8), (([] : List UInt8), ([], [])))))) == vc2) = true → h1ok (vi5, (vi6, (vs7, (vi8, (vl11, (vl12, (vi9, vi10))))))) ((5 : Int), (vi1, (([] : List UInt8), (([] : List UInt8), ([], [])))))) (need ((((h1F (vi5, (vi6, (vs7, (vi8, (vl11, (vl12, (vi9, vi10))))))) ((4 : Int), (vi1, (([] : List UInt8), (([] : List UInt8), ([], [])))))) == vc2) && ((h1F (vi5, (vi6, (vs7, (vi8, (vl11, (vl12, (vi9, vi10))))))) ((5 : Int), (vi1, (([] : List UInt8), (([] : List UInt8), ([], [])))))) == vc3)) = true) (need ((((h1F (vi5, (vi6, (vs7, (vi8, (vl11, (vl12, (vi9, vi10))))))) ((4 : Int), (vi1, (([] : List UInt8), (([] : List UInt8), ([], [])))))) == vc2) && ((h1F (vi5, (vi6, (vs7, (vi8, (vl11, (vl12, (vi9, vi10))))))) ((5 : Int), (vi1, (([] : List UInt8), (([] : List UInt8), ([], [])))))) == vc3)) = true → h1ok (vi5, (vi6, (vs7, (vi8, (vl11, (vl12, (vi9, vi10))))))) ((14 : Int), (vi1, (([] : List UInt8), (([] : List UInt8), ([((9 : Int) + vi1, (9 : Int) + vi1)], [])))))) (need (((((h1F (vi5, (vi6, (vs7, (vi8, (vl11, (vl12, (vi9, vi10))))))) ((4 : Int), (vi1, (([] : List UInt8), (([] : List UInt8), ([], [])))))) == vc2) && ((h1F (vi5, (vi6, (vs7, (vi8, (vl11, (vl12, (vi9, vi10))))))) ((5 : Int), (vi1, (([] : List UInt8), (([] : List UInt8), ([], [])))))) == vc3)) && ((h1F (vi5, (vi6, (vs7, (vi8, (vl11, (vl12, (vi9, vi10))))))) ((14 : Int), (vi1, (([] : List UInt8), (([] : List UInt8), ([((9 : Int) + vi1, (9 : Int) + vi1)], [])))))) == vc2)) = true) (need (((((h1F (vi5, (vi6, (vs7, (vi8, (vl11, (vl12, (vi9, vi10))))))) ((4 : Int), (vi1, (([] : List UInt8), (([] : List UInt8), ([], [])))))) == vc2) && ((h1F (vi5, (vi6, (vs7, (vi8, (vl11, (vl12, (vi9, vi10))))))) ((5 : Int), (vi1, (([] : List UInt8), (([] : List UInt8), ([], [])))))) == vc3)) && ((h1F (vi5, (vi6, (vs7, (vi8, (vl11, (vl12, (vi9, vi10))))))) ((14 : Int), (vi1, (([] : List UInt8), (([] : List UInt8), ([((9 : Int) + vi1, (9 : Int) + vi1)], [])))))) == vc2)) = true → h1ok (vi5, (vi6, (vs7, (vi8, (vl11, (vl12, (vi9, vi10))))))) ((14 : Int), (vi1, (([] : List UInt8), (([] : List UInt8), ([((1 : Int), (8 : Int) + vi1), ((10 : Int) + vi1, (99 : Int))], [])))))) (some (.p (.bool ((((((h1F (vi5, (vi6, (vs7, (vi8, (vl11, (vl12, (vi9, vi10))))))) ((4 : Int), (vi1, (([] : List UInt8), (([] : List UInt8), ([], [])))))) == vc2) && ((h1F (vi5, (vi6, (vs7, (vi8, (vl11, (vl12, (vi9, vi10))))))) ((5 : Int), (vi1, (([] : List UInt8), (([] : List UInt8), ([], [])))))) == vc3)) && ((h1F (vi5, (vi6, (vs7, (vi8, (vl11, (vl12, (vi9, vi10))))))) ((14 : Int), (vi1, (([] : List UInt8), (([] : List UInt8), ([((9 : Int) + vi1, (9 : Int) + vi1)], [])))))) == vc2)) && (!(h1F (vi5, (vi6, (vs7, (vi8, (vl11, (vl12, (vi9, vi10))))))) ((14 : Int), (vi1, (([] : List UInt8), (([] : List UInt8), ([((1 : Int), (8 : Int) + vi1), ((10 : Int) + vi1, (99 : Int))], [])))))))) && true)), []))))))))))))) :=
  Eq.trans (show Bboxes_1 F (f1 + 1) bs vi1 vc2 vc3 vi4 vi5 vi6 vs7 vi8 vi9 vi10 vl11 vl12 = need ((decide (vi4 < (bs.length : Int))) = true → (decide (vi4 < (bs.length : Int))) = true) (need ((decide (vi4 < (bs.length : Int))) = true → (decide (vi4 < (bs.length : Int))) = true) (cond ((decide (vi4 < (bs.length : Int))) && (decide (vi4 < (9 : Int)))) (need (0 ≤ vi4 ∧ vi4 < (bs.length : Int)) (cond ((bs.getD (vi4).toNat false)) (need (i64ok (vi4 + (1 : Int))) (need (i64ok ((10 : Int) + vi4)) (need ((vl12.length + [(vi4 + (1 : Int), (10 : Int) + vi4)].length) * 16 ≤ 140737488355328) (need ((!vc2) = true → (!vc2) = true) (need ((!vc2) = true → i64ok (vi4 + (1 : Int))) (need ((!vc2) = true → (!vc2) = true) (need ((!vc2) = true → (!vc2) = true) (need (vc2 = false → (!vc2) = true) (need ((!vc3) = true → (!vc3) = true) (need ((!vc3) = true → i64ok (vi4 + (1 : Int))) (need ((!vc3) = true → (!vc3) = true) (need ((!vc3) = true → (!vc3) = true) (need (vc3 = false → (!vc3) = true) (Bboxes_2 F f1 bs vi1 (vc2 || ((vi4 + (1 : Int)) == vi1)) (vc3 || ((vi4 + (1 : Int)) != vi1)) vi4 vi5 vi6 vs7 vi8 vi9 vi10 vl11 (vl12 ++ [(vi4 + (1 : Int), (10 : Int) + vi4)]))))))))))))))) (Bboxes_2 F f1 bs vi1 vc2 vc3 vi4 vi5 vi6 vs7 vi8 vi9 vi10 vl11 vl12))) (need (i64ok ((9 : Int) + vi1)) (need (i64ok ((9 : Int) + vi1)) (need (i64ok ((8 : Int) + vi1)) (need (i64ok ((10 : Int) + vi1)) (need (h1ok (vi5, (vi6, (vs7, (vi8, (vl11, (vl12, (vi9, vi10))))))) ((4 : Int), (vi1, (([] : List UInt8), (([] : List UInt8), ([], [])))))) (need (((h1F (vi5, (vi6, (vs7, (vi8, (vl11, (vl12, (vi9, vi10))))))) ((4 : Int), (vi1, (([] : List UInt8), (([] : List UInt8), ([], [])))))) == vc2) = true → ((h1F (vi5, (vi6, (vs7, (vi8, (vl11, (vl12, (vi9, vi10))))))) ((4 : Int), (vi1, (([] : List UInt8), (([] : List UInt8), ([], [])))))) == vc2) = true) (need (((h1F (vi5, (vi6, (vs7, (vi8, (vl11, (vl12, (vi9, vi10))))))) ((4 : Int), (vi1, (([] : List UInt8), (([] : List UInt8), ([], [])))))) == vc2) = true → ((h1F (vi5, (vi6, (vs7, (vi8, (vl11, (vl12, (vi9, vi10))))))) ((4 : Int), (vi1, (([] : List UInt8), (([] : List UInt8), ([], [])))))) == vc2) = true) (need (((h1F (vi5, (vi6, (vs7, (vi8, (vl11, (vl12, (vi9, vi10))))))) ((4 : Int), (vi1, (([] : List UInt8), (([] : List UInt8), ([], [])))))) == vc2) = true) (need (((h1F (vi5, (vi6, (vs7, (vi8, (vl11, (vl12, (vi9, vi10))))))) ((4 : Int), (vi1, (([] : List UInt8), (([] : List UInt8), ([], [])))))) == vc2) = true → ((h1F (vi5, (vi6, (vs7, (vi8, (vl11, (vl12, (vi9, vi10))))))) ((4 : Int), (vi1, (([] : List UInt8), (([] : List UInt8), ([], [])))))) == vc2) = true) (need (((h1F (vi5, (vi6, (vs7, (vi8, (vl11, (vl12, (vi9, vi10))))))) ((4 : Int), (vi1, (([] : List UInt8), (([] : List UInt8), ([], [])))))) == vc2) = true → h1ok (vi5, (vi6, (vs7, (vi8, (vl11, (vl12, (vi9, vi10))))))) ((5 : Int), (vi1, (([] : List UInt8), (([] : List UInt8), ([], [])))))) (need (((h1F (vi5, (vi6, (vs7, (vi8, (vl11, (vl12, (vi9, vi10))))))) ((4 : Int), (vi1, (([] : List UInt8), (([] : List UInt8), ([], [])))))) == vc2) = true → ((h1F (vi5, (vi6, (vs7, (vi8, (vl11, (vl12, (vi9, vi10))))))) ((4 : Int), (vi1, (([] : List UInt8), (([] : List UInt8), ([], [])))))) == vc2) = true) (need (((h1F (vi5, (vi6, (vs7, (vi8, (vl11, (vl12, (vi9, vi10))))))) ((4 : Int), (vi1, (([] : List UInt8), (([] : List UInt8), ([], [])))))) == vc2) = true → ((h1F (vi5, (vi6, (vs7, (vi8, (vl11, (vl12, (vi9, vi10))))))) ((4 : Int), (vi1, (([] : List UInt8), (([] : List UInt8), ([], [])))))) == vc2) = true) (need (((h1F (vi5, (vi6, (vs7, (vi8, (vl11, (vl12, (vi9, vi10))))))) ((4 : Int), (vi1, (([] : List UInt8), (([] : List UInt8), ([], [])))))) == vc2) = true → ((h1F (vi5, (vi6, (vs7, (vi8, (vl11, (vl12, (vi9, vi10))))))) ((4 : Int), (vi1, (([] : List UInt8), (([] : List UInt8), ([], [])))))) == vc2) = true) (need ((((h1F (vi5, (vi6, (vs7, (vi8, (vl11, (vl12, (vi9, vi10))))))) ((4 : Int), (vi1, (([] : List UInt8), (([] : List UInt8), ([], [])))))) == vc2) && ((h1F (vi5, (vi6, (vs7, (vi8, (vl11, (vl12, (vi9, vi10))))))) ((5 : Int), (vi1, (([] : List UInt8), (([] : List UInt8), ([], [])))))) == vc3)) = true → (((h1F (vi5, (vi6, (vs7, (vi8, (vl11, (vl12, (vi9, vi10))))))) ((4 : Int), (vi1, (([] : List UInt8), (([] : List UInt8), ([], [])))))) == vc2) && ((h1F (vi5, (vi6, (vs7, (vi8, (vl11, (vl12, (vi9, vi10))))))) ((5 : Int), (vi1, (([] : List UInt8), (([] : List UInt8), ([], [])))))) == vc3)) = true) (need ((((h1F (vi5, (vi6, (vs7, (vi8, (vl11, (vl12, (vi9, vi10))))))) ((4 : Int), (vi1, (([] : List UInt8), (([] : List UInt8), ([], [])))))) == vc2) && ((h1F (vi5, (vi6, (vs7, (vi8, (vl11, (vl12, (vi9, vi10))))))) ((5 : Int), (vi1, (([] : List UInt8), (([] : List UInt8), ([], [])))))) == vc3)) = true → (((h1F (vi5, (vi6, (vs7, (vi8, (vl11, (vl12, (vi9, vi10))))))) ((4 : Int), (vi1, (([] : List UInt8), (([] : List UInt8), ([], [])))))) == vc2) && ((h1F (vi5, (vi6, (vs7, (vi8, (vl11, (vl12, (vi9, vi10))))))) ((5 : Int), (vi1, (([] : List UInt8), (([] : List UInt8), ([], [])))))) == vc3)) = true) (need ((((h1F (vi5, (vi6, (vs7, (vi8, (vl11, (vl12, (vi9, vi10))))))) ((4 : Int), (vi1, (([] : List UInt8), (([] : List UInt8), ([], [])))))) == vc2) && ((h1F (vi5, (vi6, (vs7, (vi8, (vl11, (vl12, (vi9, vi10))))))) ((5 : Int), (vi1, (([] : List UInt8), (([] : List UInt8), ([], [])))))) == vc3)) = true → (((h1F (vi5, (vi6, (vs7, (vi8, (vl11, (vl12, (vi9, vi10))))))) ((4 : Int), (vi1, (([] : List UInt8), (([] : List UInt8), ([], [])))))) == vc2) && ((h1F (vi5, (vi6, (vs7, (vi8, (vl11, (vl12, (vi9, vi10))))))) ((5 : Int), (vi1, (([] : List UInt8), (([] : List UInt8), ([], [])))))) == vc3)) = true) (need ((((h1F (vi5, (vi6, (vs7, (vi8, (vl11, (vl12, (vi9, vi10))))))) ((4 : Int), (vi1, (([] : List UInt8), (([] : List UInt8), ([], [])))))) == vc2) && ((h1F (vi5, (vi6, (vs7, (vi8, (vl11, (vl12, (vi9, vi10))))))) ((5 : Int), (vi1, (([] : List UInt8), (([] : List UInt8), ([], [])))))) == vc3)) = true) (need ((((h1F (vi5, (vi6, (vs7, (vi8, (vl11, (vl12, (vi9, vi10))))))) ((4 : Int), (vi1, (([] : List UInt8), (([] : List UInt8), ([], [])))))) == vc2) && ((h1F (vi5, (vi6, (vs7, (vi8, (vl11, (vl12, (vi9, vi10))))))) ((5 : Int), (vi1, (([] : List UInt8), (([] : List UInt8), ([], [])))))) == vc3)) = true → (((h1F (vi5, (vi6, (vs7, (vi8, (vl11, (vl12, (vi9, vi10))))))) ((4 : Int), (vi1, (([] : List UInt8), (([] : List UInt8), ([], [])))))) == vc2) && ((h1F (vi5, (vi6, (vs7, (vi8, (vl11, (vl12, (vi9, vi10))))))) ((5 : Int), (vi1, (([] : List UInt8), (([] : List UInt8), ([], [])))))) == vc3)) = true) (need ((((h1F (vi5, (vi6, (vs7, (vi8, (vl11, (vl12, (vi9, vi10))))))) ((4 : Int), (vi1, (([] : List UInt8), (([] : List UInt8), ([], [])))))) == vc2) && ((h1F (vi5, (vi6, (vs7, (vi8, (vl11, (vl12, (vi9, vi10))))))) ((5 : Int), (vi1, (([] : List UInt8), (([] : List UInt8), ([], [])))))) == vc3)) = true → h1ok (vi5, (vi6, (vs7, (vi8, (vl11, (vl12, (vi9, vi10))))))) ((14 : Int), (vi1, (([] : List UInt8), (([] : List UInt8), ([((9 : Int) + vi1, (9 : Int) + vi1)], [])))))) (need ((((h1F (vi5, (vi6, (vs7, (vi8, (vl11, (vl12, (vi9, vi10))))))) ((4 : Int), (vi1, (([] : List UInt8), (([] : List UInt8), ([], [])))))) == vc2) && ((h1F (vi5, (vi6, (vs7, (vi8, (vl11, (vl12, (vi9, vi10))))))) ((5 : Int), (vi1, (([] : List UInt8), (([] : List UInt8), ([], [])))))) == vc3)) = true → (((h1F (vi5, (vi6, (vs7, (vi8, (vl11, (vl12, (vi9, vi10))))))) ((4 : Int), (vi1, (([] : List UInt8), (([] : List UInt8), ([], [])))))) == vc2) && ((h1F (vi5, (vi6, (vs7, (vi8, (vl11, (vl12, (vi9, vi10))))))) ((5 : Int), (vi1, (([] : List UInt8), (([] : List UInt8), ([], [])))))) == vc3)) = true) (need ((((h1F (vi5, (vi6, (vs7, (vi8, (vl11, (vl12, (vi9, vi10))))))) ((4 : Int), (vi1, (([] : List UInt8), (([] : List UInt8), ([], [])))))) == vc2) && ((h1F (vi5, (vi6, (vs7, (vi8, (vl11, (vl12, (vi9, vi10))))))) ((5 : Int), (vi1, (([] : List UInt8), (([] : List UInt8), ([], [])))))) == vc3)) = true → (((h1F (vi5, (vi6, (vs7, (vi8, (vl11, (vl12, (vi9, vi10))))))) ((4 : Int), (vi1, (([] : List UInt8), (([] : List UInt8), ([], [])))))) == vc2) && ((h1F (vi5, (vi6, (vs7, (vi8, (vl11, (vl12, (vi9, vi10))))))) ((5 : Int), (vi1, (([] : List UInt8), (([] : List UInt8), ([], [])))))) == vc3)) = true) (need ((((h1F (vi5, (vi6, (vs7, (vi8, (vl11, (vl12, (vi9, vi10))))))) ((4 : Int), (vi1, (([] : List UInt8), (([] : List UInt8), ([], [])))))) == vc2) && ((h1F (vi5, (vi6, (vs7, (vi8, (vl11, (vl12, (vi9, vi10))))))) ((5 : Int), (vi1, (([] : List UInt8), (([] : List UInt8), ([], [])))))) == vc3)) = true → (((h1F (vi5, (vi6, (vs7, (vi8, (vl11, (vl12, (vi9, vi10))))))) ((4 : Int), (vi1, (([] : List UInt8), (([] : List UInt8), ([], [])))))) == vc2) && ((h1F (vi5, (vi6, (vs7, (vi8, (vl11, (vl12, (vi9, vi10))))))) ((5 : Int), (vi1, (([] : List UInt8), (([] : List UInt8), ([], [])))))) == vc3)) = true) (need (((((h1F (vi5, (vi6, (vs7, (vi8, (vl11, (vl12, (vi9, vi10))))))) ((4 : Int), (vi1, (([] : List UInt8), (([] : List UInt8), ([], [])))))) == vc2) && ((h1F (vi5, (vi6, (vs7, (vi8, (vl11, (vl12, (vi9, vi10))))))) ((5 : Int), (vi1, (([] : List UInt8), (([] : List UInt8), ([], [])))))) == vc3)) && ((h1F (vi5, (vi6, (vs7, (vi8, (vl11, (vl12, (vi9, vi10))))))) ((14 : Int), (vi1, (([] : List UInt8), (([] : List UInt8), ([((9 : Int) + vi1, (9 : Int) + vi1)], [])))))) == vc2)) = true → ((((h1F (vi5, (vi6, (vs7, (vi8, (vl11, (vl12, (vi9, vi10))))))) ((4 : Int), (vi1, (([] : List UInt8), (([] : List UInt8), ([], [])))))) == vc2) && ((h1F (vi5, (vi6, (vs7, (vi8, (vl11, (vl12, (vi9, vi10))))))) ((5 : Int), (vi1, (([] : List UInt8), (([] : List UInt8), ([], [])))))) == vc3)) && ((h1F (vi5, (vi6, (vs7, (vi8, (vl11, (vl12, (vi9, vi10))))))) ((14 : Int), (vi1, (([] : List UInt8), (([] : List UInt8), ([((9 : Int) + vi1, (9 : Int) + vi1)], [])))))) == vc2)) = true) (need (((((h1F (vi5, (vi6, (vs7, (vi8, (vl11, (vl12, (vi9, vi10))))))) ((4 : Int), (vi1, (([] : List UInt8), (([] : List UInt8), ([], [])))))) == vc2) && ((h1F (vi5, (vi6, (vs7, (vi8, (vl11, (vl12, (vi9, vi10))))))) ((5 : Int), (vi1, (([] : List UInt8), (([] : List UInt8), ([], [])))))) == vc3)) && ((h1F (vi5, (vi6, (vs7, (vi8, (vl11, (vl12, (vi9, vi10))))))) ((14 : Int), (vi1, (([] : List UInt8), (([] : List UInt8), ([((9 : Int) + vi1, (9 : Int) + vi1)], [])))))) == vc2)) = true → ((((h1F (vi5, (vi6, (vs7, (vi8, (vl11, (vl12, (vi9, vi10))))))) ((4 : Int), (vi1, (([] : List UInt8), (([] : List UInt8), ([], [])))))) == vc2) && ((h1F (vi5, (vi6, (vs7, (vi8, (vl11, (vl12, (vi9, vi10))))))) ((5 : Int), (vi1, (([] : List UInt8), (([] : List UInt8), ([], [])))))) == vc3)) && ((h1F (vi5, (vi6, (vs7, (vi8, (vl11, (vl12, (vi9, vi10))))))) ((14 : Int), (vi1, (([] : List UInt8), (([] : List UInt8), ([((9 : Int) + vi1, (9 : Int) + vi1)], [])))))) == vc2)) = true) (need (((((h1F (vi5, (vi6, (vs7, (vi8, (vl11, (vl12, (vi9, vi10))))))) ((4 : Int), (vi1, (([] : List UInt8), (([] : List UInt8), ([], [])))))) == vc2) && ((h1F (vi5, (vi6, (vs7, (vi8, (vl11, (vl12, (vi9, vi10))))))) ((5 : Int), (vi1, (([] : List UInt8), (([] : List UInt8), ([], [])))))) == vc3)) && ((h1F (vi5, (vi6, (vs7, (vi8, (vl11, (vl12, (vi9, vi10))))))) ((14 : Int), (vi1, (([] : List UInt8), (([] : List UInt8), ([((9 : Int) + vi1, (9 : Int) + vi1)], [])))))) == vc2)) = true → ((((h1F (vi5, (vi6, (vs7, (vi8, (vl11, (vl12, (vi9, vi10))))))) ((4 : Int), (vi1, (([] : List UInt8), (([] : List UInt8), ([], [])))))) == vc2) && ((h1F (vi5, (vi6, (vs7, (vi8, (vl11, (vl12, (vi9, vi10))))))) ((5 : Int), (vi1, (([] : List UInt8), (([] : List UInt8), ([], [])))))) == vc3)) && ((h1F (vi5, (vi6, (vs7, (vi8, (vl11, (vl12, (vi9, vi10))))))) ((14 : Int), (vi1, (([] : List UInt8), (([] : List UInt8), ([((9 : Int) + vi1, (9 : Int) + vi1)], [])))))) == vc2)) = true) (need (((((h1F (vi5, (vi6, (vs7, (vi8, (vl11, (vl12, (vi9, vi10))))))) ((4 : Int), (vi1, (([] : List UInt8), (([] : List UInt8), ([], [])))))) == vc2) && ((h1F (vi5, (vi6, (vs7, (vi8, (vl11, (vl12, (vi9, vi10))))))) ((5 : Int), (vi1, (([] : List UInt8), (([] : List UInt8), ([], [])))))) == vc3)) && ((h1F (vi5, (vi6, (vs7, (vi8, (vl11, (vl12, (vi9, vi10))))))) ((14 : Int), (vi1, (([] : List UInt8), (([] : List UInt8), ([((9 : Int) + vi1, (9 : Int) + vi1)], [])))))) == vc2)) = true) (need (((((h1F (vi5, (vi6, (vs7, (vi8, (vl11, (vl12, (vi9, vi10))))))) ((4 : Int), (vi1, (([] : List UInt8), (([] : List UInt8), ([], [])))))) == vc2) && ((h1F (vi5, (vi6, (vs7, (vi8, (vl11, (vl12, (vi9, vi10))))))) ((5 : Int), (vi1, (([] : List UInt8), (([] : List UInt8), ([], [])))))) == vc3)) && ((h1F (vi5, (vi6, (vs7, (vi8, (vl11, (vl12, (vi9, vi10))))))) ((14 : Int), (vi1, (([] : List UInt8), (([] : List UInt8), ([((9 : Int) + vi1, (9 : Int) + vi1)], [])))))) == vc2)) = true → ((((h1F (vi5, (vi6, (vs7, (vi8, (vl11, (vl12, (vi9, vi10))))))) ((4 : Int), (vi1, (([] : List UInt8), (([] : List UInt8), ([], [])))))) == vc2) && ((h1F (vi5, (vi6, (vs7, (vi8, (vl11, (vl12, (vi9, vi10))))))) ((5 : Int), (vi1, (([] : List UInt8), (([] : List UInt8), ([], [])))))) == vc3)) && ((h1F (vi5, (vi6, (vs7, (vi8, (vl11, (vl12, (vi9, vi10))))))) ((14 : Int), (vi1, (([] : List UInt8), (([] : List UInt8), ([((9 : Int) + vi1, (9 : Int) + vi1)], [])))))) == vc2)) = true) (need (((((h1F (vi5, (vi6, (vs7, (vi8, (vl11, (vl12, (vi9, vi10))))))) ((4 : Int), (vi1, (([] : List UInt8), (([] : List UInt8), ([], [])))))) == vc2) && ((h1F (vi5, (vi6, (vs7, (vi8, (vl11, (vl12, (vi9, vi10))))))) ((5 : Int), (vi1, (([] : List UInt8), (([] : List UInt8), ([], [])))))) == vc3)) && ((h1F (vi5, (vi6, (vs7, (vi8, (vl11, (vl12, (vi9, vi10))))))) ((14 : Int), (vi1, (([] : List UInt8), (([] : List UInt8), ([((9 : Int) + vi1, (9 : Int) + vi1)], [])))))) == vc2)) = true → h1ok (vi5, (vi6, (vs7, (vi8, (vl11, (vl12, (vi9, vi10))))))) ((14 : Int), (vi1, (([] : List UInt8), (([] : List UInt8), ([((1 : Int), (8 : Int) + vi1), ((10 : Int) + vi1, (99 : Int))], [])))))) (need (((((h1F (vi5, (vi6, (vs7, (vi8, (vl11, (vl12, (vi9, vi10))))))) ((4 : Int), (vi1, (([] : List UInt8), (([] : List UInt8), ([], [])))))) == vc2) && ((h1F (vi5, (vi6, (vs7, (vi8, (vl11, (vl12, (vi9, vi10))))))) ((5 : Int), (vi1, (([] : List UInt8), (([] : List UInt8), ([], [])))))) == vc3)) && ((h1F (vi5, (vi6, (vs7, (vi8, (vl11, (vl12, (vi9, vi10))))))) ((14 : Int), (vi1, (([] : List UInt8), (([] : List UInt8), ([((9 : Int) + vi1, (9 : Int) + vi1)], [])))))) == vc2)) = true → ((((h1F (vi5, (vi6, (vs7, (vi8, (vl11, (vl12, (vi9, vi10))))))) ((4 : Int), (vi1, (([] : List UInt8), (([] : List UInt8), ([], [])))))) == vc2) && ((h1F (vi5, (vi6, (vs7, (vi8, (vl11, (vl12, (vi9, vi10))))))) ((5 : Int), (vi1, (([] : List UInt8), (([] : List UInt8), ([], [])))))) == vc3)) && ((h1F (vi5, (vi6, (vs7, (vi8, (vl11, (vl12, (vi9, vi10))))))) ((14 : Int), (vi1, (([] : List UInt8), (([] : List UInt8), ([((9 : Int) + vi1, (9 : Int) + vi1)], [])))))) == vc2)) = true) (need (((((h1F (vi5, (vi6, (vs7, (vi8, (vl11, (vl12, (vi9, vi10))))))) ((4 : Int), (vi1, (([] : List UInt8), (([] : List UInt8), ([], [])))))) == vc2) && ((h1F (vi5, (vi6, (vs7, (vi8, (vl11, (vl12, (vi9, vi10))))))) ((5 : Int), (vi1, (([] : List UInt8), (([] : List UInt8), ([], [])))))) == vc3)) && ((h1F (vi5, (vi6, (vs7, (vi8, (vl11, (vl12, (vi9, vi10))))))) ((14 : Int), (vi1, (([] : List UInt8), (([] : List UInt8), ([((9 : Int) + vi1, (9 : Int) + vi1)], [])))))) == vc2)) = true → ((((h1F (vi5, (vi6, (vs7, (vi8, (vl11, (vl12, (vi9, vi10))))))) ((4 : Int), (vi1, (([] : List UInt8), (([] : List UInt8), ([], [])))))) == vc2) && ((h1F (vi5, (vi6, (vs7, (vi8, (vl11, (vl12, (vi9, vi10))))))) ((5 : Int), (vi1, (([] : List UInt8), (([] : List UInt8), ([], [])))))) == vc3)) && ((h1F (vi5, (vi6, (vs7, (vi8, (vl11, (vl12, (vi9, vi10))))))) ((14 : Int), (vi1, (([] : List UInt8), (([] : List UInt8), ([((9 : Int) + vi1, (9 : Int) + vi1)], [])))))) == vc2)) = true) (need ((((((h1F (vi5, (vi6, (vs7, (vi8, (vl11, (vl12, (vi9, vi10))))))) ((4 : Int), (vi1, (([] : List UInt8), (([] : List UInt8), ([], [])))))) == vc2) && ((h1F (vi5, (vi6, (vs7, (vi8, (vl11, (vl12, (vi9, vi10))))))) ((5 : Int), (vi1, (([] : List UInt8), (([] : List UInt8), ([], [])))))) == vc3)) && ((h1F (vi5, (vi6, (vs7, (vi8, (vl11, (vl12, (vi9, vi10))))))) ((14 : Int), (vi1, (([] : List UInt8), (([] : List UInt8), ([((9 : Int) + vi1, (9 : Int) + vi1)], [])))))) == vc2)) && (!(h1F (vi5, (vi6, (vs7, (vi8, (vl11, (vl12, (vi9, vi10))))))) ((14 : Int), (vi1, (([] : List UInt8), (([] : List UInt8), ([((1 : Int), (8 : Int) + vi1), ((10 : Int) + vi1, (99 : Int))], [])))))))) = true → (((((h1F (vi5, (vi6, (vs7, (vi8, (vl11, (vl12, (vi9, vi10))))))) ((4 : Int), (vi1, (([] : List UInt8), (([] : List UInt8), ([], [])))))) == vc2) && ((h1F (vi5, (vi6, (vs7, (vi8, (vl11, (vl12, (vi9, vi10))))))) ((5 : Int), (vi1, (([] : List UInt8), (([] : List UInt8), ([], [])))))) == vc3)) && ((h1F (vi5, (vi6, (vs7, (vi8, (vl11, (vl12, (vi9, vi10))))))) ((14 : Int), (vi1, (([] : List UInt8), (([] : List UInt8), ([((9 : Int) + vi1, (9 : Int) + vi1)], [])))))) == vc2)) && (!(h1F (vi5, (vi6, (vs7, (vi8, (vl11, (vl12, (vi9, vi10))))))) ((14 : Int), (vi1, (([] : List UInt8), (([] : List UInt8), ([((1 : Int), (8 : Int) + vi1), ((10 : Int) + vi1, (99 : Int))], [])))))))) = true) (some (.p (.bool ((((((h1F (vi5, (vi6, (vs7, (vi8, (vl11, (vl12, (vi9, vi10))))))) ((4 : Int), (vi1, (([] : List UInt8), (([] : List UInt8), ([], [])))))) == vc2) && ((h1F (vi5, (vi6, (vs7, (vi8, (vl11, (vl12, (vi9, vi10))))))) ((5 : Int), (vi1, (([] : List UInt8), (([] : List UInt8), ([], [])))))) == vc3)) && ((h1F (vi5, (vi6, (vs7, (vi8, (vl11, (vl12, (vi9, vi10))))))) ((14 : Int), (vi1, (([] : List UInt8), (([] : List UInt8), ([((9 : Int) + vi1, (9 : Int) + vi1)], [])))))) == vc2)) && (!(h1F (vi5, (vi6, (vs7, (vi8, (vl11, (vl12, (vi9, vi10))))))) ((14 : Int), (vi1, (([] : List UInt8), (([] : List UInt8), ([((1 : Int), (8 : Int) + vi1), ((10 : Int) + vi1, (99 : Int))], [])))))))) && true)), []))))))))))))))))))))))))))))))))))) by kernel_rfl) (need_strike (show (decide (vi4 < (bs.length : Int))) = true → (decide (vi4 < (bs.length : Int))) = true from (fun q0 => q0)) (need_strike (show (decide (vi4 < (bs.length : Int))) = true → (decide (vi4 < (bs.length : Int))) = true from (fun q0 => q0)) (cond_congr (need_congr (cond_congr (need_congr (need_congr (need_congr (need_strike (show (!vc2) = true → (!vc2) = true from (fun q0 => q0)) (need_congr (need_strike (show (!vc2) = true → (!vc2) = true from (fun q0 => q0)) (need_strike (show (!vc2) = true → (!vc2) = true from (fun q0 => q0)) (need_strike (show vc2 = false → (!vc2) = true from (fun q0 => (not_mk q0))) (need_strike (show (!vc3) = true → (!vc3) = true from (fun q0 => q0)) (need_congr (need_strike (show (!vc3) = true → (!vc3) = true from (fun q0 => q0)) (need_strike (show (!vc3) = true → (!vc3) = true from (fun q0 => q0)) (need_strike (show vc3 = false → (!vc3) = true from (fun q0 => (not_mk q0))) (rfl)))))))))))))) (rfl))) (need_congr (need_congr (need_congr (need_congr (need_congr (need_strike (show ((h1F (vi5, (vi6, (vs7, (vi8, (vl11, (vl12, (vi9, vi10))))))) ((4 : Int), (vi1, (([] : List UInt8), (([] : List UInt8), ([], [])))))) == vc2) = true → ((h1F (vi5, (vi6, (vs7, (vi8, (vl11, (vl12, (vi9, vi10))))))) ((4 : Int), (vi1, (([] : List UInt8), (([] : List UInt8), ([], [])))))) == vc2) = true from (fun q0 => q0)) (need_strike (show ((h1F (vi5, (vi6, (vs7, (vi8, (vl11, (vl12, (vi9, vi10))))))) ((4 : Int), (vi1, (([] : List UInt8), (([] : List UInt8), ([], [])))))) == vc2) = true → ((h1F (vi5, (vi6, (vs7, (vi8, (vl11, (vl12, (vi9, vi10))))))) ((4 : Int), (vi1, (([] : List UInt8), (([] : List UInt8), ([], [])))))) == vc2) = true from (fun q0 => q0)) (need_congr (need_strike (show ((h1F (vi5, (vi6, (vs7, (vi8, (vl11, (vl12, (vi9, vi10))))))) ((4 : Int), (vi1, (([] : List UInt8), (([] : List UInt8), ([], [])))))) == vc2) = true → ((h1F (vi5, (vi6, (vs7, (vi8, (vl11, (vl12, (vi9, vi10))))))) ((4 : Int), (vi1, (([] : List UInt8), (([] : List UInt8), ([], [])))))) == vc2) = true from (fun q0 => q0)) (need_congr (need_strike (show ((h1F (vi5, (vi6, (vs7, (vi8, (vl11, (vl12, (vi9, vi10))))))) ((4 : Int), (vi1, (([] : List UInt8), (([] : List UInt8), ([], [])))))) == vc2) = true → ((h1F (vi5, (vi6, (vs7, (vi8, (vl11, (vl12, (vi9, vi10))))))) ((4 : Int), (vi1, (([] : List UInt8), (([] : List UInt8), ([], [])))))) == vc2) = true from (fun q0 => q0)) (need_strike (show ((h1F (vi5, (vi6, (vs7, (vi8, (vl11, (vl12, (vi9, vi10))))))) ((4 : Int), (vi1, (([] : List UInt8), (([] : List UInt8), ([], [])))))) == vc2) = true → ((h1F (vi5, (vi6, (vs7, (vi8, (vl11, (vl12, (vi9, vi10))))))) ((4 : Int), (vi1, (([] : List UInt8), (([] : List UInt8), ([], [])))))) == vc2) = true from (fun q0 => q0)) (need_strike (show ((h1F (vi5, (vi6, (vs7, (vi8, (vl11, (vl12, (vi9, vi10))))))) ((4 : Int), (vi1, (([] : List UInt8), (([] : List UInt8), ([], [])))))) == vc2) = true → ((h1F (vi5, (vi6, (vs7, (vi8, (vl11, (vl12, (vi9, vi10))))))) ((4 : Int), (vi1, (([] : List UInt8), (([] : List UInt8), ([], [])))))) == vc2) = true from (fun q0 => q0)) (need_strike (show (((h1F (vi5, (vi6, (vs7, (vi8, (vl11, (vl12, (vi9, vi10))))))) ((4 : Int), (vi1, (([] : List UInt8), (([] : List UInt8), ([], [])))))) == vc2) && ((h1F (vi5, (vi6, (vs7, (vi8, (vl11, (vl12, (vi9, vi10))))))) ((5 : Int), (vi1, (([] : List UInt8), (([] : List UInt8), ([], [])))))) == vc3)) = true → (((h1F (vi5, (vi6, (vs7, (vi8, (vl11, (vl12, (vi9, vi10))))))) ((4 : Int), (vi1, (([] : List UInt8), (([] : List UInt8), ([], [])))))) == vc2) && ((h1F (vi5, (vi6, (vs7, (vi8, (vl11, (vl12, (vi9, vi10))))))) ((5 : Int), (vi1, (([] : List UInt8), (([] : List UInt8), ([], [])))))) == vc3)) = true from (fun q0 => q0)) (need_strike (show (((h1F (vi5, (vi6, (vs7, (vi8, (vl11, (vl12, (vi9, vi10))))))) ((4 : Int), (vi1, (([] : List UInt8), (([] : List UInt8), ([], [])))))) == vc2) && ((h1F (vi5, (vi6, (vs7, (vi8, (vl11, (vl12, (vi9, vi10))))))) ((5 : Int), (vi1, (([] : List UInt8), (([] : List UInt8), ([], [])))))) == vc3)) = true → (((h1F (vi5, (vi6, (vs7, (vi8, (vl11, (vl12, (vi9, vi10))))))) ((4 : Int), (vi1, (([] : List UInt8), (([] : List UInt8), ([], [])))))) == vc2) && ((h1F (vi5, (vi6, (vs7, (vi8, (vl11, (vl12, (vi9, vi10))))))) ((5 : Int), (vi1, (([] : List UInt8), (([] : List UInt8), ([], [])))))) == vc3)) = true from (fun q0 => q0)) (need_strike (show (((h1F (vi5, (vi6, (vs7, (vi8, (vl11, (vl12, (vi9, vi10))))))) ((4 : Int), (vi1, (([] : List UInt8), (([] : List UInt8), ([], [])))))) == vc2) && ((h1F (vi5, (vi6, (vs7, (vi8, (vl11, (vl12, (vi9, vi10))))))) ((5 : Int), (vi1, (([] : List UInt8), (([] : List UInt8), ([], [])))))) == vc3)) = true → (((h1F (vi5, (vi6, (vs7, (vi8, (vl11, (vl12, (vi9, vi10))))))) ((4 : Int), (vi1, (([] : List UInt8), (([] : List UInt8), ([], [])))))) == vc2) && ((h1F (vi5, (vi6, (vs7, (vi8, (vl11, (vl12, (vi9, vi10))))))) ((5 : Int), (vi1, (([] : List UInt8), (([] : List UInt8), ([], [])))))) == vc3)) = true from (fun q0 => q0)) (need_congr (need_strike (show (((h1F (vi5, (vi6, (vs7, (vi8, (vl11, (vl12, (vi9, vi10))))))) ((4 : Int), (vi1, (([] : List UInt8), (([] : List UInt8), ([], [])))))) == vc2) && ((h1F (vi5, (vi6, (vs7, (vi8, (vl11, (vl12, (vi9, vi10))))))) ((5 : Int), (vi1, (([] : List UInt8), (([] : List UInt8), ([], [])))))) == vc3)) = true → (((h1F (vi5, (vi6, (vs7, (vi8, (vl11, (vl12, (vi9, vi10))))))) ((4 : Int), (vi1, (([] : List UInt8), (([] : List UInt8), ([], [])))))) == vc2) && ((h1F (vi5, (vi6, (vs7, (vi8, (vl11, (vl12, (vi9, vi10))))))) ((5 : Int), (vi1, (([] : List UInt8), (([] : List UInt8), ([], [])))))) == vc3)) = true from (fun q0 => q0)) (need_congr (need_strike (show (((h1F (vi5, (vi6, (vs7, (vi8, (vl11, (vl12, (vi9, vi10))))))) ((4 : Int), (vi1, (([] : List UInt8), (([] : List UInt8), ([], [])))))) == vc2) && ((h1F (vi5, (vi6, (vs7, (vi8, (vl11, (vl12, (vi9, vi10))))))) ((5 : Int), (vi1, (([] : List UInt8), (([] : List UInt8), ([], [])))))) == vc3)) = true → (((h1F (vi5, (vi6, (vs7, (vi8, (vl11, (vl12, (vi9, vi10))))))) ((4 : Int), (vi1, (([] : List UInt8), (([] : List UInt8), ([], [])))))) == vc2) && ((h1F (vi5, (vi6, (vs7, (vi8, (vl11, (vl12, (vi9, vi10))))))) ((5 : Int), (vi1, (([] : List UInt8), (([] : List UInt8), ([], [])))))) == vc3)) = true from (fun q0 => q0)) (need_strike (show (((h1F (vi5, (vi6, (vs7, (vi8, (vl11, (vl12, (vi9, vi10))))))) ((4 : Int), (vi1, (([] : List UInt8), (([] : List UInt8), ([], [])))))) == vc2) && ((h1F (vi5, (vi6, (vs7, (vi8, (vl11, (vl12, (vi9, vi10))))))) ((5 : Int), (vi1, (([] : List UInt8), (([] : List UInt8), ([], [])))))) == vc3)) = true → (((h1F (vi5, (vi6, (vs7, (vi8, (vl11, (vl12, (vi9, vi10))))))) ((4 : Int), (vi1, (([] : List UInt8), (([] : List UInt8), ([], [])))))) == vc2) && ((h1F (vi5, (vi6, (vs7, (vi8, (vl11, (vl12, (vi9, vi10))))))) ((5 : Int), (vi1, (([] : List UInt8), (([] : List UInt8), ([], [])))))) == vc3)) = true from (fun q0 => q0)) (need_strike (show (((h1F (vi5, (vi6, (vs7, (vi8, (vl11, (vl12, (vi9, vi10))))))) ((4 : Int), (vi1, (([] : List UInt8), (([] : List UInt8), ([], [])))))) == vc2) && ((h1F (vi5, (vi6, (vs7, (vi8, (vl11, (vl12, (vi9, vi10))))))) ((5 : Int), (vi1, (([] : List UInt8), (([] : List UInt8), ([], [])))))) == vc3)) = true → (((h1F (vi5, (vi6, (vs7, (vi8, (vl11, (vl12, (vi9, vi10))))))) ((4 : Int), (vi1, (([] : List UInt8), (([] : List UInt8), ([], [])))))) == vc2) && ((h1F (vi5, (vi6, (vs7, (vi8, (vl11, (vl12, (vi9, vi10))))))) ((5 : Int), (vi1, (([] : List UInt8), (([] : List UInt8), ([], [])))))) == vc3)) = true from (fun q0 => q0)) (need_strike (show ((((h1F (vi5, (vi6, (vs7, (vi8, (vl11, (vl12, (vi9, vi10))))))) ((4 : Int), (vi1, (([] : List UInt8), (([] : List UInt8), ([], [])))))) == vc2) && ((h1F (vi5, (vi6, (vs7, (vi8, (vl11, (vl12, (vi9, vi10))))))) ((5 : Int), (vi1, (([] : List UInt8), (([] : List UInt8), ([], [])))))) == vc3)) && ((h1F (vi5, (vi6, (vs7, (vi8, (vl11, (vl12, (vi9, vi10))))))) ((14 : Int), (vi1, (([] : List UInt8), (([] : List UInt8), ([((9 : Int) + vi1, (9 : Int) + vi1)], [])))))) == vc2)) = true → ((((h1F (vi5, (vi6, (vs7, (vi8, (vl11, (vl12, (vi9, vi10))))))) ((4 : Int), (vi1, (([] : List UInt8), (([] : List UInt8), ([], [])))))) == vc2) && ((h1F (vi5, (vi6, (vs7, (vi8, (vl11, (vl12, (vi9, vi10))))))) ((5 : Int), (vi1, (([] : List UInt8), (([] : List UInt8), ([], [])))))) == vc3)) && ((h1F (vi5, (vi6, (vs7, (vi8, (vl11, (vl12, (vi9, vi10))))))) ((14 : Int), (vi1, (([] : List UInt8), (([] : List UInt8), ([((9 : Int) + vi1, (9 : Int) + vi1)], [])))))) == vc2)) = true from (fun q0 => q0)) (need_strike (show ((((h1F (vi5, (vi6, (vs7, (vi8, (vl11, (vl12, (vi9, vi10))))))) ((4 : Int), (vi1, (([] : List UInt8), (([] : List UInt8), ([], [])))))) == vc2) && ((h1F (vi5, (vi6, (vs7, (vi8, (vl11, (vl12, (vi9, vi10))))))) ((5 : Int), (vi1, (([] : List UInt8), (([] : List UInt8), ([], [])))))) == vc3)) && ((h1F (vi5, (vi6, (vs7, (vi8, (vl11, (vl12, (vi9, vi10))))))) ((14 : Int), (vi1, (([] : List UInt8), (([] : List UInt8), ([((9 : Int) + vi1, (9 : Int) + vi1)], [])))))) == vc2)) = true → ((((h1F (vi5, (vi6, (vs7, (vi8, (vl11, (vl12, (vi9, vi10))))))) ((4 : Int), (vi1, (([] : List UInt8), (([] : List UInt8), ([], [])))))) == vc2) && ((h1F (vi5, (vi6, (vs7, (vi8, (vl11, (vl12, (vi9, vi10))))))) ((5 : Int), (vi1, (([] : List UInt8), (([] : List UInt8), ([], [])))))) == vc3)) && ((h1F (vi5, (vi6, (vs7, (vi8, (vl11, (vl12, (vi9, vi10))))))) ((14 : Int), (vi1, (([] : List UInt8), (([] : List UInt8), ([((9 : Int) + vi1, (9 : Int) + vi1)], [])))))) == vc2)) = true from (fun q0 => q0)) (need_strike (show ((((h1F (vi5, (vi6, (vs7, (vi8, (vl11, (vl12, (vi9, vi10))))))) ((4 : Int), (vi1, (([] : List UInt8), (([] : List UInt8), ([], [])))))) == vc2) && ((h1F (vi5, (vi6, (vs7, (vi8, (vl11, (vl12, (vi9, vi10))))))) ((5 : Int), (vi1, (([] : List UInt8), (([] : List UInt8), ([], [])))))) == vc3)) && ((h1F (vi5, (vi6, (vs7, (vi8, (vl11, (vl12, (vi9, vi10))))))) ((14 : Int), (vi1, (([] : List UInt8), (([] : List UInt8), ([((9 : Int) + vi1, (9 : Int) + vi1)], [])))))) == vc2)) = true → ((((h1F (vi5, (vi6, (vs7, (vi8, (vl11, (vl12, (vi9, vi10))))))) ((4 : Int), (vi1, (([] : List UInt8), (([] : List UInt8), ([], [])))))) == vc2) && ((h1F (vi5, (vi6, (vs7, (vi8, (vl11, (vl12, (vi9, vi10))))))) ((5 : Int), (vi1, (([] : List UInt8), (([] : List UInt8), ([], [])))))) == vc3)) && ((h1F (vi5, (vi6, (vs7, (vi8, (vl11, (vl12, (vi9, vi10))))))) ((14 : Int), (vi1, (([] : List UInt8), (([] : List UInt8), ([((9 : Int) + vi1, (9 : Int) + vi1)], [])))))) == vc2)) = true from (fun q0 => q0)) (need_congr (need_strike (show ((((h1F (vi5, (vi6, (vs7, (vi8, (vl11, (vl12, (vi9, vi10))))))) ((4 : Int), (vi1, (([] : List UInt8), (([] : List UInt8), ([], [])))))) == vc2) && ((h1F (vi5, (vi6, (vs7, (vi8, (vl11, (vl12, (vi9, vi10))))))) ((5 : Int), (vi1, (([] : List UInt8), (([] : List UInt8), ([], [])))))) == vc3)) && ((h1F (vi5, (vi6, (vs7, (vi8, (vl11, (vl12, (vi9, vi10))))))) ((14 : Int), (vi1, (([] : List UInt8), (([] : List UInt8), ([((9 : Int) + vi1, (9 : Int) + vi1)], [])))))) == vc2)) = true → ((((h1F (vi5, (vi6, (vs7, (vi8, (vl11, (vl12, (vi9, vi10))))))) ((4 : Int), (vi1, (([] : List UInt8), (([] : List UInt8), ([], [])))))) == vc2) && ((h1F (vi5, (vi6, (vs7, (vi8, (vl11, (vl12, (vi9, vi10))))))) ((5 : Int), (vi1, (([] : List UInt8), (([] : List UInt8), ([], [])))))) == vc3)) && ((h1F (vi5, (vi6, (vs7, (vi8, (vl11, (vl12, (vi9, vi10))))))) ((14 : Int), (vi1, (([] : List UInt8), (([] : List UInt8), ([((9 : Int) + vi1, (9 : Int) + vi1)], [])))))) == vc2)) = true from (fun q0 => q0)) (need_congr (need_strike (show ((((h1F (vi5, (vi6, (vs7, (vi8, (vl11, (vl12, (vi9, vi10))))))) ((4 : Int), (vi1, (([] : List UInt8), (([] : List UInt8), ([], [])))))) == vc2) && ((h1F (vi5, (vi6, (vs7, (vi8, (vl11, (vl12, (vi9, vi10))))))) ((5 : Int), (vi1, (([] : List UInt8), (([] : List UInt8), ([], [])))))) == vc3)) && ((h1F (vi5, (vi6, (vs7, (vi8, (vl11, (vl12, (vi9, vi10))))))) ((14 : Int), (vi1, (([] : List UInt8), (([] : List UInt8), ([((9 : Int) + vi1, (9 : Int) + vi1)], [])))))) == vc2)) = true → ((((h1F (vi5, (vi6, (vs7, (vi8, (vl11, (vl12, (vi9, vi10))))))) ((4 : Int), (vi1, (([] : List UInt8), (([] : List UInt8), ([], [])))))) == vc2) && ((h1F (vi5, (vi6, (vs7, (vi8, (vl11, (vl12, (vi9, vi10))))))) ((5 : Int), (vi1, (([] : List UInt8), (([] : List UInt8), ([], [])))))) == vc3)) && ((h1F (vi5, (vi6, (vs7, (vi8, (vl11, (vl12, (vi9, vi10))))))) ((14 : Int), (vi1, (([] : List UInt8), (([] : List UInt8), ([((9 : Int) + vi1, (9 : Int) + vi1)], [])))))) == vc2)) = true from (fun q0 => q0)) (need_strike (show ((((h1F (vi5, (vi6, (vs7, (vi8, (vl11, (vl12, (vi9, vi10))))))) ((4 : Int), (vi1, (([] : List UInt8), (([] : List UInt8), ([], [])))))) == vc2) && ((h1F (vi5, (vi6, (vs7, (vi8, (vl11, (vl12, (vi9, vi10))))))) ((5 : Int), (vi1, (([] : List UInt8), (([] : List UInt8), ([], [])))))) == vc3)) && ((h1F (vi5, (vi6, (vs7, (vi8, (vl11, (vl12, (vi9, vi10))))))) ((14 : Int), (vi1, (([] : List UInt8), (([] : List UInt8), ([((9 : Int) + vi1, (9 : Int) + vi1)], [])))))) == vc2)) = true → ((((h1F (vi5, (vi6, (vs7, (vi8, (vl11, (vl12, (vi9, vi10))))))) ((4 : Int), (vi1, (([] : List UInt8), (([] : List UInt8), ([], [])))))) == vc2) && ((h1F (vi5, (vi6, (vs7, (vi8, (vl11, (vl12, (vi9, vi10))))))) ((5 : Int), (vi1, (([] : List UInt8), (([] : List UInt8), ([], [])))))) == vc3)) && ((h1F (vi5, (vi6, (vs7, (vi8, (vl11, (vl12, (vi9, vi10))))))) ((14 : Int), (vi1, (([] : List UInt8), (([] : List UInt8), ([((9 : Int) + vi1, (9 : Int) + vi1)], [])))))) == vc2)) = true from (fun q0 => q0)) (need_strike (show (((((h1F (vi5, (vi6, (vs7, (vi8, (vl11, (vl12, (vi9, vi10))))))) ((4 : Int), (vi1, (([] : List UInt8), (([] : List UInt8), ([], [])))))) == vc2) && ((h1F (vi5, (vi6, (vs7, (vi8, (vl11, (vl12, (vi9, vi10))))))) ((5 : Int), (vi1, (([] : List UInt8), (([] : List UInt8), ([], [])))))) == vc3)) && ((h1F (vi5, (vi6, (vs7, (vi8, (vl11, (vl12, (vi9, vi10))))))) ((14 : Int), (vi1, (([] : List UInt8), (([] : List UInt8), ([((9 : Int) + vi1, (9 : Int) + vi1)], [])))))) == vc2)) && (!(h1F (vi5, (vi6, (vs7, (vi8, (vl11, (vl12, (vi9, vi10))))))) ((14 : Int), (vi1, (([] : List UInt8), (([] : List UInt8), ([((1 : Int), (8 : Int) + vi1), ((10 : Int) + vi1, (99 : Int))], [])))))))) = true → (((((h1F (vi5, (vi6, (vs7, (vi8, (vl11, (vl12, (vi9, vi10))))))) ((4 : Int), (vi1, (([] : List UInt8), (([] : List UInt8), ([], [])))))) == vc2) && ((h1F (vi5, (vi6, (vs7, (vi8, (vl11, (vl12, (vi9, vi10))))))) ((5 : Int), (vi1, (([] : List UInt8), (([] : List UInt8), ([], [])))))) == vc3)) && ((h1F (vi5, (vi6, (vs7, (vi8, (vl11, (vl12, (vi9, vi10))))))) ((14 : Int), (vi1, (([] : List UInt8), (([] : List UInt8), ([((9 : Int) + vi1, (9 : Int) + vi1)], [])))))) == vc2)) && (!(h1F (vi5, (vi6, (vs7, (vi8, (vl11, (vl12, (vi9, vi10))))))) ((14 : Int), (vi1, (([] : List UInt8), (([] : List UInt8), ([((1 : Int), (8 : Int) + vi1), ((10 : Int) + vi1, (99 : Int))], [])))))))) = true from (fun q0 => q0)) (rfl)))))))))))))))))))))))))))))))))))

theorem Bboxes_2_eq (F f1 : Nat) (bs : List Bool) (vi1 : Int) (vc13 vc14 : Bool) (vi4 vi15 vi16 : Int) (vs17 : List UInt8) (vi18 vi19 vi20 : Int) (vl21 : List (List UInt8)) (vl22 : List (Int × Int)) : Bboxes_2 F f1 bs vi1 vc13 vc14 vi4 vi15 vi16 vs17 vi18 vi19 vi20 vl21 vl22 = need (i64ok (vi4 + (1 : Int))) (Bboxes_1 F f1 bs vi1 vc13 vc14 (vi4 + (1 : Int)) vi15 vi16 vs17 vi18 vi19 vi20 vl21 vl22) := by kernel_rfl

theorem Fboxes_eq (F : Nat) (bs : List Bool) (n : Int) : Fboxes F bs n = (need (i64ok ((1 : Int) + (n.tmod (9 : Int)))) (Bboxes_1 F F bs ((1 : Int) + (n.tmod (9 : Int))) false false (0 : Int) (1 : Int) (0 : Int) ([] : List UInt8) (0 : Int) (0 : Int) (0 : Int) ([] : List (List UInt8)) ([] : List (Int × Int)))) := by
  have h : Fboxes F bs n = need ((9 : Int) ≠ 0) (need (i64ok ((1 : Int) + (n.tmod (9 : Int)))) (Bboxes_1 F F bs ((1 : Int) + (n.tmod (9 : Int))) false false (0 : Int) (1 : Int) (0 : Int) ([] : List UInt8) (0 : Int) (0 : Int) (0 : Int) ([] : List (List UInt8)) ([] : List (Int × Int)))) := by kernel_rfl
  rw [h, need_pos (show (9 : Int) ≠ 0 from (by decide))]

theorem fn_boxes (F : Nat) (bs : List Bool) (n : Int) (r : AV) (h : (∃ M vs, ARels γ0 M [.p (.list 1 (.dat .bool bs)), .p (.int .u8 n)] vs) → Fboxes F bs n = some (r, [])) : FnP Tryz.prog 6 [.p (.list 1 (.dat .bool bs)), .p (.int .u8 n)] r :=
  FnP_run Gboxes F rfl (EnvOk_mk (l := [(11, sp_awake), (12, sp_holds1)]) ⟨ok_awake.any, ok_holds1.any, trivial⟩) (EnvROk_mk (l := []) trivial) (Checked.mixed Tryz.checked) (fn := Tryz.f6) (by kernel_rfl) (by kernel_rfl) rfl h
theorem boxes_end (F f : Nat) (bs : List Bool) (k i : Int) (M : List (Int × Int)) (hk : 1 ≤ k) (hk9 : k ≤ 9) (hi : (decide (i < (bs.length : Int)) && decide (i < (9 : Int))) = false)
    (hM : ∀ x ∈ M, 1 ≤ x.1 ∧ x.1 ≤ 9 ∧ x.2 = x.1 + 9) (hl : M.length ≤ 9) :
    Bboxes_1 F (f + 1) bs k (M.any fun x => x.1 == k) (M.any fun x => x.1 != k) i 1 0 [] 0 0 0 [] M = some (.p (.bool true), []) := by
  have ok : ∀ (q : Int) (st : List (Int × Int)), st.length ≤ 1000000 → kind1 q = true → h1ok ((1 : Int), ((0 : Int), (([] : List UInt8), ((0 : Int), ([], (M, ((0 : Int), (0 : Int)))))))) (q, (k, (([] : List UInt8), (([] : List UInt8), (st, []))))) := fun q st hs hq => h1ok1 _ q k [] [] st (by simp) (by show M.length ≤ _; omega) hs hq
  have any_eq : ∀ (p q : Int × Int → Bool), (∀ x ∈ M, p x = q x) → M.any p = M.any q := by
    intro p q h
    rw [Bool.eq_iff_iff, List.any_eq_true, List.any_eq_true]
    exact ⟨fun ⟨x, h1, h2⟩ => ⟨x, h1, by rw [← h x h1]; exact h2⟩, fun ⟨x, h1, h2⟩ => ⟨x, h1, by rw [h x h1]; exact h2⟩⟩
  have e4 : h1F ((1 : Int), ((0 : Int), (([] : List UInt8), ((0 : Int), ([], (M, ((0 : Int), (0 : Int)))))))) ((4 : Int), (k, (([] : List UInt8), (([] : List UInt8), ([], []))))) = M.any fun x => x.1 == k := by
    rw [h1F_eq _ _ _ _ _ _ (by decide) (by decide)]
    exact any_eq (inP k false) _ fun x hx => by unfold inP; simp
  have e5 : h1F ((1 : Int), ((0 : Int), (([] : List UInt8), ((0 : Int), ([], (M, ((0 : Int), (0 : Int)))))))) ((5 : Int), (k, (([] : List UInt8), (([] : List UInt8), ([], []))))) = M.any fun x => x.1 != k := by
    rw [h1F_eq _ _ _ _ _ _ (by decide) (by decide)]
    exact any_eq (inP k true) _ fun x hx => by unfold inP; cases h : x.1 == k <;> simp [bne, h]
  have eu : ∀ st : List (Int × Int), h1F ((1 : Int), ((0 : Int), (([] : List UInt8), ((0 : Int), ([], (M, ((0 : Int), (0 : Int)))))))) ((14 : Int), (k, (([] : List UInt8), (([] : List UInt8), (st, []))))) = M.any (wiP k st) := fun st => by
    rw [h1F_eq _ _ _ _ _ _ (by decide) (by decide)]; rfl
  have e14 : M.any (wiP k [((9 : Int) + k, (9 : Int) + k)]) = M.any fun x => x.1 == k := any_eq _ _ fun x hx => by
    obtain ⟨h1, h2, h3⟩ := hM x hx
    unfold wiP uP
    by_cases h : x.1 = k
    · simp only [List.any_cons, List.any_nil, Bool.or_false, h3, h]
      have : decide (k + 9 ≥ 9 + k) = true := by simp; omega
      have h' : decide (k + 9 ≤ 9 + k) = true := by simp; omega
      rw [this, h']; simp
    · have : (x.1 == k) = false := by simpa using h
      rw [this]; simp
  have e14b : M.any (wiP k [((1 : Int), (8 : Int) + k), ((10 : Int) + k, (99 : Int))]) = false := by
    rw [any_eq _ (fun _ => false) fun x hx => ?_]
    · simp
    · obtain ⟨h1, h2, h3⟩ := hM x hx
      unfold wiP uP
      by_cases h : x.1 = k
      · simp only [List.any_cons, List.any_nil, Bool.or_false, h3, h]
        have h5 : decide (k + 9 ≤ 8 + k) = false := by simp; omega
        have h6 : decide (k + 9 ≥ 10 + k) = false := by simp; omega
        rw [h5, h6]; simp
      · have : (x.1 == k) = false := by simpa using h
        rw [this]; simp
  rw [Bboxes_1_eq]
  refine cond_f hi ?_
  refine need_mk ⟨by omega, by omega⟩ (need_mk ⟨by omega, by omega⟩ (need_mk ⟨by omega, by omega⟩ (need_mk ⟨by omega, by omega⟩ ?_)))
  iterate 10 (first
    | refine need_mk (ok _ _ (by simp) rfl) ?_
    | refine need_mk (fun _ => ok _ _ (by simp) rfl) ?_
    | refine need_mk (by simp only [e4, e5, eu, e14, beq_self_eq_true, Bool.and_self]) ?_
    | skip)
  simp only [e4, e5, eu, e14, e14b, beq_self_eq_true, Bool.and_self, Bool.not_false]
theorem boxes_loop (F : Nat) (bs : List Bool) (k : Int) (hk : 1 ≤ k) (hk9 : k ≤ 9) : ∀ (r : List Bool) (i : Nat) (M : List (Int × Int)), (bs.take 9).drop i = r → i + r.length = (bs.take 9).length →
    (∀ x ∈ M, 1 ≤ x.1 ∧ x.1 ≤ 9 ∧ x.2 = x.1 + 9) → M.length ≤ i →
    Bboxes_1 F (r.length + 1) bs k (M.any fun x => x.1 == k) (M.any fun x => x.1 != k) i 1 0 [] 0 0 0 [] M = some (.p (.bool true), [])
  | [], i, M, hd, hl, hM, hm => by
    have hl : i = (bs.take 9).length := by simpa using hl
    rw [List.length_take] at hl
    refine boxes_end F 0 bs k i M hk hk9 ?_ hM (by omega)
    rw [Bool.and_eq_false_iff, decide_eq_false_iff_not, decide_eq_false_iff_not]
    omega
  | b :: r, i, M, hd, hl, hM, hm => by
    have hl2 := hl
    rw [List.length_take, List.length_cons] at hl2
    have hb : bs.getD i false = b := by
      have h := congrArg List.head? hd
      rw [List.head?_drop, List.getElem?_take] at h
      rw [if_pos (by omega)] at h
      rw [List.getD_eq_getElem?_getD, h]; rfl
    have hr : (bs.take 9).drop (i + 1) = r := by rw [← List.tail_drop, hd]; rfl
    have hr2 : i + 1 + r.length = (bs.take 9).length := by rw [← hl, List.length_cons]; omega
    rw [List.length_cons, Bboxes_1_eq]
    refine cond_t (by simp; omega) (need_mk ⟨by omega, by omega⟩ ?_)
    rw [show ((i : Int)).toNat = i by omega, hb]
    cases b with
    | true =>
      refine cond_t rfl ?_
      refine need_mk ⟨by omega, by omega⟩ (need_mk ⟨by omega, by omega⟩ (need_mk (by simp; omega) (need_mk (fun _ => ⟨by omega, by omega⟩) (need_mk (fun _ => ⟨by omega, by omega⟩) ?_))))
      rw [Bboxes_2_eq]
      refine need_mk ⟨by omega, by omega⟩ ?_
      have h := boxes_loop F bs k hk hk9 r (i + 1) (M ++ [((i : Int) + (1 : Int), (10 : Int) + (i : Int))]) hr hr2 (fun x hx => by
        rcases List.mem_append.1 hx with hx | hx
        · exact hM x hx
        · rw [List.mem_singleton.1 hx]; simp; omega) (by simp; omega)
      rw [List.any_append, List.any_append] at h
      simp only [List.any_cons, List.any_nil, Bool.or_false] at h
      rw [show ((i : Int) + 1) = ((i + 1 : Nat) : Int) by omega] at h ⊢
      exact h
    | false =>
      refine cond_f rfl ?_
      rw [Bboxes_2_eq]
      refine need_mk ⟨by omega, by omega⟩ ?_
      rw [show ((i : Int) + 1) = ((i + 1 : Nat) : Int) by omega]
      have h := boxes_loop F bs k hk hk9 r (i + 1) M hr hr2 hM (by omega)
      exact h
theorem boxes_eq (bs : List Bool) (n : Int) (h : 0 ≤ n ∧ n ≤ 255) : Fboxes ((bs.take 9).length + 1) bs n = some (.p (.bool true), []) := by
  obtain ⟨h0, h1⟩ := h
  have hr : n.tmod 9 = n % 9 := Int.tmod_eq_emod_of_nonneg h0
  rw [Fboxes_eq, hr]
  refine need_mk ⟨by omega, by omega⟩ ?_
  exact boxes_loop _ bs (1 + n % 9) (by omega) (by omega) (bs.take 9) 0 [] rfl (by simp) (fun x hx => by cases hx) (Nat.zero_le _)
end Go.Proofs.YtampckbjinodgaaGreatDoor
/-! Slices among the arguments of a row. -/
namespace Go.Am
open Go Go.RowKit Go.ChangeShapes Go.WideShapes

def memOf (w : World) : Mem := fun b o => w.cell? ⟨b, o, none⟩
theorem memOf_ok (w : World) (hg : GOk (memOf w)) : MOk (memOf w) w := ⟨fun _ _ _ h => h, hg⟩

/-- Types whose cells say a code's datum; the fields of a struct from an offset on. -/
inductive EcX (P : Program) : Ec → TypeId ⊕ (List Field × Nat) → Prop
  | bool {t : TypeId} (h : P.underlying t = some .bool) : EcX P .bool (.inl t)
  | int {k : IntKind} {t : TypeId} (h : P.underlying t = some (.int k)) : EcX P (.int k) (.inl t)
  | str {t : TypeId} (h : P.underlying t = some .string) : EcX P .str (.inl t)
  | struct {t : TypeId} {fs : Array Field} {l : List Field} {c : Ec} (h : P.underlying t = some (.struct fs)) (hl : fs.toList = l) (hc : P.cellsOf t = wid c) (hf : EcX P c (.inr (l, 0))) : EcX P c (.inl t)
  | last {c : Ec} {f : Field} {o : Nat} (ho : f.offset = o) (hc : P.cellsOf f.type = wid c) (h : EcX P c (.inl f.type)) : EcX P c (.inr ([f], o))
  | cons {a b : Ec} {f : Field} {fs : List Field} {o o2 : Nat} (ho : f.offset = o) (hc : P.cellsOf f.type = wid a) (h : EcX P a (.inl f.type)) (h2 : o2 = o + wid a) (hr : EcX P b (.inr (fs, o2))) : EcX P (.pair a b) (.inr (f :: fs, o))

/-- The lengths of the texts in a datum. -/
def lensB : (c : Ec) → Elt c → List Nat
  | .str, x => [List.length (α := UInt8) x]
  | .pair a b, x => lensB a x.1 ++ lensB b x.2
  | _, _ => []

section
variable {H : Type} {enc : TypeId × Value → H} {P : Program} {w : World} {spare : Nat → Bool} {held : Bool} {M : Mem}

theorem weightsEach_mem : ∀ {ts : List TypeId} {ds : List (DataW H)} {i : Nat} {t : TypeId} {d : DataW H} {n : Nat}, ts[i]? = some t → ds[i]? = some d → n ∈ d.weights P t → n ∈ DataW.weightsEach P ts ds
  | [], _, _, _, _, _, h, _, _ => by simp at h
  | _ :: _, [], _, _, _, _, _, h, _ => by simp at h
  | u :: ts, e :: ds, 0, t, d, n, h1, h2, h3 => by
    simp at h1 h2; subst h1; subst h2
    rw [DataW.weightsEach]; exact List.mem_append_left _ h3
  | u :: ts, e :: ds, i + 1, t, d, n, h1, h2, h3 => by
    rw [DataW.weightsEach]; exact List.mem_append_right _ (weightsEach_mem (by simpa using h1) (by simpa using h2) h3)
theorem weightsAll_mem {e : TypeId} : ∀ {ds : List (DataW H)} {d : DataW H} {n : Nat}, d ∈ ds → n ∈ d.weights P e → n ∈ DataW.weightsAll P e ds
  | [], _, _, h, _ => by cases h
  | d' :: ds, d, n, h, hn => by
    rw [DataW.weightsAll]
    rcases List.mem_cons.1 h with h | h
    · subst h; exact List.mem_append_left _ hn
    · exact List.mem_append_right _ (weightsAll_mem h hn)

theorem open_ec {c : Ec} {x : TypeId ⊕ (List Field × Nat)} (h : EcX P c x) : match x with
  | .inl t => ∀ (fuel : Nat) (cs : List Value) (y : DataW H × List MemPlace), DataW.trod enc P w 0 spare held fuel t cs = some y → ∃ d : Elt c, (∀ j, j < wid c → PRel M (cell c d j) (cs.getD j undef)) ∧ ∀ n ∈ lensB c d, n ∈ y.1.weights P t
  | .inr (fs, o) => ∀ (fuel : Nat) (cs : List Value), (∀ f ∈ fs, ∃ y, DataW.trod enc P w 0 spare held fuel f.type ((cs.drop f.offset).take (P.cellsOf f.type)) = some y) →
      ∃ d : Elt c, (∀ j, j < wid c → PRel M (cell c d j) (cs.getD (o + j) undef)) ∧ ∀ n ∈ lensB c d, ∃ f ∈ fs, ∃ y, DataW.trod enc P w 0 spare held fuel f.type ((cs.drop f.offset).take (P.cellsOf f.type)) = some y ∧ n ∈ y.1.weights P f.type := by
  induction h with
  | bool h =>
    intro fuel cs y hy
    obtain ⟨b, rfl, _⟩ := DataW.trod_bool h hy
    exact ⟨b, fun j hj => by have : j = 0 := by (have := hj; simp only [wid] at this; omega)
                             subst this; exact .bool b, fun n hn => by cases hn⟩
  | int h =>
    intro fuel cs y hy
    obtain ⟨n, rfl, _, hw⟩ := DataW.trod_int h hy
    exact ⟨n, fun j hj => by have : j = 0 := by (have := hj; simp only [wid] at this; omega)
                             subst this; exact .int _ n (has_wf hw), fun n hn => by cases hn⟩
  | str h =>
    intro fuel cs y hy
    obtain ⟨s, rfl, hy', hw⟩ := DataW.trod_string h hy
    refine ⟨s.data.toList, fun j hj => by have : j = 0 := by (have := hj; simp only [wid] at this; omega)
                                          subst this; exact .str s.data.toList (by rw [Array.length_toList]; exact hw), fun n hn => ?_⟩
    subst hy'
    rw [DataW.weights]; exact hn
  | struct h hl hc hf ih =>
    intro fuel cs y hy
    obtain ⟨xs, n, rfl, hy', hlen, hxs, hall⟩ := DataW.trod_struct h hy
    rename_i t fs l c
    have hgo : ∀ f ∈ l, ∃ (i : Nat) (hi : i < xs.length), fs.toList[i]? = some f ∧ DataW.trod enc P w 0 spare held n f.type ((cs.drop f.offset).take (P.cellsOf f.type)) = some xs[i] := fun f hf => by
      rw [← hl] at hf
      obtain ⟨i, hi⟩ := List.getElem?_of_mem hf
      have hi' := hi
      rw [Array.getElem?_toList] at hi'
      have hlt : i < xs.length := by
        rw [hxs]
        have := (List.getElem?_eq_some_iff.1 hi).1
        simpa using this
      have := hall i f hi'
      rw [List.getElem?_eq_getElem hlt] at this
      exact ⟨i, hlt, hi, this⟩
    obtain ⟨d, hd, hw⟩ := ih n cs fun f hf => by
      obtain ⟨i, hi, _, h2⟩ := hgo f hf
      exact ⟨_, h2⟩
    refine ⟨d, fun j hj => by have := hd j hj; rwa [Nat.zero_add] at this, fun k hk => ?_⟩
    obtain ⟨f, hf, y2, h2, h3⟩ := hw k hk
    obtain ⟨i, hi, h4, h5⟩ := hgo f hf
    rw [h5] at h2; cases h2
    subst hy'
    rw [DataW.weights, h]
    refine weightsEach_mem (i := i) (t := f.type) (d := xs[i].1) ?_ ?_ h3
    · rw [List.getElem?_map, h4]; rfl
    · rw [List.getElem?_map, List.getElem?_eq_getElem hi]; rfl
  | last ho hc h ih =>
    intro fuel cs hall
    obtain ⟨y, hy⟩ := hall _ (List.mem_singleton.2 rfl)
    obtain ⟨d, hd, hw⟩ := ih fuel _ y hy
    refine ⟨d, fun j hj => ?_, fun n hn => ⟨_, List.mem_singleton.2 rfl, y, hy, hw n hn⟩⟩
    have := hd j hj
    rw [List.getD_eq_getElem?_getD, List.getElem?_take_of_lt (by rw [hc]; exact hj), List.getElem?_drop, ho, ← List.getD_eq_getElem?_getD] at this
    exact this
  | cons ho hc h h2 hr ih ihr =>
    intro fuel cs hall
    obtain ⟨y, hy⟩ := hall _ (List.mem_cons_self ..)
    obtain ⟨d, hd, hw⟩ := ih fuel _ y hy
    obtain ⟨d2, hd2, hw2⟩ := ihr fuel cs fun f hf => hall f (List.mem_cons_of_mem _ hf)
    rename_i a b f fs o o2
    refine ⟨(d, d2), fun j hj => ?_, fun n hn => ?_⟩
    · simp only [cell]
      cases hlt : Nat.blt j (wid a) with
      | true =>
        have hlt : j < wid a := Nat.le_of_ble_eq_true hlt
        have := hd j hlt
        rw [List.getD_eq_getElem?_getD, List.getElem?_take_of_lt (by rw [hc]; exact hlt), List.getElem?_drop, ho, ← List.getD_eq_getElem?_getD] at this
        exact this
      | false =>
        have hge : wid a ≤ j := by
          rcases Nat.lt_or_ge j (wid a) with h5 | h5
          · have : Nat.blt j (wid a) = true := Nat.ble_eq_true_of_le h5
            rw [this] at hlt; cases hlt
          · exact h5
        have hj' : j < wid a + wid b := hj
        have := hd2 (j - wid a) (by omega)
        rw [h2, show o + wid a + (j - wid a) = o + j by omega] at this
        exact this
    · rcases List.mem_append.1 hn with hn | hn
      · exact ⟨f, List.mem_cons_self .., y, hy, hw n hn⟩
      · obtain ⟨f', hf', y', h1, h2⟩ := hw2 n hn
        exact ⟨f', List.mem_cons_of_mem _ hf', y', h1, h2⟩

theorem spot_add {b off n : Nat} : (⟨b, off, none⟩ : Addr).add n = ⟨b, off + n, none⟩ := by
  unfold Addr.add
  split
  · rename_i h; subst h; rfl
  · rfl

theorem okWide_spot {r : Reach} {b0 : Nat} {t e : TypeId} {a : Addr} {len cap : Nat} (ht : P.underlying t = some (.slice e)) (h : Value.okWide P w r b0 t (.slice (some a) len cap)) : a.spot = none := by
  unfold Value.okWide at h
  rw [ht] at h
  simp only [Cell.okWide, Cell.ok, ht] at h
  exact h.2.2.2.1

theorem open_list {r : Reach} {b0 : Nat} {t e : TypeId} {a : Ec} {v : Value} {d : DataW H} {ps : List MemPlace} (ht : P.underlying t = some (.slice e)) (hc : P.cellsOf e = wid a) (ha : EcX P a (.inl e))
    (hval : Value.okWide P w r b0 t v) (hd : DataW.Trod enc P w 0 spare held t v d ps) : ∃ l : List (Elt a), ARel γ0 (memOf w) (.p (.list (wid a) (.dat a l))) v ∧ (∀ x ∈ l, ∀ n ∈ lensB a x, n ∈ d.weights P t) ∧ (l ≠ [] → ∃ m, l.length ≤ m ∧ m * P.bytesOf e ∈ d.weights P t) := by
  obtain ⟨a0, len, cap, rfl⟩ := okWide_slice ht hval
  obtain ⟨fuel, hf⟩ := hd
  rcases Go.Deep.open_slice ht hf with ⟨h0, _⟩ | ⟨q, len', cap', m, n, D, Pl, h0, hb, hl, hm, hmm, hdd, hx⟩
  · simp only [Value.cells, List.cons.injEq, Value.slice.injEq, and_true] at h0
    obtain ⟨rfl, rfl, rfl⟩ := h0
    exact ⟨[], .p _ _ (.listNil _ _ rfl), fun x hx => (by cases hx), fun h => absurd rfl h⟩
  · simp only [Value.cells, List.cons.injEq, Value.slice.injEq, and_true] at h0
    obtain ⟨rfl, rfl, rfl⟩ := h0
    have hspot := okWide_spot ht hval
    obtain ⟨bl, off, sp⟩ := q
    dsimp only at hspot
    subst hspot
    have hlm : len ≤ m := by rw [hmm]; split <;> omega
    obtain ⟨cs, hcs⟩ := Go.Deep.choose_lt (α := List Value) (p := fun i cs' => w.cells? 0 ((⟨bl, off, none⟩ : Addr).add (i * P.cellsOf e)) (P.cellsOf e) = some cs' ∧ DataW.trod enc P w 0 spare held n e cs' = some (D i, Pl i)) hx
    have hex : ∀ i, i < m → ∃ d : Elt a, (∀ j, j < wid a → PRel (memOf w) (cell a d j) ((cs i).getD j undef)) ∧ ∀ k ∈ lensB a d, k ∈ (D i).weights P e := fun i hi => open_ec ha n (cs i) _ (hcs i hi).2
    letI : Inhabited (Elt a) := ⟨dfl a⟩
    obtain ⟨E, hE⟩ := Go.Deep.choose_lt hex
    have hlen : ((List.range len).map E).length = len := by simp
    have hd1 : d = .slice ((List.range len).map D) ((List.range (m - len)).map fun j => D (len + j)) := congrArg Prod.fst hdd
    have hwd : d.weights P t = (((List.range len).map D).length + ((List.range (m - len)).map fun j => D (len + j)).length) * P.bytesOf e :: (DataW.weightsAll P e ((List.range len).map D) ++ DataW.weightsAll P e ((List.range (m - len)).map fun j => D (len + j))) := by
      rw [hd1, DataW.weights, ht]
    refine ⟨(List.range len).map E, ?_, fun x hx k hk => ?_, fun _ => ⟨_, ?_, by rw [hwd]; exact List.mem_cons_self ..⟩⟩
    rotate_left
    · obtain ⟨i, hi, rfl⟩ := List.mem_map.1 hx
      have hi := List.mem_range.1 hi
      rw [hwd]
      refine List.mem_cons_of_mem _ (List.mem_append_left _ (weightsAll_mem (d := D i) (List.mem_map.2 ⟨i, List.mem_range.2 hi, rfl⟩) ((hE i (by omega)).2 k hk)))
    · simp
    have hget : ∀ i, i < len → ((List.range len).map E).getD i (dfl a) = E i := fun i hi => by
      rw [List.getD_eq_getElem?_getD, List.getElem?_map, List.getElem?_range hi]; rfl
    have key : PRel (memOf w) (.list (wid a) (.dat a ((List.range len).map E))) (.slice (some ⟨bl, off, none⟩) (Rows.dat a ((List.range len).map E)).n cap) := by
      refine .list _ _ bl off cap (fun i j => (cs i).getD j undef) ?_ ?_ (fun i j hi hj => ?_) (fun i j hi hj => ?_)
      · show ((List.range len).map E).length ≤ maxLen
        rw [hlen]; exact Nat.le_trans hl hm
      · show ((List.range len).map E).length ≤ cap
        rw [hlen]; exact hl
      · have hi' : i < len := by have : i < ((List.range len).map E).length := hi
                                 rwa [hlen] at this
        obtain ⟨_, h2, h3⟩ := World.cells?_some (hcs i (by omega)).1
        have := h3 j (by rw [hc]; exact hj)
        rw [spot_add, spot_add, hc] at this
        show w.cell? ⟨bl, off + i * wid a + j, none⟩ = _
        rw [this, List.getD_eq_getElem?_getD, List.getElem?_eq_getElem (by rw [h2, hc]; exact hj)]
        rfl
      · have hi' : i < len := by have : i < ((List.range len).map E).length := hi
                                 rwa [hlen] at this
        show PRel _ (cell a (((List.range len).map E).getD i (dfl a)) j) _
        rw [hget i hi']
        exact (hE i (by omega)).1 j hj
    have hn : (Rows.dat a ((List.range len).map E)).n = len := hlen
    rw [hn] at key
    exact .p _ _ key
end

theorem walk_of_FnP2 {P : Program} {f : FuncId} {args : List AV} (h : FnP P f args (.p (.bool true))) {vs : List Value} (w : World) (hg : GOk (memOf w)) (hv : ARels γ0 (memOf w) args vs) :
    Calls P f vs.toArray w fun e w' => e = .returned (.bool true) ∧ Below w.heap.size w w' := by
  refine (h (memOf w) w vs (memOf_ok w hg) hv).mono fun e w' ⟨v, M', he, _, _, _, hr, hb⟩ => ?_
  rw [hr.bool_inv] at he
  exact ⟨he, hb⟩
theorem str_argM (M : Mem) (a : ByteArray) (h : a.size ≤ maxLen) : ARel γ0 M (.p (.str a.data.toList)) (.string a) :=
  .p _ _ (.str a.data.toList (by rw [Array.length_toList]; exact h))
theorem int_argM (M : Mem) {k : IntKind} {n : Int} (h : k.has n) : ARel γ0 M (.p (.int k n)) (.int k n) := .p _ _ (.int k n h)
theorem bool_argM (M : Mem) (b : Bool) : ARel γ0 M (.p (.bool b)) (.bool b) := .p _ _ (.bool b)
end Go.Am
set_option linter.unusedVariables false
/-! The row's wrap, with what the world's shape says of the globals. -/
namespace Go.Am
open Go Go.RowKit Go.ChangeShapes Go.WideShapes Go.ChangeAt
variable {H : Type} {enc : TypeId × Value → H}
theorem returns_shaped {a : Assume} {C : Checked} {os : Os} {f : FuncId} {fn : Func} {s : ChangeSpec} {conds : List PathCond} {apart fresh handsOn again : Bool} {X : World → Array Value → Prop}
    (own : ownKnob C.prog.godebug = none) (started : os.Started) (noInit : C.prog.inits.idxOf? f = none) (hfn : C.prog.funcs[f]? = some fn)
    (witness : ∃ (w : World) (tape : Tape) (i : Input), w.os = os ∧ (w.forCall tape i).Shaped C.prog ∧ i.vars = [] ∧ Input.okWide C.prog (w.forCall tape i) .any w.heap.size f i ∧
      ((s.pre enc C.prog fn conds apart (w.forCall tape i).memory i.args ∧ X (w.forCall tape i).memory i.args) ∧ sizedMet enc C.prog fn (OpenSpec.ofChange s) apart (w.forCall tape i).memory i.args) ∧ a.holds C.prog (lone (Frame.enter C.prog f i.args .normal) [] (w.forCall tape i)))
    (contract : ∀ (W : World) (base : Nat) (args : Array Value) (ds gs : List (DataW H)) (before : List MemPlace), W.ShapedOpen C.prog →
      (∀ (j : Nat) t v, fn.params[j]? = some t → args[j]? = some v → Value.okWide C.prog W .any base t v) →
      DataW.Whole enc C.prog fn.params.toList s.vars apart W args.toList ds gs before →
      (DataW.weightsEach C.prog (fn.params.toList ++ s.plain.varTypes C.prog) (ds ++ gs)).all (· ≤ reachBytes) = true →
      Calls C.prog f args W fun e W' => ∃ v, e = .returned v ∧ s.post enc C.prog fn apart fresh handsOn again W args v W') :
    ReturnsInHanded a C os f .any (fun w args => (s.pre enc C.prog fn conds apart w args ∧ X w args) ∧ sizedMet enc C.prog fn (OpenSpec.ofChange s) apart w args) (s.post enc C.prog fn apart fresh handsOn again) := by
  refine returnsInHanded_of_calls own started noInit witness ?_
  intro w tape i _ hsh _ hok hpre _
  obtain ⟨_, _, _, fn', hfn', _, _, _, _, hval⟩ := hok
  have e : fn' = fn := Option.some.inj (hfn'.symm.trans hfn)
  subst e
  obtain ⟨⟨⟨ds, gs, before, hw, _⟩, _⟩, hz⟩ := hpre
  have hw' := DataW.Whole.of_heap (w' := w.forCall tape i) (by rfl) hw
  refine (contract (w.forCall tape i) w.heap.size i.args ds gs before hsh hval hw' (hz.weights hw)).mono fun e W' ⟨v, he, hp⟩ => ?_
  subst he
  exact ChangeSpec.post_blind hp
end Go.Am
