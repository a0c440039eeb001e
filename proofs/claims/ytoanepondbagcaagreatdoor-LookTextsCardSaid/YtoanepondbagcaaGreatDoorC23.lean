/-
  Lifted functions, and facts about them.
-/
import Derived.Test.YtoanepondbagcaaGreatDoorRows
import Derived.Test.YtoanepondbagcaaGreatDoorAmC
import Derived.Test.YtoanepondbagcaaGreatDoorC01
import Derived.Test.YtoanepondbagcaaGreatDoorC22
import Derived.Deep.Slices
import Derived.Carry
namespace Go.Proofs.YtoanepondbagcaaGreatDoor
open Go Go.Am
set_option linter.unusedVariables false
/-! The preview of a plain body; none behind heads that say so. -/
theorem one_tree {s : List UInt8} {n : Int} {l ps : List (List UInt8 × List UInt8)} {ty e : List UInt8} {at_ : Bool} (h : splitS s 0 s.length = (l, n)) (ht : typeF l = (ty, ps)) (he : encF l = e) (ha : attF l = at_) (hb : boundP ty ps = []) : treeT s = Part.mk ty ps e at_ 0 n s.length [] := by
  have h1 : oneP s 0 s.length = Part.mk ty ps e at_ 0 n s.length [] := by unfold oneP; rw [h, ht, he, ha]
  have h2 : markP s 0 s.length = [] := by unfold markP; rw [h1]; exact hb
  unfold treeT
  rw [show (6 - (0 : Int)).toNat = 5 + 1 from rfl, treeP, if_pos h2, h1]
theorem prev_one {s ty e : List UInt8} {n t : Int} {ps : List (List UInt8 × List UInt8)} {at_ : Bool} (h : treeT s = Part.mk ty ps e at_ 0 n t []) : prevS s = if skipP (treeT s) = true then [] else cutU (wordsP s (treeT s)) 100 := by
  have hk : (treeT s).kids = [] := by rw [h]; rfl
  unfold prevS
  rw [show allP 7 (treeT s) = treeT s :: (treeT s).kids.flatMap (allP 6) from rfl, hk, List.flatMap_nil, prevL]
  rfl
abbrev seven7 : List UInt8 := [55, 98, 105, 116]
theorem cont_of {s : List UInt8} {p : Part} (h1 : 0 ≤ p.frm) (h2 : p.frm ≤ p.til) (h3 : p.til ≤ (s.length : Int)) (he : p.enc = seven7) : contP s p = (s.take p.til.toNat).drop p.frm.toNat := by
  unfold contP
  rw [if_neg (by simp; omega), if_neg (by rw [he]; decide), if_neg (by rw [he]; decide)]
theorem plain_cont {s : List UInt8} {n : Nat} {ps : List (List UInt8 × List UInt8)} {at_ : Bool} (hn : n ≤ s.length) : contP s (Part.mk textP ps seven7 at_ 0 (n : Int) (s.length : Int) []) = s.drop n := by
  rw [cont_of (by show (0 : Int) ≤ (n : Int); omega) (by show (n : Int) ≤ (s.length : Int); omega) (by show (s.length : Int) ≤ (s.length : Int); omega) rfl]
  show (s.take ((s.length : Int)).toNat).drop ((n : Int)).toNat = s.drop n
  rw [Int.toNat_natCast, Int.toNat_natCast, List.take_length]
theorem prev_plain (t : List UInt8) : prevS ([13, 10] ++ t) = cutU (joinS [32] (fldS (shownS t))) 100 := by
  have h : treeT ([13, 10] ++ t) = Part.mk textP [] seven7 false 0 ((2 : Nat) : Int) ([13, 10] ++ t).length [] := by
    refine one_tree (l := []) ?_ (by kernel_rfl) (by kernel_rfl) (by kernel_rfl) (by kernel_rfl)
    rw [whole_split]; kernel_rfl
  have hs : skipP (treeT ([13, 10] ++ t)) = false := by rw [h]; rfl
  rw [prev_one h, hs, if_neg (by decide), h]
  unfold wordsP
  rw [plain_cont (by simp)]
  rfl
noncomputable def cLookTexts : Code := bodyOf Tryz.f9

noncomputable def GLookTexts : Cfg := ⟨Tryz.prog, mkEnv [(10, sp_awake), (19, sp_preview)], mkEnvR [], 68, [], [([0, 1, 0, 1, 1, 1], ⟨[0, 3, 4, 5], []⟩), ([1, 0, 0, 1, 0, 0, 1, 0, 1, 1, 1], ⟨[0, 3, 4, 5, 6], []⟩), ([1, 1, 0, 0, 1, 0, 0, 1, 0, 1, 1, 1], ⟨[0, 3, 4, 5, 6], []⟩), ([1, 1, 1, 0, 0, 1, 0, 0, 1, 0, 1, 1, 1], ⟨[0, 3, 4, 5, 6], []⟩)], []⟩

noncomputable def BLookTexts_1 (F f1 : Nat) (ws vs1 vs2 : List UInt8) (vi3 : Int) : Option Ans := runR GLookTexts cLookTexts (kP Tryz.prog Tryz.f9.results.toList) F [] [1, 1, 1, 0, 1, 0] f1 [(0, .p (.bytes ws)), (3, .p (.str vs1)), (4, .p (.str vs2)), (5, .p (.int .i64 vi3))] []

noncomputable def BLookTexts_2 (F f1 : Nat) (ws vs1 vs2 : List UInt8) (vi3 : Int) (vs4 : List UInt8) : Option Ans := runB GLookTexts cLookTexts (kP Tryz.prog Tryz.f9.results.toList) F [f1] [1, 1, 1, 0, 1, 0, 0, 1, 0, 0, 1] [(0, .p (.bytes ws)), (3, .p (.str vs1)), (4, .p (.str vs2)), (5, .p (.int .i64 vi3)), (6, .p (.str vs4))] []

noncomputable def BLookTexts_3 (F f1 : Nat) (ws vs5 vs2 : List UInt8) (vi3 : Int) (vs4 : List UInt8) : Option Ans := runB GLookTexts cLookTexts (kP Tryz.prog Tryz.f9.results.toList) F [f1] [1, 1, 1, 0, 1, 0, 0, 1, 0, 0, 1, 1] [(0, .p (.bytes ws)), (3, .p (.str vs5)), (4, .p (.str vs2)), (5, .p (.int .i64 vi3)), (6, .p (.str vs4))] []

noncomputable def BLookTexts_4 (F f1 : Nat) (ws vs5 vs6 : List UInt8) (vi3 : Int) (vs4 : List UInt8) : Option Ans := runB GLookTexts cLookTexts (kP Tryz.prog Tryz.f9.results.toList) F [f1] [1, 1, 1, 0, 1, 0, 0, 1, 0, 0, 1, 1, 1] [(0, .p (.bytes ws)), (3, .p (.str vs5)), (4, .p (.str vs6)), (5, .p (.int .i64 vi3)), (6, .p (.str vs4))] []

noncomputable def FLookTexts (F : Nat) (ws : List UInt8) : Option Ans := runF GLookTexts Tryz.f9 F [.p (.bytes ws)]

theorem BLookTexts_1_eq (F f1 : Nat) (ws vs1 vs2 : List UInt8) (vi3 : Int) : BLookTexts_1 F (f1 + 1) ws vs1 vs2 vi3 = cond (decide (vi3 < (ws.length : Int))) (need (0 ≤ vi3 ∧ vi3 < (ws.length : Int)) (BLookTexts_2 F f1 ws vs1 vs2 vi3 [UInt8.ofNat (IntKind.u8.wrap ((97 : Int) + (((ws.getD (vi3).toNat 0).toNat : Int).tmod (26 : Int)))).toNat, UInt8.ofNat ((122 : Int)).toNat])) (need (lenok (([13, 10] : List UInt8).length + vs1.length)) (need ((([13, 10] : List UInt8) ++ vs1).length ≤ 20000) (need (0 ≤ (if (100 : Int) < (vs2.length : Int) then (100 : Int) else (vs2.length : Int)) ∧ (if (100 : Int) < (vs2.length : Int) then (100 : Int) else (vs2.length : Int)) ≤ (vs2.length : Int)) (need (((prevS (([13, 10] : List UInt8) ++ vs1)) == (vs2.take (if (100 : Int) < (vs2.length : Int) then (100 : Int) else (vs2.length : Int)).toNat)) = true → lenok (LB_638f2911.length + vs1.length)) (need (((prevS (([13, 10] : List UInt8) ++ vs1)) == (vs2.take (if (100 : Int) < (vs2.length : Int) then (100 : Int) else (vs2.length : Int)).toNat)) = true → (LB_638f2911 ++ vs1).length ≤ 20000) (need ((((prevS (([13, 10] : List UInt8) ++ vs1)) == (vs2.take (if (100 : Int) < (vs2.length : Int) then (100 : Int) else (vs2.length : Int)).toNat)) && ((prevS (LB_638f2911 ++ vs1)) == ([] : List UInt8))) = true → lenok (LB_968ea3ed.length + vs1.length)) (need ((((prevS (([13, 10] : List UInt8) ++ vs1)) == (vs2.take (if (100 : Int) < (vs2.length : Int) then (100 : Int) else (vs2.length : Int)).toNat)) && ((prevS (LB_638f2911 ++ vs1)) == ([] : List UInt8))) = true → (LB_968ea3ed ++ vs1).length ≤ 20000) (some (.p (.bool (((((prevS (([13, 10] : List UInt8) ++ vs1)) == (vs2.take (if (100 : Int) < (vs2.length : Int) then (100 : Int) else (vs2.length : Int)).toNat)) && ((prevS (LB_638f2911 ++ vs1)) == ([] : List UInt8))) && ((prevS (LB_968ea3ed ++ vs1)) == ([] : List UInt8))) && true)), []))))))))) :=
  Eq.trans (show BLookTexts_1 F (f1 + 1) ws vs1 vs2 vi3 = cond (decide (vi3 < (ws.length : Int))) (need (0 ≤ vi3 ∧ vi3 < (ws.length : Int)) (need ((26 : Int) ≠ 0) (BLookTexts_2 F f1 ws vs1 vs2 vi3 [UInt8.ofNat (IntKind.u8.wrap ((97 : Int) + (((ws.getD (vi3).toNat 0).toNat : Int).tmod (26 : Int)))).toNat, UInt8.ofNat ((122 : Int)).toNat]))) (need (lenok (([13, 10] : List UInt8).length + vs1.length)) (need ((([13, 10] : List UInt8) ++ vs1).length ≤ 20000) (need (0 ≤ (if (100 : Int) < (vs2.length : Int) then (100 : Int) else (vs2.length : Int)) ∧ (if (100 : Int) < (vs2.length : Int) then (100 : Int) else (vs2.length : Int)) ≤ (vs2.length : Int)) (need (((prevS (([13, 10] : List UInt8) ++ vs1)) == (vs2.take (if (100 : Int) < (vs2.length : Int) then (100 : Int) else (vs2.length : Int)).toNat)) = true → ((prevS (([13, 10] : List UInt8) ++ vs1)) == (vs2.take (if (100 : Int) < (vs2.length : Int) then (100 : Int) else (vs2.length : Int)).toNat)) = true) (need (((prevS (([13, 10] : List UInt8) ++ vs1)) == (vs2.take (if (100 : Int) < (vs2.length : Int) then (100 : Int) else (vs2.length : Int)).toNat)) = true → lenok (LB_638f2911.length + vs1.length)) (need (((prevS (([13, 10] : List UInt8) ++ vs1)) == (vs2.take (if (100 : Int) < (vs2.length : Int) then (100 : Int) else (vs2.length : Int)).toNat)) = true → ((prevS (([13, 10] : List UInt8) ++ vs1)) == (vs2.take (if (100 : Int) < (vs2.length : Int) then (100 : Int) else (vs2.length : Int)).toNat)) = true) (need (((prevS (([13, 10] : List UInt8) ++ vs1)) == (vs2.take (if (100 : Int) < (vs2.length : Int) then (100 : Int) else (vs2.length : Int)).toNat)) = true → (LB_638f2911 ++ vs1).length ≤ 20000) (need (((prevS (([13, 10] : List UInt8) ++ vs1)) == (vs2.take (if (100 : Int) < (vs2.length : Int) then (100 : Int) else (vs2.length : Int)).toNat)) = true → ((prevS (([13, 10] : List UInt8) ++ vs1)) == (vs2.take (if (100 : Int) < (vs2.length : Int) then (100 : Int) else (vs2.length : Int)).toNat)) = true) (need (((prevS (([13, 10] : List UInt8) ++ vs1)) == (vs2.take (if (100 : Int) < (vs2.length : Int) then (100 : Int) else (vs2.length : Int)).toNat)) = true → ((prevS (([13, 10] : List UInt8) ++ vs1)) == (vs2.take (if (100 : Int) < (vs2.length : Int) then (100 : Int) else (vs2.length : Int)).toNat)) = true) (need ((((prevS (([13, 10] : List UInt8) ++ vs1)) == (vs2.take (if (100 : Int) < (vs2.length : Int) then (100 : Int) else (vs2.length : Int)).toNat)) && ((prevS (LB_638f2911 ++ vs1)) == ([] : List UInt8))) = true → (((prevS (([13, 10] : List UInt8) ++ vs1)) == (vs2.take (if (100 : Int) < (vs2.length : Int) then (100 : Int) else (vs2.length : Int)).toNat)) && ((prevS (LB_638f2911 ++ vs1)) == ([] : List UInt8))) = true) (need ((((prevS (([13, 10] : List UInt8) ++ vs1)) == (vs2.take (if (100 : Int) < (vs2.length : Int) then (100 : Int) else (vs2.length : Int)).toNat)) && ((prevS (LB_638f2911 ++ vs1)) == ([] : List UInt8))) = true → lenok (LB_968ea3ed.length + vs1.length)) (need ((((prevS (([13, 10] : List UInt8) ++ vs1)) == (vs2.take (if (100 : Int) < (vs2.length : Int) then (100 : Int) else (vs2.length : Int)).toNat)) && ((prevS (LB_638f2911 ++ vs1)) == ([] : List UInt8))) = true → (((prevS (([13, 10] : List UInt8) ++ vs1)) == (vs2.take (if (100 : Int) < (vs2.length : Int) then (100 : Int) else (vs2.length : Int)).toNat)) && ((prevS (LB_638f2911 ++ vs1)) == ([] : List UInt8))) = true) (need ((((prevS (([13, 10] : List UInt8) ++ vs1)) == (vs2.take (if (100 : Int) < (vs2.length : Int) then (100 : Int) else (vs2.length : Int)).toNat)) && ((prevS (LB_638f2911 ++ vs1)) == ([] : List UInt8))) = true → (LB_968ea3ed ++ vs1).length ≤ 20000) (need ((((prevS (([13, 10] : List UInt8) ++ vs1)) == (vs2.take (if (100 : Int) < (vs2.length : Int) then (100 : Int) else (vs2.length : Int)).toNat)) && ((prevS (LB_638f2911 ++ vs1)) == ([] : List UInt8))) = true → (((prevS (([13, 10] : List UInt8) ++ vs1)) == (vs2.take (if (100 : Int) < (vs2.length : Int) then (100 : Int) else (vs2.length : Int)).toNat)) && ((prevS (LB_638f2911 ++ vs1)) == ([] : List UInt8))) = true) (need ((((prevS (([13, 10] : List UInt8) ++ vs1)) == (vs2.take (if (100 : Int) < (vs2.length : Int) then (100 : Int) else (vs2.length : Int)).toNat)) && ((prevS (LB_638f2911 ++ vs1)) == ([] : List UInt8))) = true → (((prevS (([13, 10] : List UInt8) ++ vs1)) == (vs2.take (if (100 : Int) < (vs2.length : Int) then (100 : Int) else (vs2.length : Int)).toNat)) && ((prevS (LB_638f2911 ++ vs1)) == ([] : List UInt8))) = true) (need (((((prevS (([13, 10] : List UInt8) ++ vs1)) == (vs2.take (if (100 : Int) < (vs2.length : Int) then (100 : Int) else (vs2.length : Int)).toNat)) && ((prevS (LB_638f2911 ++ vs1)) == ([] : List UInt8))) && ((prevS (LB_968ea3ed ++ vs1)) == ([] : List UInt8))) = true → ((((prevS (([13, 10] : List UInt8) ++ vs1)) == (vs2.take (if (100 : Int) < (vs2.length : Int) then (100 : Int) else (vs2.length : Int)).toNat)) && ((prevS (LB_638f2911 ++ vs1)) == ([] : List UInt8))) && ((prevS (LB_968ea3ed ++ vs1)) == ([] : List UInt8))) = true) (some (.p (.bool (((((prevS (([13, 10] : List UInt8) ++ vs1)) == (vs2.take (if (100 : Int) < (vs2.length : Int) then (100 : Int) else (vs2.length : Int)).toNat)) && ((prevS (LB_638f2911 ++ vs1)) == ([] : List UInt8))) && ((prevS (LB_968ea3ed ++ vs1)) == ([] : List UInt8))) && true)), [])))))))))))))))))) by kernel_rfl) (cond_congr (need_congr (need_strike (show (26 : Int) ≠ 0 from (by decide)) (rfl))) (need_congr (need_congr (need_congr (need_strike (show ((prevS (([13, 10] : List UInt8) ++ vs1)) == (vs2.take (if (100 : Int) < (vs2.length : Int) then (100 : Int) else (vs2.length : Int)).toNat)) = true → ((prevS (([13, 10] : List UInt8) ++ vs1)) == (vs2.take (if (100 : Int) < (vs2.length : Int) then (100 : Int) else (vs2.length : Int)).toNat)) = true from (fun q0 => q0)) (need_congr (need_strike (show ((prevS (([13, 10] : List UInt8) ++ vs1)) == (vs2.take (if (100 : Int) < (vs2.length : Int) then (100 : Int) else (vs2.length : Int)).toNat)) = true → ((prevS (([13, 10] : List UInt8) ++ vs1)) == (vs2.take (if (100 : Int) < (vs2.length : Int) then (100 : Int) else (vs2.length : Int)).toNat)) = true from (fun q0 => q0)) (need_congr (need_strike (show ((prevS (([13, 10] : List UInt8) ++ vs1)) == (vs2.take (if (100 : Int) < (vs2.length : Int) then (100 : Int) else (vs2.length : Int)).toNat)) = true → ((prevS (([13, 10] : List UInt8) ++ vs1)) == (vs2.take (if (100 : Int) < (vs2.length : Int) then (100 : Int) else (vs2.length : Int)).toNat)) = true from (fun q0 => q0)) (need_strike (show ((prevS (([13, 10] : List UInt8) ++ vs1)) == (vs2.take (if (100 : Int) < (vs2.length : Int) then (100 : Int) else (vs2.length : Int)).toNat)) = true → ((prevS (([13, 10] : List UInt8) ++ vs1)) == (vs2.take (if (100 : Int) < (vs2.length : Int) then (100 : Int) else (vs2.length : Int)).toNat)) = true from (fun q0 => q0)) (need_strike (show (((prevS (([13, 10] : List UInt8) ++ vs1)) == (vs2.take (if (100 : Int) < (vs2.length : Int) then (100 : Int) else (vs2.length : Int)).toNat)) && ((prevS (LB_638f2911 ++ vs1)) == ([] : List UInt8))) = true → (((prevS (([13, 10] : List UInt8) ++ vs1)) == (vs2.take (if (100 : Int) < (vs2.length : Int) then (100 : Int) else (vs2.length : Int)).toNat)) && ((prevS (LB_638f2911 ++ vs1)) == ([] : List UInt8))) = true from (fun q0 => q0)) (need_congr (need_strike (show (((prevS (([13, 10] : List UInt8) ++ vs1)) == (vs2.take (if (100 : Int) < (vs2.length : Int) then (100 : Int) else (vs2.length : Int)).toNat)) && ((prevS (LB_638f2911 ++ vs1)) == ([] : List UInt8))) = true → (((prevS (([13, 10] : List UInt8) ++ vs1)) == (vs2.take (if (100 : Int) < (vs2.length : Int) then (100 : Int) else (vs2.length : Int)).toNat)) && ((prevS (LB_638f2911 ++ vs1)) == ([] : List UInt8))) = true from (fun q0 => q0)) (need_congr (need_strike (show (((prevS (([13, 10] : List UInt8) ++ vs1)) == (vs2.take (if (100 : Int) < (vs2.length : Int) then (100 : Int) else (vs2.length : Int)).toNat)) && ((prevS (LB_638f2911 ++ vs1)) == ([] : List UInt8))) = true → (((prevS (([13, 10] : List UInt8) ++ vs1)) == (vs2.take (if (100 : Int) < (vs2.length : Int) then (100 : Int) else (vs2.length : Int)).toNat)) && ((prevS (LB_638f2911 ++ vs1)) == ([] : List UInt8))) = true from (fun q0 => q0)) (need_strike (show (((prevS (([13, 10] : List UInt8) ++ vs1)) == (vs2.take (if (100 : Int) < (vs2.length : Int) then (100 : Int) else (vs2.length : Int)).toNat)) && ((prevS (LB_638f2911 ++ vs1)) == ([] : List UInt8))) = true → (((prevS (([13, 10] : List UInt8) ++ vs1)) == (vs2.take (if (100 : Int) < (vs2.length : Int) then (100 : Int) else (vs2.length : Int)).toNat)) && ((prevS (LB_638f2911 ++ vs1)) == ([] : List UInt8))) = true from (fun q0 => q0)) (need_strike (show ((((prevS (([13, 10] : List UInt8) ++ vs1)) == (vs2.take (if (100 : Int) < (vs2.length : Int) then (100 : Int) else (vs2.length : Int)).toNat)) && ((prevS (LB_638f2911 ++ vs1)) == ([] : List UInt8))) && ((prevS (LB_968ea3ed ++ vs1)) == ([] : List UInt8))) = true → ((((prevS (([13, 10] : List UInt8) ++ vs1)) == (vs2.take (if (100 : Int) < (vs2.length : Int) then (100 : Int) else (vs2.length : Int)).toNat)) && ((prevS (LB_638f2911 ++ vs1)) == ([] : List UInt8))) && ((prevS (LB_968ea3ed ++ vs1)) == ([] : List UInt8))) = true from (fun q0 => q0)) (rfl))))))))))))))))))

theorem BLookTexts_2_eq (F f1 : Nat) (ws vs1 vs2 : List UInt8) (vi3 : Int) (vs4 : List UInt8) : BLookTexts_2 F f1 ws vs1 vs2 vi3 vs4 = need (lenok (vs1.length + vs4.length)) (need (0 ≤ vi3 ∧ vi3 < (ws.length : Int)) ((need (i64ok ((1 : Int) + (((ws.getD (vi3).toNat 0).toNat : Int).tmod (5 : Int)))) (need (0 ≤ ((1 : Int) + (((ws.getD (vi3).toNat 0).toNat : Int).tmod (5 : Int))) ∧ ((1 : Int) + (((ws.getD (vi3).toNat 0).toNat : Int).tmod (5 : Int))) ≤ (([32, 13, 10, 9, 32] : List UInt8).length : Int)) (need (lenok ((vs1 ++ vs4).length + (([32, 13, 10, 9, 32] : List UInt8).take ((1 : Int) + (((ws.getD (vi3).toNat 0).toNat : Int).tmod (5 : Int))).toNat).length)) (BLookTexts_3 F f1 ws ((vs1 ++ vs4) ++ (([32, 13, 10, 9, 32] : List UInt8).take ((1 : Int) + (((ws.getD (vi3).toNat 0).toNat : Int).tmod (5 : Int))).toNat)) vs2 vi3 vs4)))))) := by
  have h : BLookTexts_2 F f1 ws vs1 vs2 vi3 vs4 = need (lenok (vs1.length + vs4.length)) (need (0 ≤ vi3 ∧ vi3 < (ws.length : Int)) (need ((5 : Int) ≠ 0) (need (i64ok ((1 : Int) + (((ws.getD (vi3).toNat 0).toNat : Int).tmod (5 : Int)))) (need (0 ≤ ((1 : Int) + (((ws.getD (vi3).toNat 0).toNat : Int).tmod (5 : Int))) ∧ ((1 : Int) + (((ws.getD (vi3).toNat 0).toNat : Int).tmod (5 : Int))) ≤ (([32, 13, 10, 9, 32] : List UInt8).length : Int)) (need (lenok ((vs1 ++ vs4).length + (([32, 13, 10, 9, 32] : List UInt8).take ((1 : Int) + (((ws.getD (vi3).toNat 0).toNat : Int).tmod (5 : Int))).toNat).length)) (BLookTexts_3 F f1 ws ((vs1 ++ vs4) ++ (([32, 13, 10, 9, 32] : List UInt8).take ((1 : Int) + (((ws.getD (vi3).toNat 0).toNat : Int).tmod (5 : Int))).toNat)) vs2 vi3 vs4)))))) := by kernel_rfl
  rw [h, need_pos (show (5 : Int) ≠ 0 from (by decide))]

theorem BLookTexts_3_eq (F f1 : Nat) (ws vs5 vs2 : List UInt8) (vi3 : Int) (vs4 : List UInt8) : BLookTexts_3 F f1 ws vs5 vs2 vi3 vs4 = cond (decide (vi3 > (0 : Int))) (need (lenok (vs2.length + ([32] : List UInt8).length)) (BLookTexts_4 F f1 ws vs5 (vs2 ++ ([32] : List UInt8)) vi3 vs4)) (BLookTexts_4 F f1 ws vs5 vs2 vi3 vs4) := by kernel_rfl

theorem BLookTexts_4_eq (F f1 : Nat) (ws vs5 vs6 : List UInt8) (vi3 : Int) (vs4 : List UInt8) : BLookTexts_4 F f1 ws vs5 vs6 vi3 vs4 = need (lenok (vs6.length + vs4.length)) (need (i64ok (vi3 + (1 : Int))) (BLookTexts_1 F f1 ws vs5 (vs6 ++ vs4) (vi3 + (1 : Int)))) := by kernel_rfl

theorem FLookTexts_eq (F : Nat) (ws : List UInt8) : FLookTexts F ws = cond (decide ((ws.length : Int) > (60 : Int))) (some (.p (.bool true), [])) (BLookTexts_1 F F ws ([] : List UInt8) ([] : List UInt8) (0 : Int)) := by kernel_rfl

theorem fn_LookTexts (F : Nat) (ws : List UInt8) (r : AV) (h : (∃ M vs, ARels γ0 M [.p (.bytes ws)] vs) → FLookTexts F ws = some (r, [])) : FnP Tryz.prog 9 [.p (.bytes ws)] r :=
  FnP_run GLookTexts F rfl (EnvOk_mk (l := [(10, sp_awake), (19, sp_preview)]) ⟨ok_awake.any, ok_preview.any, trivial⟩) (EnvROk_mk (l := []) trivial) (Checked.mixed Tryz.checked) (fn := Tryz.f9) (by kernel_rfl) (by kernel_rfl) rfl h
theorem prev_html (t : List UInt8) : prevS (LB_638f2911 ++ t) = [] := by
  have h : treeT (LB_638f2911 ++ t) = Part.mk [116, 101, 120, 116, 47, 104, 116, 109, 108] [] seven7 false 0 27 (LB_638f2911 ++ t).length [] := by
    refine one_tree (l := [([67, 111, 110, 116, 101, 110, 116, 45, 84, 121, 112, 101], [116, 101, 120, 116, 47, 104, 116, 109, 108])]) ?_ (by kernel_rfl) (by kernel_rfl) (by kernel_rfl) (by kernel_rfl)
    rw [whole_split]; kernel_rfl
  have hs : skipP (treeT (LB_638f2911 ++ t)) = true := by rw [h]; rfl
  rw [prev_one h, hs, if_pos rfl]
theorem prev_att (t : List UInt8) : prevS (LB_968ea3ed ++ t) = [] := by
  have h : treeT (LB_968ea3ed ++ t) = Part.mk textP [] seven7 true 0 35 (LB_968ea3ed ++ t).length [] := by
    refine one_tree (l := [([67, 111, 110, 116, 101, 110, 116, 45, 68, 105, 115, 112, 111, 115, 105, 116, 105, 111, 110], [97, 116, 116, 97, 99, 104, 109, 101, 110, 116])]) ?_ (by kernel_rfl) (by kernel_rfl) (by kernel_rfl) (by kernel_rfl)
    rw [whole_split]; kernel_rfl
  have hs : skipP (treeT (LB_968ea3ed ++ t)) = true := by rw [h]; rfl
  rw [prev_one h, hs, if_pos rfl]
/-! ### Words -/
def wordB (c : UInt8) : List UInt8 := [UInt8.ofNat (97 + c.toNat % 26), 122]
def sepB (c : UInt8) : List UInt8 := 32 :: ([13, 10, 9, 32] : List UInt8).take (c.toNat % 5)
def msgB (ws : List UInt8) : List UInt8 := ws.flatMap fun c => wordB c ++ sepB c
def wantB (ws : List UInt8) : List UInt8 := joinS [32] (ws.map wordB)
theorem wordB_big (c : UInt8) : ∀ x ∈ wordB c, 32 < x.toNat ∧ x.toNat < 128 := by
  intro x hx
  have := Nat.mod_lt c.toNat (show 26 > 0 by decide)
  unfold wordB at hx
  rcases List.mem_cons.1 hx with rfl | hx
  · rw [to8 (by omega)]; omega
  · rw [List.mem_singleton.1 hx]; decide
theorem sep_small (n : Nat) : ∀ x ∈ ([13, 10, 9, 32] : List UInt8).take n, x.toNat ≤ 32 := by
  intro x hx
  have h := List.mem_of_mem_take hx
  simp at h
  rcases h with rfl | rfl | rfl | rfl <;> decide
theorem fldF_sp : ∀ (q r : List UInt8), (∀ x ∈ q, x.toNat ≤ 32) → fldF (q ++ r) [] = fldF r []
  | [], r, _ => rfl
  | c :: q, r, h => by
    rw [List.cons_append, fldF, if_pos (h c (List.mem_cons_self ..)), if_pos rfl]
    exact fldF_sp q r fun x hx => h x (List.mem_cons_of_mem _ hx)
theorem fld_msg : ∀ ws : List UInt8, fldS (msgB ws) = ws.map wordB
  | [] => rfl
  | c :: r => by
    have ih := fld_msg r
    unfold fldS msgB at *
    rw [List.flatMap_cons, List.append_assoc, fldF_skip _ _ _ fun x hx => (wordB_big c x hx).1, List.nil_append]
    rw [show sepB c = 32 :: ([13, 10, 9, 32] : List UInt8).take (c.toNat % 5) from rfl, List.cons_append, fldF, if_pos (by decide), if_neg (by unfold wordB; simp), fldF_sp _ _ (sep_small _), ih]
    rfl
theorem low_flat : ∀ {s : List UInt8}, (∀ c ∈ s, c.toNat < 128) → (s.map UInt8.toNat).flatMap putN = s ∧ ∀ r ∈ s.map UInt8.toNat, scal r
  | [], _ => ⟨rfl, by simp⟩
  | c :: s, h => by
    have hc := h c (List.mem_cons_self ..)
    obtain ⟨h1, h2⟩ := low_flat fun x hx => h x (List.mem_cons_of_mem _ hx)
    refine ⟨?_, fun r hr => ?_⟩
    · rw [List.map_cons, List.flatMap_cons, h1, putN, if_pos hc, UInt8.ofNat_toNat]; rfl
    · rw [List.map_cons] at hr
      rcases List.mem_cons.1 hr with rfl | hr
      · unfold scal; omega
      · exact h2 r hr
theorem shown_low {s : List UInt8} (h : ∀ c ∈ s, c.toNat < 128) : shownS s = s := by
  obtain ⟨h1, h2⟩ := low_flat h
  unfold shownS
  rw [if_pos (vT_valid.2 ⟨_, h2, h1.symm⟩)]
theorem cut_low {s : List UInt8} (h : ∀ c ∈ s, c.toNat < 128) (n : Nat) : cutU s n = s.take n := by
  obtain ⟨h1, h2⟩ := low_flat h
  have h3 := cutU_flat h2 n
  rw [h1] at h3
  rw [h3, ← List.map_take]
  exact (low_flat fun c hc => h c (List.mem_of_mem_take hc)).1
theorem msg_low (ws : List UInt8) : ∀ c ∈ msgB ws, c.toNat < 128 := by
  intro c hc
  obtain ⟨w, _, hc⟩ := List.mem_flatMap.1 hc
  rcases List.mem_append.1 hc with h | h
  · exact (wordB_big w c h).2
  · unfold sepB at h
    rcases List.mem_cons.1 h with rfl | h
    · decide
    · have := sep_small _ c h; omega
theorem want_low (ws : List UInt8) : ∀ c ∈ wantB ws, c.toNat < 128 := by
  intro c hc
  unfold wantB at hc
  cases ws with
  | nil => cases hc
  | cons w r =>
    rw [List.map_cons, joinS] at hc
    rcases List.mem_append.1 hc with h | h
    · exact (wordB_big w c h).2
    · obtain ⟨x, hx, h⟩ := List.mem_flatMap.1 h
      rcases List.mem_append.1 h with h | h
      · rw [List.mem_singleton.1 h]; decide
      · obtain ⟨y, _, rfl⟩ := List.mem_map.1 hx
        exact (wordB_big y c h).2
theorem prev_msg (ws : List UInt8) : prevS ([13, 10] ++ msgB ws) = (wantB ws).take 100 := by
  rw [prev_plain, shown_low (msg_low ws), fld_msg]
  exact cut_low (want_low ws) 100
theorem join_snoc (l : List (List UInt8)) (x : List UInt8) : joinS [32] (l ++ [x]) = (if l = [] then [] else joinS [32] l ++ [32]) ++ x := by
  cases l with
  | nil => simp [joinS]
  | cons y r => rw [if_neg (by simp), List.cons_append, joinS, joinS, List.flatMap_append]; simp
theorem want_len (ws : List UInt8) : (wantB ws).length ≤ 3 * ws.length := by
  have h := joinS_len [32] (ws.map wordB)
  have : totL (ws.map wordB) = 2 * ws.length := by
    induction ws with
    | nil => rfl
    | cons c r ih => rw [List.map_cons, totL_cons, ih (joinS_len _ _)]; simp [wordB]; omega
  unfold wantB
  simp at h
  omega
theorem msg_len : ∀ ws : List UInt8, (msgB ws).length ≤ 7 * ws.length
  | [] => by simp [msgB]
  | c :: r => by
    have := msg_len r
    have h1 : (wordB c).length = 2 := rfl
    have h2 : (sepB c).length ≤ 5 := by unfold sepB; simp; omega
    unfold msgB at *
    rw [List.flatMap_cons, List.length_append, List.length_append, List.length_cons]; omega
theorem BLookTexts_spec (F : Nat) (ws : List UInt8) (hl : ws.length ≤ 60) : ∀ (m f i : Nat), i + m = ws.length → m < f →
    BLookTexts_1 F f ws (msgB (ws.take i)) (wantB (ws.take i)) (i : Int) = some (.p (.bool true), []) := by
  intro m
  induction m with
  | zero =>
    intro f i hi hf
    cases f with
    | zero => omega
    | succ f =>
      have l1 := msg_len ws
      have l2 := want_len ws
      have e1 : LB_638f2911.length = 27 := rfl
      have e2 : LB_968ea3ed.length = 35 := rfl
      rw [BLookTexts_1_eq, List.take_of_length_le (by omega)]
      have em : (if (100 : Int) < ((wantB ws).length : Int) then (100 : Int) else ((wantB ws).length : Int)) = ((min 100 (wantB ws).length : Nat) : Int) := by split <;> omega
      rw [em, Int.toNat_natCast]
      have et : (wantB ws).take (min 100 (wantB ws).length) = (wantB ws).take 100 := by
        rw [List.take_eq_take_iff]; omega
      refine cond_f (by simp; omega) (need_mk (by unfold lenok; simp; omega) (need_mk (by simp; omega) (need_mk (by omega) (need_mk (fun _ => by unfold lenok; omega) (need_mk (fun _ => by rw [List.length_append]; omega) (need_mk (fun _ => by unfold lenok; omega) (need_mk (fun _ => by rw [List.length_append]; omega) ?_)))))))
      rw [prev_msg, prev_html, prev_att]
      try rw [Int.toNat_natCast]
      rw [et, beq_self_eq_true]; rfl
  | succ m ih =>
    intro f i hi hf
    have hlt : i < ws.length := by omega
    cases f with
    | zero => omega
    | succ f =>
      obtain ⟨c, hc⟩ : ∃ c, ws[i]? = some c := ⟨_, List.getElem?_eq_getElem hlt⟩
      have hg : ws.getD i 0 = c := by rw [List.getD_eq_getElem?_getD, hc]; rfl
      have ht : ws.take (i + 1) = ws.take i ++ [c] := by rw [List.take_add_one, hc]; rfl
      have l1 := msg_len (ws.take i)
      have l2 := want_len (ws.take i)
      rw [List.length_take] at l1 l2
      have h26 := Nat.mod_lt c.toNat (show 26 > 0 by decide)
      have h5 := Nat.mod_lt c.toNat (show 5 > 0 by decide)
      rw [BLookTexts_1_eq, Int.toNat_natCast, hg]
      refine cond_t (by simp; omega) (need_mk ⟨by omega, by omega⟩ ?_)
      have ew : ([UInt8.ofNat (IntKind.u8.wrap ((97 : Int) + ((c.toNat : Int).tmod (26 : Int)))).toNat, UInt8.ofNat ((122 : Int)).toNat] : List UInt8) = wordB c := by
        rw [show ((c.toNat : Int).tmod (26 : Int)) = ((c.toNat % 26 : Nat) : Int) from rfl, u8_wrap]
        unfold wordB
        rw [show (((97 : Int) + ((c.toNat % 26 : Nat) : Int)) % 256).toNat = 97 + c.toNat % 26 by omega]
        rfl
      have es : ([32, 13, 10, 9, 32] : List UInt8).take ((1 : Int) + ((c.toNat : Int).tmod (5 : Int))).toNat = sepB c := by
        rw [show ((c.toNat : Int).tmod (5 : Int)) = ((c.toNat % 5 : Nat) : Int) from rfl, show ((1 : Int) + ((c.toNat % 5 : Nat) : Int)).toNat = c.toNat % 5 + 1 by omega]
        rfl
      have ew2 : (wordB c).length = 2 := rfl
      have es2 : (sepB c).length ≤ 5 := by unfold sepB; simp; omega
      rw [ew, BLookTexts_2_eq, Int.toNat_natCast, hg, es]
      have h5e : ((c.toNat : Int).tmod (5 : Int)) = ((c.toNat % 5 : Nat) : Int) := rfl
      refine need_mk (by unfold lenok; omega) (need_mk ⟨by omega, by omega⟩ (need_mk (by rw [h5e]; unfold i64ok; omega) (need_mk (by rw [h5e]; simp; omega) (need_mk (by unfold lenok; rw [List.length_append]; omega) ?_))))
      have fin : ∀ w : List UInt8, w.length ≤ 200 → w ++ wordB c = wantB (ws.take (i + 1)) → BLookTexts_4 F f ws ((msgB (ws.take i) ++ wordB c) ++ sepB c) w (i : Int) (wordB c) = some (.p (.bool true), []) := by
        intro w hw he
        rw [BLookTexts_4_eq, he]
        refine need_mk (by unfold lenok; omega) (need_mk (by unfold i64ok; omega) ?_)
        rw [show (i : Int) + 1 = ((i + 1 : Nat) : Int) by omega]
        have em : (msgB (ws.take i) ++ wordB c) ++ sepB c = msgB (ws.take (i + 1)) := by rw [ht]; unfold msgB; simp
        rw [em]
        exact ih f (i + 1) (by omega) (by omega)
      rw [BLookTexts_3_eq]
      have hj : wantB (ws.take (i + 1)) = (if (ws.take i).map wordB = [] then [] else wantB (ws.take i) ++ [32]) ++ wordB c := by
        unfold wantB
        rw [ht, List.map_append]
        exact join_snoc _ _
      by_cases h0 : i = 0
      · subst h0
        refine cond_f (by simp) (fin _ (by simp [wantB, joinS]) ?_)
        rw [hj]; simp [wantB, joinS]
      · have hne : (ws.take i).map wordB ≠ [] := by
          intro e
          have := congrArg List.length e
          rw [List.length_map, List.length_take, List.length_nil] at this
          omega
        refine cond_t (by simp; omega) (need_mk (by unfold lenok; simp; omega) (fin _ (by simp; omega) ?_))
        rw [hj, if_neg hne]
theorem LookTexts_true (ws : List UInt8) : FLookTexts (ws.length + 1) ws = some (.p (.bool true), []) := by
  rw [FLookTexts_eq]
  by_cases h : ws.length > 60
  · exact cond_t (by simp; omega) rfl
  · exact cond_f (by simp; omega) (BLookTexts_spec _ ws (by omega) ws.length _ 0 (by omega) (by omega))
theorem u8_row {M : Mem} {x : List Int} {v : Value} (h : PRel M (.list 1 (.dat (.int .u8) x)) v) : PRel M (.bytes (x.map fun n => UInt8.ofNat n.toNat)) v := by
  have hl : (x.map fun n => UInt8.ofNat n.toNat).length = x.length := by simp
  cases h with
  | listNil _ _ h0 =>
    have : x = [] := List.eq_nil_of_length_eq_zero h0
    subst this; exact .bytesNil
  | list _ _ b off cap g hm hc hM hx =>
    have hm : x.length ≤ maxLen := hm
    have hc : x.length ≤ cap := hc
    show PRel M _ (.slice (some ⟨b, off, none⟩) x.length cap)
    rw [← hl]
    refine .bytes _ b off cap (by rw [hl]; exact hm) (by rw [hl]; exact hc) fun i c hi => ?_
    rw [List.getElem?_map] at hi
    cases hxi : x[i]? with
    | none => rw [hxi] at hi; cases hi
    | some n =>
      rw [hxi] at hi
      have hi : UInt8.ofNat n.toNat = c := Option.some.inj hi
      have hlt : i < x.length := (List.getElem?_eq_some_iff.1 hxi).1
      have h1 := hM i 0 hlt (by omega)
      have h2 := hx i 0 hlt (by omega)
      have h2 : PRel M (.int .u8 (x.getD i 0)) (g i 0) := h2
      rw [List.getD_eq_getElem?_getD, hxi] at h2
      obtain ⟨e, hn⟩ := h2.int_inv
      have hn : IntKind.u8.has n := hn
      have := u8pl hn
      rw [show off + i = off + i * 1 + 0 by omega, h1, e, ← hi]
      unfold byteV
      rw [to8 (by omega), Int.toNat_of_nonneg this.1]
      rfl
theorem fn_LookTextsL (x : List Int) : FnP Tryz.prog 9 [.p (.list (wid (.int .u8)) (.dat (.int .u8) x))] (.p (.bool true)) :=
  FnP_args (fun M vs h => by
    cases h with | cons h1 h2 =>
    cases h2
    exact .cons (.p _ _ (u8_row h1.p_inv)) .nil) (fn_LookTexts (_) _ _ fun _ => LookTexts_true _)
end Go.Proofs.YtoanepondbagcaaGreatDoor
/-! Slices among the arguments of a row. -/
namespace Go.Am
open Go Go.RowKit Go.ChangeShapes Go.WideShapes

def memOf (w : World) : Mem := fun b o => w.cell? ⟨b, o, none⟩
theorem memOf_ok (w : World) : MOk (memOf w) w := fun _ _ _ h => h

/-- Types whose cells say a code's datum; the fields of a struct from an offset on. -/
inductive EcX (P : Program) : Ec → TypeId ⊕ (List Field × Nat) → Prop
  | bool {t : TypeId} (h : P.underlying t = some .bool) : EcX P .bool (.inl t)
  | int {k : IntKind} {t : TypeId} (h : P.underlying t = some (.int k)) : EcX P (.int k) (.inl t)
  | str {t : TypeId} (h : P.underlying t = some .string) : EcX P .str (.inl t)
  | struct {t : TypeId} {fs : Array Field} {l : List Field} {c : Ec} (h : P.underlying t = some (.struct fs)) (hl : fs.toList = l) (hc : P.cellsOf t = wid c) (hf : EcX P c (.inr (l, 0))) : EcX P c (.inl t)
  | last {c : Ec} {f : Field} {o : Nat} (ho : f.offset = o) (hc : P.cellsOf f.type = wid c) (h : EcX P c (.inl f.type)) : EcX P c (.inr ([f], o))
  | cons {a b : Ec} {f : Field} {fs : List Field} {o o2 : Nat} (ho : f.offset = o) (hc : P.cellsOf f.type = wid a) (h : EcX P a (.inl f.type)) (h2 : o2 = o + wid a) (hr : EcX P b (.inr (fs, o2))) : EcX P (.pair a b) (.inr (f :: fs, o))

/-- The lengths of the texts in a datum. -/
def lensB : (c : Ec) → Elt c → List Nat
  | .str, x => [List.length (α := UInt8) x]
  | .pair a b, x => lensB a x.1 ++ lensB b x.2
  | _, _ => []

section
variable {H : Type} {enc : TypeId × Value → H} {P : Program} {w : World} {spare : Nat → Bool} {held : Bool} {M : Mem}

theorem weightsEach_mem : ∀ {ts : List TypeId} {ds : List (DataW H)} {i : Nat} {t : TypeId} {d : DataW H} {n : Nat}, ts[i]? = some t → ds[i]? = some d → n ∈ d.weights P t → n ∈ DataW.weightsEach P ts ds
  | [], _, _, _, _, _, h, _, _ => by simp at h
  | _ :: _, [], _, _, _, _, _, h, _ => by simp at h
  | u :: ts, e :: ds, 0, t, d, n, h1, h2, h3 => by
    simp at h1 h2; subst h1; subst h2
    rw [DataW.weightsEach]; exact List.mem_append_left _ h3
  | u :: ts, e :: ds, i + 1, t, d, n, h1, h2, h3 => by
    rw [DataW.weightsEach]; exact List.mem_append_right _ (weightsEach_mem (by simpa using h1) (by simpa using h2) h3)
theorem weightsAll_mem {e : TypeId} : ∀ {ds : List (DataW H)} {d : DataW H} {n : Nat}, d ∈ ds → n ∈ d.weights P e → n ∈ DataW.weightsAll P e ds
  | [], _, _, h, _ => by cases h
  | d' :: ds, d, n, h, hn => by
    rw [DataW.weightsAll]
    rcases List.mem_cons.1 h with h | h
    · subst h; exact List.mem_append_left _ hn
    · exact List.mem_append_right _ (weightsAll_mem h hn)

theorem open_ec {c : Ec} {x : TypeId ⊕ (List Field × Nat)} (h : EcX P c x) : match x with
  | .inl t => ∀ (fuel : Nat) (cs : List Value) (y : DataW H × List MemPlace), DataW.trod enc P w 0 spare held fuel t cs = some y → ∃ d : Elt c, (∀ j, j < wid c → PRel M (cell c d j) (cs.getD j undef)) ∧ ∀ n ∈ lensB c d, n ∈ y.1.weights P t
  | .inr (fs, o) => ∀ (fuel : Nat) (cs : List Value), (∀ f ∈ fs, ∃ y, DataW.trod enc P w 0 spare held fuel f.type ((cs.drop f.offset).take (P.cellsOf f.type)) = some y) →
      ∃ d : Elt c, (∀ j, j < wid c → PRel M (cell c d j) (cs.getD (o + j) undef)) ∧ ∀ n ∈ lensB c d, ∃ f ∈ fs, ∃ y, DataW.trod enc P w 0 spare held fuel f.type ((cs.drop f.offset).take (P.cellsOf f.type)) = some y ∧ n ∈ y.1.weights P f.type := by
  induction h with
  | bool h =>
    intro fuel cs y hy
    obtain ⟨b, rfl, _⟩ := DataW.trod_bool h hy
    exact ⟨b, fun j hj => by have : j = 0 := by (have := hj; simp only [wid] at this; omega)
                             subst this; exact .bool b, fun n hn => by cases hn⟩
  | int h =>
    intro fuel cs y hy
    obtain ⟨n, rfl, _, hw⟩ := DataW.trod_int h hy
    exact ⟨n, fun j hj => by have : j = 0 := by (have := hj; simp only [wid] at this; omega)
                             subst this; exact .int _ n (has_wf hw), fun n hn => by cases hn⟩
  | str h =>
    intro fuel cs y hy
    obtain ⟨s, rfl, hy', hw⟩ := DataW.trod_string h hy
    refine ⟨s.data.toList, fun j hj => by have : j = 0 := by (have := hj; simp only [wid] at this; omega)
                                          subst this; exact .str s.data.toList (by rw [Array.length_toList]; exact hw), fun n hn => ?_⟩
    subst hy'
    rw [DataW.weights]; exact hn
  | struct h hl hc hf ih =>
    intro fuel cs y hy
    obtain ⟨xs, n, rfl, hy', hlen, hxs, hall⟩ := DataW.trod_struct h hy
    rename_i t fs l c
    have hgo : ∀ f ∈ l, ∃ (i : Nat) (hi : i < xs.length), fs.toList[i]? = some f ∧ DataW.trod enc P w 0 spare held n f.type ((cs.drop f.offset).take (P.cellsOf f.type)) = some xs[i] := fun f hf => by
      rw [← hl] at hf
      obtain ⟨i, hi⟩ := List.getElem?_of_mem hf
      have hi' := hi
      rw [Array.getElem?_toList] at hi'
      have hlt : i < xs.length := by
        rw [hxs]
        have := (List.getElem?_eq_some_iff.1 hi).1
        simpa using this
      have := hall i f hi'
      rw [List.getElem?_eq_getElem hlt] at this
      exact ⟨i, hlt, hi, this⟩
    obtain ⟨d, hd, hw⟩ := ih n cs fun f hf => by
      obtain ⟨i, hi, _, h2⟩ := hgo f hf
      exact ⟨_, h2⟩
    refine ⟨d, fun j hj => by have := hd j hj; rwa [Nat.zero_add] at this, fun k hk => ?_⟩
    obtain ⟨f, hf, y2, h2, h3⟩ := hw k hk
    obtain ⟨i, hi, h4, h5⟩ := hgo f hf
    rw [h5] at h2; cases h2
    subst hy'
    rw [DataW.weights, h]
    refine weightsEach_mem (i := i) (t := f.type) (d := xs[i].1) ?_ ?_ h3
    · rw [List.getElem?_map, h4]; rfl
    · rw [List.getElem?_map, List.getElem?_eq_getElem hi]; rfl
  | last ho hc h ih =>
    intro fuel cs hall
    obtain ⟨y, hy⟩ := hall _ (List.mem_singleton.2 rfl)
    obtain ⟨d, hd, hw⟩ := ih fuel _ y hy
    refine ⟨d, fun j hj => ?_, fun n hn => ⟨_, List.mem_singleton.2 rfl, y, hy, hw n hn⟩⟩
    have := hd j hj
    rw [List.getD_eq_getElem?_getD, List.getElem?_take_of_lt (by rw [hc]; exact hj), List.getElem?_drop, ho, ← List.getD_eq_getElem?_getD] at this
    exact this
  | cons ho hc h h2 hr ih ihr =>
    intro fuel cs hall
    obtain ⟨y, hy⟩ := hall _ (List.mem_cons_self ..)
    obtain ⟨d, hd, hw⟩ := ih fuel _ y hy
    obtain ⟨d2, hd2, hw2⟩ := ihr fuel cs fun f hf => hall f (List.mem_cons_of_mem _ hf)
    rename_i a b f fs o o2
    refine ⟨(d, d2), fun j hj => ?_, fun n hn => ?_⟩
    · simp only [cell]
      cases hlt : Nat.blt j (wid a) with
      | true =>
        have hlt : j < wid a := Nat.le_of_ble_eq_true hlt
        have := hd j hlt
        rw [List.getD_eq_getElem?_getD, List.getElem?_take_of_lt (by rw [hc]; exact hlt), List.getElem?_drop, ho, ← List.getD_eq_getElem?_getD] at this
        exact this
      | false =>
        have hge : wid a ≤ j := by
          rcases Nat.lt_or_ge j (wid a) with h5 | h5
          · have : Nat.blt j (wid a) = true := Nat.ble_eq_true_of_le h5
            rw [this] at hlt; cases hlt
          · exact h5
        have hj' : j < wid a + wid b := hj
        have := hd2 (j - wid a) (by omega)
        rw [h2, show o + wid a + (j - wid a) = o + j by omega] at this
        exact this
    · rcases List.mem_append.1 hn with hn | hn
      · exact ⟨f, List.mem_cons_self .., y, hy, hw n hn⟩
      · obtain ⟨f', hf', y', h1, h2⟩ := hw2 n hn
        exact ⟨f', List.mem_cons_of_mem _ hf', y', h1, h2⟩

theorem spot_add {b off n : Nat} : (⟨b, off, none⟩ : Addr).add n = ⟨b, off + n, none⟩ := by
  unfold Addr.add
  split
  · rename_i h; subst h; rfl
  · rfl

theorem okWide_spot {r : Reach} {b0 : Nat} {t e : TypeId} {a : Addr} {len cap : Nat} (ht : P.underlying t = some (.slice e)) (h : Value.okWide P w r b0 t (.slice (some a) len cap)) : a.spot = none := by
  unfold Value.okWide at h
  rw [ht] at h
  simp only [Cell.okWide, Cell.ok, ht] at h
  exact h.2.2.2.1

theorem open_list {r : Reach} {b0 : Nat} {t e : TypeId} {a : Ec} {v : Value} {d : DataW H} {ps : List MemPlace} (ht : P.underlying t = some (.slice e)) (hc : P.cellsOf e = wid a) (ha : EcX P a (.inl e))
    (hval : Value.okWide P w r b0 t v) (hd : DataW.Trod enc P w 0 spare held t v d ps) : ∃ l : List (Elt a), ARel γ0 (memOf w) (.p (.list (wid a) (.dat a l))) v ∧ (∀ x ∈ l, ∀ n ∈ lensB a x, n ∈ d.weights P t) ∧ (l ≠ [] → ∃ m, l.length ≤ m ∧ m * P.bytesOf e ∈ d.weights P t) := by
  obtain ⟨a0, len, cap, rfl⟩ := okWide_slice ht hval
  obtain ⟨fuel, hf⟩ := hd
  rcases Go.Deep.open_slice ht hf with ⟨h0, _⟩ | ⟨q, len', cap', m, n, D, Pl, h0, hb, hl, hm, hmm, hdd, hx⟩
  · simp only [Value.cells, List.cons.injEq, Value.slice.injEq, and_true] at h0
    obtain ⟨rfl, rfl, rfl⟩ := h0
    exact ⟨[], .p _ _ (.listNil _ _ rfl), fun x hx => (by cases hx), fun h => absurd rfl h⟩
  · simp only [Value.cells, List.cons.injEq, Value.slice.injEq, and_true] at h0
    obtain ⟨rfl, rfl, rfl⟩ := h0
    have hspot := okWide_spot ht hval
    obtain ⟨bl, off, sp⟩ := q
    dsimp only at hspot
    subst hspot
    have hlm : len ≤ m := by rw [hmm]; split <;> omega
    obtain ⟨cs, hcs⟩ := Go.Deep.choose_lt (α := List Value) (p := fun i cs' => w.cells? 0 ((⟨bl, off, none⟩ : Addr).add (i * P.cellsOf e)) (P.cellsOf e) = some cs' ∧ DataW.trod enc P w 0 spare held n e cs' = some (D i, Pl i)) hx
    have hex : ∀ i, i < m → ∃ d : Elt a, (∀ j, j < wid a → PRel (memOf w) (cell a d j) ((cs i).getD j undef)) ∧ ∀ k ∈ lensB a d, k ∈ (D i).weights P e := fun i hi => open_ec ha n (cs i) _ (hcs i hi).2
    letI : Inhabited (Elt a) := ⟨dfl a⟩
    obtain ⟨E, hE⟩ := Go.Deep.choose_lt hex
    have hlen : ((List.range len).map E).length = len := by simp
    have hd1 : d = .slice ((List.range len).map D) ((List.range (m - len)).map fun j => D (len + j)) := congrArg Prod.fst hdd
    have hwd : d.weights P t = (((List.range len).map D).length + ((List.range (m - len)).map fun j => D (len + j)).length) * P.bytesOf e :: (DataW.weightsAll P e ((List.range len).map D) ++ DataW.weightsAll P e ((List.range (m - len)).map fun j => D (len + j))) := by
      rw [hd1, DataW.weights, ht]
    refine ⟨(List.range len).map E, ?_, fun x hx k hk => ?_, fun _ => ⟨_, ?_, by rw [hwd]; exact List.mem_cons_self ..⟩⟩
    rotate_left
    · obtain ⟨i, hi, rfl⟩ := List.mem_map.1 hx
      have hi := List.mem_range.1 hi
      rw [hwd]
      refine List.mem_cons_of_mem _ (List.mem_append_left _ (weightsAll_mem (d := D i) (List.mem_map.2 ⟨i, List.mem_range.2 hi, rfl⟩) ((hE i (by omega)).2 k hk)))
    · simp
    have hget : ∀ i, i < len → ((List.range len).map E).getD i (dfl a) = E i := fun i hi => by
      rw [List.getD_eq_getElem?_getD, List.getElem?_map, List.getElem?_range hi]; rfl
    have key : PRel (memOf w) (.list (wid a) (.dat a ((List.range len).map E))) (.slice (some ⟨bl, off, none⟩) (Rows.dat a ((List.range len).map E)).n cap) := by
      refine .list _ _ bl off cap (fun i j => (cs i).getD j undef) ?_ ?_ (fun i j hi hj => ?_) (fun i j hi hj => ?_)
      · show ((List.range len).map E).length ≤ maxLen
        rw [hlen]; exact Nat.le_trans hl hm
      · show ((List.range len).map E).length ≤ cap
        rw [hlen]; exact hl
      · have hi' : i < len := by have : i < ((List.range len).map E).length := hi
                                 rwa [hlen] at this
        obtain ⟨_, h2, h3⟩ := World.cells?_some (hcs i (by omega)).1
        have := h3 j (by rw [hc]; exact hj)
        rw [spot_add, spot_add, hc] at this
        show w.cell? ⟨bl, off + i * wid a + j, none⟩ = _
        rw [this, List.getD_eq_getElem?_getD, List.getElem?_eq_getElem (by rw [h2, hc]; exact hj)]
        rfl
      · have hi' : i < len := by have : i < ((List.range len).map E).length := hi
                                 rwa [hlen] at this
        show PRel _ (cell a (((List.range len).map E).getD i (dfl a)) j) _
        rw [hget i hi']
        exact (hE i (by omega)).1 j hj
    have hn : (Rows.dat a ((List.range len).map E)).n = len := hlen
    rw [hn] at key
    exact .p _ _ key
end

theorem walk_of_FnP2 {P : Program} {f : FuncId} {args : List AV} (h : FnP P f args (.p (.bool true))) {vs : List Value} (w : World) (hv : ARels γ0 (memOf w) args vs) :
    Calls P f vs.toArray w fun e w' => e = .returned (.bool true) ∧ Below w.heap.size w w' := by
  refine (h (memOf w) w vs (memOf_ok w) hv).mono fun e w' ⟨v, M', he, _, _, _, hr, hb⟩ => ?_
  rw [hr.bool_inv] at he
  exact ⟨he, hb⟩
theorem str_argM (M : Mem) (a : ByteArray) (h : a.size ≤ maxLen) : ARel γ0 M (.p (.str a.data.toList)) (.string a) :=
  .p _ _ (.str a.data.toList (by rw [Array.length_toList]; exact h))
theorem bool_argM (M : Mem) (b : Bool) : ARel γ0 M (.p (.bool b)) (.bool b) := .p _ _ (.bool b)
end Go.Am
