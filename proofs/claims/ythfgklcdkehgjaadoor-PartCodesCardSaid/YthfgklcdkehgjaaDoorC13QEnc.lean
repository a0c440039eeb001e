/-
  Lifted functions, and facts about them.
-/
import Derived.Test.YthfgklcdkehgjaaDoorRows
import Derived.Test.YthfgklcdkehgjaaDoorAmC
import Derived.Test.YthfgklcdkehgjaaDoorAmNeed
import Derived.Test.YthfgklcdkehgjaaDoorC13QDec
namespace Go.Proofs.YthfgklcdkehgjaaDoor
open Go Go.Am
set_option linter.unusedVariables false
/-! quoted.Encode. -/
def putS (p : List UInt8) (line : Int) (b : List UInt8) : Int × List UInt8 :=
  if line + p.length > 75 then (p.length, (b ++ [61, 13, 10]) ++ p) else (line + p.length, b ++ p)
abbrev putok (p : List UInt8) (line : Int) (b : List UInt8) : Prop := 0 ≤ line ∧ line ≤ 1000000 ∧ p.length ≤ 1000000 ∧ b.length ≤ 1000000000
noncomputable def cput : Code := bodyOf Tryd.f40

noncomputable def Gput : Cfg := ⟨Tryd.prog, mkEnv [], mkEnvR [], 18, [70000, 70001], [([1], ⟨[0, 1, 2], [⟨.fix 70000, 70000, .cells []⟩, ⟨.fix 70001, 70001, .cells []⟩, ⟨.cell 70001 0, 70002000, (.barr 5 false [])⟩]⟩)], []⟩

noncomputable def Bput_1 (F : Nat) (piece : List UInt8) (vi1 : Int) (vb2 : List UInt8) : Option Ans := runB Gput cput (kR Tryd.prog [70000, 70001] ⟨[], [⟨.fix 70000, 70000, .cells []⟩, ⟨.fix 70001, 70001, .cells []⟩, ⟨.cell 70001 0, 70002000, (.barr 5 false [])⟩]⟩ [70000, 70001, 70002000] Tryd.f40.results.toList) F [] [1] [(0, .p (.bytes piece)), (1, .ref 70000 0), (2, .ref 70001 0)] [(70000, .cells [.p (.int .i64 vi1)]), (70001, .cells [.arr 70002000]), (70002000, .barr 5 false vb2)]

noncomputable def Fput (F : Nat) (piece : List UInt8) (line : Int) (b : List UInt8) : Option Ans := runFR Gput Tryd.f40 ⟨[], [⟨.fix 70000, 70000, .cells []⟩, ⟨.fix 70001, 70001, .cells []⟩, ⟨.cell 70001 0, 70002000, (.barr 5 false [])⟩]⟩ [70000, 70001, 70002000] F [.p (.bytes piece), .ref 70000 0, .ref 70001 0] [(70000, .cells [.p (.int .i64 line)]), (70001, .cells [.arr 70002]), (70002, .barr 5 false b)]

theorem Bput_1_eq (F : Nat) (piece : List UInt8) (vi1 : Int) (vb2 : List UInt8) : Bput_1 F piece vi1 vb2 = need ((vb2.length + piece.length) * 1 ≤ 140737488355328) (need (i64ok (vi1 + (piece.length : Int))) (some (.tup [], [(70000, .cells [.p (.int .i64 (vi1 + (piece.length : Int)))]), (70001, .cells [.arr 70002000]), (70002000, .barr 5 false (vb2 ++ piece))]))) := by kernel_rfl

theorem Fput_eq (F : Nat) (piece : List UInt8) (line : Int) (b : List UInt8) : Fput F piece line b = need (i64ok (line + (piece.length : Int))) (cond (decide ((line + (piece.length : Int)) > (75 : Int))) (need ((b.length + ([61, 13, 10] : List UInt8).length) * 1 ≤ 140737488355328) (Bput_1 F piece (0 : Int) (b ++ ([61, 13, 10] : List UInt8)))) (Bput_1 F piece line b)) := by kernel_rfl

theorem fn_put (F : Nat) (piece : List UInt8) (line : Int) (b : List UInt8) (r : AV) (os : List (Nat × AObj)) (h : (∃ γ M w vs, ARels γ M [.p (.bytes piece), .ref 70000 0, .ref 70001 0] vs ∧ Objs γ M w (fun i => lookO i [(70000, .cells [.p (.int .i64 line)]), (70001, .cells [.arr 70002]), (70002, .barr 5 false b)]) (fun b => b < w.heap.size)) → Fput F piece line b = some (r, os)) : FnR Tryd.prog 40 [.p (.bytes piece), .ref 70000 0, .ref 70001 0] [(70000, .cells [.p (.int .i64 line)]), (70001, .cells [.arr 70002]), (70002, .barr 5 false b)] [70000, 70001] r os :=
  FnR_run Gput ⟨[], [⟨.fix 70000, 70000, .cells []⟩, ⟨.fix 70001, 70001, .cells []⟩, ⟨.cell 70001 0, 70002000, (.barr 5 false [])⟩]⟩ [70000, 70001, 70002000] F rfl (EnvOk_mk (l := []) trivial) (EnvROk_mk (l := []) trivial) (Checked.mixed Tryd.checked) (fn := Tryd.f40) (by kernel_rfl) (by kernel_rfl) rfl h
theorem put_eq (p : List UInt8) (line : Int) (b : List UInt8) (h : putok p line b) : Fput 0 p line b = some (.tup [], [(70000, .cells [.p (.int .i64 (putS p line b).1)]), (70001, .cells [.arr 70002000]), (70002000, .barr 5 false (putS p line b).2)]) := by
  obtain ⟨h1, h2, h3, h4⟩ := h
  rw [Fput_eq]
  unfold putS
  refine need_mk (by unfold i64ok; omega) ?_
  by_cases hc : line + p.length > 75
  · rw [if_pos hc]
    refine cond_t (by simpa using hc) (need_mk (by simp; omega) ?_)
    rw [Bput_1_eq]
    refine need_mk (by simp; omega) (need_mk (by unfold i64ok; omega) ?_)
    rw [Int.zero_add]
  · rw [if_neg hc]
    refine cond_f (by simpa using hc) ?_
    rw [Bput_1_eq]
    exact need_mk (by omega) (need_mk (by unfold i64ok; omega) rfl)
def sp_put : RSpec := ⟨[true, false, false], fun args ib => match args, ib with
  | [.p (.bytes p), .ref 70000 0, .ref 70001 0], [(70000, .cells [.p (.int .i64 line)]), (70001, .cells [.arr 70002]), (70002, .barr 5 false b)] =>
    some (([70000, 70001], .tup []), ([(70000, .cells [.p (.int .i64 (putS p line b).1)]), (70001, .cells [.arr 70002000]), (70002000, .barr 5 false (putS p line b).2)], some (putok p line b)))
  | _, _ => none⟩
theorem ok_put : SpecROk Tryd.prog 40 sp_put := by
  intro args ib kept r outs ok h hok
  simp only [sp_put] at h
  split at h
  · cases h
    exact ⟨by kernel_rfl, fn_put 0 _ _ _ _ _ fun _ => put_eq _ _ _ hok⟩
  · cases h
noncomputable def cQEncode : Code := bodyOf Tryd.f23

noncomputable def GQEncode : Cfg := ⟨Tryd.prog, mkEnv [], mkEnvR [(40, sp_put)], 54, [], [([0, 1, 0, 1, 1, 1, 1], ⟨[0, 3, 5, 10, 11], [⟨.slot 3, 3, .cells []⟩, ⟨.cell 3 0, 4000, (.barr 5 false [])⟩, ⟨.comp 5 0, 505000, .cells []⟩]⟩), ([1, 1, 1, 0, 0, 1, 1, 0, 0, 1, 0, 1, 1, 1, 1], ⟨[0, 3, 5, 7, 10, 11, 37], [⟨.slot 3, 3, .cells []⟩, ⟨.cell 3 0, 4000, (.barr 5 false [])⟩, ⟨.comp 5 0, 505000, .cells []⟩]⟩), ([1, 1, 1, 0, 0, 1, 0, 1, 1, 1, 1], ⟨[0, 3, 5, 10, 11], [⟨.slot 3, 3, .cells []⟩, ⟨.cell 3 0, 4000, (.barr 5 false [])⟩, ⟨.comp 5 0, 505000, .cells []⟩]⟩)], [([0, 1, 1, 1, 0, 0, 1, 1, 0, 0, 1, 0, 1, 1, 1, 1], [3]), ([1, 1, 1, 1, 0, 0, 1, 1, 0, 0, 1, 0, 1, 1, 1, 1], [8])]⟩

noncomputable def BQEncode_1 (F f1 : Nat) (s : List UInt8) (vi1 vi2 : Int) (vb3 : List UInt8) (vi4 : Int) : Option Ans := runR GQEncode cQEncode (kP Tryd.prog Tryd.f23.results.toList) F [] [1, 1, 1, 1, 0, 1, 0] f1 [(0, .p (.str s)), (3, .ref 3 0), (5, .clo (.func 40) [] [.ref 505000 0, .ref 3 0]), (10, .p (.int .i64 vi1)), (11, .p (.int .i64 vi2))] [(3, .cells [.arr 4000]), (4000, .barr 5 false vb3), (505000, .cells [.p (.int .i64 vi4)])]

noncomputable def BQEncode_2 (F f1 : Nat) (s : List UInt8) (vi5 vi1 vi2 : Int) (vc6 : Bool) (vb3 : List UInt8) (vi4 : Int) : Option Ans := runB GQEncode cQEncode (kP Tryd.prog Tryd.f23.results.toList) F [f1] [1, 1, 1, 1, 0, 1, 0, 0, 1, 1, 0, 0, 1, 1, 1] [(0, .p (.str s)), (3, .ref 3 0), (5, .clo (.func 40) [] [.ref 505000 0, .ref 3 0]), (7, .p (.int .u8 vi5)), (10, .p (.int .i64 vi1)), (11, .p (.int .i64 vi2)), (37, .p (.bool vc6))] [(3, .cells [.arr 4000]), (4000, .barr 5 false vb3), (505000, .cells [.p (.int .i64 vi4)])]

noncomputable def BQEncode_3 (F f1 : Nat) (s : List UInt8) (vi1 vi2 : Int) (vb7 : List UInt8) (vi8 : Int) : Option Ans := runB GQEncode cQEncode (kP Tryd.prog Tryd.f23.results.toList) F [f1] [1, 1, 1, 1, 0, 1, 0, 0, 1, 1, 1] [(0, .p (.str s)), (3, .ref 3 0), (5, .clo (.func 40) [] [.ref 505000 0, .ref 3 0]), (10, .p (.int .i64 vi1)), (11, .p (.int .i64 vi2))] [(3, .cells [.arr 4000]), (4000, .barr 5 false vb7), (505000, .cells [.p (.int .i64 vi8)])]

noncomputable def FQEncode (F : Nat) (s : List UInt8) : Option Ans := runF GQEncode Tryd.f23 F [.p (.str s)]

theorem BQEncode_1_eq (F f1 : Nat) (s : List UInt8) (vi1 vi2 : Int) (vb3 : List UInt8) (vi4 : Int) : BQEncode_1 F (f1 + 1) s vi1 vi2 vb3 vi4 = cond (decide (vi2 < vi1)) (need (0 ≤ vi2 ∧ vi2 < (s.length : Int)) (need (((!(((decide (((s.getD (vi2).toNat 0).toNat : Int) ≥ (33 : Int))) && (decide (((s.getD (vi2).toNat 0).toNat : Int) ≤ (126 : Int)))) && (((s.getD (vi2).toNat 0).toNat : Int) != (61 : Int)))) && (((s.getD (vi2).toNat 0).toNat : Int) == (32 : Int))) = true → i64ok ((s.length : Int) - (1 : Int))) (BQEncode_2 F f1 s ((s.getD (vi2).toNat 0).toNat : Int) vi1 vi2 ((((decide (((s.getD (vi2).toNat 0).toNat : Int) ≥ (33 : Int))) && (decide (((s.getD (vi2).toNat 0).toNat : Int) ≤ (126 : Int)))) && (((s.getD (vi2).toNat 0).toNat : Int) != (61 : Int))) || ((((s.getD (vi2).toNat 0).toNat : Int) == (32 : Int)) && (decide (vi2 < ((s.length : Int) - (1 : Int)))))) vb3 vi4))) (some (.p (.str vb3), [])) :=
  Eq.trans (show BQEncode_1 F (f1 + 1) s vi1 vi2 vb3 vi4 = cond (decide (vi2 < vi1)) (need (0 ≤ vi2 ∧ vi2 < (s.length : Int)) (need ((decide (((s.getD (vi2).toNat 0).toNat : Int) ≥ (33 : Int))) = true → (decide (((s.getD (vi2).toNat 0).toNat : Int) ≥ (33 : Int))) = true) (need ((decide (((s.getD (vi2).toNat 0).toNat : Int) ≥ (33 : Int))) = true → (decide (((s.getD (vi2).toNat 0).toNat : Int) ≥ (33 : Int))) = true) (need (((decide (((s.getD (vi2).toNat 0).toNat : Int) ≥ (33 : Int))) && (decide (((s.getD (vi2).toNat 0).toNat : Int) ≤ (126 : Int)))) = true → ((decide (((s.getD (vi2).toNat 0).toNat : Int) ≥ (33 : Int))) && (decide (((s.getD (vi2).toNat 0).toNat : Int) ≤ (126 : Int)))) = true) (need (((decide (((s.getD (vi2).toNat 0).toNat : Int) ≥ (33 : Int))) && (decide (((s.getD (vi2).toNat 0).toNat : Int) ≤ (126 : Int)))) = true → ((decide (((s.getD (vi2).toNat 0).toNat : Int) ≥ (33 : Int))) && (decide (((s.getD (vi2).toNat 0).toNat : Int) ≤ (126 : Int)))) = true) (need ((!(((decide (((s.getD (vi2).toNat 0).toNat : Int) ≥ (33 : Int))) && (decide (((s.getD (vi2).toNat 0).toNat : Int) ≤ (126 : Int)))) && (((s.getD (vi2).toNat 0).toNat : Int) != (61 : Int)))) = true → (!(((decide (((s.getD (vi2).toNat 0).toNat : Int) ≥ (33 : Int))) && (decide (((s.getD (vi2).toNat 0).toNat : Int) ≤ (126 : Int)))) && (((s.getD (vi2).toNat 0).toNat : Int) != (61 : Int)))) = true) (need ((!(((decide (((s.getD (vi2).toNat 0).toNat : Int) ≥ (33 : Int))) && (decide (((s.getD (vi2).toNat 0).toNat : Int) ≤ (126 : Int)))) && (((s.getD (vi2).toNat 0).toNat : Int) != (61 : Int)))) = true → (!(((decide (((s.getD (vi2).toNat 0).toNat : Int) ≥ (33 : Int))) && (decide (((s.getD (vi2).toNat 0).toNat : Int) ≤ (126 : Int)))) && (((s.getD (vi2).toNat 0).toNat : Int) != (61 : Int)))) = true) (need (((!(((decide (((s.getD (vi2).toNat 0).toNat : Int) ≥ (33 : Int))) && (decide (((s.getD (vi2).toNat 0).toNat : Int) ≤ (126 : Int)))) && (((s.getD (vi2).toNat 0).toNat : Int) != (61 : Int)))) && (((s.getD (vi2).toNat 0).toNat : Int) == (32 : Int))) = true → ((!(((decide (((s.getD (vi2).toNat 0).toNat : Int) ≥ (33 : Int))) && (decide (((s.getD (vi2).toNat 0).toNat : Int) ≤ (126 : Int)))) && (((s.getD (vi2).toNat 0).toNat : Int) != (61 : Int)))) && (((s.getD (vi2).toNat 0).toNat : Int) == (32 : Int))) = true) (need (((!(((decide (((s.getD (vi2).toNat 0).toNat : Int) ≥ (33 : Int))) && (decide (((s.getD (vi2).toNat 0).toNat : Int) ≤ (126 : Int)))) && (((s.getD (vi2).toNat 0).toNat : Int) != (61 : Int)))) && (((s.getD (vi2).toNat 0).toNat : Int) == (32 : Int))) = true → ((!(((decide (((s.getD (vi2).toNat 0).toNat : Int) ≥ (33 : Int))) && (decide (((s.getD (vi2).toNat 0).toNat : Int) ≤ (126 : Int)))) && (((s.getD (vi2).toNat 0).toNat : Int) != (61 : Int)))) && (((s.getD (vi2).toNat 0).toNat : Int) == (32 : Int))) = true) (need (((!(((decide (((s.getD (vi2).toNat 0).toNat : Int) ≥ (33 : Int))) && (decide (((s.getD (vi2).toNat 0).toNat : Int) ≤ (126 : Int)))) && (((s.getD (vi2).toNat 0).toNat : Int) != (61 : Int)))) && (((s.getD (vi2).toNat 0).toNat : Int) == (32 : Int))) = true → i64ok ((s.length : Int) - (1 : Int))) (need (((!(((decide (((s.getD (vi2).toNat 0).toNat : Int) ≥ (33 : Int))) && (decide (((s.getD (vi2).toNat 0).toNat : Int) ≤ (126 : Int)))) && (((s.getD (vi2).toNat 0).toNat : Int) != (61 : Int)))) && (((s.getD (vi2).toNat 0).toNat : Int) == (32 : Int))) = true → ((!(((decide (((s.getD (vi2).toNat 0).toNat : Int) ≥ (33 : Int))) && (decide (((s.getD (vi2).toNat 0).toNat : Int) ≤ (126 : Int)))) && (((s.getD (vi2).toNat 0).toNat : Int) != (61 : Int)))) && (((s.getD (vi2).toNat 0).toNat : Int) == (32 : Int))) = true) (need (((!(((decide (((s.getD (vi2).toNat 0).toNat : Int) ≥ (33 : Int))) && (decide (((s.getD (vi2).toNat 0).toNat : Int) ≤ (126 : Int)))) && (((s.getD (vi2).toNat 0).toNat : Int) != (61 : Int)))) && (((s.getD (vi2).toNat 0).toNat : Int) == (32 : Int))) = true → ((!(((decide (((s.getD (vi2).toNat 0).toNat : Int) ≥ (33 : Int))) && (decide (((s.getD (vi2).toNat 0).toNat : Int) ≤ (126 : Int)))) && (((s.getD (vi2).toNat 0).toNat : Int) != (61 : Int)))) && (((s.getD (vi2).toNat 0).toNat : Int) == (32 : Int))) = true) (need ((!(((decide (((s.getD (vi2).toNat 0).toNat : Int) ≥ (33 : Int))) && (decide (((s.getD (vi2).toNat 0).toNat : Int) ≤ (126 : Int)))) && (((s.getD (vi2).toNat 0).toNat : Int) != (61 : Int)))) = true → (!(((decide (((s.getD (vi2).toNat 0).toNat : Int) ≥ (33 : Int))) && (decide (((s.getD (vi2).toNat 0).toNat : Int) ≤ (126 : Int)))) && (((s.getD (vi2).toNat 0).toNat : Int) != (61 : Int)))) = true) (need ((!(((decide (((s.getD (vi2).toNat 0).toNat : Int) ≥ (33 : Int))) && (decide (((s.getD (vi2).toNat 0).toNat : Int) ≤ (126 : Int)))) && (((s.getD (vi2).toNat 0).toNat : Int) != (61 : Int)))) = true → (((s.getD (vi2).toNat 0).toNat : Int) == (32 : Int)) = true → ((!(((decide (((s.getD (vi2).toNat 0).toNat : Int) ≥ (33 : Int))) && (decide (((s.getD (vi2).toNat 0).toNat : Int) ≤ (126 : Int)))) && (((s.getD (vi2).toNat 0).toNat : Int) != (61 : Int)))) && (((s.getD (vi2).toNat 0).toNat : Int) == (32 : Int))) = true) (need ((((decide (((s.getD (vi2).toNat 0).toNat : Int) ≥ (33 : Int))) && (decide (((s.getD (vi2).toNat 0).toNat : Int) ≤ (126 : Int)))) && (((s.getD (vi2).toNat 0).toNat : Int) != (61 : Int))) = false → (!(((decide (((s.getD (vi2).toNat 0).toNat : Int) ≥ (33 : Int))) && (decide (((s.getD (vi2).toNat 0).toNat : Int) ≤ (126 : Int)))) && (((s.getD (vi2).toNat 0).toNat : Int) != (61 : Int)))) = true) (BQEncode_2 F f1 s ((s.getD (vi2).toNat 0).toNat : Int) vi1 vi2 ((((decide (((s.getD (vi2).toNat 0).toNat : Int) ≥ (33 : Int))) && (decide (((s.getD (vi2).toNat 0).toNat : Int) ≤ (126 : Int)))) && (((s.getD (vi2).toNat 0).toNat : Int) != (61 : Int))) || ((((s.getD (vi2).toNat 0).toNat : Int) == (32 : Int)) && (decide (vi2 < ((s.length : Int) - (1 : Int)))))) vb3 vi4)))))))))))))))) (some (.p (.str vb3), [])) by kernel_rfl) (cond_congr (need_congr (need_strike (show (decide (((s.getD (vi2).toNat 0).toNat : Int) ≥ (33 : Int))) = true → (decide (((s.getD (vi2).toNat 0).toNat : Int) ≥ (33 : Int))) = true from (fun q0 => q0)) (need_strike (show (decide (((s.getD (vi2).toNat 0).toNat : Int) ≥ (33 : Int))) = true → (decide (((s.getD (vi2).toNat 0).toNat : Int) ≥ (33 : Int))) = true from (fun q0 => q0)) (need_strike (show ((decide (((s.getD (vi2).toNat 0).toNat : Int) ≥ (33 : Int))) && (decide (((s.getD (vi2).toNat 0).toNat : Int) ≤ (126 : Int)))) = true → ((decide (((s.getD (vi2).toNat 0).toNat : Int) ≥ (33 : Int))) && (decide (((s.getD (vi2).toNat 0).toNat : Int) ≤ (126 : Int)))) = true from (fun q0 => q0)) (need_strike (show ((decide (((s.getD (vi2).toNat 0).toNat : Int) ≥ (33 : Int))) && (decide (((s.getD (vi2).toNat 0).toNat : Int) ≤ (126 : Int)))) = true → ((decide (((s.getD (vi2).toNat 0).toNat : Int) ≥ (33 : Int))) && (decide (((s.getD (vi2).toNat 0).toNat : Int) ≤ (126 : Int)))) = true from (fun q0 => q0)) (need_strike (show (!(((decide (((s.getD (vi2).toNat 0).toNat : Int) ≥ (33 : Int))) && (decide (((s.getD (vi2).toNat 0).toNat : Int) ≤ (126 : Int)))) && (((s.getD (vi2).toNat 0).toNat : Int) != (61 : Int)))) = true → (!(((decide (((s.getD (vi2).toNat 0).toNat : Int) ≥ (33 : Int))) && (decide (((s.getD (vi2).toNat 0).toNat : Int) ≤ (126 : Int)))) && (((s.getD (vi2).toNat 0).toNat : Int) != (61 : Int)))) = true from (fun q0 => q0)) (need_strike (show (!(((decide (((s.getD (vi2).toNat 0).toNat : Int) ≥ (33 : Int))) && (decide (((s.getD (vi2).toNat 0).toNat : Int) ≤ (126 : Int)))) && (((s.getD (vi2).toNat 0).toNat : Int) != (61 : Int)))) = true → (!(((decide (((s.getD (vi2).toNat 0).toNat : Int) ≥ (33 : Int))) && (decide (((s.getD (vi2).toNat 0).toNat : Int) ≤ (126 : Int)))) && (((s.getD (vi2).toNat 0).toNat : Int) != (61 : Int)))) = true from (fun q0 => q0)) (need_strike (show ((!(((decide (((s.getD (vi2).toNat 0).toNat : Int) ≥ (33 : Int))) && (decide (((s.getD (vi2).toNat 0).toNat : Int) ≤ (126 : Int)))) && (((s.getD (vi2).toNat 0).toNat : Int) != (61 : Int)))) && (((s.getD (vi2).toNat 0).toNat : Int) == (32 : Int))) = true → ((!(((decide (((s.getD (vi2).toNat 0).toNat : Int) ≥ (33 : Int))) && (decide (((s.getD (vi2).toNat 0).toNat : Int) ≤ (126 : Int)))) && (((s.getD (vi2).toNat 0).toNat : Int) != (61 : Int)))) && (((s.getD (vi2).toNat 0).toNat : Int) == (32 : Int))) = true from (fun q0 => q0)) (need_strike (show ((!(((decide (((s.getD (vi2).toNat 0).toNat : Int) ≥ (33 : Int))) && (decide (((s.getD (vi2).toNat 0).toNat : Int) ≤ (126 : Int)))) && (((s.getD (vi2).toNat 0).toNat : Int) != (61 : Int)))) && (((s.getD (vi2).toNat 0).toNat : Int) == (32 : Int))) = true → ((!(((decide (((s.getD (vi2).toNat 0).toNat : Int) ≥ (33 : Int))) && (decide (((s.getD (vi2).toNat 0).toNat : Int) ≤ (126 : Int)))) && (((s.getD (vi2).toNat 0).toNat : Int) != (61 : Int)))) && (((s.getD (vi2).toNat 0).toNat : Int) == (32 : Int))) = true from (fun q0 => q0)) (need_congr (need_strike (show ((!(((decide (((s.getD (vi2).toNat 0).toNat : Int) ≥ (33 : Int))) && (decide (((s.getD (vi2).toNat 0).toNat : Int) ≤ (126 : Int)))) && (((s.getD (vi2).toNat 0).toNat : Int) != (61 : Int)))) && (((s.getD (vi2).toNat 0).toNat : Int) == (32 : Int))) = true → ((!(((decide (((s.getD (vi2).toNat 0).toNat : Int) ≥ (33 : Int))) && (decide (((s.getD (vi2).toNat 0).toNat : Int) ≤ (126 : Int)))) && (((s.getD (vi2).toNat 0).toNat : Int) != (61 : Int)))) && (((s.getD (vi2).toNat 0).toNat : Int) == (32 : Int))) = true from (fun q0 => q0)) (need_strike (show ((!(((decide (((s.getD (vi2).toNat 0).toNat : Int) ≥ (33 : Int))) && (decide (((s.getD (vi2).toNat 0).toNat : Int) ≤ (126 : Int)))) && (((s.getD (vi2).toNat 0).toNat : Int) != (61 : Int)))) && (((s.getD (vi2).toNat 0).toNat : Int) == (32 : Int))) = true → ((!(((decide (((s.getD (vi2).toNat 0).toNat : Int) ≥ (33 : Int))) && (decide (((s.getD (vi2).toNat 0).toNat : Int) ≤ (126 : Int)))) && (((s.getD (vi2).toNat 0).toNat : Int) != (61 : Int)))) && (((s.getD (vi2).toNat 0).toNat : Int) == (32 : Int))) = true from (fun q0 => q0)) (need_strike (show (!(((decide (((s.getD (vi2).toNat 0).toNat : Int) ≥ (33 : Int))) && (decide (((s.getD (vi2).toNat 0).toNat : Int) ≤ (126 : Int)))) && (((s.getD (vi2).toNat 0).toNat : Int) != (61 : Int)))) = true → (!(((decide (((s.getD (vi2).toNat 0).toNat : Int) ≥ (33 : Int))) && (decide (((s.getD (vi2).toNat 0).toNat : Int) ≤ (126 : Int)))) && (((s.getD (vi2).toNat 0).toNat : Int) != (61 : Int)))) = true from (fun q0 => q0)) (need_strike (show (!(((decide (((s.getD (vi2).toNat 0).toNat : Int) ≥ (33 : Int))) && (decide (((s.getD (vi2).toNat 0).toNat : Int) ≤ (126 : Int)))) && (((s.getD (vi2).toNat 0).toNat : Int) != (61 : Int)))) = true → (((s.getD (vi2).toNat 0).toNat : Int) == (32 : Int)) = true → ((!(((decide (((s.getD (vi2).toNat 0).toNat : Int) ≥ (33 : Int))) && (decide (((s.getD (vi2).toNat 0).toNat : Int) ≤ (126 : Int)))) && (((s.getD (vi2).toNat 0).toNat : Int) != (61 : Int)))) && (((s.getD (vi2).toNat 0).toNat : Int) == (32 : Int))) = true from (fun q0 q1 => (and_mk q0 q1))) (need_strike (show (((decide (((s.getD (vi2).toNat 0).toNat : Int) ≥ (33 : Int))) && (decide (((s.getD (vi2).toNat 0).toNat : Int) ≤ (126 : Int)))) && (((s.getD (vi2).toNat 0).toNat : Int) != (61 : Int))) = false → (!(((decide (((s.getD (vi2).toNat 0).toNat : Int) ≥ (33 : Int))) && (decide (((s.getD (vi2).toNat 0).toNat : Int) ≤ (126 : Int)))) && (((s.getD (vi2).toNat 0).toNat : Int) != (61 : Int)))) = true from (fun q0 => (not_mk q0))) (rfl)))))))))))))))) (rfl))

theorem BQEncode_2_eq (F f1 : Nat) (s : List UInt8) (vi5 vi1 vi2 : Int) (vc6 : Bool) (vb3 : List UInt8) (vi4 : Int) : BQEncode_2 F f1 s vi5 vi1 vi2 vc6 vb3 vi4 = cond (vc6) (need (putok [UInt8.ofNat (vi5).toNat] vi4 vb3) (BQEncode_3 F f1 s vi1 vi2 ((putS [UInt8.ofNat (vi5).toNat] vi4 vb3).2) ((putS [UInt8.ofNat (vi5).toNat] vi4 vb3).1))) ((need (0 ≤ (vi5.fdiv 16) ∧ (vi5.fdiv 16) < (([48, 49, 50, 51, 52, 53, 54, 55, 56, 57, 65, 66, 67, 68, 69, 70] : List UInt8).length : Int)) (need (0 ≤ (ibits .and .u8 vi5 (15 : Int)) ∧ (ibits .and .u8 vi5 (15 : Int)) < (([48, 49, 50, 51, 52, 53, 54, 55, 56, 57, 65, 66, 67, 68, 69, 70] : List UInt8).length : Int)) (need (putok [UInt8.ofNat ((61 : Int)).toNat, UInt8.ofNat (((([48, 49, 50, 51, 52, 53, 54, 55, 56, 57, 65, 66, 67, 68, 69, 70] : List UInt8).getD (vi5.fdiv 16).toNat 0).toNat : Int)).toNat, UInt8.ofNat (((([48, 49, 50, 51, 52, 53, 54, 55, 56, 57, 65, 66, 67, 68, 69, 70] : List UInt8).getD (ibits .and .u8 vi5 (15 : Int)).toNat 0).toNat : Int)).toNat] vi4 vb3) (BQEncode_3 F f1 s vi1 vi2 ((putS [UInt8.ofNat ((61 : Int)).toNat, UInt8.ofNat (((([48, 49, 50, 51, 52, 53, 54, 55, 56, 57, 65, 66, 67, 68, 69, 70] : List UInt8).getD (vi5.fdiv 16).toNat 0).toNat : Int)).toNat, UInt8.ofNat (((([48, 49, 50, 51, 52, 53, 54, 55, 56, 57, 65, 66, 67, 68, 69, 70] : List UInt8).getD (ibits .and .u8 vi5 (15 : Int)).toNat 0).toNat : Int)).toNat] vi4 vb3).2) ((putS [UInt8.ofNat ((61 : Int)).toNat, UInt8.ofNat (((([48, 49, 50, 51, 52, 53, 54, 55, 56, 57, 65, 66, 67, 68, 69, 70] : List UInt8).getD (vi5.fdiv 16).toNat 0).toNat : Int)).toNat, UInt8.ofNat (((([48, 49, 50, 51, 52, 53, 54, 55, 56, 57, 65, 66, 67, 68, 69, 70] : List UInt8).getD (ibits .and .u8 vi5 (15 : Int)).toNat 0).toNat : Int)).toNat] vi4 vb3).1)))))) := by
  have h : BQEncode_2 F f1 s vi5 vi1 vi2 vc6 vb3 vi4 = cond (vc6) (need (putok [UInt8.ofNat (vi5).toNat] vi4 vb3) (BQEncode_3 F f1 s vi1 vi2 ((putS [UInt8.ofNat (vi5).toNat] vi4 vb3).2) ((putS [UInt8.ofNat (vi5).toNat] vi4 vb3).1))) (need (0 ≤ (4 : Int)) (need (0 ≤ (vi5.fdiv 16) ∧ (vi5.fdiv 16) < (([48, 49, 50, 51, 52, 53, 54, 55, 56, 57, 65, 66, 67, 68, 69, 70] : List UInt8).length : Int)) (need (0 ≤ (ibits .and .u8 vi5 (15 : Int)) ∧ (ibits .and .u8 vi5 (15 : Int)) < (([48, 49, 50, 51, 52, 53, 54, 55, 56, 57, 65, 66, 67, 68, 69, 70] : List UInt8).length : Int)) (need (putok [UInt8.ofNat ((61 : Int)).toNat, UInt8.ofNat (((([48, 49, 50, 51, 52, 53, 54, 55, 56, 57, 65, 66, 67, 68, 69, 70] : List UInt8).getD (vi5.fdiv 16).toNat 0).toNat : Int)).toNat, UInt8.ofNat (((([48, 49, 50, 51, 52, 53, 54, 55, 56, 57, 65, 66, 67, 68, 69, 70] : List UInt8).getD (ibits .and .u8 vi5 (15 : Int)).toNat 0).toNat : Int)).toNat] vi4 vb3) (BQEncode_3 F f1 s vi1 vi2 ((putS [UInt8.ofNat ((61 : Int)).toNat, UInt8.ofNat (((([48, 49, 50, 51, 52, 53, 54, 55, 56, 57, 65, 66, 67, 68, 69, 70] : List UInt8).getD (vi5.fdiv 16).toNat 0).toNat : Int)).toNat, UInt8.ofNat (((([48, 49, 50, 51, 52, 53, 54, 55, 56, 57, 65, 66, 67, 68, 69, 70] : List UInt8).getD (ibits .and .u8 vi5 (15 : Int)).toNat 0).toNat : Int)).toNat] vi4 vb3).2) ((putS [UInt8.ofNat ((61 : Int)).toNat, UInt8.ofNat (((([48, 49, 50, 51, 52, 53, 54, 55, 56, 57, 65, 66, 67, 68, 69, 70] : List UInt8).getD (vi5.fdiv 16).toNat 0).toNat : Int)).toNat, UInt8.ofNat (((([48, 49, 50, 51, 52, 53, 54, 55, 56, 57, 65, 66, 67, 68, 69, 70] : List UInt8).getD (ibits .and .u8 vi5 (15 : Int)).toNat 0).toNat : Int)).toNat] vi4 vb3).1)))))) := by kernel_rfl
  rw [h, need_pos (show 0 ≤ (4 : Int) from (by decide))]

theorem BQEncode_3_eq (F f1 : Nat) (s : List UInt8) (vi1 vi2 : Int) (vb7 : List UInt8) (vi8 : Int) : BQEncode_3 F f1 s vi1 vi2 vb7 vi8 = need (i64ok (vi2 + (1 : Int))) (BQEncode_1 F f1 s vi1 (vi2 + (1 : Int)) vb7 vi8) := by kernel_rfl

theorem FQEncode_eq (F : Nat) (s : List UInt8) : FQEncode F s = BQEncode_1 F F s (s.length : Int) (0 : Int) [] (0 : Int) := by kernel_rfl

theorem fn_QEncode (F : Nat) (s : List UInt8) (r : AV) (h : (∃ M vs, ARels γ0 M [.p (.str s)] vs) → FQEncode F s = some (r, [])) : FnP Tryd.prog 23 [.p (.str s)] r :=
  FnP_run GQEncode F rfl (EnvOk_mk (l := []) trivial) (EnvROk_mk (l := [(40, sp_put)]) ⟨ok_put, trivial⟩) (Checked.mixed Tryd.checked) (fn := Tryd.f23) (by kernel_rfl) (by kernel_rfl) rfl h
/-! What QEncode and RQuoted compute. -/

def hexD (n : Nat) : UInt8 := ([48, 49, 50, 51, 52, 53, 54, 55, 56, 57, 65, 66, 67, 68, 69, 70] : List UInt8).getD n 0
abbrev plainC (c : UInt8) (last : Bool) : Prop := (33 ≤ c.toNat ∧ c.toNat ≤ 126 ∧ c.toNat ≠ 61) ∨ (c.toNat = 32 ∧ last = false)
def pieceS (c : UInt8) (last : Bool) : List UInt8 := if plainC c last then [c] else [61, hexD (c.toNat / 16), hexD (c.toNat % 16)]

def encL : Nat → List UInt8 → List UInt8
  | _, [] => []
  | line, c :: r => if line + (pieceS c r.isEmpty).length > 75 then [61, 13, 10] ++ pieceS c r.isEmpty ++ encL (pieceS c r.isEmpty).length r
    else pieceS c r.isEmpty ++ encL (line + (pieceS c r.isEmpty).length) r

theorem pieceS_len (c : UInt8) (l : Bool) : 1 ≤ (pieceS c l).length ∧ (pieceS c l).length ≤ 3 := by unfold pieceS; split <;> simp

theorem nib_lo (c : UInt8) : ibits .and .u8 (c.toNat : Int) (15 : Int) = ((c.toNat % 16 : Nat) : Int) := by
  have h := c.toNat_lt
  have : ∀ x : Fin 256, ibits .and .u8 ((x.val : Nat) : Int) (15 : Int) = ((x.val % 16 : Nat) : Int) := by decide +kernel
  exact this ⟨c.toNat, h⟩

theorem hexD_fold (n : Nat) : ([48, 49, 50, 51, 52, 53, 54, 55, 56, 57, 65, 66, 67, 68, 69, 70] : List UInt8).getD n 0 = hexD n := rfl
theorem u61 : UInt8.ofNat ((61 : Int)).toNat = 61 := rfl

theorem BQEncode_spec (F : Nat) (s : List UInt8) (hs : s.length ≤ 1000000) : ∀ (f i line : Nat) (b : List UInt8), s.length < f + i → i ≤ s.length → line ≤ 75 → b.length ≤ 6 * i →
    BQEncode_1 F f s (s.length : Int) (i : Int) b (line : Int) = some (.p (.str (b ++ encL line (s.drop i))), []) := by
  intro f
  induction f with
  | zero => intro i line b h1 h2; omega
  | succ f ih =>
    intro i line b h1 h2 hl h3
    cases hd : s.drop i with
    | nil =>
      have : s.length ≤ i := by have := congrArg List.length hd; simp at this; omega
      rw [BQEncode_1_eq, encL, List.append_nil]
      exact cond_f (by simp; omega) rfl
    | cons c r =>
      obtain ⟨e1, e2, _⟩ := drop_cons hd
      have e4 : s.length = i + 1 + r.length := by have := congrArg List.length hd; simp at this; omega
      have hc := c.toNat_lt
      have hp := pieceS_len c r.isEmpty
      -- a piece is put
      have step : putok (pieceS c r.isEmpty) (line : Int) b ∧ BQEncode_3 F f s (s.length : Int) (i : Int) (putS (pieceS c r.isEmpty) (line : Int) b).2 (putS (pieceS c r.isEmpty) (line : Int) b).1 = some (.p (.str (b ++ encL line (c :: r))), []) := by
        refine ⟨⟨by omega, by omega, by omega, by omega⟩, ?_⟩
        rw [BQEncode_3_eq, encL]
        refine need_mk (by unfold i64ok; omega) ?_
        rw [show (i : Int) + 1 = ((i + 1 : Nat) : Int) by omega]
        unfold putS
        by_cases hgt : line + (pieceS c r.isEmpty).length > 75
        · rw [if_pos hgt, if_pos (by omega)]
          rw [ih (i + 1) (pieceS c r.isEmpty).length ((b ++ [61, 13, 10]) ++ pieceS c r.isEmpty) (by omega) (by omega) (by omega) (by simp; omega), e2]
          simp
        · rw [if_neg hgt, if_neg (by omega)]
          have := ih (i + 1) (line + (pieceS c r.isEmpty).length) (b ++ pieceS c r.isEmpty) (by omega) (by omega) (by omega) (by simp; omega)
          rw [show (line : Int) + ((pieceS c r.isEmpty).length : Int) = ((line + (pieceS c r.isEmpty).length : Nat) : Int) by omega]
          refine this.trans ?_
          rw [e2]; simp
      rw [BQEncode_1_eq, Int.toNat_natCast, e1]
      refine cond_t (by simp; omega) (need_mk ⟨by omega, by omega⟩ (need_mk (fun _ => by unfold i64ok; omega) ?_))
      rw [BQEncode_2_eq]
      by_cases hpl : plainC c r.isEmpty
      · have e : pieceS c r.isEmpty = [c] := by unfold pieceS; rw [if_pos hpl]
        rw [e] at step
        refine cond_t ?_ ?_
        · rcases hpl with h | h
          · simp; left; omega
          · have : r ≠ [] := by intro e; rw [e] at h; simp at h
            have : 0 < r.length := List.length_pos_iff.2 this
            simp; right; omega
        · simp only [Int.toNat_natCast, UInt8.ofNat_toNat]
          exact need_mk step.1 step.2
      · have e : pieceS c r.isEmpty = [61, hexD (c.toNat / 16), hexD (c.toNat % 16)] := by unfold pieceS; rw [if_neg hpl]
        rw [e] at step
        refine cond_f ?_ ?_
        · rw [Bool.eq_false_iff]
          intro h
          refine hpl ?_
          simp at h
          rcases h with h | h
          · left; omega
          · right
            refine ⟨by omega, ?_⟩
            cases r with
            | nil => simp at e4; omega
            | cons _ _ => rfl
        · have n1 : ((c.toNat : Int).fdiv 16) = ((c.toNat / 16 : Nat) : Int) := by rw [Int.fdiv_eq_ediv_of_nonneg _ (by omega)]; rfl
          simp only [n1, nib_lo, Int.toNat_natCast, UInt8.ofNat_toNat, hexD_fold, u61]
          exact need_mk ⟨by omega, by show _ < (16 : Int); omega⟩ (need_mk ⟨by omega, by show _ < (16 : Int); omega⟩ (need_mk step.1 step.2))
theorem QEncode_eq (s : List UInt8) (hs : s.length ≤ 1000000) : FQEncode 1000001 s = some (.p (.str (encL 0 s)), []) := by
  rw [FQEncode_eq]
  exact BQEncode_spec 1000001 s hs 1000001 0 0 [] (by omega) (by omega) (by omega) (by simp)
def sp_QEncode : List AV → Option (AV × Option Prop)
  | [.p (.str s)] => some (.p (.str (encL 0 s)), some (s.length ≤ 1000000))
  | _ => none
theorem ok_QEncode : SpecOk Tryd.prog 23 sp_QEncode := by
  intro zs r ok he hok
  unfold sp_QEncode at he
  split at he
  · cases he; exact ⟨by kernel_rfl, fn_QEncode (_) _ _ fun hx => QEncode_eq _ hok⟩
  · cases he
end Go.Proofs.YthfgklcdkehgjaaDoor
