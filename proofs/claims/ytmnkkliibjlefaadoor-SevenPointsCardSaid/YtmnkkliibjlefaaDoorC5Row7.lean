/-
  Lifted functions, and facts about them.
-/
import Derived.Test.YtmnkkliibjlefaaDoorRows
import Derived.Test.YtmnkkliibjlefaaDoorAmC
import Derived.Test.YtmnkkliibjlefaaDoorC5Units
import Derived.Test.YtmnkkliibjlefaaDoorC5BldC
namespace Go.Proofs.YtmnkkliibjlefaaDoor
open Go Go.Am
set_option linter.unusedVariables false
def rowS (l : List UInt8) : List UInt8 := ([38] ++ repS (trimS (encB l) 61) 47 44) ++ [45]
theorem trimS_len (s : List UInt8) (c : Int) : (trimS s c).length ≤ s.length := by
  unfold trimS
  rw [List.length_reverse]
  have := congrArg List.length (List.takeWhile_append_dropWhile (p := fun x : UInt8 => decide ((x.toNat : Int) = c)) (l := s.reverse))
  rw [List.length_append, List.length_reverse] at this
  omega
theorem repl_len (s : List UInt8) (c d : UInt8) : (repS s c d).length = s.length := by simp [repS]
theorem encB_l7 (s : List UInt8) : (encB s).length = (s.length + 2) / 3 * 4 := encB_len _ s (Nat.le_refl _)
theorem rowS_len (l : List UInt8) : (rowS l).length ≤ 2 * l.length + 6 := by
  have h1 := trimS_len (encB l) 61
  have h2 := encB_l7 l
  unfold rowS
  simp only [List.length_append, List.length_cons, List.length_nil, repl_len]
  omega
noncomputable def crow : Code := bodyOf Tryd.f21

noncomputable def Grow : Cfg := ⟨Tryd.prog, mkEnv [(30, sp_repa), (34, sp_trim), (35, sp_Encode)], mkEnvR [], 12, [70000], [], []⟩

noncomputable def Frow (F : Nat) (l : List UInt8) : Option Ans := runFR Grow Tryd.f21 ⟨[2], [⟨.fix 70000, 70000, .cells []⟩]⟩ [70000] F [.arr 70000] [(70000, .barr 5 true l)]

theorem Frow_eq (F : Nat) (l : List UInt8) : Frow F l = need (l.length ≤ 1000000) (need ((encB l).length ≤ 1000000) (need ((trimS (encB l) 61).length ≤ 1000000) (need (lenok (([38] : List UInt8).length + (repS (trimS (encB l) 61) 47 44).length)) (need (lenok ((([38] : List UInt8) ++ (repS (trimS (encB l) 61) 47 44)).length + ([45] : List UInt8).length)) (some (.p (.str ((([38] : List UInt8) ++ (repS (trimS (encB l) 61) 47 44)) ++ ([45] : List UInt8))), [(70000, .barr 5 true l)])))))) := by kernel_rfl

theorem fn_row (F : Nat) (l : List UInt8) (r : AV) (os : List (Nat × AObj)) (h : (∃ γ M w vs, ARels γ M [.arr 70000] vs ∧ Objs γ M w (fun i => lookO i [(70000, .barr 5 true l)]) (fun b => b < w.heap.size)) → Frow F l = some (r, os)) : FnR Tryd.prog 21 [.arr 70000] [(70000, .barr 5 true l)] [70000] r os :=
  FnR_run Grow ⟨[2], [⟨.fix 70000, 70000, .cells []⟩]⟩ [70000] F rfl (EnvOk_mk (l := [(30, sp_repa), (34, sp_trim), (35, sp_Encode)]) ⟨ok_repa.any, ok_trim.any, ok_Encode.any, trivial⟩) (EnvROk_mk (l := []) trivial) (Checked.mixed Tryd.checked) (fn := Tryd.f21) (by kernel_rfl) (by kernel_rfl) rfl h
theorem row_eq (l : List UInt8) (h : l.length ≤ 300000) : Frow 0 l = some (.p (.str (rowS l)), [(70000, .barr 5 true l)]) := by
  have h1 := trimS_len (encB l) 61
  have h2 := encB_l7 l
  rw [Frow_eq]
  refine need_mk (by omega) (need_mk (by omega) (need_mk (by omega) (need_mk (by unfold lenok; rw [repl_len]; simp; omega) (need_mk (by unfold lenok; rw [List.length_append, repl_len]; simp; omega) rfl))))
def sp_row : RSpec := ⟨[false], fun args ib => match args, ib with
  | [.arr 70000], [(70000, .barr 5 true l)] => some (([70000], .p (.str (rowS l))), ([(70000, .barr 5 true l)], some (l.length ≤ 300000)))
  | _, _ => none⟩
theorem ok_row : SpecROk Tryd.prog 21 sp_row := by
  intro args ib kept r outs ok he hok
  simp only [sp_row] at he
  split at he
  · cases he
    exact ⟨by kernel_rfl, fn_row 0 _ _ _ fun _ => row_eq _ hok⟩
  · cases he
noncomputable def cflush : Code := bodyOf Tryd.f19

noncomputable def Gflush : Cfg := ⟨Tryd.prog, mkEnv [], mkEnvR [(20, sp_wstr), (21, sp_row)], 10, [70000, 70001], [], [([0, 0, 1], [1, 2]), ([1, 0, 1], [1])]⟩

noncomputable def Fflush (F : Nat) (o : List UInt8) (b : List UInt8) : Option Ans := runFR Gflush Tryd.f19 ⟨[], [⟨.fix 70000, 70000, .cells []⟩, ⟨.fix 70001, 70001, .cells []⟩, ⟨.cell 70000 0, 70001000, (.barr 5 false [])⟩, ⟨.cell 70001 1, 70002001, (.barr 5 false [])⟩]⟩ [70000, 70001, 70001000, 70002001] F [.ref 70000 0, .ref 70001 0] [(70000, .cells [.arr 70002]), (70001, .bldr 42 (.arr 70003)), (70002, .barr 5 true o), (70003, .barr 5 false b)]

theorem Fflush_eq (F : Nat) (o : List UInt8) (b : List UInt8) : Fflush F o b = cond (decide ((o.length : Int) > (0 : Int))) (need (o.length ≤ 300000) (need (b.length + (rowS o).length ≤ 140737488355328) (need (0 ≤ (0 : Int) ∧ (0 : Int) ≤ (o.length : Int)) (some (.tup [], [(70000, .cells [.arr 70001000]), (70001, .bldr 42 (.arr 70002001)), (70001000, .barr 5 true (o.take ((0 : Int)).toNat)), (70002001, .barr 5 false (b ++ (rowS o)))]))))) (some (.tup [], [(70000, .cells [.arr 70001000]), (70001, .bldr 42 (.arr 70002001)), (70001000, .barr 5 true o), (70002001, .barr 5 false b)])) := by kernel_rfl

theorem fn_flush (F : Nat) (o : List UInt8) (b : List UInt8) (r : AV) (os : List (Nat × AObj)) (h : (∃ γ M w vs, ARels γ M [.ref 70000 0, .ref 70001 0] vs ∧ Objs γ M w (fun i => lookO i [(70000, .cells [.arr 70002]), (70001, .bldr 42 (.arr 70003)), (70002, .barr 5 true o), (70003, .barr 5 false b)]) (fun b => b < w.heap.size)) → Fflush F o b = some (r, os)) : FnR Tryd.prog 19 [.ref 70000 0, .ref 70001 0] [(70000, .cells [.arr 70002]), (70001, .bldr 42 (.arr 70003)), (70002, .barr 5 true o), (70003, .barr 5 false b)] [70000, 70001] r os :=
  FnR_run Gflush ⟨[], [⟨.fix 70000, 70000, .cells []⟩, ⟨.fix 70001, 70001, .cells []⟩, ⟨.cell 70000 0, 70001000, (.barr 5 false [])⟩, ⟨.cell 70001 1, 70002001, (.barr 5 false [])⟩]⟩ [70000, 70001, 70001000, 70002001] F rfl (EnvOk_mk (l := []) trivial) (EnvROk_mk (l := [(20, sp_wstr), (21, sp_row)]) ⟨ok_wstr, ok_row, trivial⟩) (Checked.mixed Tryd.checked) (fn := Tryd.f19) (by kernel_rfl) (by kernel_rfl) rfl h
def flushS (o b : List UInt8) : List UInt8 × List UInt8 := if o = [] then (o, b) else ([], b ++ rowS o)
theorem flush_eq (o b : List UInt8) (h : o.length ≤ 300000 ∧ b.length ≤ 100000000) : Fflush 0 o b = some (.tup [], [(70000, .cells [.arr 70001000]), (70001, .bldr 42 (.arr 70002001)), (70001000, .barr 5 true (flushS o b).1), (70002001, .barr 5 false (flushS o b).2)]) := by
  have hr := rowS_len o
  rw [Fflush_eq, flushS]
  by_cases ho : o = []
  · subst ho
    exact cond_f rfl rfl
  · have hl : 0 < o.length := List.length_pos_iff.2 ho
    refine cond_t (by simp; omega) (need_mk h.1 (need_mk (by omega) (need_mk (by omega) ?_)))
    rw [if_neg ho]; rfl
def sp_flush : RSpec := ⟨[false, false], fun args ib => match args, ib with
  | [.ref 70000 0, .ref 70001 0], [(70000, .cells [.arr 70002]), (70001, .bldr 42 (.arr 70003)), (70002, .barr 5 true o), (70003, .barr 5 false b)] =>
    some (([70000, 70001], .tup []), ([(70000, .cells [.arr 70001000]), (70001, .bldr 42 (.arr 70002001)), (70001000, .barr 5 true (flushS o b).1), (70002001, .barr 5 false (flushS o b).2)], some (o.length ≤ 300000 ∧ b.length ≤ 100000000)))
  | _, _ => none⟩
theorem ok_flush : SpecROk Tryd.prog 19 sp_flush := by
  intro args ib kept r outs ok he hok
  simp only [sp_flush] at he
  split at he
  · cases he
    exact ⟨by kernel_rfl, fn_flush 0 _ _ _ _ fun _ => flush_eq _ _ hok⟩
  · cases he
end Go.Proofs.YtmnkkliibjlefaaDoor
