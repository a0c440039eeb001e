/-
  Lifted functions, and facts about them.
-/
import Derived.Test.YtmnkkliibjlefaaDoorRows
import Derived.Test.YtmnkkliibjlefaaDoorAmC
import Derived.Test.YtmnkkliibjlefaaDoorC5BldB
namespace Go.Proofs.YtmnkkliibjlefaaDoor
open Go Go.Am
set_option linter.unusedVariables false
noncomputable def cwsr : Code := bodyOf Tryd.f20

noncomputable def Gwsr : Cfg := ⟨Tryd.prog, mkEnv [], mkEnvR [(33, sp_bcc)], 19, [70000], [], [([0, 1], [1])]⟩

noncomputable def Fwsr (F : Nat) (s : List UInt8) (l : List UInt8) : Option Ans := runFR Gwsr Tryd.f20 ⟨[4, 5], [⟨.fix 70000, 70000, .cells []⟩, ⟨.cell 70000 1, 70001001, (.barr 5 false [])⟩]⟩ [70000, 70001001] F [.ref 70000 0, .p (.str s)] [(70000, .bldr 42 (.arr 70001)), (70001, .barr 5 false l)]

theorem Fwsr_eq (F : Nat) (s : List UInt8) (l : List UInt8) : Fwsr F s l = need ((l.length + s.length) * 1 ≤ 140737488355328) (some (.tup [.p (.int .i64 (s.length : Int)), .p (.plain .nilIface)], [(70000, .bldr 42 (.arr 70001001)), (70001001, .barr 5 false (l ++ s))])) := by kernel_rfl

theorem fn_wsr (F : Nat) (s : List UInt8) (l : List UInt8) (r : AV) (os : List (Nat × AObj)) (h : (∃ γ M w vs, ARels γ M [.ref 70000 0, .p (.str s)] vs ∧ Objs γ M w (fun i => lookO i [(70000, .bldr 42 (.arr 70001)), (70001, .barr 5 false l)]) (fun b => b < w.heap.size)) → Fwsr F s l = some (r, os)) : FnR Tryd.prog 20 [.ref 70000 0, .p (.str s)] [(70000, .bldr 42 (.arr 70001)), (70001, .barr 5 false l)] [70000] r os :=
  FnR_run Gwsr ⟨[4, 5], [⟨.fix 70000, 70000, .cells []⟩, ⟨.cell 70000 1, 70001001, (.barr 5 false [])⟩]⟩ [70000, 70001001] F rfl (EnvOk_mk (l := []) trivial) (EnvROk_mk (l := [(33, sp_bcc)]) ⟨ok_bcc, trivial⟩) (Checked.mixed Tryd.checked) (fn := Tryd.f20) (by kernel_rfl) (by kernel_rfl) rfl h

noncomputable def cwsn : Code := bodyOf Tryd.f20

noncomputable def Gwsn : Cfg := ⟨Tryd.prog, mkEnv [], mkEnvR [(33, sp_bcc)], 19, [70000], [], [([0, 1], [1])]⟩

noncomputable def Fwsn (F : Nat) (s : List UInt8) : Option Ans := runFR Gwsn Tryd.f20 ⟨[4, 5], [⟨.fix 70000, 70000, .cells []⟩, ⟨.cell 70000 1, 70001001, (.barr 5 false [])⟩]⟩ [70000, 70001001] F [.ref 70000 0, .p (.str s)] [(70000, .bldr 42 (.p .nil))]

theorem Fwsn_eq (F : Nat) (s : List UInt8) : Fwsn F s = need (s.length * 1 ≤ 140737488355328) (some (.tup [.p (.int .i64 (s.length : Int)), .p (.plain .nilIface)], [(70000, .bldr 42 (.arr 70001001)), (70001001, .barr 5 false s)])) := by kernel_rfl

theorem fn_wsn (F : Nat) (s : List UInt8) (r : AV) (os : List (Nat × AObj)) (h : (∃ γ M w vs, ARels γ M [.ref 70000 0, .p (.str s)] vs ∧ Objs γ M w (fun i => lookO i [(70000, .bldr 42 (.p .nil))]) (fun b => b < w.heap.size)) → Fwsn F s = some (r, os)) : FnR Tryd.prog 20 [.ref 70000 0, .p (.str s)] [(70000, .bldr 42 (.p .nil))] [70000] r os :=
  FnR_run Gwsn ⟨[4, 5], [⟨.fix 70000, 70000, .cells []⟩, ⟨.cell 70000 1, 70001001, (.barr 5 false [])⟩]⟩ [70000, 70001001] F rfl (EnvOk_mk (l := []) trivial) (EnvROk_mk (l := [(33, sp_bcc)]) ⟨ok_bcc, trivial⟩) (Checked.mixed Tryd.checked) (fn := Tryd.f20) (by kernel_rfl) (by kernel_rfl) rfl h

noncomputable def cwbr : Code := bodyOf Tryd.f24

noncomputable def Gwbr : Cfg := ⟨Tryd.prog, mkEnv [], mkEnvR [(33, sp_bcc)], 17, [70000], [], [([0, 1], [1])]⟩

noncomputable def Fwbr (F : Nat) (c : Int) (l : List UInt8) : Option Ans := runFR Gwbr Tryd.f24 ⟨[4], [⟨.fix 70000, 70000, .cells []⟩, ⟨.cell 70000 1, 70001001, (.barr 5 false [])⟩]⟩ [70000, 70001001] F [.ref 70000 0, .p (.int .u8 c)] [(70000, .bldr 42 (.arr 70001)), (70001, .barr 5 false l)]

theorem Fwbr_eq (F : Nat) (c : Int) (l : List UInt8) : Fwbr F c l = need ((l.length + [UInt8.ofNat (c).toNat].length) * 1 ≤ 140737488355328) (some (.p (.plain .nilIface), [(70000, .bldr 42 (.arr 70001001)), (70001001, .barr 5 false (l ++ [UInt8.ofNat (c).toNat]))])) := by kernel_rfl

theorem fn_wbr (F : Nat) (c : Int) (l : List UInt8) (r : AV) (os : List (Nat × AObj)) (h : (∃ γ M w vs, ARels γ M [.ref 70000 0, .p (.int .u8 c)] vs ∧ Objs γ M w (fun i => lookO i [(70000, .bldr 42 (.arr 70001)), (70001, .barr 5 false l)]) (fun b => b < w.heap.size)) → Fwbr F c l = some (r, os)) : FnR Tryd.prog 24 [.ref 70000 0, .p (.int .u8 c)] [(70000, .bldr 42 (.arr 70001)), (70001, .barr 5 false l)] [70000] r os :=
  FnR_run Gwbr ⟨[4], [⟨.fix 70000, 70000, .cells []⟩, ⟨.cell 70000 1, 70001001, (.barr 5 false [])⟩]⟩ [70000, 70001001] F rfl (EnvOk_mk (l := []) trivial) (EnvROk_mk (l := [(33, sp_bcc)]) ⟨ok_bcc, trivial⟩) (Checked.mixed Tryd.checked) (fn := Tryd.f24) (by kernel_rfl) (by kernel_rfl) rfl h

noncomputable def cwbn : Code := bodyOf Tryd.f24

noncomputable def Gwbn : Cfg := ⟨Tryd.prog, mkEnv [], mkEnvR [(33, sp_bcc)], 17, [70000], [], [([0, 1], [1])]⟩

noncomputable def Fwbn (F : Nat) (c : Int) : Option Ans := runFR Gwbn Tryd.f24 ⟨[4], [⟨.fix 70000, 70000, .cells []⟩, ⟨.cell 70000 1, 70001001, (.barr 5 false [])⟩]⟩ [70000, 70001001] F [.ref 70000 0, .p (.int .u8 c)] [(70000, .bldr 42 (.p .nil))]

theorem Fwbn_eq (F : Nat) (c : Int) : Fwbn F c = need ([UInt8.ofNat (c).toNat].length * 1 ≤ 140737488355328) (some (.p (.plain .nilIface), [(70000, .bldr 42 (.arr 70001001)), (70001001, .barr 5 false [UInt8.ofNat (c).toNat])])) := by kernel_rfl

theorem fn_wbn (F : Nat) (c : Int) (r : AV) (os : List (Nat × AObj)) (h : (∃ γ M w vs, ARels γ M [.ref 70000 0, .p (.int .u8 c)] vs ∧ Objs γ M w (fun i => lookO i [(70000, .bldr 42 (.p .nil))]) (fun b => b < w.heap.size)) → Fwbn F c = some (r, os)) : FnR Tryd.prog 24 [.ref 70000 0, .p (.int .u8 c)] [(70000, .bldr 42 (.p .nil))] [70000] r os :=
  FnR_run Gwbn ⟨[4], [⟨.fix 70000, 70000, .cells []⟩, ⟨.cell 70000 1, 70001001, (.barr 5 false [])⟩]⟩ [70000, 70001001] F rfl (EnvOk_mk (l := []) trivial) (EnvROk_mk (l := [(33, sp_bcc)]) ⟨ok_bcc, trivial⟩) (Checked.mixed Tryd.checked) (fn := Tryd.f24) (by kernel_rfl) (by kernel_rfl) rfl h
def sp_wstr : RSpec := ⟨[false, true], fun args ib => match args, ib with
  | [.ref 70000 0, .p (.str s)], [(70000, .bldr 42 (.arr 70001)), (70001, .barr 5 false l)] => some (([70000], .tup [.p (.int .i64 (s.length : Int)), .p (.plain .nilIface)]), ([(70000, .bldr 42 (.arr 70001001)), (70001001, .barr 5 false (l ++ s))], some (l.length + s.length ≤ 140737488355328)))
  | [.ref 70000 0, .p (.str s)], [(70000, .bldr 42 (.p .nil))] => some (([70000], .tup [.p (.int .i64 (s.length : Int)), .p (.plain .nilIface)]), ([(70000, .bldr 42 (.arr 70001001)), (70001001, .barr 5 false s)], some (s.length ≤ 140737488355328)))
  | _, _ => none⟩
theorem ok_wstr : SpecROk Tryd.prog 20 sp_wstr := by
  intro args ib kept r outs ok he hok
  simp only [sp_wstr] at he
  split at he
  · cases he
    exact ⟨by kernel_rfl, fn_wsr 0 _ _ _ _ fun _ => by rw [Fwsr_eq, need_pos (by rw [Nat.mul_one]; exact hok)]⟩
  · cases he
    exact ⟨by kernel_rfl, fn_wsn 0 _ _ _ fun _ => by rw [Fwsn_eq, need_pos (by rw [Nat.mul_one]; exact hok)]⟩
  · cases he
def sp_wbyte : RSpec := ⟨[false, true], fun args ib => match args, ib with
  | [.ref 70000 0, .p (.int .u8 c)], [(70000, .bldr 42 (.arr 70001)), (70001, .barr 5 false l)] => some (([70000], .p (.plain .nilIface)), ([(70000, .bldr 42 (.arr 70001001)), (70001001, .barr 5 false (l ++ [UInt8.ofNat c.toNat]))], some (l.length + 1 ≤ 140737488355328)))
  | [.ref 70000 0, .p (.int .u8 c)], [(70000, .bldr 42 (.p .nil))] => some (([70000], .p (.plain .nilIface)), ([(70000, .bldr 42 (.arr 70001001)), (70001001, .barr 5 false [UInt8.ofNat c.toNat])], none))
  | _, _ => none⟩
theorem ok_wbyte : SpecROk Tryd.prog 24 sp_wbyte := by
  intro args ib kept r outs ok he hok
  simp only [sp_wbyte] at he
  split at he
  · cases he
    exact ⟨by kernel_rfl, fn_wbr 0 _ _ _ _ fun _ => by rw [Fwbr_eq, need_pos (by rw [Nat.mul_one]; exact hok)]⟩
  · cases he
    exact ⟨by kernel_rfl, fn_wbn 0 _ _ _ fun _ => by rw [Fwbn_eq, need_pos (by show 1 * 1 ≤ _; decide)]⟩
  · cases he
end Go.Proofs.YtmnkkliibjlefaaDoor
