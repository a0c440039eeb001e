/-
  Runs of this program on known data, checked by the kernel; no condition of its own.
-/
import Derived.Test.YtkbaejegflmeeaaGreatDoorTopB
import Derived.Test.YtkbaejegflmeeaaGreatDoorBmD
/-! The types' lay-out. -/
open Go Go.Bm Go.Proofs
namespace Go.Bm
set_option maxRecDepth 100000
theorem TT_all : TT = bldX (Tryz.prog.types.toList.map some) 0 .e := by kernel_rfl
theorem n_types : Tryz.prog.types.size = 818 := by kernel_rfl
theorem infoT (t : Nat) (ht : t < 818) : Tryz.prog.info? t = gX (pa t) TT := by
  have hlt : t < Tryz.prog.types.size := by rw [n_types]; exact ht
  have e : Tryz.prog.info? t = Tryz.prog.types[t]? := if_pos hlt
  rw [e, tree_get TT_all]
  simp
theorem cellsT (t : Nat) (ht : t < 818) : SS.P.cellsOf t = cD SS t := by
  have e : SS.P.info? t = gX (pa t) TT := infoT t ht
  unfold Program.cellsOf cD sz
  rw [e]
  show ((gX (pa t) TT).map (·.size)).getD 0 = match (match gX (pa t) TT with | some i => some i.size | none => none) with | some k => k | none => 0
  cases gX (pa t) TT <;> rfl
theorem rows_run : rowsC SS 818 818 0 = true := by kernel_rfl
theorem glob_run : (SS.P.globals.toList.all fun g => Nat.blt g.type 818) = true := by kernel_rfl
theorem par_run : (SS.P.funcs.toList.all fun f => f.params.toList.all fun t => Nat.blt t 818) = true := by kernel_rfl
theorem n_types' : SS.P.types.size = 818 := n_types
theorem laidOut2 : laidOutB SS.P = true := laid_ok (S := SS) (n := 818) ty_ok n_types' cellsT rows_run glob_run par_run
theorem laidOut3 : laidOutB Tryz.prog = true := laidOut2
end Go.Bm
