/-
  Runs of this program on known data, checked by the kernel; no condition of its own.
-/
import Derived.Test.YtkbaejegflmeeaaGreatDoorRows
import Derived.JoinedOf
import Derived.LaidByTextLater
import Derived.SevenTiedAt
import Derived.Test.YtkbaejegflmeeaaGreatDoorBmD
import Derived.Test.YtkbaejegflmeeaaGreatDoorTopL
import Derived.Test.YtkbaejegflmeeaaGreatDoorTopM
/-! Closed facts of the row and of the tie. -/
namespace Go.Proofs.YtkbaejegflmeeaaGreatDoor.topRefused
open Go Go.Bm
set_option maxRecDepth 100000
theorem m3 : mapsC SS 818 818 0 = true := by kernel_rfl
theorem j3 : mapsRowed Tryz.prog = true := show mapsRowed SS.P = true from maps_ok (S := SS) (n := 818) ty_ok n_types' m3
theorem m23 : keysC SS 818 0 = true := by kernel_rfl
theorem p23 : Tryz.prog.plainKeys = true := show SS.P.plainKeys = true from keys_ok (S := SS) (n := 818) ty_ok n_types' m23
theorem j23 : (Rows.topRefusedRow.plainKeys == Tryz.prog.plainKeys) = true := by rw [p23]; rfl
theorem j25 : Tryz.prog.stopsHeard = true := (heard_eq _).trans (by kernel_rfl)
theorem later0 : Tryz.prog.laysLater = false := (later_eq _).trans (by kernel_rfl)
theorem n_funcs : Tryz.prog.funcs.size = 813 := by kernel_rfl
theorem m0 : namedT FA 813 "pillarbox/pillarboxtop.TopRefused" = [3] := by kernel_rfl
theorem j0 : Tryz.prog.funcNamed "pillarbox/pillarboxtop.TopRefused" = some 3 := named_eq allFA n_funcs m0
theorem mv : namedT FA 813 "gosem.cut.vars" = [812] := by kernel_rfl
theorem fnVars : Tryz.prog.funcNamed "gosem.cut.vars" = some 812 := named_eq allFA n_funcs mv
theorem vid : varsId Tryz.prog = 812 := by unfold varsId; rw [fnVars]; rfl
theorem looks0 : true = Tryz.prog.looks [] := Eq.symm ((looks_eq _).trans (by kernel_rfl))
end Go.Proofs.YtkbaejegflmeeaaGreatDoor.topRefused
