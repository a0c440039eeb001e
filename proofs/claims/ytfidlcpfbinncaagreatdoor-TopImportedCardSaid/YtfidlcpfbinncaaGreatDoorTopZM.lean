/-
  Runs of this program on known data, checked by the kernel; no condition of its own.
-/
import Derived.Test.YtfidlcpfbinncaaGreatDoorTopB
import Derived.Test.YtfidlcpfbinncaaGreatDoorBmE
set_option linter.unusedVariables false
noncomputable section
/-! The types' lay-out. -/
open Go Go.Bm Go.Proofs
namespace Go.Bm
set_option maxRecDepth 100000
def SS:zd:=SW zN (fun _=>none) (fun _=>none)
theorem zFo:TT=zgV (Tryz.prog.types.toList.map some) 0 .e:=by kernel_rfl
theorem zuj:Tryz.prog.types.size=819:=by kernel_rfl
theorem zHk(t:Nat)(ht:t<819):Tryz.prog.info? t=gX (pa t) TT:=by
 have hlt:t<Tryz.prog.types.size:=by rw[zuj];exact ht
 have e:Tryz.prog.info? t=Tryz.prog.types[t]?:=if_pos hlt
 rw[e,zpE zFo]
 simp
theorem zFa(t:Nat)(ht:t<819):SS.P.cellsOf t=cD SS t:=by
 have e:SS.P.info? t=gX (pa t) TT:=zHk t ht
 unfold Program.cellsOf cD sz
 rw[e]
 show((gX (pa t) TT).map (·.size)).getD 0=match (match gX (pa t) TT with|some i=>some i.size|none=>none)with|some k=>k|none=>0
 cases gX (pa t) TT <;> rfl
theorem zxS:zp0 SS 819 819 0=true:=by kernel_rfl
theorem zy3:(SS.P.globals.toList.all fun g=>Nat.blt g.type 819)=true:=by kernel_rfl
theorem zBC:(SS.P.funcs.toList.all fun f=>f.params.toList.all fun t=>Nat.blt t 819)=true:=by kernel_rfl
theorem zlb:SS.P.types.size=819:=zuj
theorem zyL:laidOutB SS.P=true:=zBR (S:=SS) (n:=819) zpC zlb zFa zxS zy3 zBC
theorem zyK:laidOutB Tryz.prog=true:=zyL
end Go.Bm
