/-
  Runs of this program on known data, checked by the kernel; no condition of its own.
-/
import Derived.Test.YtfidlcpfbinncaaGreatDoorCards
import Derived.Test.YtfidlcpfbinncaaGreatDoorTopZOver
import Derived.Test.YtfidlcpfbinncaaGreatDoorTopZT0
set_option linter.unusedVariables false
noncomputable section
namespace Go.Proofs.YtfidlcpfbinncaaGreatDoor.topImported
open Go
set_option maxRecDepth 100000
theorem tie4:Tryz.prog.laidByTextLater znk [.data,.data,.data,.data] true:=
 Program.laidByTextLater_by_run 400 8 i1 i2 i3 i4 i5 i6 i7 i8 i9 (by kernel_rfl)
theorem tied:Rows.topImportedRow.laidByTextAt .later Tryz.pinned [.pinned,.data,.data,.data,.data,.pinned] true:=
 OpenClaim.laidByTextAt_pinned rfl rfl tie4 rfl rfl rfl rfl (fun y hy _e=>by
  simp only[Rows.topImportedRow,List.zip_cons_cons,List.zip_nil_right,List.mem_cons,List.mem_nil_iff,or_false]at hy
  rcases hy with rfl|rfl|rfl|rfl|rfl|rfl
  .exact ⟨pin1,by kernel_rfl⟩
  .cases _e
  .cases _e
  .cases _e
  .cases _e
  .exact ⟨pin2,by kernel_rfl⟩) zwa
theorem zB5:false=Rows.topImportedRow.goesBy Tryz.prog:=by
 unfold OpenClaim.goesBy Program.goesAt Program.goesFrom
 have e1:Rows.topImportedRow.func= "pillarbox/pillarboxtop.TopImported":=rfl
 have e2:Rows.topImportedRow.start=.entering:=rfl
 rw[e1,e2,j0,Option.any_some,Go.Bm.goes3,Bool.false_or]
theorem proved:Rows.TopImportedCardSaid:=
 Claim7.holds_tied_plain_at .later [] [.pinned,.data,.data,.data,.data,.pinned] true (true, "04707f940b08c1c35aee4d5dc557cfcce6918e9fb4bdb4dbb348dcb8ed340b80") true
  over (fun _ h=>by cases h) (by kernel_rfl) (fun _ h=>by cases h) tied rfl ⟨rfl,rfl⟩ (by kernel_rfl) rfl
  (fun f fn hf hfn=>by
   obtain rfl:f=3:=Option.some.inj (j0.symm.trans hf) |>.symm
   obtain rfl:fn=Tryz.f3:=(Option.some.inj (Tryz.func3.symm.trans hfn)).symm
   exact⟨zEt,fun j t ht=>by
    rw[Tryz.params3]at ht
    have hm:t ∈ [9,4]:=by simpa using Array.mem_of_getElem? ht
    have hall:([9,4].all fun u=>!Tryz.prog.wantsStandIn u)=true:=by kernel_rfl
    exact(show Tryz.prog.wantsStandIn t=false by simpa using List.all_eq_true.1 hall t hm)⟩)
  zB5
end Go.Proofs.YtfidlcpfbinncaaGreatDoor.topImported
