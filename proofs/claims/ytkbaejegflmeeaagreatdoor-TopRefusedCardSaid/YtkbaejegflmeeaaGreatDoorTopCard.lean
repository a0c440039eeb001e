/-
  The tied card of TopRefused holds: for every uint8 the call returns true, and the argument reads as it did. Conditions: none beyond the given statement's own.
-/
import Derived.Test.YtkbaejegflmeeaaGreatDoorCards
import Derived.Test.YtkbaejegflmeeaaGreatDoorTopOver
import Derived.Test.YtkbaejegflmeeaaGreatDoorTopT0
namespace Go.Proofs.YtkbaejegflmeeaaGreatDoor.topRefused
open Go
set_option maxRecDepth 100000
theorem tie4 : Tryz.prog.laidByTextLater laid4 [.data, .data, .data, .data] true :=
  Program.laidByTextLater_by_run 400 8 i1 i2 i3 i4 i5 i6 i7 i8 i9 (by kernel_rfl)
theorem tied : Rows.topRefusedRow.laidByTextAt .later Tryz.pinned [.pinned, .data, .data, .data, .data, .pinned] true :=
  OpenClaim.laidByTextAt_pinned rfl rfl tie4 rfl rfl rfl rfl (fun y hy _e => by
    simp only [Rows.topRefusedRow, List.zip_cons_cons, List.zip_nil_right, List.mem_cons, List.mem_nil_iff, or_false] at hy
    rcases hy with rfl | rfl | rfl | rfl | rfl | rfl
    · exact ⟨pin1, by kernel_rfl⟩
    · cases _e
    · cases _e
    · cases _e
    · cases _e
    · exact ⟨pin2, by kernel_rfl⟩) fits
theorem goesBy3 : false = Rows.topRefusedRow.goesBy Tryz.prog := by
  unfold OpenClaim.goesBy Program.goesAt Program.goesFrom
  have e1 : Rows.topRefusedRow.func = "pillarbox/pillarboxtop.TopRefused" := rfl
  have e2 : Rows.topRefusedRow.start = .entering := rfl
  rw [e1, e2, j0, Option.any_some, Go.Bm.goes3, Bool.false_or]
/-- ████ THE STATEMENT: THE TIED CARD ████ -/
theorem proved : Rows.TopRefusedCardSaid :=
  Claim7.holds_tied_plain_at .later [] [.pinned, .data, .data, .data, .data, .pinned] true (true, "579639b0f5520541c195917f142f5cb3f7b9c715075622b45c097ef7ff032155") true
    over (fun _ h => by cases h) (by kernel_rfl) (fun _ h => by cases h) tied rfl ⟨rfl, rfl⟩ (by kernel_rfl) rfl
    (fun f fn hf hfn => by
      obtain rfl : f = 3 := Option.some.inj (j0.symm.trans hf) |>.symm
      obtain rfl : fn = Tryz.f3 := (Option.some.inj (Tryz.func3.symm.trans hfn)).symm
      exact ⟨looks0, fun j t ht => by
        rw [Tryz.params3] at ht
        have hm : t ∈ [5] := by simpa using Array.mem_of_getElem? ht
        have hall : ([5].all fun u => !Tryz.prog.wantsStandIn u) = true := by kernel_rfl
        exact (show Tryz.prog.wantsStandIn t = false by simpa using List.all_eq_true.1 hall t hm)⟩)
    goesBy3
end Go.Proofs.YtkbaejegflmeeaaGreatDoor.topRefused
