/-
  Lifted functions, and facts about them.
-/
import Derived.Test.YtmnkkliibjlefaaDoorRows
import Derived.Test.YtmnkkliibjlefaaDoorAmC
import Derived.Test.YtmnkkliibjlefaaDoorC5BldC
import Derived.Lib.MakeNoZero
import Derived.Laws.IdiomCopy
namespace Go.Proofs.YtmnkkliibjlefaaDoor
open Go Go.Am
set_option linter.unusedVariables false
/-! Grow at a builder that has not been written. -/
section
open Go.RowKit Go.Lib
set_option maxHeartbeats 1000000 in
theorem bg_fresh (b n : Nat) (w : World) (hbk : w.heap[b]? = some (.cells #[.pointer (some ⟨b, 0, none⟩), .slice none 0 0] 42 (0, 0))) (hn : n ≤ 281474976710656) :
    Calls Tryd.prog 66 #[.pointer (some ⟨b, 0, none⟩), .int .i64 n] w fun e w' => e = .returned (.tuple #[]) ∧
      ∃ cs : Array Value, cs.size ≤ maxLen ∧ w'.heap = ((w.setCell ⟨b, 1, none⟩ (.slice (some ⟨w.heap.size, 0, none⟩) 0 cs.size)).alloc (.cells cs 5)).heap ∧ w'.os = w.os ∧ w'.tape = w.tape ∧ w'.output = w.output := by
  obtain ⟨cs, hrun, hle, hmax⟩ := Lib.run_makeNoZero (P := Tryd.prog) w.drew #[3] 24 5 Tryd.underlying24 n hn
  have hw : IntKind.i64.wrap (IntKind.i64.wrap 0 + (n : Int)) = n := by
    rw [IntKind.wrap_i64, IntKind.wrap_i64]
    omega
  have hcall : (callFunc 71 #[.int .i64 (IntKind.i64.wrap (IntKind.i64.wrap 0 + (n : Int)))]).run Tryd.prog w.drew = .ok (.value (.slice (some ⟨w.drew.heap.size, 0, none⟩) n cs.size)) (w.drew.drew.drew.alloc (.cells cs 5)) := by
    rw [hw, run_callFunc_extern Tryd.func71 (by kernel_rfl) (by kernel_rfl) (by kernel_rfl) (e := Extern.BytealgMakeNoZero.makeNoZero #[3] #[24]) (by kernel_rfl), hrun]
    rfl
  have hlt : b < w.heap.size := by
    rcases Nat.lt_or_ge b w.heap.size with h' | h'
    · exact h'
    · simp [Array.getElem?_eq_none h'] at hbk
  have c1 : w.drew.cell? ⟨b, 1, none⟩ = some (.slice none 0 0) := by
    have : w.drew.heap[b]? = _ := hbk
    rw [Lib.cell_of_heap this]; rfl
  have c2 : (w.alloc (.cells cs 5)).cell? ⟨b, 1, none⟩ = some (.slice none 0 0) := by
    have : (w.alloc (.cells cs 5)).heap[b]? = _ := (Lib.alloc_old w _ b hlt).trans hbk
    rw [Lib.cell_of_heap this]; rfl
  have f2 : (w.alloc (.cells cs 5)).frozen? ⟨b, 1, none⟩ = false := by
    exact Lib.frozen_of_heap ((Lib.alloc_old w _ b hlt).trans hbk) 1
  have hcopy : ∀ W : World, (Builtin.copy_ #[24, 24] 3 #[.slice (some ⟨w.heap.size, 0, none⟩) 0 cs.size, .slice none 0 0]).run Tryd.prog W = .ok (goInt 0) W :=
    fun W => run_copy_none W 24 24 3 5 _ _ 0 cs.size 0 0 Tryd.underlying24 (by kernel_rfl) rfl
  clear hw
  have hfin := hmax (by unfold maxLen; omega)
  have mixed := Checked.mixed Tryd.checked
  go_enter Tryd.func66, Tryd.ntmps66
  go_wp2
  go_region_o
  all_goals (go_wp2; go_end0; exact ⟨rfl, cs, hfin, rfl, rfl, rfl, rfl⟩)
set_option maxHeartbeats 1000000 in
theorem bG_fresh (b n : Nat) (w w1 : World) (h1n : 1 ≤ n) (hn : n ≤ 281474976710656)
    (hcc : Calls Tryd.prog 33 #[.pointer (some ⟨b, 0, none⟩)] w fun e w' => e = .returned (.tuple #[]) ∧ w' = w1)
    (hbk1 : w1.heap[b]? = some (.cells #[.pointer (some ⟨b, 0, none⟩), .slice none 0 0] 42 (0, 0))) :
    Calls Tryd.prog 54 #[.pointer (some ⟨b, 0, none⟩), .int .i64 n] w fun e w' => e = .returned (.tuple #[]) ∧
      ∃ cs : Array Value, cs.size ≤ maxLen ∧ w'.heap = ((w1.setCell ⟨b, 1, none⟩ (.slice (some ⟨w1.heap.size, 0, none⟩) 0 cs.size)).alloc (.cells cs 5)).heap ∧ w'.os = w1.os ∧ w'.tape = w1.tape ∧ w'.output = w1.output := by
  have c1 : w1.cell? ⟨b, 1, none⟩ = some (.slice none 0 0) := by rw [Lib.cell_of_heap hbk1]; rfl
  have mixed := Checked.mixed Tryd.checked
  have c1' : w1.drew.cell? ⟨b, 1, none⟩ = some (.slice none 0 0) := c1
  have hgr := bg_fresh b n w1.drew hbk1 hn
  go_enter Tryd.func54, Tryd.ntmps54
  go_wp2_with (go_at_call 33; refine hcc.mono ?_; rintro e w' ⟨rfl, rfl⟩)
  go_region_o
  all_goals go_wp2_with (go_at_call 66; refine hgr.mono ?_; rintro e w' ⟨rfl, cs, h1, h2, h3, h4, h5⟩)
  all_goals first
    | (go_end0; exact ⟨rfl, cs, h1, h2, h3, h4, h5⟩)
    | (exfalso; simp_all; omega)
end
end Go.Proofs.YtmnkkliibjlefaaDoor
