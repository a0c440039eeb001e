/-
  Lifted functions, and facts about them.
-/
import Derived.Test.YtmnkkliibjlefaaDoorRows
import Derived.Test.YtmnkkliibjlefaaDoorAmC
import Derived.Test.YtmnkkliibjlefaaDoorC5BldG
namespace Go.Proofs.YtmnkkliibjlefaaDoor
open Go Go.Am
set_option linter.unusedVariables false
section
open Go.RowKit Go.Lib
theorem two_look {α : Type} {i a b : Nat} {x y o : α} (h : lookO i [(a, x), (b, y)] = some o) : (i = a ∧ o = x) ∨ (i = b ∧ o = y) := by
  have := lookO_mem h
  simp only [List.mem_cons, Prod.mk.injEq, List.not_mem_nil, or_false] at this
  exact this
theorem two_none {α : Type} {i a b : Nat} {x y : α} (h : lookO i [(a, x), (b, y)] ≠ none) : i = a ∨ i = b := by
  cases hl : lookO i [(a, x), (b, y)] with
  | none => exact absurd hl h
  | some o => rcases two_look hl with h | h
              · exact .inl h.1
              · exact .inr h.1
theorem self_cell (w : World) (b : Nat) (v1 : Value) (T : TypeId) (h : w.heap[b]? = some (.cells #[.pointer (some ⟨b, 0, none⟩), v1] T (0, 0))) (v : Value) : (w.setRow b #[v, v1]).heap[b]? = some (.cells #[v, v1] T (0, 0)) := setRow_heap w b _ _ _ _ h
theorem FnR_grow (n : Nat) (h1n : 1 ≤ n) (hn : n ≤ 281474976710656) :
    FnR Tryd.prog 54 [.ref 70000 0, .p (.int .i64 (n : Int))] [(70000, .bldr 42 (.p .nil))] [70000] (.tup []) [(70000, .bldr 42 (.arr 70001001)), (70001001, .barr 5 false [])] := by
  intro γ M w vs hO hnone hM hvs
  obtain ⟨b, v0, v1, hg, hh, h0, h1, h2, hm⟩ := bld_parts (id := 70000) hO rfl
  cases h1.p_inv
  cases hvs with
  | cons hx ht =>
    cases ht with
    | cons hy ht =>
    cases ht
    obtain ⟨b', hg', rfl⟩ := hx.ref_inv
    rw [hg] at hg'; cases hg'
    cases hy with | p _ _ hy =>
    cases hy with | int _ _ hi =>
    have hlt : b < w.heap.size := hO.lo 70000 _ b (by simp [lookO]) hg rfl
    have hb : Handed γ [(70000, .bldr 42 (.p .nil))] b := ⟨70000, .cell b, by simp [lookO], hg, rfl⟩
    have hset : (w.setCell ⟨b, 0, none⟩ (.pointer (some ⟨b, 0, none⟩))) = w.setRow b #[.pointer (some ⟨b, 0, none⟩), .slice none 0 0] := by
      rw [setCell_eq_setRow w b 0 _ _ _ _ hh]; rfl
    obtain ⟨w1, hcc, hb1, hs1, ho1, hos, htp, hout⟩ : ∃ w1 : World, (Calls Tryd.prog 33 #[.pointer (some ⟨b, 0, none⟩)] w fun e w' => e = .returned (.tuple #[]) ∧ w' = w1) ∧
        w1.heap[b]? = some (.cells #[.pointer (some ⟨b, 0, none⟩), .slice none 0 0] 42 (0, 0)) ∧ w1.heap.size = w.heap.size ∧ (∀ c, c ≠ b → w1.heap[c]? = w.heap[c]?) ∧ w1.os = w.os ∧ w1.tape = w.tape ∧ w1.output = w.output := by
      rcases h0 with rfl | rfl
      · refine ⟨_, cc_fresh b w (by rw [Lib.cell_of_heap hh]; rfl) (by simp [World.shape?, hh]) (Lib.frozen_of_heap hh 0), ?_⟩
        rw [hset]
        exact ⟨setRow_heap w b _ _ _ _ hh, by simp, fun c hc => setRow_other w b c _ hc, rfl, rfl, rfl⟩
      · exact ⟨w, cc_used b w (by rw [Lib.cell_of_heap hh]; rfl), hh, rfl, fun _ _ => rfl, rfl, rfl, rfl⟩
    refine (bG_fresh b n w w1 h1n hn hcc hb1).mono fun e w' ⟨he, cs, hcs, hheap, q1, q2, q3⟩ => ?_
    have hrow : (w1.setCell ⟨b, 1, none⟩ (.slice (some ⟨w1.heap.size, 0, none⟩) 0 cs.size)) = w1.setRow b #[.pointer (some ⟨b, 0, none⟩), .slice (some ⟨w1.heap.size, 0, none⟩) 0 cs.size] := by
      rw [setCell_eq_setRow w1 b 1 _ _ _ _ hb1]; rfl
    rw [hrow] at hheap
    have hsz1 : (w1.setRow b #[.pointer (some ⟨b, 0, none⟩), .slice (some ⟨w1.heap.size, 0, none⟩) 0 cs.size]).heap.size = w.heap.size := by rw [← hs1]; simp
    have hsz : w'.heap.size = w.heap.size + 1 := by rw [hheap]; simp [hsz1]
    have hbb : w'.heap[b]? = some (.cells #[.pointer (some ⟨b, 0, none⟩), .slice (some ⟨w.heap.size, 0, none⟩) 0 cs.size] 42 (0, 0)) := by
      rw [hheap, Lib.alloc_old _ _ b (by rw [hsz1]; exact hlt), setRow_heap w1 b _ _ _ _ hb1, hs1]
    have hnew : w'.heap[w.heap.size]? = some (.cells cs 5 (0, 0)) := by
      rw [hheap, ← hsz1]; exact heap_alloc_new _ _
    have hoth : ∀ c, c < w.heap.size → c ≠ b → w'.heap[c]? = w.heap[c]? := fun c hc hcb => by
      rw [hheap, Lib.alloc_old _ _ c (by rw [hsz1]; exact hc), setRow_other w1 b c _ hcb]; exact ho1 c hcb
    have hMn : ∀ o, M w.heap.size o = none := fun o => by
      cases hv : M w.heap.size o with
      | none => rfl
      | some v => have := hM _ _ _ hv; simp [World.cell?] at this
    refine ⟨_, upd γ 70001001 (some (.arr (some w.heap.size) 1 0 cs.size)), M, he, fun i hi g hgi => ?_, MLe.refl M, ?_, .tup _ _ rfl (fun i hi => absurd hi (Nat.not_lt_zero _)), ⟨?_, ?_, ?_⟩, ?_, by omega, q1.trans hos, q2.trans htp, q3.trans hout⟩
    · have : i = 70000 := by simpa using hi
      subst this
      exact hgi
    · intro c o v hv
      have hc : c ≠ b := fun e => by subst e; rw [hm o] at hv; cases hv
      have hcl : c < w.heap.size := by
        rcases Nat.lt_or_ge c w.heap.size with h | h
        · exact h
        · have := hM c o v hv
          simp [World.cell?, Array.getElem?_eq_none h] at this
      rw [World.cell?_of_block (w := w) (hoth c hcl hc)]; exact hM c o v hv
    · intro i o hi
      rcases two_look hi with ⟨rfl, rfl⟩ | ⟨rfl, rfl⟩
      · exact ⟨b, _, _, hg, hbb, .inr rfl, .arr 70001001 (some w.heap.size) 1 0 cs.size rfl, rfl, hm⟩
      · refine ⟨some w.heap.size, cs.size, rfl, ⟨⟨rfl, .inr ⟨w.heap.size, cs.size, cs, rfl, Nat.zero_le _, hnew, Nat.zero_le _, hcs, by simp, by simp⟩⟩, fun v hv => (by cases hv), Nat.zero_le _, fun g hgg => ?_⟩⟩
        cases hgg
        exact fun o => by rw [hMn o]; rfl
    · intro i j g g' c hi hj hgi hgj hgc hgc'
      rcases two_none hi with rfl | rfl <;> rcases two_none hj with rfl | rfl
      · rfl
      · rw [show upd γ 70001001 (some (.arr (some w.heap.size) 1 0 cs.size)) 70000 = γ 70000 from rfl, hg] at hgi
        cases hgi; cases hgj; cases hgc; cases hgc'
        exact absurd hlt (Nat.lt_irrefl _)
      · rw [show upd γ 70001001 (some (.arr (some w.heap.size) 1 0 cs.size)) 70000 = γ 70000 from rfl, hg] at hgj
        cases hgi; cases hgj; cases hgc; cases hgc'
        exact absurd hlt (Nat.lt_irrefl _)
      · rfl
    · intro i g c hi hgi hgc
      rcases two_none hi with rfl | rfl
      · rw [show upd γ 70001001 (some (.arr (some w.heap.size) 1 0 cs.size)) 70000 = γ 70000 from rfl, hg] at hgi
        cases hgi; cases hgc
        exact ⟨.inr hb, by omega⟩
      · cases hgi; cases hgc
        exact ⟨.inl (Nat.le_refl _), by omega⟩
    · intro c hc hno
      exact ⟨hoth c hc fun e => hno (by rw [e]; exact hb), rfl⟩
def sp_grow : RSpec := ⟨[false, true], fun args ib => match args, ib with
  | [.ref 70000 0, .p (.int .i64 n)], [(70000, .bldr 42 (.p .nil))] => some (([70000], .tup []), ([(70000, .bldr 42 (.arr 70001001)), (70001001, .barr 5 false [])], some (1 ≤ n ∧ n ≤ 281474976710656)))
  | _, _ => none⟩
theorem ok_grow : SpecROk Tryd.prog 54 sp_grow := by
  intro args ib kept r outs ok he hok
  simp only [sp_grow] at he
  split at he
  · rename_i n
    cases he
    obtain ⟨h1, h2⟩ : 1 ≤ n ∧ n ≤ 281474976710656 := hok
    obtain ⟨n, rfl⟩ := Int.eq_ofNat_of_zero_le (show (0 : Int) ≤ n by omega)
    exact ⟨by kernel_rfl, FnR_grow n (by omega) (by omega)⟩
  · cases he
end
end Go.Proofs.YtmnkkliibjlefaaDoor
