/-
  The abstract machine of these proofs.
-/
import Derived.Test.YtdjlilhdgnogaaaAmPureT
set_option linter.unusedVariables false
/-! Operations that touch memory. -/
namespace Go.Am
open Go Go.RowKit
variable {P : Program} {γ γ' : Nat → Option G} {M M' : Mem} {C : Ctx} {s s' : S} {a a' : Act} {w w' : World}

theorem OM.keep {id : Nat} {o : AObj} (h : OM γ M w id o) (hγ : GLe γ γ') (hM : MLe M M')
    (hb : ∀ g b, γ id = some g → g.blk = some b → w'.heap[b]? = w.heap[b]? ∧ M' b = M b) : OM γ' M' w' id o := by
  have arr : ∀ {e mu k n vs a cap}, γ id = some (.arr a k n cap) → ArrOK M w e mu k n vs a cap → ArrOK M' w' e mu k n vs a cap := by
    intro e mu k n vs a cap hg hA
    refine ⟨?_, hA.one, hA.len, ?_⟩
    · obtain ⟨h1, h2⟩ := hA.own
      refine ⟨h1, ?_⟩
      rcases h2 with h2 | ⟨g, cap', cur, hv, hge, hh, rest⟩
      · exact .inl h2
      · refine .inr ⟨g, cap', cur, hv, hge, ?_, rest⟩
        cases a with
        | none => cases hv
        | some a => have e : a = g := by simp only [arrV, Option.map_some, Value.slice.injEq, Option.some.injEq, Addr.mk.injEq] at hv; exact hv.1.1
                    subst e; rw [(hb _ a hg rfl).1]; exact hh
    · intro g hg'
      subst hg'
      rw [(hb _ g hg rfl).2]
      exact hA.mem g rfl
  cases o with
  | cells cs =>
    obtain ⟨b, vs, e, hg, hh, hs, hc, hm⟩ := h
    have := hb _ b hg rfl
    exact ⟨b, vs, e, hγ _ _ hg, by rw [this.1]; exact hh, hs, fun j hj => ⟨(hc j hj).1.mono hγ hM, (hc j hj).2⟩, by rw [this.2]; exact hm⟩
  | barr e mu l =>
    obtain ⟨a, cap, hg, hA⟩ := h
    exact ⟨a, cap, hγ _ _ hg, arr hg hA⟩
  | larr e mu k n f =>
    obtain ⟨a, cap, vs, hg, hr, hA⟩ := h
    exact ⟨a, cap, vs, hγ _ _ hg, fun i j hi hj => let ⟨v, hv, hp⟩ := hr i j hi hj; ⟨v, hv, hp.mono hM⟩, arr hg hA⟩

theorem OM.ghost {id : Nat} {o : AObj} (h : OM γ M w id o) : ∃ g, γ id = some g := by
  cases o with
  | cells cs => obtain ⟨b, vs, e, hg, _⟩ := h; exact ⟨_, hg⟩
  | barr e mu l => obtain ⟨a, cap, hg, _⟩ := h; exact ⟨_, hg⟩
  | larr e mu k n f => obtain ⟨a, cap, vs, hg, _⟩ := h; exact ⟨_, hg⟩

theorem StG.master (h : StG C γ M s a w) (hγ : GLe γ γ') (hM : MLe M M')
    (hsl : ∀ t, ARel γ' M' (s'.sl t) (a'.tmps.getD t undef)) (hnt : a'.tmps.size = C.nt) (hdf : a'.defers = [])
    (tgt : Nat) (hob : ∀ i, i ≠ tgt → s'.ob i = none ∨ s'.ob i = s.ob i)
    (hγne : ∀ i, i ≠ tgt → γ' i = γ i)
    (hus : ∀ i, s'.us i = false → s.us i = false ∧ i ≠ tgt)
    (htgt : ∀ o, s'.ob tgt = some o → OM γ' M' w' tgt o)
    (hkeep : ∀ i g b, i ≠ tgt → s'.ob i ≠ none → γ i = some g → g.blk = some b → w'.heap[b]? = w.heap[b]? ∧ M' b = M b)
    (hsep : ∀ i g g' b, i ≠ tgt → s'.ob i ≠ none → s'.ob tgt ≠ none → γ i = some g → γ' tgt = some g' → g.blk = some b → g'.blk = some b → False)
    (hlo : ∀ g b, s'.ob tgt ≠ none → γ' tgt = some g → g.blk = some b → (C.w0.heap.size ≤ b ∨ C.own b) ∧ b < w'.heap.size)
    (hsz : w.heap.size ≤ w'.heap.size)
    (hmem : MOk M' w') (hnew : ∀ b, b < C.w0.heap.size → ¬ C.own b → M' b = M b)
    (hfr : Fr C w') : StG C γ' M' s' a' w' := by
  have old : ∀ i, i ≠ tgt → s'.ob i ≠ none → s'.ob i = s.ob i := fun i hi hn => (hob i hi).resolve_left hn
  refine ⟨hsl, ?_, ?_, ?_, ?_, hmem, h.le.trans hM, fun b hb ho => (hnew b hb ho).trans (h.new b hb ho), hfr, hdf, hnt, h.gl.trans hγ⟩
  · intro i o hi
    by_cases ht : i = tgt
    · subst ht; exact htgt o hi
    · have hn : s'.ob i ≠ none := by rw [hi]; simp
      have e := old i ht hn
      exact (h.ob i o (e ▸ hi)).keep hγ hM fun g b hg hb => hkeep i g b ht hn hg hb
  · intro i hi
    obtain ⟨h1, h2⟩ := hus i hi
    rw [hγne i h2]; exact h.us i h1
  · intro i i' g g' b hi hi' hg hg' hb hb'
    by_cases ht : i = tgt
    · by_cases ht' : i' = tgt
      · rw [ht, ht']
      · subst ht
        rw [hγne i' ht'] at hg'
        exact (hsep i' g' g b ht' hi' hi hg' hg hb' hb).elim
    · by_cases ht' : i' = tgt
      · subst ht'
        rw [hγne i ht] at hg
        exact (hsep i g g' b ht hi hi' hg hg' hb hb').elim
      · rw [hγne i ht] at hg
        rw [hγne i' ht'] at hg'
        exact h.sep i i' g g' b (old i ht hi ▸ hi) (old i' ht' hi' ▸ hi') hg hg' hb hb'
  · intro i g b hi hg hb
    by_cases ht : i = tgt
    · subst ht; exact hlo g b hi hg hb
    · rw [hγne i ht] at hg
      have := h.lo i g b (old i ht hi ▸ hi) hg hb
      exact ⟨this.1, by omega⟩

def pset (σ : Nat → AV) (dst : Option Nat) (v : AV) : Nat → AV :=
  match dst with
  | some d => upd σ d v
  | none => σ
def aset (s : S) (dst : Option Nat) (v : AV) : S := { s with sl := pset s.sl dst v }

def dstOk (nt : Nat) (dst : Option Nat) : Bool :=
  match dst with
  | some d => Nat.blt d nt
  | none => true

theorem put_rel {dst : Option Nat} (hd : dstOk a.tmps.size dst = true) {σ : Nat → AV} (h : ∀ t, ARel γ M (σ t) (a.tmps.getD t undef)) {r : AV} {v : Value} (hr : ARel γ M r v) :
    ∀ t, ARel γ M (pset σ dst r t) ((a.put dst v).tmps.getD t undef) := by
  intro t
  cases dst with
  | none => exact h t
  | some d =>
    have hd : d < a.tmps.size := Nat.le_of_ble_eq_true hd
    by_cases ht : t = d
    · subst ht
      have e : (a.put (some t) v).tmps.getD t undef = v := by
        simp [Act.put, Array.getD_eq_getD_getElem?, hd]
      rw [e]; dsimp only [pset]; rw [upd_same]; exact hr
    · have e : (a.put (some d) v).tmps.getD t undef = a.tmps.getD t undef := by
        simp only [Act.put, Array.getD_eq_getD_getElem?]
        rw [Array.getElem?_setIfInBounds_ne (fun e => ht e.symm)]
      rw [e]; dsimp only [pset]; rw [upd_ne _ _ ht]; exact h t

theorem put_size (a : Act) (dst : Option Nat) (v : Value) : (a.put dst v).tmps.size = a.tmps.size := by
  cases dst <;> simp [Act.put]
theorem put_defers (a : Act) (dst : Option Nat) (v : Value) : (a.put dst v).defers = a.defers := by
  cases dst <;> rfl

/-- A value is put into a slot; memory may have grown by new blocks. -/
theorem StG.put (h : StG C γ M s a w) {dst : Option Nat} (hd : dstOk C.nt dst = true) (hM : MLe M M') (hsz : w.heap.size ≤ w'.heap.size)
    (hold : ∀ b, b < w.heap.size → w'.heap[b]? = w.heap[b]? ∧ M' b = M b) (hmem : MOk M' w')
    (hos : w'.os = w.os) (htape : w'.tape = w.tape) (hout : w'.output = w.output)
    {r : AV} {v : Value} (hr : ARel γ M' r v) : StG C γ M' (aset s dst r) (a.put dst v) w' := by
  have hsl := put_rel (dst := dst) (by rw [h.nt]; exact hd) (fun t => (h.sl t).mono (GLe.refl γ) hM) hr
  have e1 : (aset s dst r).ob = s.ob := rfl
  have e2 : (aset s dst r).us = s.us := rfl
  refine ⟨hsl, ?_, by rw [e2]; exact h.us, by rw [e1]; exact h.sep, ?_, hmem, h.le.trans hM, ?_, ?_, by rw [put_defers]; exact h.df, by rw [put_size]; exact h.nt, h.gl⟩
  · intro id o ho
    rw [e1] at ho
    refine (h.ob id o ho).keep (GLe.refl γ) hM fun g b hg hb => ?_
    have := h.lo id g b (by rw [ho]; simp) hg hb
    exact hold b this.2
  · intro id g b ho hg hb
    rw [e1] at ho
    have := h.lo id g b ho hg hb
    exact ⟨this.1, by omega⟩
  · intro b hb ho
    have := h.fr.size
    rw [(hold b (by omega)).2]; exact h.new b hb ho
  · have := h.fr
    exact ⟨hos.trans this.os, htape.trans this.tape, hout.trans this.output, Nat.le_trans this.size hsz, fun b hb ho => (hold b (by have := this.size; omega)).1.trans (this.block b hb ho)⟩

/-- A new object comes, in new memory. -/
theorem StG.birth (h : StG C γ M s a w) {d : Nat} (hd : dstOk C.nt (some d) = true) (hu : s.us d = false) (hM : MLe M M') (hsz : w.heap.size ≤ w'.heap.size)
    (hold : ∀ b, b < w.heap.size → w'.heap[b]? = w.heap[b]? ∧ M' b = M b) (hmem : MOk M' w')
    (hos : w'.os = w.os) (htape : w'.tape = w.tape) (hout : w'.output = w.output)
    {g : G} (hg : ∀ b, g.blk = some b → w.heap.size ≤ b ∧ b < w'.heap.size) {o : AObj} (ho : OM (upd γ d (some g)) M' w' d o)
    {r : AV} {v : Value} (hr : ARel (upd γ d (some g)) M' r v) :
    StG C (upd γ d (some g)) M' { sl := upd s.sl d r, ob := upd s.ob d (some o), us := upd s.us d true } (a.put (some d) v) w' := by
  have hγ : GLe γ (upd γ d (some g)) := by
    intro i g' hi
    by_cases e : i = d
    · subst e; rw [h.us i hu] at hi; cases hi
    · rw [upd_ne _ _ e]; exact hi
  have hne : ∀ i, i ≠ d → s.ob i ≠ none → ∀ g b, γ i = some g → g.blk = some b → b < w.heap.size := fun i _ ho g b hg hb => (h.lo i g b ho hg hb).2
  refine h.master (s' := { sl := upd s.sl d r, ob := upd s.ob d (some o), us := upd s.us d true }) hγ hM
    (put_rel (dst := some d) (by rw [h.nt]; exact hd) (fun t => (h.sl t).mono hγ hM) hr) (by rw [put_size]; exact h.nt) (by rw [put_defers]; exact h.df) d
    (fun i hi => .inr (upd_ne _ _ hi)) (fun i hi => upd_ne _ _ hi) ?_ ?_ ?_ ?_ ?_ hsz hmem ?_ ?_
  · intro i hi
    dsimp only at hi
    by_cases e : i = d
    · subst e; rw [upd_same] at hi; cases hi
    · rw [upd_ne _ _ e] at hi; exact ⟨hi, e⟩
  · intro o' ho'
    dsimp only at ho'
    rw [upd_same] at ho'; cases ho'; exact ho
  · intro i g' b hi hob hgi hb
    dsimp only at hob
    rw [upd_ne _ _ hi] at hob
    exact hold b (hne i hi hob g' b hgi hb)
  · intro i g1 g2 b hi hob _ hg1 hg2 hb1 hb2
    dsimp only at hob
    rw [upd_ne _ _ hi] at hob
    rw [upd_same] at hg2; cases hg2
    have := hne i hi hob g1 b hg1 hb1
    have := (hg b hb2).1
    omega
  · intro g' b _ hg' hb
    rw [upd_same] at hg'; cases hg'
    have := hg b hb
    have := h.fr.size
    exact ⟨.inl (by omega), by omega⟩
  · intro b hb _
    have := h.fr.size
    exact (hold b (by omega)).2
  · have := h.fr
    exact ⟨hos.trans this.os, htape.trans this.tape, hout.trans this.output, Nat.le_trans this.size hsz, fun b hb ho => (hold b (by have := this.size; omega)).1.trans (this.block b hb ho)⟩
end Go.Am
