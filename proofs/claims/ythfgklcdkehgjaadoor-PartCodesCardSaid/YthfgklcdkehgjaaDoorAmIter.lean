/-
  The abstract machine of these proofs.
-/
import Derived.Test.YthfgklcdkehgjaaDoorAmC
import Derived.RangeFuncRecord
set_option linter.unusedVariables false
/-! A range over a function: the statement, a round, a call of yield. -/
namespace Go.Am
open Go Go.RowKit
variable {P : Program} {C C' : Ctx} {s s' : S} {a a' : Act} {w w' w2 : World} {γ γ' : Nat → Option G} {M M' : Mem}

/-- A state, told from another place. -/
theorem StG.reroot (h : StG C γ M s a w) (e0 : C'.w0 = w2) (eM : C'.M0 = M) (hown : ∀ id g b, s.ob id ≠ none → γ id = some g → g.blk = some b → C'.own b ∧ w2.heap[b]? = w.heap[b]?)
    (hsz : w.heap.size ≤ w2.heap.size) (hmem : MOk M w2) (ht : a'.tmps = a.tmps) (hd : a'.defers = C'.dl) (hnt : C'.nt = C.nt) (hg : GLe C'.g0 γ) : StG C' γ M s a' w2 := by
  refine ⟨fun t => by rw [ht]; exact h.sl t, fun id o ho => (h.ob id o ho).keep (GLe.refl γ) (MLe.refl M) fun g b h1 h2 => ⟨(hown id g b (by rw [ho]; simp) h1 h2).2, rfl⟩, h.us, h.sep,
    fun id g b h1 h2 h3 => ⟨.inr (hown id g b h1 h2 h3).1, Nat.lt_of_lt_of_le (h.lo id g b h1 h2 h3).2 hsz⟩, hmem, by rw [eM]; exact MLe.refl M, fun _ _ _ => by rw [eM],
    ⟨by rw [e0], by rw [e0], by rw [e0], by rw [e0]; exact Nat.le_refl _, fun _ _ _ => by rw [e0]⟩, hd, by rw [ht, hnt]; exact h.nt, hg⟩

theorem MOk.none_of {b q : Nat} (h : MOk M w) (hb : w.cell? ⟨b, q, none⟩ = none) : M b q = none := by
  cases hm : M b q with
  | none => rfl
  | some v => have := h b q v hm; rw [hb] at this; cases this
theorem MOk.put {l : Nat} {o : Obj} (h : MOk M w) (hn : ∀ q, M l q = none) : MOk M (w.putObj l o) := by
  intro b q v hv
  have hb : b ≠ l := by rintro rfl; rw [hn] at hv; cases hv
  have h1 := h b q v hv
  unfold World.cell? at *
  rw [World.putObj_heap_other hb]; exact h1
theorem MOk.dfr {b q : Nat} {r : Option (List Deferred)} (h : MOk M w) (hb : w.heap[b]? = some (.deferred r)) : M b q = none := by
  refine h.none_of ?_
  unfold World.cell?
  rw [hb]

/-! ### The statement -/
abbrev markOf (D : Nat) : Deferred := { target := .collected D, args := #[] }
theorem wpIn_rangeFunc_st {g : Operand} {ps : Array Tmp} {assign body : Code} {Q : Exit → Act → World → Prop} {gf : FuncId} {lb : Array Value} (hg : a.eval g = .func (.func gf) #[] lb) (eg : callable P gf = true)
    (h : ∀ (fn : FuncId) (mkR : LoopState → Option Code → Loop), mkR = (fun st pe => { state := st, pending := pe, fn, tmps := a.tmps, params := ps, assign, body, defers := w.heap.size }) →
      Calls P gf (#[.func (.yield (w.heap.size + 1)) #[] #[]] ++ lb) ((w.alloc (.deferred (some []))).alloc (.loop (mkR .ready none))) fun e W2 => (∃ v, e = .returned v) ∧
        ((W2.heap[w.heap.size + 1]? = some (.loop (mkR .ready none)) ∧ Q .normal { a with defers := markOf w.heap.size :: a.defers } (W2.putObj (w.heap.size + 1) (.loop (mkR .exhausted none)))) ∨
         (∃ c, W2.heap[w.heap.size + 1]? = some (.loop (mkR .done (some c))) ∧ c.wpIn (FW none) 0 P Q { a with defers := markOf w.heap.size :: a.defers } (W2.putObj (w.heap.size + 1) (.loop (mkR .exhausted (some c))))))) :
    (Code.rangeFunc g ps assign body).wpIn (FW none) 0 P Q a w := by
  refine wpIn_rangeFunc fun fn _ => ?_
  obtain ⟨mkR, hR⟩ : ∃ mkR : LoopState → Option Code → Loop, mkR = fun st pe => { state := st, pending := pe, fn, tmps := a.tmps, params := ps, assign, body, defers := w.heap.size } := ⟨_, rfl⟩
  obtain ⟨W1, hW1⟩ : ∃ W1, (w.alloc (.deferred (some []))).alloc (.loop (mkR .ready none)) = W1 := ⟨_, rfl⟩
  have hc := h fn mkR hR
  rw [hW1] at hc
  refine ⟨w.heap.size + 1, [markOf w.heap.size], W1, { target := .fn (.func gf) lb, args := #[.func (.yield (w.heap.size + 1)) #[] #[]] }, W1, gf,
    #[.func (.yield (w.heap.size + 1)) #[] #[]] ++ lb, W1, ?_, ?_, fun _ _ => trivial, ?_, (fun h => nomatch h), ?_⟩
  · rw [← hW1, hR]; exact run_enterLoop_outer _ _ _ _ _
  · simp only [resolve, hg]
    simp [go_sem]
  · simp [invoke, go_sem, run_callFunc eg]
  · refine callsIn_FW.2 (hc.mono ?_)
    rintro e W2 ⟨⟨v, rfl⟩, ⟨hl, hq⟩ | ⟨c, hl, hq⟩⟩
    · refine ⟨none, _, ?_, hq⟩
      have := run_endLoop (P := P) hl (by rw [hR]; simp)
      rw [hR] at this ⊢; exact this
    · refine ⟨some c, _, ?_, hq⟩
      have := run_endLoop (P := P) hl (by rw [hR]; simp)
      rw [hR] at this ⊢; exact this

/-! ### A round -/
def rndPost (l : Nat) (r : Loop) (R : Option Code → World → Prop) : Exit → Act → World → Prop
  | .normal, _, W => W.heap[l]? = some (.loop { r with state := .busy }) ∧ R none W
  | .ret, _, W => W.heap[l]? = some (.loop { r with state := .busy }) ∧ R (some .ret) W
  | .exit id, _, W => W.heap[l]? = some (.loop { r with state := .busy }) ∧ R (some (.exit id)) W
  | _, _, _ => False
theorem round_st {l : Nat} {r : Loop} {tm : Array Value} {W : World} {R : Option Code → World → Prop} (hr : r.state = .ready)
    (h : r.assign.wpIn (FW (some l)) 0 P (Exit.then (fun a1 W1 => W1.heap[l]? = some (.loop r) ∧ r.body.wpIn (FW (some l)) 0 P (rndPost l r R) a1 (W1.putObj l (.loop { r with state := .busy }))) (fun _ _ _ => False)) { tmps := tm, defers := [] } W) :
    RoundIn (FW none) 0 P l r.fn tm r.assign r.body W fun e W' => ∃ (jump : Option Code) (W3 : World), e = .returned (.bool jump.isNone) ∧
      W' = W3.putObj l (.loop { r with state := if jump.isNone then .ready else .done, pending := jump }) ∧ R jump W3 := by
  refine roundIn_of_wpIn (F := FW none) trivial ?_
  refine wpIn_mono (F := FW (some l)) h fun e a1 W1 he => ?_
  cases e with
  | normal =>
    obtain ⟨hl, hb⟩ := he
    refine ⟨_, run_beginRound hl hr, wpIn_mono (F := FW (some l)) hb fun e2 a2 W2 h2 => ?_⟩
    cases e2 with
    | normal => exact ⟨_, _, run_endRound none h2.1, none, W2, rfl, rfl, h2.2⟩
    | ret => exact ⟨_, _, run_endRound (some .ret) h2.1, some .ret, W2, rfl, rfl, h2.2⟩
    | exit id => exact ⟨_, _, run_endRound (some (.exit id)) h2.1, some (.exit id), W2, rfl, rfl, h2.2⟩
    | goto t => exact h2.elim
    | panic ch => exact h2.elim
    | outgrown => exact h2.elim
  | exit id => exact he
  | goto l => exact he
  | ret => exact he
  | panic ch => exact he
  | outgrown => exact he

/-! ### A call of yield -/
theorem wpIn_yield {dst : Option Tmp} {fop : Operand} {args : Array Operand} {ts : Array TypeId} {type : TypeId} {pos : String} {after : Array Edge} {guard : Option (Nat × Bool)} {l : Nat} {r : Loop} {next : Act → World → Prop} {Q : Exit → Act → World → Prop}
    (hf : a.eval fop = .func (.yield l) #[] #[]) (hl : w.heap[l]? = some (.loop r)) (hn : args.size = r.params.size)
    (h : RoundIn (FW none) 0 P l r.fn ((r.params.zip (args.map a.eval)).foldl (fun tmps (t, a) => tmps.setIfInBounds t a) r.tmps) r.assign r.body w fun e W' => ∃ v, e = .returned v ∧ next (a.put dst v) W') :
    (⟨dst, .call ⟨.value fop, args, ts⟩, type, pos, after, guard⟩ : Oper).wpIn (FW none) 0 P a w next Q := by
  have hrun : (execOp a.eval ⟨dst, .call ⟨.value fop, args, ts⟩, type, pos, after, guard⟩).run P w = .ok (.round l r.fn ((r.params.zip (args.map a.eval)).foldl (fun tmps (t, a) => tmps.setIfInBounds t a) r.tmps) r.assign r.body) w := by
    simp only [execOp, resolve, hf, Deferred.ofValue, Sem.run_bind, Sem.run_pure, Result.andThen_ok, invoke]
    have := run_yield (P := P) (args := args.map a.eval) hl (by simpa using hn)
    simpa using this
  refine wpIn_of hrun (fun _ e => by cases e) ⟨fun h => (by cases h), h.mono fun e W' ⟨v, he, hv⟩ => ?_⟩
  subst he
  exact hv
end Go.Am
