/-
  The abstract machine of these proofs.
-/
import Derived.Test.YtdjlilhdgnogaaaAmCall3
set_option linter.unusedVariables false
/-! A function's body gives its contract. -/
namespace Go.Am
open Go Go.RowKit
variable {P : Program} {γ γ' : Nat → Option G} {M M' : Mem} {C : Ctx} {s s' : S} {a a' : Act} {w w' : World}

def aresultR (P : Program) (s : S) : ResultVar → Option AV
  | .tmp t => some (s.sl t)
  | .cell t ty => match evLoad P s.ob ty [s.sl t] with
    | some (r, none) => some r
    | _ => none

def aresultsR (P : Program) (s : S) (rs : List ResultVar) : Option AV :=
  match allSome (aresultR P s) rs with
  | some [r] => some r
  | some l => some (.tup l)
  | none => none

theorem aresultR_sound (hs : StG C γ M s a w) {rv : ResultVar} {r : AV} (h : aresultR P s rv = some r) :
    ∃ v, (resF a.tmps rv).run P w = .ok v w ∧ ARel γ M r v := by
  cases rv with
  | tmp t => cases h; exact ⟨_, rfl, hs.sl t⟩
  | cell t ty =>
    simp only [aresultR] at h
    split at h
    · rename_i r' hl
      cases h
      obtain ⟨u, hu, hr⟩ := evLoad_sound (P := P) hs hl trivial (hs.sl t)
      exact ⟨u, run_res_cell hu, hr⟩
    · cases h

theorem aresultsR_sound (hs : StG C γ M s a w) (fn : Func) {r : AV} (h : aresultsR P s fn.results.toList = some r) :
    ∃ v, (results fn a.tmps).run P w = .ok v w ∧ ARel γ M r v := by
  have key : ∀ (l : List ResultVar) (rs : List AV), allSome (aresultR P s) l = some rs → ∃ vs : List Value,
      (l.mapM (resF a.tmps)).run P w = .ok vs w ∧ ARels γ M rs vs := by
    intro l
    induction l with
    | nil => intro rs h; cases h; exact ⟨[], rfl, .nil⟩
    | cons x l ih =>
      intro rs h
      simp only [allSome] at h
      cases hx : aresultR P s x with
      | none => rw [hx] at h; cases h
      | some y =>
        cases hl : allSome (aresultR P s) l with
        | none => rw [hx, hl] at h; cases h
        | some ys =>
          rw [hx, hl] at h; cases h
          obtain ⟨v, hv, hr⟩ := aresultR_sound (P := P) hs hx
          obtain ⟨vs, hvs, hrs⟩ := ih ys hl
          refine ⟨v :: vs, ?_, .cons hr hrs⟩
          rw [List.mapM_cons]
          simp only [Sem.run_bind, hv, Sem.run_pure, Result.andThen_ok, hvs]
  unfold aresultsR at h
  cases hl : allSome (aresultR P s) fn.results.toList with
  | none => rw [hl] at h; cases h
  | some rs =>
    obtain ⟨vs, hvs, hrs⟩ := key _ _ hl
    have hm : (fn.results.mapM (resF a.tmps)).run P w = .ok vs.toArray w := by
      rw [Array.mapM_eq_mapM_toList, Sem.run_map, hvs]; rfl
    have hres : (results fn a.tmps).run P w = .ok (if h : vs.toArray.size = 1 then vs.toArray[0] else .tuple vs.toArray) w := by
      rw [results_eq, Sem.run_bind, hm]
      rfl
    rw [hl] at h
    refine ⟨_, hres, ?_⟩
    have hlen := hrs.length
    split at h
    · rename_i r' heq
      cases heq; cases h
      cases hrs with
      | cons h1 h2 => cases h2 with | nil => simpa using h1
    · rename_i l hne heq
      cases heq; cases h
      have hn1 : vs.length ≠ 1 := by
        intro e
        match rs, hlen with
        | [r], _ => exact hne r rfl
        | [], hl0 => simp at hl0; rw [hl0] at e; cases e
        | _ :: _ :: _, hl0 => simp at hl0; omega
      rw [dif_neg (by simpa using hn1)]
      refine .tup _ _ (by simp [hlen]) fun i hi => ?_
      have := hrs.get i hi
      simpa [Array.getD_eq_getD_getElem?, List.getD_eq_getElem?_getD] using this
    · rename_i heq; cases heq

def sinitR (args : List AV) (ib : List (Nat × AObj)) : S := { sl := fun i => args.getD i .any, ob := fun i => lookO i ib, us := fun i => (lookO i ib).isSome }

def outsAre (s : S) (outs : List (Nat × AObj)) : Prop := (outs.map fun p => s.ob p.1) = outs.map fun p => some p.2

def QendR (P : Program) (C : Ctx) (rs : List ResultVar) (r : AV) (outs : List (Nat × AObj)) : Exit → S → Prop
  | .normal, s => ∃ s2, Sub C s s2 ∧ aresultsR P s2 rs = some r ∧ outsAre s2 outs
  | .ret, s => ∃ s2, Sub C s s2 ∧ aresultsR P s2 rs = some r ∧ outsAre s2 outs
  | _, _ => False

theorem outsAre_get {outs : List (Nat × AObj)} (h : outsAre s outs) {i : Nat} {o : AObj} (ho : lookO i outs = some o) : s.ob i = some o := by
  have hm := lookO_mem ho
  unfold outsAre at h
  clear ho
  induction outs with
  | nil => cases hm
  | cons p l ih =>
    simp only [List.map_cons, List.cons.injEq] at h
    rcases List.mem_cons.1 hm with e | e
    · rw [← e] at h; exact h.1
    · exact ih h.2 e

theorem FnR_lift {f : FuncId} {fn : Func} {args : List AV} {ib : List (Nat × AObj)} {kept : List Nat} {r : AV} {outs : List (Nat × AObj)} (hf : P.funcs[f]? = some fn) (hb : (fn.body.isSome, Nat.ble args.length fn.ntmps) = (true, true))
    (h : ∀ (γ : Nat → Option G) (M : Mem) (w : World) (vs : List Value), ARels γ M args vs → Objs γ M w (fun i => lookO i ib) (fun b => b < w.heap.size) → ∀ C : Ctx, CtxOk C fn.ntmps kept → T P C (at_ (bodyOf fn) []) (sinitR args ib) (QendR P C fn.results.toList r outs)) :
    FnR P f args ib kept r outs := by
  intro γ M w vs hO hnone hM hvs
  simp only [Prod.mk.injEq] at hb
  obtain ⟨c, hc⟩ := Option.isSome_iff_exists.1 hb.1
  have hcb : bodyOf fn = c := by unfold bodyOf; rw [hc]; rfl
  have hn := Nat.le_of_ble_eq_true hb.2
  let C : Ctx := { w0 := w, M0 := M, own := Handed γ ib, nt := fn.ntmps, g0 := fun i => match elemB i kept with | true => γ i | false => none }
  have hg0 : ∀ i g, C.g0 i = some g → elemB i kept = true ∧ γ i = some g := by
    intro i g hg
    simp only [C] at hg
    split at hg
    · rename_i he; exact ⟨he, hg⟩
    · cases hg
  have hC : CtxOk C fn.ntmps kept := ⟨rfl, fun i g hg => elemB_spec.1 (hg0 i g hg).1⟩
  have hlen := hvs.length
  have hst : St C (sinitR args ib) { tmps := vs.toArray ++ Array.replicate (fn.ntmps - vs.toArray.size) undef, defers := [] } w := by
    refine ⟨γ, M, ?_, hO.ob, ?_, hO.sep, ?_, hM, MLe.refl M, fun _ _ _ => rfl, ⟨rfl, rfl, rfl, Nat.le_refl _, fun _ _ _ => rfl⟩, rfl, ?_, fun i g hg => (hg0 i g hg).2⟩
    · intro t
      show ARel γ M (args.getD t .any) _
      by_cases ht : t < args.length
      · have := hvs.get t ht
        have e : (vs.toArray ++ Array.replicate (fn.ntmps - vs.toArray.size) undef).getD t undef = vs.getD t undef := by
          rw [Array.getD_eq_getD_getElem?, Array.getElem?_append_left (by simp; omega)]
          simp [List.getD_eq_getElem?_getD]
        rw [e]; exact this
      · have e : args.getD t .any = .any := by rw [List.getD_eq_getElem?_getD, List.getElem?_eq_none (by omega)]; rfl
        rw [e]; exact .any _
    · intro i hi
      have hi' : (lookO i ib).isSome = false := hi
      refine hnone i ?_
      cases hl : lookO i ib with
      | none => rfl
      | some _ => rw [hl] at hi'; cases hi'
    · intro id g b h1 h2 h3
      exact ⟨.inr ⟨id, g, h1, h2, h3⟩, hO.lo id g b h1 h2 h3⟩
    · simp [C]; omega
  have hT := h γ M w vs hvs hO C hC
  rw [at_nil, hcb] at hT
  refine calls_of_wp hf hc (wp_mono (hT _ w hst) fun e a' w' ⟨s', hq, hs'⟩ => ?_)
  have fin : (∃ s2, Sub C s' s2 ∧ aresultsR P s2 fn.results.toList = some r ∧ outsAre s2 outs) → a'.defers = [] ∧ ∃ v, (results fn a'.tmps).run P w' = .ok v w' ∧
      ∃ u γ' M', Ending.returned v = .returned u ∧ (∀ i ∈ kept, ∀ g, γ i = some g → γ' i = some g) ∧ MLe M M' ∧ MOk M' w' ∧ ARel γ' M' r u ∧
      Objs γ' M' w' (fun i => lookO i outs) (fun b => (w.heap.size ≤ b ∨ Handed γ ib b) ∧ b < w'.heap.size) ∧
      (∀ b, b < w.heap.size → ¬ Handed γ ib b → w'.heap[b]? = w.heap[b]? ∧ M' b = M b) ∧ w.heap.size ≤ w'.heap.size ∧ w'.os = w.os ∧ w'.tape = w.tape ∧ w'.output = w.output := by
    rintro ⟨s2, hsub, hr, ho⟩
    obtain ⟨γ', M', hs2⟩ := hsub a' w' hs'
    obtain ⟨v, hv, hrel⟩ := aresultsR_sound hs2 fn hr
    have hne : ∀ {i}, lookO i outs ≠ none → s2.ob i ≠ none := by
      intro i hi
      cases hl : lookO i outs with
      | none => exact absurd hl hi
      | some o => rw [outsAre_get ho hl]; simp
    refine ⟨hs2.df, v, hv, v, γ', M', rfl, fun i hi g hg => hs2.gl i g ?_, hs2.le, hs2.mem, hrel, ⟨fun i o hi => hs2.ob i o (outsAre_get ho hi), fun i j g g' b hi hj => hs2.sep i j g g' b (hne hi) (hne hj), fun i g b hi => hs2.lo i g b (hne hi)⟩,
      fun b hb hh => ⟨hs2.fr.block b hb hh, hs2.new b hb hh⟩, hs2.fr.size, hs2.fr.os, hs2.fr.tape, hs2.fr.output⟩
    simp only [C]
    rw [elemB_spec.2 hi]; exact hg
  cases e with
  | normal => exact fin hq
  | ret => exact fin hq
  | _ => exact hq.elim

def mkEnvR (l : List (Nat × RSpec)) : EnvR := fun f => lookO f l
theorem EnvROk_mk {l : List (Nat × RSpec)} (h : All (l.map fun p => SpecROk P p.1 p.2)) : EnvROk P (mkEnvR l) := fun _ _ he => AllL h _ (lookO_mem he)
theorem and_l {a b : Bool} (h : (a && b) = true) : a = true := (Bool.and_eq_true _ _ ▸ h : a = true ∧ b = true).1
theorem and_r {a b : Bool} (h : (a && b) = true) : b = true := (Bool.and_eq_true _ _ ▸ h : a = true ∧ b = true).2
theorem and_mk {a b : Bool} (h : a = true) (k : b = true) : (a && b) = true := by rw [h, k]; rfl
theorem not_mk {b : Bool} (h : b = false) : (!b) = true := by rw [h]; rfl
end Go.Am
