/-
  The abstract machine of these proofs.
-/
import Derived.Test.YtdjlilhdgnogaaaAmWrite2
set_option linter.unusedVariables false
/-! Calls of functions by their contracts; one operation. -/
namespace Go.Am
open Go Go.RowKit
variable {P : Program} {γ γ' : Nat → Option G} {M M' : Mem} {C : Ctx} {s s' : S} {a a' : Act} {w w' : World}

abbrev γ0 : Nat → Option G := fun _ => none

/-- THE CONTRACT OF A FUNCTION OF DATA: called with values that say 'args', it returns a value that says 'r'; nothing that was there has turned. -/
def FnP (P : Program) (f : FuncId) (args : List AV) (r : AV) : Prop :=
  ∀ (M : Mem) (w : World) (vs : List Value), MOk M w → ARels γ0 M args vs →
    Calls P f vs.toArray w fun e w' => ∃ v M', e = .returned v ∧ MLe M M' ∧ (∀ b, b < w.heap.size → M' b = M b) ∧ MOk M' w' ∧ ARel γ0 M' r v ∧ Below w.heap.size w w'

def callable (P : Program) (f : FuncId) : Bool :=
  match P.funcs[f]? with
  | some fn => fn.body.isSome && !(fn.name == "runtime.NumGoroutine")
  | none => false

theorem run_callFunc {f : FuncId} (h : callable P f = true) (vs : Array Value) (w : World) : (callFunc f vs).run P w = .ok (.enter f vs) w := by
  unfold callable at h
  cases hf : P.funcs[f]? with
  | none => rw [hf] at h; cases h
  | some fn =>
    rw [hf] at h
    dsimp only at h
    rw [Bool.and_eq_true, Bool.not_eq_true'] at h
    have h2 : fn.body.isNone = false := by cases hb : fn.body with | none => rw [hb] at h; cases h.1 | some _ => rfl
    have h3 : ¬ (fn.name = "runtime.NumGoroutine") := by have := h.2; simpa using this
    have h4 : ¬ (fn.body = none) := by intro e; rw [e] at h2; cases h2
    simp [callFunc, hf, h3, h4]

abbrev Env := FuncId → List AV → Option (AV × Option Prop)

/-- A function without a body, of data. -/
def ExtP (P : Program) (f : FuncId) (args : List AV) (r : AV) : Prop :=
  ∀ (M : Mem) (w : World) (vs : List Value), MOk M w → ARels γ0 M args vs → ∃ v, (callFunc f vs.toArray).run P w = .ok (.value v) w ∧ ARel γ0 M r v

def CallP (P : Program) (f : FuncId) (args : List AV) (r : AV) : Prop := (callable P f = true ∧ FnP P f args r) ∨ ExtP P f args r

def EnvOk (P : Program) (env : Env) : Prop := ∀ f zs r ok, env f zs = some (r, ok) → okP ok → CallP P f zs r

def snap1 (ob : Nat → Option AObj) : AV → Option AV
  | .p x => some (.p x)
  | .arr id => match ob id with
    | some (.barr _ false l) => some (.p (.bytes l))
    | some (.larr _ false k n f) => some (.p (.list k n f))
    | _ => none
  | _ => none

def snap (ob : Nat → Option AObj) : AV → Option AV
  | .agg cs => (allSome (snap1 ob) cs).map .agg
  | .clo fn [] [] => some (.clo fn [] [])
  | x => snap1 ob x

theorem snap1_rel (hs : StG C γ M s a w) {x z : AV} (h : snap1 s.ob x = some z) {v : Value} (hx : ARel γ M x v) : ARel γ0 M z v := by
  cases x with
  | p q => cases h; exact .p _ _ hx.p_inv
  | arr id =>
    obtain ⟨ad, k, n, cap, hg, rfl⟩ := hx.arr_inv
    dsimp only [snap1] at h
    cases ho : s.ob id with
    | none => rw [ho] at h; cases h
    | some o =>
      rw [ho] at h
      have cap_ge : ∀ {e mu k n vs g cap}, ArrOK M w e mu k n vs (some g) cap → n ≤ cap := by
        intro e mu k n vs g cap hA
        rcases hA.own.2 with ⟨hv, _⟩ | ⟨g', cap', cur, hv, _, _, hc, _⟩
        · simp [arrV] at hv
        · simp [arrV] at hv; omega
      cases o with
      | cells cs => cases h
      | barr e mu l =>
        cases mu with
        | true => cases h
        | false =>
          cases h
          obtain ⟨a2, cap2, hg', hA⟩ := hs.ob id _ ho
          rw [hg] at hg'; cases hg'
          cases ad with
          | none =>
            have h0 := hA.none
            have hl : l = [] := List.eq_nil_of_length_eq_zero h0.1
            subst hl
            rw [h0.2]
            exact .p _ _ .bytesNil
          | some g =>
            refine .p _ _ (.bytes l g 0 cap hA.len (cap_ge hA) fun i c hc => ?_)
            have := hA.mem g rfl
            simp only [Bool.false_eq_true, if_false] at this
            rw [Nat.zero_add, this i, List.getElem?_map, hc]; rfl
      | larr e mu k' n' f =>
        cases mu with
        | true => cases h
        | false =>
          cases h
          obtain ⟨a2, cap2, vs, hg', hv, hA⟩ := hs.ob id _ ho
          rw [hg] at hg'; cases hg'
          cases ad with
          | none =>
            have h0 := hA.none
            obtain ⟨rfl, rfl⟩ := h0
            exact .p _ _ (.listNil _ _)
          | some g =>
            have hmem := hA.mem g rfl
            simp only [Bool.false_eq_true, if_false] at hmem
            refine .p _ _ (.list _ _ f g 0 cap (fun i j => vs.getD (i * k + j) undef) hA.len (cap_ge hA) (fun i j hi hj => ?_) (fun i j hi hj => ?_))
            · obtain ⟨u, hu, _⟩ := hv i j hi hj
              rw [Nat.zero_add, hmem, hu, List.getD_eq_getElem?_getD, hu]; rfl
            · obtain ⟨u, hu, hp⟩ := hv i j hi hj
              rw [List.getD_eq_getElem?_getD, hu]; exact hp
  | _ => cases h

theorem snap_rel (hs : StG C γ M s a w) {x z : AV} (h : snap s.ob x = some z) {v : Value} (hx : ARel γ M x v) : ARel γ0 M z v := by
  cases x with
  | agg cs =>
    obtain ⟨zs, hz, he⟩ := map_some h
    cases he
    obtain ⟨vs, rfl, hsz, hr⟩ := hx.agg_inv
    obtain ⟨h1, h2⟩ := allSome_get hz
    refine .agg _ _ (by omega) fun i hi => ?_
    have hi' : i < cs.length := by omega
    obtain ⟨y, hy, hf⟩ := h2 i _ (List.getElem?_eq_getElem hi')
    have := hr i hi'
    rw [List.getD_eq_getElem?_getD, List.getElem?_eq_getElem hi'] at this
    rw [List.getD_eq_getElem?_getD, hy]
    exact snap1_rel hs hf this
  | clo fn fs cs =>
    cases fs with
    | nil =>
      cases cs with
      | nil =>
        cases h
        cases hx with
        | clo _ _ _ vf vc hf hc h1 h2 => exact .clo _ _ _ _ _ hf hc (fun i hi => absurd hi (Nat.not_lt_zero _)) (fun i hi => absurd hi (Nat.not_lt_zero _))
      | cons _ _ => cases h
    | cons _ _ => cases h
  | any => exact snap1_rel hs (x := .any) h hx
  | p q => exact snap1_rel hs (x := .p _) h hx
  | ref _ _ => exact snap1_rel hs (x := .ref _ _) h hx
  | arr _ => exact snap1_rel hs (x := .arr _) h hx
  | aptr _ _ _ => exact snap1_rel hs (x := .aptr _ _ _) h hx
  | tup _ => exact snap1_rel hs (x := .tup _) h hx
  | gd _ _ => exact snap1_rel hs (x := .gd _ _) h hx

theorem snaps_rel (hs : StG C γ M s a w) : ∀ {xs zs : List AV} {vs : List Value}, allSome (snap s.ob) xs = some zs → ARels γ M xs vs → ARels γ0 M zs vs := by
  intro xs
  induction xs with
  | nil => intro zs vs h hx; cases h; cases hx; exact .nil
  | cons x xs ih =>
    intro zs vs h hx
    cases hx with
    | cons h1 h2 =>
      simp only [allSome] at h
      cases hz : snap s.ob x with
      | none => rw [hz] at h; cases h
      | some z =>
        cases hr : allSome (snap s.ob) xs with
        | none => rw [hz, hr] at h; cases h
        | some zs' =>
          rw [hz, hr] at h; cases h
          exact .cons (snap_rel hs hz h1) (ih hr h2)

/-- A call of a function that is known, by its contract. -/
def evC (env : Env) (ob : Nat → Option AObj) (op : Op) (xs : List AV) : Option (AV × Option Prop) :=
  match op with
  | .call ⟨.value _, _, _⟩ => match xs with
    | .clo (.func f) fs cs :: ys => match allSome (snap ob) (fs ++ (ys ++ cs)) with
      | some zs => env f zs
      | none => none
    | _ => none
  | _ => none

theorem ARels.append {xs ys : List AV} {vs us : List Value} (h : ARels γ M xs vs) (k : ARels γ M ys us) : ARels γ M (xs ++ ys) (vs ++ us) := by
  induction h with
  | nil => exact k
  | cons h _ ih => exact .cons h ih

theorem ARels.of_get : ∀ {xs : List AV} {vs : List Value}, vs.length = xs.length → (∀ i, i < xs.length → ARel γ M (xs.getD i .any) (vs.getD i undef)) → ARels γ M xs vs
  | [], [], _, _ => .nil
  | [], _ :: _, h, _ => by cases h
  | _ :: _, [], h, _ => by cases h
  | x :: xs, v :: vs, h, hr => .cons (hr 0 (by simp)) (ARels.of_get (by simpa using h) fun i hi => hr (i + 1) (by simpa using hi))

theorem evC_sound {env : Env} (henv : EnvOk P env) (hs : StG C γ M s a w) (o : Oper) (hd : dstOk C.nt o.dst = true) {xs : List AV} {r : AV} {ok : Option Prop}
    (h : evC env s.ob o.op xs = some (r, ok)) (hok : okP ok) (hx : ARels γ M xs (o.op.operands.toList.map a.eval)) {next : Act → World → Prop} {Q : Exit → Act → World → Prop}
    (hn : ∀ v M' w', ARel γ M' r v → StG C γ M' (aset s o.dst r) (a.put o.dst v) w' → next (a.put o.dst v) w') : o.wp P a w next Q := by
  obtain ⟨dst, op, type, pos, after, guard⟩ := o
  dsimp only at hx h hd hn
  cases op <;> simp only [evC, reduceCtorEq] at h
  rename_i c
  obtain ⟨callee, args, ts⟩ := c
  cases callee with
  | invoke r m => cases h
  | builtin b => cases h
  | value f =>
    dsimp only at h
    have hx' : ARels γ M xs (a.eval f :: args.toList.map a.eval) := by simpa [Op.operands, Call.operands] using hx
    cases hx' with
    | cons h1 h2 =>
      rename_i x ys
      split at h
      · rename_i f' fs cs ys' heq
        cases heq
        split at h
        · rename_i zs hz
          have hcp := henv f' zs r ok h hok
          generalize hfv : a.eval f = fv at h1
          cases h1 with
          | clo _ _ _ vf vc hf hc g1 g2 =>
            have hall : ARels γ M (fs ++ (ys ++ cs)) (vf.toList ++ (args.toList.map a.eval ++ vc.toList)) := by
              refine (ARels.of_get (by simpa using hf) fun i hi => ?_).append (h2.append (ARels.of_get (by simpa using hc) fun i hi => ?_))
              · have := g1 i hi; rw [Array.getD_eq_getD_getElem?] at this; simpa [List.getD_eq_getElem?_getD] using this
              · have := g2 i hi; rw [Array.getD_eq_getD_getElem?] at this; simpa [List.getD_eq_getElem?_getD] using this
            have hz' := snaps_rel hs hz hall
            have hrun0 : (execOp a.eval ⟨dst, .call ⟨.value f, args, ts⟩, type, pos, after, guard⟩).run P w = (callFunc f' (vf.toList ++ (args.toList.map a.eval ++ vc.toList)).toArray).run P w := by
              simp only [execOp, resolve, hfv, Deferred.ofValue, Sem.run_bind, Sem.run_pure, Result.andThen_ok, invoke]
              have e : vf ++ args.map a.eval ++ vc = (vf.toList ++ (args.toList.map a.eval ++ vc.toList)).toArray := by
                apply Array.ext'; simp
              rw [e]
            unfold Oper.wp
            rw [hrun0]
            rcases hcp with ⟨hcall, hfn⟩ | hext
            · have hC := hfn M w _ hs.mem hz'
              rw [run_callFunc hcall]
              show Calls P f' _ w _
              refine hC.mono fun e w' ⟨v, M', he, hle, hnew, hmem, hr, hb⟩ => ?_
              subst he
              have hr' : ARel γ M' r v := hr.mono (fun _ _ hx => by cases hx) (MLe.refl M')
              exact hn v M' w' hr' (hs.put hd hle hb.size (fun b hb' => ⟨hb.block b hb', hnew b hb'⟩) hmem hb.os hb.tape hb.output hr')
            · obtain ⟨v, hv, hr⟩ := hext M w _ hs.mem hz'
              rw [hv]
              have hr' : ARel γ M r v := hr.mono (fun _ _ hx => by cases hx) (MLe.refl M)
              exact hn v M w hr' (hs.put hd (MLe.refl M) (Nat.le_refl _) (fun b hb' => ⟨rfl, rfl⟩) hs.mem rfl rfl rfl hr')
        · cases h
      · cases h
end Go.Am
