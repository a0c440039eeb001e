/-
  The abstract machine of these proofs.
-/
import Derived.Test.YtdjlilhdgnogaaaAmExec
set_option linter.unusedVariables false
/-! Regions, statements, functions. -/
namespace Go.Am
open Go Go.RowKit
variable {P : Program} {γ γ' : Nat → Option G} {M M' : Mem} {C : Ctx} {s s' : S} {a a' : Act} {w w' : World}

def aops (P : Program) (env : Env) (nt : Nat) (ops : Array Oper) : List Nat → S → Option (S × List Prop)
  | [], s => some (s, [])
  | i :: r, s => match ops[i]? with
    | none => none
    | some o => match astep P env nt ops o s with
      | none => none
      | some (s1, p1) => match aops P env nt ops r s1 with
        | none => none
        | some (s2, p2) => some (s2, p1 ++ p2)

theorem aops_sound {env : Env} (henv : EnvOk P env) {ops : Array Oper} {Q : Exit → Act → World → Prop} : ∀ (l : List Nat) {s s' : S} {ps : List Prop} {a : Act} {w : World},
    aops P env C.nt ops l s = some (s', ps) → All ps → St C s a w → (∀ a' w', St C s' a' w' → Q .normal a' w') → wpOps P ops Q l a w := by
  intro l
  induction l with
  | nil => intro s s' ps a w h hp hs hq; cases h; exact hq a w hs
  | cons i r ih =>
    intro s s' ps a w h hp hs hq
    simp only [aops] at h
    simp only [wpOps]
    cases ho : ops[i]? with
    | none => rw [ho] at h; cases h
    | some o =>
      rw [ho] at h
      dsimp only at h ⊢
      cases h1 : astep P env C.nt ops o s with
      | none => rw [h1] at h; cases h
      | some q =>
        obtain ⟨s1, p1⟩ := q
        rw [h1] at h
        dsimp only at h
        cases h2 : aops P env C.nt ops r s1 with
        | none => rw [h2] at h; cases h
        | some q =>
          obtain ⟨s2, p2⟩ := q
          rw [h2] at h
          cases h
          obtain ⟨hp1, hp2⟩ := All.append hp
          have := astep_sound henv h1 hp1 hs (next := wpOps P ops Q r) (Q := Q) fun a' w' hs' => ih h2 hp2 hs' hq
          split
          · rename_i hw; rw [if_pos hw] at this; exact .inl this
          · rename_i hw; rw [if_neg hw] at this; exact this

theorem St.drew (h : St C s a w) : St C s a { w with drawn := w.drawn + 1 } := by
  obtain ⟨γ, M, h⟩ := h
  exact ⟨γ, M, h.sl, (fun id o ho => (h.ob id o ho).keep (GLe.refl γ) (MLe.refl M) fun _ _ _ _ => ⟨rfl, rfl⟩), h.us, h.sep, h.lo, (fun b o v hv => h.mem b o v hv), h.le, h.new, ⟨h.fr.os, h.fr.tape, h.fr.output, h.fr.size, h.fr.block⟩, h.df, h.nt, h.gl⟩

/-- THE TRIPLE. -/
def T (P : Program) (C : Ctx) (c : Code) (s : S) (Q : Exit → S → Prop) : Prop :=
  ∀ a w, St C s a w → c.wp P (fun e a' w' => ∃ s', Q e s' ∧ St C s' a' w') a w

def Sub (C : Ctx) (s s' : S) : Prop := ∀ a w, St C s a w → St C s' a w

theorem T.conseq {c : Code} {Q R : Exit → S → Prop} (h : T P C c s Q) (k : ∀ e s', Q e s' → R e s') : T P C c s R :=
  fun a w hs => wp_mono (h a w hs) fun e a' w' ⟨s', hq, hs'⟩ => ⟨s', k e s' hq, hs'⟩
theorem T.weaken {c : Code} {Q : Exit → S → Prop} (h : T P C c s' Q) (k : Sub C s s') : T P C c s Q := fun a w hs => h a w (k a w hs)

theorem T_region {env : Env} (henv : EnvOk P env) {id : Nat} {ops : Array Oper} {Q : Exit → S → Prop} {ps : List Prop}
    (h : aops P env C.nt ops (List.range ops.size) s = some (s', ps)) (hp : All ps) (hq : Q .normal s') : T P C (.region id ops false) s Q :=
  fun _ _ hs => wp_region (aops_sound henv _ h hp hs fun _ _ hs' => ⟨s', hq, hs'⟩)

def Then (K : S → Prop) (Q : Exit → S → Prop) : Exit → S → Prop
  | .normal, s => K s
  | e, s => Q e s
def InBlock (id : Nat) (Q : Exit → S → Prop) : Exit → S → Prop
  | .exit id', s => if id' = id then Q .normal s else Q (.exit id') s
  | e, s => Q e s

theorem T_seq {x y : Code} {Q : Exit → S → Prop} (h : T P C x s (Then (fun s' => T P C y s' Q) Q)) : T P C (.seq x y) s Q := by
  intro a w hs
  refine wp_seq (wp_mono (h a w hs) fun e a' w' ⟨s', hq, hs'⟩ => ?_)
  cases e <;> first
    | exact hq a' w' hs'
    | exact ⟨s', hq, hs'⟩

theorem T_cond {c : Operand} {x y : Code} {Q : Exit → S → Prop} {b : Bool} (hc : aev s.sl c = .p (.bool b)) (h1 : b = true → T P C x s Q) (h2 : b = false → T P C y s Q) : T P C (.cond c x y) s Q := by
  intro a w hs
  obtain ⟨γ, M, hg⟩ := hs
  have := aev_rel hg.sl c
  rw [hc] at this
  exact wp_cond_split this.bool_inv (fun hb => h1 hb a w ⟨γ, M, hg⟩) (fun hb => h2 hb a w ⟨γ, M, hg⟩)

theorem T_block {id : Nat} {c : Code} {Q : Exit → S → Prop} (h : T P C c s (InBlock id Q)) : T P C (.block id c) s Q := by
  intro a w hs
  refine wp_block (wp_mono (h a w hs) fun e a' w' ⟨s', hq, hs'⟩ => ?_)
  cases e <;> first
    | exact ⟨s', hq, hs'⟩
    | (simp only [Exit.inBlock, InBlock] at *; split <;> rename_i hi <;> simp only [hi, if_true, if_false] at hq <;> exact ⟨s', hq, hs'⟩)

theorem T_skip {Q : Exit → S → Prop} (h : Q .normal s) : T P C .skip s Q := fun _ _ hs => wp_skip ⟨s, h, hs⟩
theorem T_label {l : Nat} {Q : Exit → S → Prop} (h : Q .normal s) : T P C (.label l) s Q := fun _ _ hs => wp_label ⟨s, h, hs⟩
theorem T_exit {id : Nat} {Q : Exit → S → Prop} (h : Q (.exit id) s) : T P C (.exit id) s Q := fun _ _ hs => wp_exit ⟨s, h, hs⟩
theorem T_ret {Q : Exit → S → Prop} (h : Q .ret s) : T P C .ret s Q := fun _ _ hs => wp_ret ⟨s, h, hs⟩

theorem wp_loop_f {c : Code} {Q : Exit → Act → World → Prop} (I : Nat → Act → World → Prop)
    (round : ∀ n a w, I n a w → c.wp P (Exit.then (fun a' w' => ∃ m, m < n ∧ I m a' w') Q) a w) (n : Nat) (h₀ : I n a w) : (Code.loop c).wp P Q a w := by
  intro b k cs
  have key : ∀ n a w, I n a w → ∃ e a' w', Q e a' w' ∧ Arrives P (lone (b.at a (.code c :: .inLoop c :: k)) cs w) b k cs e a' w' := by
    intro n
    induction n using Nat.strongRecOn with
    | _ n ih =>
      intro a w hI
      obtain ⟨e, a₁, w₁, hq, harr⟩ := round n a w hI b (.inLoop c :: k) cs
      cases e with
      | normal =>
        obtain ⟨m, hlt, hI₁⟩ := hq
        obtain ⟨e₂, a₂, w₂, hq₂, harr₂⟩ := ih m hlt a₁ w₁ hI₁
        exact ⟨e₂, a₂, w₂, hq₂, .of_steps (Steps.trans harr (.one step_inLoop)) harr₂⟩
      | exit id => exact ⟨_, a₁, w₁, hq, .pass (x := .inLoop c) rfl (fun _ _ => .inl (by simp)) harr⟩
      | goto l => exact ⟨_, a₁, w₁, hq, .pass (x := .inLoop c) rfl (fun _ _ => .inl (by simp)) harr⟩
      | ret => exact ⟨_, a₁, w₁, hq, .pass (x := .inLoop c) rfl (fun _ _ => .inl (by simp)) harr⟩
      | panic ch => exact ⟨_, a₁, w₁, hq, .pass (x := .inLoop c) rfl (fun _ _ => .inl (by simp)) harr⟩
      | outgrown => exact ⟨_, a₁, w₁, hq, .pass (x := .inLoop c) rfl (fun _ _ => .inl (by simp)) harr⟩
  obtain ⟨e, a', w', hq, harr⟩ := key n a w h₀
  exact ⟨e, a', w', hq, .of_steps (.one step_loop) harr⟩

/-- A loop: 'R f s': from the state s the loop ends within f rounds as Q says. -/
theorem T_loop {c : Code} {Q : Exit → S → Prop} (R : Nat → S → Prop)
    (round : ∀ n s, R n s → T P C c s (Then (fun s' => ∃ m s2, m < n ∧ R m s2 ∧ Sub C s' s2) Q)) (n : Nat) (h : R n s) : T P C (.loop c) s Q := by
  intro a w hs
  refine wp_loop_f (fun n a w => ∃ s, R n s ∧ St C s a w) (fun n a w ⟨s, hR, hs⟩ => wp_mono (round n s hR a w hs) fun e a' w' ⟨s', hq, hs'⟩ => ?_) n ⟨s, h, hs⟩
  cases e <;> first
    | (obtain ⟨m, s2, hm, hR2, hsub⟩ := hq; exact ⟨m, hm, s2, hR2, hsub a' w' hs'⟩)
    | exact ⟨s', hq, hs'⟩

/-- Where a piece of code lies: 0: the first of two, the body, the then; 1: the second, the else. -/
def at_ : Code → List Nat → Code
  | c, [] => c
  | .seq x y, i :: p => match i with | 0 => at_ x p | _ => at_ y p
  | .cond _ x y, i :: p => match i with | 0 => at_ x p | _ => at_ y p
  | .block _ x, _ :: p => at_ x p
  | .loop x, _ :: p => at_ x p
  | .scope x, _ :: p => at_ x p
  | c, _ :: _ => c

def opsOf : Code → Array Oper
  | .region _ ops _ => ops
  | _ => #[]
def condOf : Code → Operand
  | .cond c _ _ => c
  | _ => .const (.bool false)

/-- What a function answers: its results' slots and variables, as data. -/
def aresult (P : Program) (s : S) : ResultVar → Option AV
  | .tmp t => snap s.ob (s.sl t)
  | .cell t ty => match evLoad P s.ob ty [s.sl t] with
    | some (r, none) => snap s.ob r
    | _ => none

def aresults (P : Program) (s : S) (rs : List ResultVar) : Option AV :=
  match allSome (aresult P s) rs with
  | some [r] => some r
  | some l => some (.tup l)
  | none => none

def resF (tmps : Array Value) : ResultVar → Sem Value
  | .tmp t => pure (tmps.getD t undef)
  | .cell t ty => do loadVar ty (← asAddr (tmps.getD t undef))

theorem results_eq (fn : Func) (tmps : Array Value) : results fn tmps = (do let vs ← fn.results.mapM (resF tmps); pure (if h : vs.size = 1 then vs[0] else .tuple vs)) := by
  have e : (fun x => match x with | .tmp t => pure (tmps.getD t undef) | .cell a t => do loadVar t (← asAddr (tmps.getD a undef))) = resF tmps := by
    funext x; cases x <;> rfl
  rw [← e]
  rfl

theorem run_res_cell {ty : TypeId} {v u : Value} (h : (Instr.loadAt ty v).run P w = .ok u w) : (do loadVar ty (← asAddr v) : Sem Value).run P w = .ok u w := by
  unfold Instr.loadAt at h
  cases v with
  | pointer p =>
    cases p with
    | some ad => exact h
    | none => rw [Sem.run_bind] at h; simp [Instr.sureAddr] at h
  | _ => rw [Sem.run_bind] at h; simp [Instr.sureAddr] at h

theorem aresult_sound (hs : StG C γ M s a w) {rv : ResultVar} {r : AV} (h : aresult P s rv = some r) :
    ∃ v, (resF a.tmps rv).run P w = .ok v w ∧ ARel γ0 M r v := by
  cases rv with
  | tmp t => exact ⟨_, rfl, snap_rel hs h (hs.sl t)⟩
  | cell t ty =>
    simp only [aresult] at h
    split at h
    · rename_i r' hl
      obtain ⟨u, hu, hr⟩ := evLoad_sound (P := P) hs hl trivial (hs.sl t)
      exact ⟨u, run_res_cell hu, snap_rel hs h hr⟩
    · cases h

theorem aresults_sound (hs : StG C γ M s a w) (fn : Func) {r : AV} (h : aresults P s fn.results.toList = some r) :
    ∃ v, (results fn a.tmps).run P w = .ok v w ∧ ARel γ0 M r v := by
  have key : ∀ (l : List ResultVar) (rs : List AV), allSome (aresult P s) l = some rs → ∃ vs : List Value,
      (l.mapM (resF a.tmps)).run P w = .ok vs w ∧ ARels γ0 M rs vs := by
    intro l
    induction l with
    | nil => intro rs h; cases h; exact ⟨[], rfl, .nil⟩
    | cons x l ih =>
      intro rs h
      simp only [allSome] at h
      cases hx : aresult P s x with
      | none => rw [hx] at h; cases h
      | some y =>
        cases hl : allSome (aresult P s) l with
        | none => rw [hx, hl] at h; cases h
        | some ys =>
          rw [hx, hl] at h; cases h
          obtain ⟨v, hv, hr⟩ := aresult_sound (P := P) hs hx
          obtain ⟨vs, hvs, hrs⟩ := ih ys hl
          refine ⟨v :: vs, ?_, .cons hr hrs⟩
          rw [List.mapM_cons]
          simp only [Sem.run_bind, hv, Sem.run_pure, Result.andThen_ok, hvs]
  unfold aresults at h
  cases hl : allSome (aresult P s) fn.results.toList with
  | none => rw [hl] at h; cases h
  | some rs =>
    obtain ⟨vs, hvs, hrs⟩ := key _ _ hl
    have hm : (fn.results.mapM (resF a.tmps)).run P w = .ok vs.toArray w := by
      rw [Array.mapM_eq_mapM_toList, Sem.run_map, hvs]; rfl
    have hres : (results fn a.tmps).run P w = .ok (if h : vs.toArray.size = 1 then vs.toArray[0] else .tuple vs.toArray) w := by
      rw [results_eq, Sem.run_bind, hm]
      rfl
    rw [hl] at h
    refine ⟨_, hres, ?_⟩
    have hlen := hrs.length
    split at h
    · rename_i r' heq
      cases heq; cases h
      cases hrs with
      | cons h1 h2 => cases h2 with | nil => simpa using h1
    · rename_i l hne heq
      cases heq; cases h
      have hn1 : vs.length ≠ 1 := by
        intro e
        match rs, hlen with
        | [r], _ => exact hne r rfl
        | [], hl0 => simp at hl0; rw [hl0] at e; cases e
        | _ :: _ :: _, hl0 => simp at hl0; omega
      rw [dif_neg (by simpa using hn1)]
      refine .tup _ _ (by simp [hlen]) fun i hi => ?_
      have := hrs.get i hi
      simpa [Array.getD_eq_getD_getElem?, List.getD_eq_getElem?_getD] using this
    · rename_i heq; cases heq

def sinit (args : List AV) : S := { sl := fun i => args.getD i .any, ob := fun _ => none, us := fun _ => false }

/-- What must hold when a function's body ends. -/
def Qfn (P : Program) (rs : List ResultVar) (r : AV) : Exit → S → Prop
  | .normal, s => aresults P s rs = some r
  | .ret, s => aresults P s rs = some r
  | _, _ => False

theorem FnP_intro {f : FuncId} {fn : Func} {c : Code} {args : List AV} {r : AV} (hf : P.funcs[f]? = some fn) (hb : fn.body = some c) (hn : args.length ≤ fn.ntmps)
    (h : ∀ C : Ctx, C.nt = fn.ntmps → C.g0 = γ0 → T P C c (sinit args) (Qfn P fn.results.toList r)) : FnP P f args r := by
  intro M w vs hM hvs
  let C : Ctx := { w0 := w, M0 := M, own := fun _ => False, nt := fn.ntmps, g0 := γ0 }
  have hlen := hvs.length
  have hst : St C (sinit args) { tmps := vs.toArray ++ Array.replicate (fn.ntmps - vs.toArray.size) undef, defers := [] } w := by
    refine ⟨γ0, M, ?_, ?_, fun _ _ => rfl, ?_, ?_, hM, MLe.refl M, fun _ _ _ => rfl, ⟨rfl, rfl, rfl, Nat.le_refl _, fun _ _ _ => rfl⟩, rfl, ?_, GLe.refl γ0⟩
    · intro t
      show ARel γ0 M (args.getD t .any) _
      by_cases ht : t < args.length
      · have := hvs.get t ht
        have e : (vs.toArray ++ Array.replicate (fn.ntmps - vs.toArray.size) undef).getD t undef = vs.getD t undef := by
          rw [Array.getD_eq_getD_getElem?, Array.getElem?_append_left (by simp; omega)]
          simp [List.getD_eq_getElem?_getD]
        rw [e]; exact this
      · have e : args.getD t .any = .any := by rw [List.getD_eq_getElem?_getD, List.getElem?_eq_none (by omega)]; rfl
        rw [e]; exact .any _
    · intro id o ho; cases ho
    · intro id id' g g' b h1; exact absurd rfl h1
    · intro id g b h1; exact absurd rfl h1
    · simp [C]; omega
  refine calls_of_wp hf hb (wp_mono (h C rfl rfl _ w hst) fun e a' w' ⟨s', hq, γ', M', hs'⟩ => ?_)
  have fin : aresults P s' fn.results.toList = some r → a'.defers = [] ∧ ∃ v, (results fn a'.tmps).run P w' = .ok v w' ∧
      ∃ u M', Ending.returned v = .returned u ∧ MLe M M' ∧ (∀ b, b < w.heap.size → M' b = M b) ∧ MOk M' w' ∧ ARel γ0 M' r u ∧ Below w.heap.size w w' := by
    intro hr
    obtain ⟨v, hv, hrel⟩ := aresults_sound hs' fn hr
    exact ⟨hs'.df, v, hv, v, M', rfl, hs'.le, fun b hb => hs'.new b hb (fun h => h), hs'.mem, hrel, ⟨hs'.fr.os, hs'.fr.tape, hs'.fr.output, hs'.fr.size, fun b hb => hs'.fr.block b hb (fun h => h)⟩⟩
  cases e with
  | normal => exact fin hq
  | ret => exact fin hq
  | _ => exact hq.elim
end Go.Am
