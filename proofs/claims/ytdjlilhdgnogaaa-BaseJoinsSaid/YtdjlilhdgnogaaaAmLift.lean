/-
  The abstract machine of these proofs.
-/
import Derived.Test.YtdjlilhdgnogaaaAmCode
set_option linter.unusedVariables false
/-! States written out; steps from one to the next. -/
namespace Go.Am
open Go Go.RowKit
variable {P : Program} {γ γ' : Nat → Option G} {M M' : Mem} {C : Ctx} {s s' : S} {a a' : Act} {w w' : World}

def look {α : Type} (t : Nat) (d : α) : List (Nat × α) → α
  | [] => d
  | p :: r => match Nat.beq t p.1 with | true => p.2 | false => look t d r
def lookO {α : Type} (t : Nat) : List (Nat × α) → Option α
  | [] => none
  | p :: r => match Nat.beq t p.1 with | true => some p.2 | false => lookO t r

/-- A state, written out: slots, objects. -/
def mkS (l : List (Nat × AV)) (o : List (Nat × AObj)) : S :=
  { sl := fun t => look t .any l, ob := fun i => lookO i o, us := fun i => (lookO i o).isSome }

theorem look_mem {α : Type} {d : α} : ∀ {l : List (Nat × α)} {t : Nat}, (∃ p ∈ l, p.1 = t ∧ look t d l = p.2) ∨ look t d l = d
  | [], t => .inr rfl
  | p :: r, t => by
    unfold look
    cases h : Nat.beq t p.1 with
    | true => exact .inl ⟨p, by simp, (Nat.eq_of_beq_eq_true h).symm, rfl⟩
    | false =>
      rcases look_mem (d := d) (l := r) (t := t) with ⟨q, hq, h1, h2⟩ | h2
      · exact .inl ⟨q, by simp [hq], h1, h2⟩
      · exact .inr h2
theorem lookO_mem {α : Type} : ∀ {l : List (Nat × α)} {t : Nat} {x : α}, lookO t l = some x → (t, x) ∈ l
  | [], t, x, h => by cases h
  | p :: r, t, x, h => by
    unfold lookO at h
    cases hb : Nat.beq t p.1 with
    | true => rw [hb] at h; cases h; rw [Nat.eq_of_beq_eq_true hb]; simp
    | false => rw [hb] at h; exact List.mem_cons_of_mem _ (lookO_mem h)

/-- What stands for an old object's name: 'ren id = some old', or a nil slice's new name: 'ren id = none'. -/
inductive CovA (ren : Nat → Option Nat) : AV → AV → Prop
  | any (x : AV) : CovA ren x .any
  | p (q : PV) : CovA ren (.p q) (.p q)
  | pv (q q' : PV) (h : ∀ M v, PRel M q v → PRel M q' v) : CovA ren (.p q) (.p q')
  | ref (id old off : Nat) (h : ren id = some old) : CovA ren (.ref old off) (.ref id off)
  | arr (id old : Nat) (h : ren id = some old) : CovA ren (.arr old) (.arr id)
  | nil (id : Nat) (h : ren id = none) : CovA ren (.p .nil) (.arr id)
  | clo (fn : Fn) (fs cs fs' cs' : List AV) (h1 : fs.length = fs'.length) (h2 : cs.length = cs'.length)
      (h3 : ∀ i, i < fs'.length → CovA ren (fs.getD i .any) (fs'.getD i .any)) (h4 : ∀ i, i < cs'.length → CovA ren (cs.getD i .any) (cs'.getD i .any)) : CovA ren (.clo fn fs cs) (.clo fn fs' cs')
  | agg (cs cs' : List AV) (h1 : cs.length = cs'.length) (h2 : ∀ i, i < cs'.length → CovA ren (cs.getD i .any) (cs'.getD i .any)) : CovA ren (.agg cs) (.agg cs')
  | tup (cs cs' : List AV) (h1 : cs.length = cs'.length) (h2 : ∀ i, i < cs'.length → CovA ren (cs.getD i .any) (cs'.getD i .any)) : CovA ren (.tup cs) (.tup cs')

/-- The names' meaning behind a renaming. -/
def renG (γ : Nat → Option G) (ids : List (Nat × Nat)) (ren : Nat → Option Nat) : Nat → Option G := fun id =>
  match lookO id ids with
  | none => none
  | some k => match ren id with
    | some old => γ old
    | none => some (.arr none k 0 0)

/-- The new names in a value are among those that are kept ('k': the size of a nil slice's elements). -/
inductive Uses (ids : List (Nat × Nat)) : AV → Prop
  | any : Uses ids .any
  | p (q : PV) : Uses ids (.p q)
  | ref (id off : Nat) (h : (lookO id ids).isSome = true) : Uses ids (.ref id off)
  | arr (id : Nat) (h : (lookO id ids).isSome = true) : Uses ids (.arr id)
  | clo (fn : Fn) (fs cs : List AV) (h1 : ∀ i, i < fs.length → Uses ids (fs.getD i .any)) (h2 : ∀ i, i < cs.length → Uses ids (cs.getD i .any)) : Uses ids (.clo fn fs cs)
  | agg (cs : List AV) (h1 : ∀ i, i < cs.length → Uses ids (cs.getD i .any)) : Uses ids (.agg cs)
  | tup (cs : List AV) (h1 : ∀ i, i < cs.length → Uses ids (cs.getD i .any)) : Uses ids (.tup cs)

theorem CovA.rel {ren : Nat → Option Nat} {ids : List (Nat × Nat)} {x x' : AV} (h : CovA ren x x') : ∀ {v : Value}, Uses ids x' → ARel γ M x v → ARel (renG γ ids ren) M x' v := by
  have look : ∀ {id old : Nat} {g : G}, ren id = some old → (lookO id ids).isSome = true → γ old = some g → renG γ ids ren id = some g := by
    intro id old g hr hi hg
    unfold renG
    cases hl : lookO id ids with
    | none => rw [hl] at hi; cases hi
    | some k => simp only [hr]; exact hg
  induction h with
  | any x => intro v _ _; exact .any v
  | p q => intro v _ hx; exact .p _ _ hx.p_inv
  | pv q q' h => intro v _ hx; exact .p _ _ (h _ _ hx.p_inv)
  | ref id old off h =>
    intro v hu hx
    cases hu with | ref _ _ hu =>
    obtain ⟨b, hg, rfl⟩ := hx.ref_inv
    exact .ref _ _ _ (look h hu hg)
  | arr id old h =>
    intro v hu hx
    cases hu with | arr _ hu =>
    obtain ⟨a, k, n, cap, hg, rfl⟩ := hx.arr_inv
    exact .arr _ _ _ _ _ (look h hu hg)
  | nil id h =>
    intro v hu hx
    cases hu with | arr _ hu =>
    cases hx.p_inv
    cases hl : lookO id ids with
    | none => rw [hl] at hu; cases hu
    | some k =>
      have e : renG γ ids ren id = some (.arr none k 0 0) := by unfold renG; simp only [hl, h]
      exact .arr id none k 0 0 e
  | clo fn fs cs fs' cs' h1 h2 h3 h4 ih3 ih4 =>
    intro v hu hx
    cases hu with | clo _ _ _ u1 u2 =>
    cases hx with | clo _ _ _ vf vc hf hc g1 g2 =>
    exact .clo _ _ _ _ _ (by omega) (by omega) (fun i hi => ih3 i hi (u1 i hi) (g1 i (by omega))) (fun i hi => ih4 i hi (u2 i hi) (g2 i (by omega)))
  | agg cs cs' h1 h2 ih =>
    intro v hu hx
    cases hu with | agg _ u1 =>
    obtain ⟨vs, rfl, hs, hr⟩ := hx.agg_inv
    exact .agg _ _ (by omega) fun i hi => ih i hi (u1 i hi) (hr i (by omega))
  | tup cs cs' h1 h2 ih =>
    intro v hu hx
    cases hu with | tup _ u1 =>
    obtain ⟨vs, rfl, hs, hr⟩ := hx.tup_inv
    exact .tup _ _ (by omega) fun i hi => ih i hi (u1 i hi) (hr i (by omega))

/-- An object that is kept: what it was, what is said of it now. -/
inductive CovO (ren : Nat → Option Nat) : AObj → AObj → Prop
  | refl_b (e : TypeId) (mu : Bool) (l : List UInt8) : CovO ren (.barr e mu l) (.barr e mu l)
  | larr (e : TypeId) (mu : Bool) (k n : Nat) (f f' : Nat → Nat → PV) (h : ∀ i j, i < n → j < k → f i j = f' i j) : CovO ren (.larr e mu k n f) (.larr e mu k n f')
  | cells (cs cs' : List AV) (h1 : cs.length = cs'.length) (h2 : ∀ i, i < cs'.length → CovA ren (cs.getD i .any) (cs'.getD i .any)) : CovO ren (.cells cs) (.cells cs')

def usesO (ids : List (Nat × Nat)) : AObj → Prop
  | .cells cs => ∀ i, i < cs.length → Uses ids (cs.getD i .any)
  | _ => True

/-- An empty row. -/
def emptyO (k : Nat) : AObj → Prop
  | .barr _ _ l => k = 1 ∧ l = []
  | .larr _ _ k' n _ => k = k' ∧ n = 0
  | .cells _ => False

theorem AllL {α : Type} {p : α → Prop} : ∀ {l : List α}, All (l.map p) → ∀ x ∈ l, p x
  | [], _, x, hx => by cases hx
  | y :: l, h, x, hx => by
    rcases List.mem_cons.1 hx with e | e
    · rw [e]; exact h.1
    · exact AllL h.2 x e

theorem Sub_mk {l : List (Nat × AV)} {o : List (Nat × AObj)} (ids : List (Nat × Nat)) (ren : Nat → Option Nat)
    (hids : o.map (·.1) = ids.map (·.1))
    (hl : All (l.map fun p => CovA ren (s.sl p.1) p.2 ∧ Uses ids p.2))
    (ho : All (o.map fun p => usesO ids p.2 ∧ match ren p.1 with
      | some old => ∃ ob, s.ob old = some ob ∧ CovO ren ob p.2
      | none => ∀ k, lookO p.1 ids = some k → emptyO k p.2))
    (hfx : ∀ i g, C.g0 i = some g → ren i = some i ∧ (lookO i ids).isSome = true)
    (hinj : ∀ i j old, ren i = some old → ren j = some old → (lookO i ids).isSome = true → (lookO j ids).isSome = true → i = j) :
    Sub C s (mkS l o) := by
  rintro a w ⟨γ, M, h⟩
  have hkeys : ∀ i, (lookO i o).isSome = (lookO i ids).isSome := by
    have : ∀ (o : List (Nat × AObj)) (ids : List (Nat × Nat)), o.map (·.1) = ids.map (·.1) → ∀ i, (lookO i o).isSome = (lookO i ids).isSome := by
      intro o
      induction o with
      | nil => intro ids he i; cases ids with | nil => rfl | cons _ _ => cases he
      | cons p o ih =>
        intro ids he i
        cases ids with
        | nil => cases he
        | cons q ids =>
          simp only [List.map_cons, List.cons.injEq] at he
          unfold lookO
          rw [he.1]
          cases Nat.beq i q.1 with
          | true => rfl
          | false => exact ih ids he.2 i
    exact this o ids hids
  have hob : ∀ i ob, lookO i o = some ob → usesO ids ob ∧ match ren i with
      | some old => ∃ ob0, s.ob old = some ob0 ∧ CovO ren ob0 ob
      | none => ∀ k, lookO i ids = some k → emptyO k ob := fun i ob hi => AllL ho _ (lookO_mem hi)
  have hγ : ∀ i g, renG γ ids ren i = some g → (∃ old, ren i = some old ∧ γ old = some g ∧ (lookO i ids).isSome = true) ∨ ∃ k, g = .arr none k 0 0 := by
    intro i g hg
    unfold renG at hg
    cases hl' : lookO i ids with
    | none => rw [hl'] at hg; cases hg
    | some k =>
      rw [hl'] at hg
      cases hr : ren i with
      | none => rw [hr] at hg; cases hg; exact .inr ⟨k, rfl⟩
      | some old => rw [hr] at hg; exact .inl ⟨old, rfl, hg, rfl⟩
  refine ⟨renG γ ids ren, M, ?_, ?_, ?_, ?_, ?_, h.mem, h.le, h.new, h.fr, h.df, h.nt, fun i g hg => by
    obtain ⟨h1, h2⟩ := hfx i g hg
    have := h.gl i g hg
    unfold renG
    cases hl' : lookO i ids with
    | none => rw [hl'] at h2; cases h2
    | some k => simp only [h1]; exact this⟩
  · intro t
    show ARel _ M (look t .any l) _
    rcases look_mem (d := AV.any) (l := l) (t := t) with ⟨p, hp, rfl, e⟩ | e
    · rw [e]
      obtain ⟨h1, h2⟩ := AllL hl p hp
      exact h1.rel h2 (h.sl p.1)
    · rw [e]; exact .any _
  · intro id ob hi
    have hi' : lookO id o = some ob := hi
    obtain ⟨hu, hc⟩ := hob id ob hi'
    have hsome : (lookO id ids).isSome = true := by rw [← hkeys, hi']; rfl
    obtain ⟨k, hk⟩ := Option.isSome_iff_exists.1 hsome
    cases hr : ren id with
    | none =>
      rw [hr] at hc
      have hem := hc k hk
      have hg : renG γ ids ren id = some (.arr none k 0 0) := by unfold renG; simp only [hk, hr]
      cases ob with
      | cells cs => exact hem.elim
      | barr e mu l' =>
        obtain ⟨rfl, rfl⟩ := hem
        exact ⟨none, 0, hg, arrOK_nil M w e mu 1⟩
      | larr e mu k' n f =>
        obtain ⟨rfl, rfl⟩ := hem
        exact ⟨none, 0, [], hg, (fun i j hi _ => absurd hi (Nat.not_lt_zero _)), arrOK_nil M w e mu k⟩
    | some old =>
      rw [hr] at hc
      obtain ⟨ob0, ho0, hcov⟩ := hc
      have hom := h.ob old ob0 ho0
      have hg : ∀ g, γ old = some g → renG γ ids ren id = some g := fun g hg => by unfold renG; simp only [hk, hr]; exact hg
      cases hcov with
      | refl_b e mu l' =>
        obtain ⟨a', cap, h1, h2⟩ := hom
        exact ⟨a', cap, hg _ h1, h2⟩
      | larr e mu k' n f f' hf =>
        obtain ⟨a', cap, vs, h1, h2, h3⟩ := hom
        exact ⟨a', cap, vs, hg _ h1, (fun i j hi hj => by rw [← hf i j hi hj]; exact h2 i j hi hj), h3⟩
      | cells cs cs' e1 e2 =>
        obtain ⟨b, vs, e, h1, h2, h3, h4, h5⟩ := hom
        exact ⟨b, vs, e, hg _ h1, h2, by omega, fun j hj => ⟨(e2 j hj).rel (hu j hj) (h4 j (by omega)).1, (h4 j (by omega)).2⟩, h5⟩
  · intro id hi
    have hi' : (lookO id o).isSome = false := hi
    rw [hkeys] at hi'
    unfold renG
    cases hl' : lookO id ids with
    | none => rfl
    | some k => rw [hl'] at hi'; cases hi'
  · intro i j g g' b _ _ hg hg' hb hb'
    rcases hγ i g hg with ⟨old, hr, hgo, hs1⟩ | ⟨k, rfl⟩
    · rcases hγ j g' hg' with ⟨old', hr', hgo', hs2⟩ | ⟨k, rfl⟩
      · -- both are old objects that stand
        have h1 : s.ob old ≠ none := by
          obtain ⟨ob, hob1⟩ := Option.isSome_iff_exists.1 ((hkeys i).trans hs1)
          obtain ⟨_, hc⟩ := hob i ob hob1
          rw [hr] at hc
          obtain ⟨ob0, ho0, _⟩ := hc
          rw [ho0]; simp
        have h2 : s.ob old' ≠ none := by
          obtain ⟨ob, hob1⟩ := Option.isSome_iff_exists.1 ((hkeys j).trans hs2)
          obtain ⟨_, hc⟩ := hob j ob hob1
          rw [hr'] at hc
          obtain ⟨ob0, ho0, _⟩ := hc
          rw [ho0]; simp
        have e := h.sep old old' g g' b h1 h2 hgo hgo' hb hb'
        subst e
        exact hinj i j old hr hr' hs1 hs2
      · cases hb'
    · cases hb
  · intro i g b hoi hg hb
    rcases hγ i g hg with ⟨old, hr, hgo, hs1⟩ | ⟨k, rfl⟩
    · have h1 : s.ob old ≠ none := by
        obtain ⟨ob, hob1⟩ := Option.isSome_iff_exists.1 ((hkeys i).trans hs1)
        obtain ⟨_, hc⟩ := hob i ob hob1
        rw [hr] at hc
        obtain ⟨ob0, ho0, _⟩ := hc
        rw [ho0]; simp
      exact h.lo old g b h1 hgo hb
    · cases hb
end Go.Am
