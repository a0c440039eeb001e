/-
  The abstract machine of these proofs.
-/
import Derived.Test.YtdjlilhdgnogaaaAmDrawR
set_option linter.unusedVariables false
/-! Functions that change memory that is handed to them. -/
namespace Go.Am
open Go Go.RowKit
variable {P : Program} {γ γ' : Nat → Option G} {M M' : Mem} {C : Ctx} {s s' : S} {a a' : Act} {w w' : World}

structure Objs (γ : Nat → Option G) (M : Mem) (w : World) (obF : Nat → Option AObj) (L : Nat → Prop) : Prop where
  ob : ∀ id o, obF id = some o → OM γ M w id o
  sep : ∀ id id' g g' b, obF id ≠ none → obF id' ≠ none → γ id = some g → γ id' = some g' → g.blk = some b → g'.blk = some b → id = id'
  lo : ∀ id g b, obF id ≠ none → γ id = some g → g.blk = some b → L b

theorem Objs_mk {obF : Nat → Option AObj} {L : Nat → Prop} {o : List (Nat × AObj)} (ids : List (Nat × Nat)) (ren : Nat → Option Nat)
    (hids : o.map (·.1) = ids.map (·.1))
    (ho : All (o.map fun p => usesO ids p.2 ∧ match ren p.1 with
      | some old => ∃ ob0, obF old = some ob0 ∧ CovO ren ob0 p.2
      | none => ∀ k, lookO p.1 ids = some k → emptyO k p.2))
    (hinj : ∀ i j old, ren i = some old → ren j = some old → (lookO i ids).isSome = true → (lookO j ids).isSome = true → i = j)
    (h : Objs γ M w obF L) : Objs (renG γ ids ren) M w (fun i => lookO i o) L := by
  have hkeys : ∀ i, (lookO i o).isSome = (lookO i ids).isSome := by
    have : ∀ (o : List (Nat × AObj)) (ids : List (Nat × Nat)), o.map (·.1) = ids.map (·.1) → ∀ i, (lookO i o).isSome = (lookO i ids).isSome := by
      intro o
      induction o with
      | nil => intro ids he i; cases ids with | nil => rfl | cons _ _ => cases he
      | cons p o ih =>
        intro ids he i
        cases ids with
        | nil => cases he
        | cons q ids =>
          simp only [List.map_cons, List.cons.injEq] at he
          unfold lookO
          rw [he.1]
          cases Nat.beq i q.1 with
          | true => rfl
          | false => exact ih ids he.2 i
    exact this o ids hids
  have hob : ∀ i ob, lookO i o = some ob → usesO ids ob ∧ match ren i with
      | some old => ∃ ob0, obF old = some ob0 ∧ CovO ren ob0 ob
      | none => ∀ k, lookO i ids = some k → emptyO k ob := fun i ob hi => AllL ho _ (lookO_mem hi)
  have hγ : ∀ i g, renG γ ids ren i = some g → (∃ old, ren i = some old ∧ γ old = some g ∧ (lookO i ids).isSome = true) ∨ ∃ k, g = .arr none k 0 0 := by
    intro i g hg
    unfold renG at hg
    cases hl' : lookO i ids with
    | none => rw [hl'] at hg; cases hg
    | some k =>
      rw [hl'] at hg
      cases hr : ren i with
      | none => rw [hr] at hg; cases hg; exact .inr ⟨k, rfl⟩
      | some old => rw [hr] at hg; exact .inl ⟨old, rfl, hg, rfl⟩
  refine ⟨?_, ?_, ?_⟩
  · intro id ob hi
    have hi' : lookO id o = some ob := hi
    obtain ⟨hu, hc⟩ := hob id ob hi'
    have hsome : (lookO id ids).isSome = true := by rw [← hkeys, hi']; rfl
    obtain ⟨k, hk⟩ := Option.isSome_iff_exists.1 hsome
    cases hr : ren id with
    | none =>
      rw [hr] at hc
      have hem := hc k hk
      have hg : renG γ ids ren id = some (.arr none k 0 0) := by unfold renG; simp only [hk, hr]
      cases ob with
      | cells cs => exact hem.elim
      | barr e mu l' =>
        obtain ⟨rfl, rfl⟩ := hem
        exact ⟨none, 0, hg, arrOK_nil M w e mu 1⟩
      | larr e mu k' n f =>
        obtain ⟨rfl, rfl⟩ := hem
        exact ⟨none, 0, [], hg, (fun i j hi _ => absurd hi (Nat.not_lt_zero _)), arrOK_nil M w e mu k⟩
    | some old =>
      rw [hr] at hc
      obtain ⟨ob0, ho0, hcov⟩ := hc
      have hom := h.ob old ob0 ho0
      have hg : ∀ g, γ old = some g → renG γ ids ren id = some g := fun g hg => by unfold renG; simp only [hk, hr]; exact hg
      cases hcov with
      | refl_b e mu l' =>
        obtain ⟨a', cap, h1, h2⟩ := hom
        exact ⟨a', cap, hg _ h1, h2⟩
      | larr e mu k' n f f' hf =>
        obtain ⟨a', cap, vs, h1, h2, h3⟩ := hom
        exact ⟨a', cap, vs, hg _ h1, (fun i j hi hj => by rw [← hf i j hi hj]; exact h2 i j hi hj), h3⟩
      | cells cs cs' e1 e2 =>
        obtain ⟨b, vs, e, h1, h2, h3, h4, h5⟩ := hom
        exact ⟨b, vs, e, hg _ h1, h2, by omega, fun j hj => ⟨(e2 j hj).rel (hu j hj) (h4 j (by omega)).1, (h4 j (by omega)).2⟩, h5⟩
  · intro i j g g' b _ _ hg hg' hb hb'
    rcases hγ i g hg with ⟨old, hr, hgo, hs1⟩ | ⟨k, rfl⟩
    · rcases hγ j g' hg' with ⟨old', hr', hgo', hs2⟩ | ⟨k, rfl⟩
      · -- both are old objects that stand
        have h1 : obF old ≠ none := by
          obtain ⟨ob, hob1⟩ := Option.isSome_iff_exists.1 ((hkeys i).trans hs1)
          obtain ⟨_, hc⟩ := hob i ob hob1
          rw [hr] at hc
          obtain ⟨ob0, ho0, _⟩ := hc
          rw [ho0]; simp
        have h2 : obF old' ≠ none := by
          obtain ⟨ob, hob1⟩ := Option.isSome_iff_exists.1 ((hkeys j).trans hs2)
          obtain ⟨_, hc⟩ := hob j ob hob1
          rw [hr'] at hc
          obtain ⟨ob0, ho0, _⟩ := hc
          rw [ho0]; simp
        have e := h.sep old old' g g' b h1 h2 hgo hgo' hb hb'
        subst e
        exact hinj i j old hr hr' hs1 hs2
      · cases hb'
    · cases hb
  · intro i g b hoi hg hb
    rcases hγ i g hg with ⟨old, hr, hgo, hs1⟩ | ⟨k, rfl⟩
    · have h1 : obF old ≠ none := by
        obtain ⟨ob, hob1⟩ := Option.isSome_iff_exists.1 ((hkeys i).trans hs1)
        obtain ⟨_, hc⟩ := hob i ob hob1
        rw [hr] at hc
        obtain ⟨ob0, ho0, _⟩ := hc
        rw [ho0]; simp
      exact h.lo old g b h1 hgo hb
    · cases hb

def viewO (obF : Nat → Option AObj) (rn : Rn) : List (Option AObj) := rn.map fun p => match p.2 with | some old => obF old | none => none

theorem Objs_view {obF : Nat → Option AObj} {L : Nat → Prop} (rn : Rn) {o : List (Nat × AObj)} (hk : o.map (·.1) = rn.map (·.1)) (ho : viewO obF rn = wantsO rn rn o) (hok : okB [] rn [] o = true) (hO : Objs γ M w obF L) :
    Objs (renG γ (idsOf o) (renF rn)) M w (fun i => lookO i o) L := by
  unfold okB at hok
  simp only [Bool.and_eq_true] at hok
  obtain ⟨_, ⟨⟨⟨_, h2⟩, h3⟩, h4⟩, h5⟩ := hok
  have hids : o.map (·.1) = (idsOf o).map (·.1) := by simp [idsOf]
  have hkk : ∀ i, (lookO i (idsOf o)).isSome = (lookO i rn).isSome := fun i => by rw [← lookO_keys hids i]; exact lookO_keys hk i
  refine Objs_mk (idsOf o) (renF rn) hids ?_ (fun i j old hi hj _ _ => nodup_inj h3 i j old hi hj) hO
  have h4' : nodupB ((idsOf o).map (·.1)) = true := by rw [← hids, hk]; exact h4
  have key : ∀ (o' : List (Nat × AObj)) (rn' : Rn), o'.map (·.1) = rn'.map (·.1) → viewO obF rn' = wantsO rn rn' o' → o'.all (fun p => usesOB rn p.2) = true → emptiesB rn' o' = true →
      (∀ x ∈ rn', x ∈ rn) → (∀ x ∈ o', x ∈ o) →
      All (o'.map fun p => usesO (idsOf o) p.2 ∧ match renF rn p.1 with
        | some old => ∃ ob0, obF old = some ob0 ∧ CovO (renF rn) ob0 p.2
        | none => ∀ k, lookO p.1 (idsOf o) = some k → emptyO k p.2) := by
    intro o'
    induction o' with
    | nil => intro rn' _ _ _ _ _ _; exact trivial
    | cons p o' ih =>
      intro rn' hk ho h2 h5 hin hio
      cases rn' with
      | nil => cases hk
      | cons q rn' =>
        simp only [List.map_cons, List.cons.injEq, wantsO, viewO] at hk ho
        simp only [List.all_cons, Bool.and_eq_true] at h2
        simp only [emptiesB, Bool.and_eq_true] at h5
        refine ⟨?_, ih rn' hk.2 ho.2 h2.2 h5.2 (fun x hx => hin x (by simp [hx])) (fun x hx => hio x (by simp [hx]))⟩
        obtain ⟨qi, qo⟩ := q
        obtain ⟨pi, po⟩ := p
        have hpi : pi = qi := hk.1
        subst hpi
        have hq : lookO pi rn = some qo := lookO_of_mem h4 (hin (pi, qo) (by simp))
        have hu := h2.1
        dsimp only at hu ho h5 ⊢
        cases qo with
        | none =>
          have hr : renF rn pi = none := by unfold renF; rw [hq]
          rw [hr]
          refine ⟨by cases po with | cells cs => cases h5.1 | _ => exact trivial, fun k hk' => ?_⟩
          have : lookO pi (idsOf o) = some (kOf po) := lookO_of_mem h4' (List.mem_map.2 ⟨(pi, po), hio _ (by simp), rfl⟩)
          rw [this] at hk'; cases hk'
          exact emptyB_spec h5.1
        | some old =>
          have hr : renF rn pi = some old := by unfold renF; rw [hq]
          rw [hr]
          have ho1 : obF old = some (renO rn po) := ho.1
          cases po with
          | barr e mu l' => exact ⟨trivial, _, ho1, .refl_b _ _ _⟩
          | larr e mu k n f => exact ⟨trivial, _, ho1, .larr _ _ _ _ _ _ fun _ _ _ _ => rfl⟩
          | cells cs =>
            have hu : cs.all (usesB rn) = true := hu
            refine ⟨fun i hi => (covB hkk (all_get hu hi .any)).2, _, ho1, .cells _ _ (by simp) fun i hi => ?_⟩
            rw [map_getD (renA rn) rfl]
            exact (covB hkk (all_get hu hi .any)).1
  exact key o rn hk ho h2 h5 (fun x hx => hx) (fun x hx => hx)

end Go.Am
