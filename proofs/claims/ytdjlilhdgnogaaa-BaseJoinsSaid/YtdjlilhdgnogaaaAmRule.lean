/-
  The abstract machine of these proofs.
-/
import Derived.Test.YtdjlilhdgnogaaaAmLift
set_option linter.unusedVariables false
/-! The rules that a lifted function's proof is made of. -/
namespace Go.Am
open Go Go.RowKit
variable {P : Program} {γ γ' : Nat → Option G} {M M' : Mem} {C : Ctx} {s s' : S} {a a' : Act} {w w' : World}

abbrev Rn := List (Nat × Option Nat)

def renF (rn : Rn) : Nat → Option Nat := fun id => match lookO id rn with | some (some old) => some old | _ => none

def uses1 (rn : Rn) : AV → Bool
  | .any => true
  | .p _ => true
  | .ref id _ => (renF rn id).isSome
  | .arr id => (lookO id rn).isSome
  | _ => false
def usesB (rn : Rn) : AV → Bool
  | .clo _ fs cs => fs.all (uses1 rn) && cs.all (uses1 rn)
  | .agg cs => cs.all (uses1 rn)
  | .tup cs => cs.all (uses1 rn)
  | x => uses1 rn x
def ren1 (rn : Rn) : AV → AV
  | .ref id off => match renF rn id with | some old => .ref old off | none => .any
  | .arr id => match renF rn id with | some old => .arr old | none => .p .nil
  | x => x
def renA (rn : Rn) : AV → AV
  | .clo fn fs cs => .clo fn (fs.map (ren1 rn)) (cs.map (ren1 rn))
  | .agg cs => .agg (cs.map (ren1 rn))
  | .tup cs => .tup (cs.map (ren1 rn))
  | x => ren1 rn x
def renO (rn : Rn) : AObj → AObj
  | .cells cs => .cells (cs.map (renA rn))
  | o => o
def usesOB (rn : Rn) : AObj → Bool
  | .cells cs => cs.all (usesB rn)
  | _ => true

def kOf : AObj → Nat
  | .barr _ _ _ => 1
  | .larr _ _ k _ _ => k
  | .cells _ => 0

def idsOf (o : List (Nat × AObj)) : List (Nat × Nat) := o.map fun p => (p.1, kOf p.2)

theorem lookO_keys {α β : Type} : ∀ {o : List (Nat × α)} {r : List (Nat × β)}, o.map (·.1) = r.map (·.1) → ∀ i, (lookO i o).isSome = (lookO i r).isSome := by
  intro o
  induction o with
  | nil => intro r he i; cases r with | nil => rfl | cons _ _ => cases he
  | cons p o ih =>
    intro r he i
    cases r with
    | nil => cases he
    | cons q r =>
      simp only [List.map_cons, List.cons.injEq] at he
      unfold lookO
      rw [he.1]
      cases Nat.beq i q.1 with
      | true => rfl
      | false => exact ih he.2 i

theorem renF_some {rn : Rn} {id : Nat} (h : (renF rn id).isSome = true) : (lookO id rn).isSome = true := by
  unfold renF at h
  cases hl : lookO id rn with
  | none => rw [hl] at h; cases h
  | some _ => rfl

section
variable {rn : Rn} {ids : List (Nat × Nat)} (hk : ∀ i, (lookO i ids).isSome = (lookO i rn).isSome)
include hk

theorem cov1 {x : AV} (h : uses1 rn x = true) : CovA (renF rn) (ren1 rn x) x ∧ Uses ids x := by
  cases x with
  | any => exact ⟨.any _, .any⟩
  | p q => exact ⟨.p q, .p q⟩
  | ref id off =>
    have h' : (renF rn id).isSome = true := h
    obtain ⟨old, ho⟩ := Option.isSome_iff_exists.1 h'
    refine ⟨?_, .ref _ _ (by rw [hk]; exact renF_some h')⟩
    simp only [ren1, ho]
    exact .ref id old off ho
  | arr id =>
    refine ⟨?_, .arr _ (by rw [hk]; exact h)⟩
    cases ho : renF rn id with
    | none => simp only [ren1, ho]; exact .nil id ho
    | some old => simp only [ren1, ho]; exact .arr id old ho
  | _ => cases h
end

theorem all_get {α : Type} {f : α → Bool} {l : List α} (h : l.all f = true) {i : Nat} (hi : i < l.length) (d : α) : f (l.getD i d) = true := by
  rw [List.getD_eq_getElem?_getD, List.getElem?_eq_getElem hi]
  exact (List.all_eq_true.1 h) _ (List.getElem_mem hi)
theorem map_getD (f : AV → AV) (hf : f .any = .any) (l : List AV) (i : Nat) : (l.map f).getD i .any = f (l.getD i .any) := by
  rw [List.getD_eq_getElem?_getD, List.getD_eq_getElem?_getD, List.getElem?_map]
  cases l[i]? with
  | none => exact hf.symm
  | some x => rfl

theorem covB {rn : Rn} {ids : List (Nat × Nat)} (hk : ∀ i, (lookO i ids).isSome = (lookO i rn).isSome) {x : AV} (h : usesB rn x = true) : CovA (renF rn) (renA rn x) x ∧ Uses ids x := by
  have lists : ∀ cs : List AV, cs.all (uses1 rn) = true → (∀ i, i < cs.length → CovA (renF rn) ((cs.map (ren1 rn)).getD i .any) (cs.getD i .any)) ∧ ∀ i, i < cs.length → Uses ids (cs.getD i .any) := by
    intro cs hc
    refine ⟨fun i hi => ?_, fun i hi => (cov1 hk (all_get hc hi .any)).2⟩
    rw [map_getD (ren1 rn) rfl]
    exact (cov1 hk (all_get hc hi .any)).1
  cases x with
  | clo fn fs cs =>
    simp only [usesB, Bool.and_eq_true] at h
    obtain ⟨h1, h2⟩ := lists fs h.1
    obtain ⟨h3, h4⟩ := lists cs h.2
    exact ⟨.clo _ _ _ _ _ (by simp) (by simp) h1 h3, .clo _ _ _ h2 h4⟩
  | agg cs =>
    obtain ⟨h1, h2⟩ := lists cs h
    exact ⟨.agg _ _ (by simp) h1, .agg _ h2⟩
  | tup cs =>
    obtain ⟨h1, h2⟩ := lists cs h
    exact ⟨.tup _ _ (by simp) h1, .tup _ h2⟩
  | any => exact cov1 hk (x := .any) h
  | p q => exact cov1 hk (x := .p q) h
  | ref id off => exact cov1 hk (x := .ref id off) h
  | arr id => exact cov1 hk (x := .arr id) h
  | aptr _ _ _ => cases h
  | gd _ _ => cases h

def nodupB : List Nat → Bool
  | [] => true
  | x :: r => !(r.any (Nat.beq x)) && nodupB r

def olds : Rn → List Nat
  | [] => []
  | p :: r => match p.2 with | some old => old :: olds r | none => olds r

theorem lookO_of_mem {α : Type} : ∀ {rn : List (Nat × α)}, nodupB (rn.map (·.1)) = true → ∀ {i : Nat} {old : α}, (i, old) ∈ rn → lookO i rn = some old := by
  intro rn
  induction rn with
  | nil => intro _ i old h; cases h
  | cons p r ih =>
    intro h i old hi
    simp only [List.map_cons, nodupB, Bool.and_eq_true, Bool.not_eq_true'] at h
    unfold lookO
    rcases List.mem_cons.1 hi with e | e
    · rw [← e]; simp
    · cases hb : Nat.beq i p.1 with
      | true =>
        have hm : (r.map (·.1)).any (Nat.beq p.1) = true := List.any_eq_true.2 ⟨i, List.mem_map.2 ⟨_, e, rfl⟩, by rw [Nat.eq_of_beq_eq_true hb]; simp⟩
        rw [hm] at h; cases h.1
      | false => exact ih h.2 e

theorem olds_mem : ∀ {rn : Rn} {i old : Nat}, (i, some old) ∈ rn → old ∈ olds rn := by
  intro rn
  induction rn with
  | nil => intro i old h; cases h
  | cons p r ih =>
    intro i old h
    obtain ⟨pi, po⟩ := p
    rcases List.mem_cons.1 h with e | e
    · cases e; simp [olds]
    · cases po with
      | none => exact ih e
      | some q => simp only [olds]; exact List.mem_cons_of_mem _ (ih e)

theorem nodup_inj : ∀ {rn : Rn}, nodupB (olds rn) = true → ∀ i j old, renF rn i = some old → renF rn j = some old → i = j := by
  have memF : ∀ {rn : Rn} {i old : Nat}, renF rn i = some old → (i, some old) ∈ rn := by
    intro rn i old h
    unfold renF at h
    split at h
    · rename_i q hq; cases h; exact lookO_mem hq
    · cases h
  intro rn h i j old hi hj
  have h1 := memF hi
  have h2 := memF hj
  clear hi hj
  induction rn with
  | nil => cases h1
  | cons p r ih =>
    obtain ⟨pi, po⟩ := p
    cases po with
    | none =>
      rcases List.mem_cons.1 h1 with e | e
      · cases e
      · rcases List.mem_cons.1 h2 with e2 | e2
        · cases e2
        · exact ih h e e2
    | some q =>
      simp only [olds, nodupB, Bool.and_eq_true, Bool.not_eq_true'] at h
      have hno : ∀ k, (k, some q) ∉ r := fun k hk => by
        have : (olds r).any (Nat.beq q) = true := List.any_eq_true.2 ⟨q, olds_mem hk, by simp⟩
        rw [this] at h; cases h.1
      rcases List.mem_cons.1 h1 with e | e
      · cases e
        rcases List.mem_cons.1 h2 with e2 | e2
        · cases e2; rfl
        · exact absurd e2 (hno j)
      · rcases List.mem_cons.1 h2 with e2 | e2
        · cases e2; exact absurd e (hno i)
        · exact ih h.2 e e2

def obAt (s : S) : Option Nat → Option AObj
  | some old => s.ob old
  | none => none
def emptyB : AObj → Bool
  | .barr _ _ [] => true
  | .larr _ _ _ 0 _ => true
  | _ => false
theorem emptyB_spec {o : AObj} (h : emptyB o = true) : emptyO (kOf o) o := by
  unfold emptyB at h
  split at h
  · exact ⟨rfl, rfl⟩
  · exact ⟨rfl, rfl⟩
  · cases h

/-- What of a state is kept, and by which names: its slots, its objects. -/
def view (rn : Rn) (l : List (Nat × AV)) (s : S) : List AV × List (Option AObj) :=
  (l.map fun p => s.sl p.1, rn.map fun p => obAt s p.2)

def wantO (rn : Rn) : Option Nat → AObj → Option AObj
  | some _, o => some (renO rn o)
  | none, _ => none
def wantsO (rn : Rn) : Rn → List (Nat × AObj) → List (Option AObj)
  | p :: r, q :: o => wantO rn p.2 q.2 :: wantsO rn r o
  | _, _ => []
def wants (rn : Rn) (l : List (Nat × AV)) (o : List (Nat × AObj)) : List AV × List (Option AObj) :=
  (l.map fun p => renA rn p.2, wantsO rn rn o)

def emptiesB : Rn → List (Nat × AObj) → Bool
  | p :: r, q :: o => (match p.2 with | some _ => true | none => emptyB q.2) && emptiesB r o
  | _, _ => true

def fixB (fx : List Nat) (rn : Rn) : Bool := fx.all fun i => match renF rn i with | some j => Nat.beq i j | none => false

structure CtxOk (C : Ctx) (nt : Nat) (fx : List Nat) : Prop where
  nt : C.nt = nt
  fx : ∀ i g, C.g0 i = some g → i ∈ fx

def okB (fx : List Nat) (rn : Rn) (l : List (Nat × AV)) (o : List (Nat × AObj)) : Bool :=
  fixB fx rn && (  l.all (fun p => usesB rn p.2) && o.all (fun p => usesOB rn p.2) && nodupB (olds rn) && nodupB (rn.map (·.1)) && emptiesB rn o)

theorem Sub_view {nt : Nat} {fx : List Nat} (hC : CtxOk C nt fx) (rn : Rn) {l : List (Nat × AV)} {o : List (Nat × AObj)} (hk : o.map (·.1) = rn.map (·.1)) (h : view rn l s = wants rn l o) (hok : okB fx rn l o = true) : Sub C s (mkS l o) := by
  unfold okB at hok
  simp only [Bool.and_eq_true] at hok
  obtain ⟨hfix, ⟨⟨⟨h1, h2⟩, h3⟩, h4⟩, h5⟩ := hok
  have hl : l.map (fun p => s.sl p.1) = l.map fun p => renA rn p.2 := congrArg (·.1) h
  have ho : rn.map (fun p => obAt s p.2) = wantsO rn rn o := congrArg (·.2) h
  have hids : o.map (·.1) = (idsOf o).map (·.1) := by simp [idsOf]
  have hkk : ∀ i, (lookO i (idsOf o)).isSome = (lookO i rn).isSome := fun i => by rw [← lookO_keys hids i]; exact lookO_keys hk i
  refine Sub_mk (idsOf o) (renF rn) hids ?_ ?_ (fun i g hg => ?_) ?_
  · clear h ho hk h2 h3 h4 h5 hids
    generalize idsOf o = ids at hkk
    induction l with
    | nil => exact trivial
    | cons p l ih =>
      simp only [List.map_cons, List.cons.injEq] at hl
      simp only [List.all_cons, Bool.and_eq_true] at h1
      refine ⟨?_, ih h1.2 hl.2⟩
      obtain ⟨c1, c2⟩ := covB hkk h1.1
      rw [hl.1]; exact ⟨c1, c2⟩
  · have h4' : nodupB ((idsOf o).map (·.1)) = true := by rw [← hids, hk]; exact h4
    have key : ∀ (o' : List (Nat × AObj)) (rn' : Rn), o'.map (·.1) = rn'.map (·.1) → rn'.map (fun p => obAt s p.2) = wantsO rn rn' o' → o'.all (fun p => usesOB rn p.2) = true → emptiesB rn' o' = true →
        (∀ x ∈ rn', x ∈ rn) → (∀ x ∈ o', x ∈ o) →
        All (o'.map fun p => usesO (idsOf o) p.2 ∧ match renF rn p.1 with
          | some old => ∃ ob, s.ob old = some ob ∧ CovO (renF rn) ob p.2
          | none => ∀ k, lookO p.1 (idsOf o) = some k → emptyO k p.2) := by
      intro o'
      induction o' with
      | nil => intro rn' _ _ _ _ _ _; exact trivial
      | cons p o' ih =>
        intro rn' hk ho h2 h5 hin hio
        cases rn' with
        | nil => cases hk
        | cons q rn' =>
          simp only [List.map_cons, List.cons.injEq, wantsO] at hk ho
          simp only [List.all_cons, Bool.and_eq_true] at h2
          simp only [emptiesB, Bool.and_eq_true] at h5
          refine ⟨?_, ih rn' hk.2 ho.2 h2.2 h5.2 (fun x hx => hin x (by simp [hx])) (fun x hx => hio x (by simp [hx]))⟩
          obtain ⟨qi, qo⟩ := q
          obtain ⟨pi, po⟩ := p
          have hpi : pi = qi := hk.1
          subst hpi
          have hq : lookO pi rn = some qo := lookO_of_mem h4 (hin (pi, qo) (by simp))
          have hu := h2.1
          dsimp only at hu ho h5 ⊢
          cases qo with
          | none =>
            have hr : renF rn pi = none := by unfold renF; rw [hq]
            rw [hr]
            refine ⟨by cases po with | cells cs => cases h5.1 | _ => exact trivial, fun k hk' => ?_⟩
            have : lookO pi (idsOf o) = some (kOf po) := lookO_of_mem h4' (List.mem_map.2 ⟨(pi, po), hio _ (by simp), rfl⟩)
            rw [this] at hk'; cases hk'
            exact emptyB_spec h5.1
          | some old =>
            have hr : renF rn pi = some old := by unfold renF; rw [hq]
            rw [hr]
            have ho1 : s.ob old = some (renO rn po) := ho.1
            cases po with
            | barr e mu l' => exact ⟨trivial, _, ho1, .refl_b _ _ _⟩
            | larr e mu k n f => exact ⟨trivial, _, ho1, .larr _ _ _ _ _ _ fun _ _ _ _ => rfl⟩
            | cells cs =>
              have hu : cs.all (usesB rn) = true := hu
              refine ⟨fun i hi => (covB hkk (all_get hu hi .any)).2, _, ho1, .cells _ _ (by simp) fun i hi => ?_⟩
              rw [map_getD (renA rn) rfl]
              exact (covB hkk (all_get hu hi .any)).1
    exact key o rn hk ho h2 h5 (fun x hx => hx) (fun x hx => hx)
  · have h1 := (List.all_eq_true.1 hfix) i (hC.fx i g hg)
    cases hr : renF rn i with
    | none => rw [hr] at h1; cases h1
    | some j =>
      rw [hr] at h1
      have : i = j := Nat.eq_of_beq_eq_true h1
      subst this
      exact ⟨rfl, by rw [hkk]; exact renF_some (by rw [hr]; rfl)⟩
  · intro i j old hi hj _ _
    exact nodup_inj h3 i j old hi hj

def region? : Code → Option (Nat × Array Oper × Bool)
  | .region id ops d => some (id, ops, d)
  | _ => none
theorem region?_spec {c : Code} {r : Nat × Array Oper × Bool} (h : region? c = some r) : c = .region r.1 r.2.1 r.2.2 := by
  cases c with
  | region id ops d => cases h; rfl
  | _ => cases h

/-- A region, run as the text goes; what is kept of the state behind it. -/
def arun (P : Program) (env : Env) (nt : Nat) (c : Code) (s : S) (rn : Rn) (l : List (Nat × AV)) : Option (Bool × List AV × List (Option AObj) × List Prop) :=
  match region? c with
  | some (_, ops, d) => match aops P env nt ops (List.range ops.size) s with
    | some (s', ps) => some (d, (view rn l s').1, (view rn l s').2, ps)
    | none => none
  | none => none

theorem T_reg {env : Env} (henv : EnvOk P env) {nt : Nat} {fx : List Nat} (hC : CtxOk C nt fx) {c : Code} {Q : Exit → S → Prop} (rn : Rn) (l : List (Nat × AV)) (o : List (Nat × AObj)) (ps : List Prop)
    (h : arun P env nt c s rn l = some (false, (wants rn l o).1, (wants rn l o).2, ps)) (hk : (o.map (·.1), okB fx rn l o) = (rn.map (·.1), true)) (hp : All ps) (hq : ∀ s', Sub C s' (mkS l o) → Q .normal s') :
    T P C c s Q := by
  have hnt := hC.nt
  subst hnt
  unfold arun at h
  cases hr : region? c with
  | none => rw [hr] at h; cases h
  | some r =>
    obtain ⟨id, ops, d⟩ := r
    rw [hr] at h
    dsimp only at h
    cases ha : aops P env C.nt ops (List.range ops.size) s with
    | none => rw [ha] at h; cases h
    | some q =>
      obtain ⟨s', ps'⟩ := q
      rw [ha] at h
      simp only [Option.some.injEq, Prod.mk.injEq] at h
      obtain ⟨rfl, h1, h2, rfl⟩ := h
      have hc := region?_spec hr
      rw [hc]
      have hv : view rn l s' = wants rn l o := Prod.ext h1 h2
      simp only [Prod.mk.injEq] at hk
      exact T_region henv ha hp (hq s' (Sub_view hC rn hk.1 hv hk.2))

/-- The next statement stands behind what is kept. -/
theorem T_at {c : Code} {l : List (Nat × AV)} {o : List (Nat × AObj)} {Q : Exit → S → Prop} (h : T P C c (mkS l o) Q) : ∀ s', Sub C s' (mkS l o) → T P C c s' Q :=
  fun _ hs => h.weaken hs

def isSeq : Code → Bool | .seq _ _ => true | _ => false
def isCond : Code → Bool | .cond _ _ _ => true | _ => false
def blockId : Code → Option Nat | .block id _ => some id | _ => none
def isLoop : Code → Bool | .loop _ => true | _ => false
def isSkip : Code → Bool | .skip => true | _ => false
def isRet : Code → Bool | .ret => true | _ => false
def exitId : Code → Option Nat | .exit id => some id | _ => none

theorem at_append : ∀ (p q : List Nat) (c : Code), at_ (at_ c p) q = at_ c (p ++ q)
  | [], q, c => by cases c <;> rfl
  | i :: p, q, c => by
    cases c <;> first
      | (simp only [List.cons_append, at_]; split <;> exact at_append p q _)
      | (simp only [List.cons_append, at_]; exact at_append p q _)
      | (simp only [List.cons_append, at_]; cases q <;> rfl)

theorem at_nil (c : Code) : at_ c [] = c := by cases c <;> rfl
theorem at_seq0 (x y : Code) : at_ (.seq x y) [0] = x := at_nil x
theorem at_seq1 (x y : Code) : at_ (.seq x y) [1] = y := at_nil y
theorem at_cond0 (c : Operand) (x y : Code) : at_ (.cond c x y) [0] = x := at_nil x
theorem at_cond1 (c : Operand) (x y : Code) : at_ (.cond c x y) [1] = y := at_nil y
theorem at_block0 (i : Nat) (x : Code) : at_ (.block i x) [0] = x := at_nil x
theorem at_loop0 (x : Code) : at_ (.loop x) [0] = x := at_nil x

theorem T_seqp {c : Code} {p : List Nat} {Q : Exit → S → Prop} (e : isSeq (at_ c p) = true)
    (h : T P C (at_ c (p ++ [0])) s (Then (fun s' => T P C (at_ c (p ++ [1])) s' Q) Q)) : T P C (at_ c p) s Q := by
  rw [← at_append, ← at_append] at h
  cases hc : at_ c p with
  | seq x y => rw [hc, at_seq0, at_seq1] at h; exact T_seq h
  | _ => rw [hc] at e; cases e

theorem T_condp {c : Code} {p : List Nat} {Q : Exit → S → Prop} (e : isCond (at_ c p) = true) (b : Bool) (hc : aev s.sl (condOf (at_ c p)) = .p (.bool b))
    (h1 : b = true → T P C (at_ c (p ++ [0])) s Q) (h2 : b = false → T P C (at_ c (p ++ [1])) s Q) : T P C (at_ c p) s Q := by
  rw [← at_append] at h1 h2
  cases hc' : at_ c p with
  | cond x y z => rw [hc'] at h1 h2 hc; rw [at_cond0] at h1; rw [at_cond1] at h2; exact T_cond hc h1 h2
  | _ => rw [hc'] at e; cases e

theorem T_blockp {c : Code} {p : List Nat} {Q : Exit → S → Prop} (id : Nat) (e : blockId (at_ c p) = some id) (h : T P C (at_ c (p ++ [0])) s (InBlock id Q)) : T P C (at_ c p) s Q := by
  rw [← at_append] at h
  cases hc : at_ c p with
  | block i x => rw [hc] at e h; cases e; rw [at_block0] at h; exact T_block h
  | _ => rw [hc] at e; cases e

theorem T_loopp {c : Code} {p : List Nat} {Q : Exit → S → Prop} (e : isLoop (at_ c p) = true) (R : Nat → S → Prop)
    (round : ∀ n s, R n s → T P C (at_ c (p ++ [0])) s (Then (fun s' => ∃ m s2, m < n ∧ R m s2 ∧ Sub C s' s2) Q)) (n : Nat) (h : R n s) : T P C (at_ c p) s Q := by
  rw [← at_append] at round
  cases hc : at_ c p with
  | loop x => rw [hc, at_loop0] at round; exact T_loop R round n h
  | _ => rw [hc] at e; cases e

theorem T_skipp {c : Code} {p : List Nat} {Q : Exit → S → Prop} (e : isSkip (at_ c p) = true) (h : Q .normal s) : T P C (at_ c p) s Q := by
  cases hc : at_ c p with
  | skip => exact T_skip h
  | _ => rw [hc] at e; cases e
theorem T_retp {c : Code} {p : List Nat} {Q : Exit → S → Prop} (e : isRet (at_ c p) = true) (h : Q .ret s) : T P C (at_ c p) s Q := by
  cases hc : at_ c p with
  | ret => exact T_ret h
  | _ => rw [hc] at e; cases e
theorem T_exitp {c : Code} {p : List Nat} {Q : Exit → S → Prop} (id : Nat) (e : exitId (at_ c p) = some id) (h : Q (.exit id) s) : T P C (at_ c p) s Q := by
  cases hc : at_ c p with
  | exit i => rw [hc] at e; cases e; exact T_exit h
  | _ => rw [hc] at e; cases e

theorem Sub.refl (s : S) : Sub C s s := fun _ _ h => h
theorem Sub.trans {x y z : S} (h : Sub C x y) (k : Sub C y z) : Sub C x z := fun a w hs => k a w (h a w hs)

/-- The ways through a piece of code meet again: 'I' is what holds there. -/
theorem T_join {c : Code} {p : List Nat} {Q : Exit → S → Prop} (e : isSeq (at_ c p) = true) (I : S → Prop)
    (h1 : T P C (at_ c (p ++ [0])) s (Then I Q)) (h2 : ∀ s', I s' → T P C (at_ c (p ++ [1])) s' Q) : T P C (at_ c p) s Q :=
  T_seqp e (h1.conseq fun e s' hq => by cases e <;> first | exact h2 s' hq | exact hq)

theorem inblock_hit {id : Nat} {Q : Exit → S → Prop} (h : Q .normal s) : InBlock id Q (.exit id) s := by simp only [InBlock, if_true]; exact h
theorem inblock_miss {id id' : Nat} {Q : Exit → S → Prop} (hne : id' ≠ id) (h : Q (.exit id') s) : InBlock id Q (.exit id') s := by simp only [InBlock, hne, if_false]; exact h

theorem then_exit {id : Nat} {K : S → Prop} {Q : Exit → S → Prop} (h : Q (.exit id) s) : Then K Q (.exit id) s := h
theorem then_ret {K : S → Prop} {Q : Exit → S → Prop} (h : Q .ret s) : Then K Q .ret s := h
theorem inblock_ret {id : Nat} {Q : Exit → S → Prop} (h : Q .ret s) : InBlock id Q .ret s := h

/-- What must hold when a lifted function's body ends. -/
def Qend (P : Program) (C : Ctx) (rs : List ResultVar) (r : AV) : Exit → S → Prop
  | .normal, s => ∃ s2, Sub C s s2 ∧ aresults P s2 rs = some r
  | .ret, s => ∃ s2, Sub C s s2 ∧ aresults P s2 rs = some r
  | _, _ => False

def bodyOf (fn : Func) : Code := fn.body.getD .skip

theorem FnP_lift {f : FuncId} {fn : Func} {args : List AV} {r : AV} (hf : P.funcs[f]? = some fn) (hb : (fn.body.isSome, Nat.ble args.length fn.ntmps) = (true, true))
    (h : ∀ (M : Mem) (vs : List Value), ARels γ0 M args vs → ∀ C : Ctx, CtxOk C fn.ntmps [] → T P C (at_ (bodyOf fn) []) (sinit args) (Qend P C fn.results.toList r)) : FnP P f args r := by
  intro M w vs hM hvs
  simp only [Prod.mk.injEq] at hb
  obtain ⟨c, hc⟩ := Option.isSome_iff_exists.1 hb.1
  have hcb : bodyOf fn = c := by unfold bodyOf; rw [hc]; rfl
  refine FnP_intro hf hc (Nat.le_of_ble_eq_true hb.2) (fun C hC hg => ?_) M w vs hM hvs
  have := h M vs hvs C ⟨hC, fun i g hi => by rw [hg] at hi; cases hi⟩
  rw [at_nil, hcb] at this
  intro a w hs
  refine wp_mono (this a w hs) fun e a' w' ⟨s', hq, hs'⟩ => ?_
  cases e with
  | normal => obtain ⟨s2, hsub, hr⟩ := hq; exact ⟨s2, hr, hsub a' w' hs'⟩
  | ret => obtain ⟨s2, hsub, hr⟩ := hq; exact ⟨s2, hr, hsub a' w' hs'⟩
  | _ => exact hq.elim

def mkEnv (l : List (Nat × (List AV → Option (AV × Option Prop)))) : Env := fun f zs =>
  match lookO f l with
  | some g => g zs
  | none => none

def SpecOk (P : Program) (f : FuncId) (g : List AV → Option (AV × Option Prop)) : Prop := ∀ zs r ok, g zs = some (r, ok) → okP ok → callable P f = true ∧ FnP P f zs r

def SpecAny (P : Program) (f : FuncId) (g : List AV → Option (AV × Option Prop)) : Prop := ∀ zs r ok, g zs = some (r, ok) → okP ok → CallP P f zs r
theorem SpecOk.any {f : FuncId} {g : List AV → Option (AV × Option Prop)} (h : SpecOk P f g) : SpecAny P f g := fun zs r ok he hok => .inl (h zs r ok he hok)
def SpecExt (P : Program) (f : FuncId) (g : List AV → Option (AV × Option Prop)) : Prop := ∀ zs r ok, g zs = some (r, ok) → okP ok → ExtP P f zs r
theorem SpecExt.any {f : FuncId} {g : List AV → Option (AV × Option Prop)} (h : SpecExt P f g) : SpecAny P f g := fun zs r ok he hok => .inr (h zs r ok he hok)

theorem EnvOk_mk {l : List (Nat × (List AV → Option (AV × Option Prop)))} (h : All (l.map fun p => SpecAny P p.1 p.2)) : EnvOk P (mkEnv l) := by
  intro f zs r ok he hok
  unfold mkEnv at he
  cases hl : lookO f l with
  | none => rw [hl] at he; cases he
  | some g => rw [hl] at he; exact AllL h _ (lookO_mem hl) zs r ok he hok

/-- A function's first state, written out. -/
theorem sinit_sub {nt : Nat} (hC : CtxOk C nt []) {args : List AV} {l : List (Nat × AV)} (h : view [] l (sinit args) = wants [] l []) (hok : okB [] [] l [] = true) : Sub C (sinit args) (mkS l []) :=
  Sub_view hC [] rfl h hok

theorem ite_get {p : Prop} [Decidable p] {α : Type} {x : Option α} {r : α} (h : (if p then x else none) = some r) : p ∧ x = some r := by
  by_cases hp : p
  · rw [if_pos hp] at h; exact ⟨hp, h⟩
  · rw [if_neg hp] at h; cases h
theorem ite_t {b : Bool} {α : Type} {x y : α} {r : α} (h : (if b = true then x else y) = r) (hb : b = true) : x = r := by rw [if_pos hb] at h; exact h
theorem ite_f {b : Bool} {α : Type} {x y : α} {r : α} (h : (if b = true then x else y) = r) (hb : b = false) : y = r := by rw [if_neg (by simp [hb])] at h; exact h
end Go.Am
