/-
  The abstract machine of these proofs.
-/
import Derived.Test.YtdjlilhdgnogaaaAmCall
set_option linter.unusedVariables false
/-! The contract of a function that changes memory that is handed to it; its call. -/
namespace Go.Am
open Go Go.RowKit
variable {P : Program} {γ γ' : Nat → Option G} {M M' : Mem} {C : Ctx} {s s' : S} {a a' : Act} {w w' : World}

def Handed (γ : Nat → Option G) (ib : List (Nat × AObj)) (b : Nat) : Prop := ∃ id g, lookO id ib ≠ none ∧ γ id = some g ∧ g.blk = some b

/-- THE CONTRACT. -/
def FnR (P : Program) (f : FuncId) (args : List AV) (ib : List (Nat × AObj)) (kept : List Nat) (r : AV) (outs : List (Nat × AObj)) : Prop :=
  ∀ (γ : Nat → Option G) (M : Mem) (w : World) (vs : List Value), Objs γ M w (fun i => lookO i ib) (fun b => b < w.heap.size) → (∀ i, lookO i ib = none → γ i = none) → MOk M w → ARels γ M args vs →
    Calls P f vs.toArray w fun e w' => ∃ v γ' M', e = .returned v ∧ (∀ i ∈ kept, ∀ g, γ i = some g → γ' i = some g) ∧ MLe M M' ∧ MOk M' w' ∧ ARel γ' M' r v ∧
      Objs γ' M' w' (fun i => lookO i outs) (fun b => (w.heap.size ≤ b ∨ Handed γ ib b) ∧ b < w'.heap.size) ∧
      (∀ b, b < w.heap.size → ¬ Handed γ ib b → w'.heap[b]? = w.heap[b]? ∧ M' b = M b) ∧ w.heap.size ≤ w'.heap.size ∧ w'.os = w.os ∧ w'.tape = w.tape ∧ w'.output = w.output

def prsRn (ps : List (Nat × Nat)) : Rn := ps.map fun p => (p.1, some p.2)
def prsFw (ps : List (Nat × Nat)) : Rn := ps.map fun p => (p.2, some p.1)
def prsOk (ps : List (Nat × Nat)) : Bool := nodupB (ps.map (·.1)) && nodupB (ps.map (·.2))

theorem renF_mem {rn : Rn} {i old : Nat} (h : renF rn i = some old) : (i, some old) ∈ rn := by
  unfold renF at h
  split at h
  · rename_i q hq; cases h; exact lookO_mem hq
  · cases h

theorem prs_rn {ps : List (Nat × Nat)} (h : prsOk ps = true) {i j : Nat} (hm : (i, j) ∈ ps) : renF (prsRn ps) i = some j := by
  unfold prsOk at h
  rw [Bool.and_eq_true] at h
  have h1 : nodupB ((prsRn ps).map (·.1)) = true := by simpa [prsRn, List.map_map, Function.comp_def] using h.1
  have : lookO i (prsRn ps) = some (some j) := lookO_of_mem h1 (List.mem_map.2 ⟨(i, j), hm, rfl⟩)
  unfold renF; rw [this]
theorem prs_fw {ps : List (Nat × Nat)} (h : prsOk ps = true) {i j : Nat} (hm : (i, j) ∈ ps) : renF (prsFw ps) j = some i := by
  unfold prsOk at h
  rw [Bool.and_eq_true] at h
  have h1 : nodupB ((prsFw ps).map (·.1)) = true := by simpa [prsFw, List.map_map, Function.comp_def] using h.2
  have : lookO j (prsFw ps) = some (some i) := lookO_of_mem h1 (List.mem_map.2 ⟨(i, j), hm, rfl⟩)
  unfold renF; rw [this]
theorem prs_fw_mem {ps : List (Nat × Nat)} {i j : Nat} (h : renF (prsFw ps) j = some i) : (i, j) ∈ ps := by
  obtain ⟨p, hp, he⟩ := List.mem_map.1 (renF_mem h)
  cases he; exact hp
theorem prs_rn_mem {ps : List (Nat × Nat)} {i j : Nat} (h : renF (prsRn ps) i = some j) : (i, j) ∈ ps := by
  obtain ⟨p, hp, he⟩ := List.mem_map.1 (renF_mem h)
  cases he; exact hp

def use1F (fw : Rn) : AV → Bool
  | .any => true
  | .p _ => true
  | .ref id _ => (renF fw id).isSome
  | .arr id => (renF fw id).isSome
  | _ => false
def useF (fw : Rn) : AV → Bool
  | .clo _ fs cs => fs.all (use1F fw) && cs.all (use1F fw)
  | .agg cs => cs.all (use1F fw)
  | .tup cs => cs.all (use1F fw)
  | x => use1F fw x
def useOF (fw : Rn) : AObj → Bool
  | .cells cs => cs.all (useF fw)
  | _ => true

section
variable {rn fw : Rn} {ids : List (Nat × Nat)} (hinv : ∀ i j, renF fw j = some i → renF rn i = some j ∧ (lookO i ids).isSome = true)
include hinv

theorem cov1F {x : AV} (h : use1F fw x = true) : CovA (renF rn) x (ren1 fw x) ∧ Uses ids (ren1 fw x) := by
  cases x with
  | any => exact ⟨.any _, .any⟩
  | p q => exact ⟨.p q, .p q⟩
  | ref id off =>
    obtain ⟨n, hn⟩ := Option.isSome_iff_exists.1 h
    obtain ⟨h1, h2⟩ := hinv n id hn
    simp only [ren1, hn]
    exact ⟨.ref _ _ _ h1, .ref _ _ h2⟩
  | arr id =>
    obtain ⟨n, hn⟩ := Option.isSome_iff_exists.1 h
    obtain ⟨h1, h2⟩ := hinv n id hn
    simp only [ren1, hn]
    exact ⟨.arr _ _ h1, .arr _ h2⟩
  | _ => cases h

theorem covBF {x : AV} (h : useF fw x = true) : CovA (renF rn) x (renA fw x) ∧ Uses ids (renA fw x) := by
  have lists : ∀ cs : List AV, cs.all (use1F fw) = true → (∀ i, i < (cs.map (ren1 fw)).length → CovA (renF rn) (cs.getD i .any) ((cs.map (ren1 fw)).getD i .any)) ∧ ∀ i, i < (cs.map (ren1 fw)).length → Uses ids ((cs.map (ren1 fw)).getD i .any) := by
    intro cs hc
    refine ⟨fun i hi => ?_, fun i hi => ?_⟩
    · rw [map_getD (ren1 fw) rfl]; exact (cov1F hinv (all_get hc (by simpa using hi) .any)).1
    · rw [map_getD (ren1 fw) rfl]; exact (cov1F hinv (all_get hc (by simpa using hi) .any)).2
  cases x with
  | clo fn fs cs =>
    simp only [useF, Bool.and_eq_true] at h
    obtain ⟨h1, h2⟩ := lists fs h.1
    obtain ⟨h3, h4⟩ := lists cs h.2
    exact ⟨.clo _ _ _ _ _ (by simp) (by simp) h1 h3, .clo _ _ _ h2 h4⟩
  | agg cs =>
    obtain ⟨h1, h2⟩ := lists cs h
    exact ⟨.agg _ _ (by simp) h1, .agg _ h2⟩
  | tup cs =>
    obtain ⟨h1, h2⟩ := lists cs h
    exact ⟨.tup _ _ (by simp) h1, .tup _ h2⟩
  | any => exact cov1F hinv (x := .any) h
  | p q => exact cov1F hinv (x := .p q) h
  | ref id off => exact cov1F hinv (x := .ref id off) h
  | arr id => exact cov1F hinv (x := .arr id) h
  | aptr _ _ _ => cases h
  | gd _ _ => cases h

theorem covOF {o : AObj} (h : useOF fw o = true) : CovO (renF rn) o (renO fw o) ∧ usesO ids (renO fw o) := by
  cases o with
  | barr e mu l => exact ⟨.refl_b _ _ _, trivial⟩
  | larr e mu k n f => exact ⟨.larr _ _ _ _ _ _ fun _ _ _ _ => rfl, trivial⟩
  | cells cs =>
    have hc : cs.all (useF fw) = true := h
    refine ⟨.cells _ _ (by simp) fun i hi => ?_, fun i hi => ?_⟩
    · rw [map_getD (renA fw) rfl]; exact (covBF hinv (all_get hc (by simpa using hi) .any)).1
    · rw [map_getD (renA fw) rfl]; exact (covBF hinv (all_get hc (by simpa using hi) .any)).2
end

theorem All_of {α : Type} {p : α → Prop} : ∀ {l : List α}, (∀ x ∈ l, p x) → All (l.map p)
  | [], _ => trivial
  | x :: l, h => ⟨h x (List.mem_cons_self ..), All_of fun y hy => h y (List.mem_cons_of_mem _ hy)⟩

theorem allSome_mem {α β : Type} {f : α → Option β} {l : List α} : ∀ {r : List β}, allSome f l = some r → (∀ y ∈ r, ∃ x ∈ l, f x = some y) ∧ (∀ x ∈ l, ∃ y ∈ r, f x = some y) := by
  induction l with
  | nil => intro r h; cases h; exact ⟨fun _ h => (nomatch h), fun _ h => (nomatch h)⟩
  | cons x l ih =>
    intro r h
    simp only [allSome] at h
    cases hx : f x with
    | none => rw [hx] at h; cases h
    | some y =>
      cases hl : allSome f l with
      | none => rw [hx, hl] at h; cases h
      | some ys =>
        rw [hx, hl] at h; cases h
        obtain ⟨h1, h2⟩ := ih hl
        refine ⟨fun z hz => ?_, fun z hz => ?_⟩
        · rcases List.mem_cons.1 hz with e | hz
          · exact ⟨x, List.mem_cons_self .., by rw [e]; exact hx⟩
          · obtain ⟨u, hu, he⟩ := h1 z hz; exact ⟨u, List.mem_cons_of_mem _ hu, he⟩
        · rcases List.mem_cons.1 hz with e | hz
          · exact ⟨y, List.mem_cons_self .., by rw [e]; exact hx⟩
          · obtain ⟨u, hu, he⟩ := h2 z hz; exact ⟨u, List.mem_cons_of_mem _ hu, he⟩

/-- The objects named by pairs (new name, old name), with the new names. -/
def handO (obF : Nat → Option AObj) (ps : List (Nat × Nat)) : Option (List (Nat × AObj)) :=
  allSome (fun p => match obF p.2 with | some o => (match useOF (prsFw ps) o with | true => some (p.1, renO (prsFw ps) o) | false => none) | none => none) ps

theorem handO_spec {obF : Nat → Option AObj} {ps : List (Nat × Nat)} {ib : List (Nat × AObj)} (h : handO obF ps = some ib) :
    ib.map (·.1) = ps.map (·.1) ∧ (∀ q ∈ ib, ∃ j o, (q.1, j) ∈ ps ∧ obF j = some o ∧ useOF (prsFw ps) o = true ∧ q.2 = renO (prsFw ps) o) ∧ ∀ i j, (i, j) ∈ ps → obF j ≠ none := by
  unfold handO at h
  generalize hfw : prsFw ps = fw at h
  have hf : ∀ (p : Nat × Nat) (q : Nat × AObj), (match obF p.2 with | some o => (match useOF fw o with | true => some (p.1, renO fw o) | false => none) | none => none) = some q → q.1 = p.1 ∧ ∃ o, obF p.2 = some o ∧ useOF fw o = true ∧ q.2 = renO fw o := by
    intro p q hq
    cases ho : obF p.2 with
    | none => rw [ho] at hq; cases hq
    | some o =>
      rw [ho] at hq
      dsimp only at hq
      cases hu : useOF fw o with
      | false => rw [hu] at hq; cases hq
      | true => rw [hu] at hq; cases hq; exact ⟨rfl, o, rfl, hu, rfl⟩
  refine ⟨?_, ?_, ?_⟩
  · clear hfw
    have : ∀ (l : List (Nat × Nat)) (r : List (Nat × AObj)), allSome (fun p => match obF p.2 with | some o => (match useOF fw o with | true => some (p.1, renO fw o) | false => none) | none => none) l = some r → r.map (·.1) = l.map (·.1) := by
      intro l
      induction l with
      | nil => intro r h; cases h; rfl
      | cons x l ih =>
        intro r h
        simp only [allSome] at h
        split at h
        · rename_i y ys hx hl
          cases h
          have := (hf x y hx).1
          simp [this, ih ys hl]
        · cases h
    exact this ps ib h
  · intro q hq
    obtain ⟨p, hp, he⟩ := (allSome_mem h).1 q hq
    obtain ⟨h1, o, h2, h3, h4⟩ := hf p q he
    exact ⟨p.2, o, by rw [h1]; exact hp, h2, h3, h4⟩
  · intro i j hm
    obtain ⟨y, _, he⟩ := (allSome_mem h).2 _ hm
    obtain ⟨_, o, h2, _⟩ := hf (i, j) y he
    show obF j ≠ none
    rw [show obF j = some o from h2]; simp

theorem lookO_isSome {α : Type} : ∀ {l : List (Nat × α)} {i : Nat}, i ∈ l.map (·.1) → (lookO i l).isSome = true
  | [], _, h => by cases h
  | p :: l, i, h => by
    unfold lookO
    cases hb : Nat.beq i p.1 with
    | true => rfl
    | false =>
      rcases List.mem_cons.1 h with e | e
      · subst e; simp at hb
      · exact lookO_isSome e
theorem lookO_key {α : Type} {l : List (Nat × α)} {i : Nat} (h : (lookO i l).isSome = true) : i ∈ l.map (·.1) := by
  obtain ⟨x, hx⟩ := Option.isSome_iff_exists.1 h
  exact List.mem_map.2 ⟨_, lookO_mem hx, rfl⟩

theorem hand_inv {ps : List (Nat × Nat)} (hok : prsOk ps = true) {ib : List (Nat × AObj)} (hk : ib.map (·.1) = ps.map (·.1)) :
    ∀ i j, renF (prsFw ps) j = some i → renF (prsRn ps) i = some j ∧ (lookO i (idsOf ib)).isSome = true := by
  intro i j h
  have hm := prs_fw_mem h
  refine ⟨prs_rn hok hm, lookO_isSome ?_⟩
  have : (idsOf ib).map (·.1) = ps.map (·.1) := by rw [← hk]; simp [idsOf]
  rw [this]
  exact List.mem_map.2 ⟨_, hm, rfl⟩

theorem Objs_hand {obF : Nat → Option AObj} {L : Nat → Prop} (h : Objs γ M w obF L) {ps : List (Nat × Nat)} (hok : prsOk ps = true) {ib : List (Nat × AObj)} (hib : handO obF ps = some ib) :
    Objs (renG γ (idsOf ib) (renF (prsRn ps))) M w (fun i => lookO i ib) L := by
  obtain ⟨hk, hq, _⟩ := handO_spec hib
  have hinv := hand_inv hok hk
  refine Objs_mk (idsOf ib) (renF (prsRn ps)) (by simp [idsOf]) (All_of fun q hqm => ?_) (fun i j old hi hj _ _ => ?_) h
  · obtain ⟨j, o, hm, ho, hu, he⟩ := hq q hqm
    obtain ⟨c1, c2⟩ := covOF hinv hu
    rw [prs_rn hok hm, he]
    exact ⟨c2, o, ho, c1⟩
  · have h1 := prs_fw hok (prs_rn_mem hi)
    have h2 := prs_fw hok (prs_rn_mem hj)
    rw [h1] at h2; cases h2; rfl

theorem renG_some {ids : List (Nat × Nat)} {ps : List (Nat × Nat)} {i : Nat} {g : G} (hk : ids.map (·.1) = ps.map (·.1)) (hok : prsOk ps = true) (h : renG γ ids (renF (prsRn ps)) i = some g) :
    ∃ j, (i, j) ∈ ps ∧ γ j = some g := by
  unfold renG at h
  cases hl : lookO i ids with
  | none => rw [hl] at h; cases h
  | some k =>
    rw [hl] at h
    have : i ∈ ps.map (·.1) := by rw [← hk]; exact lookO_key (by rw [hl]; rfl)
    obtain ⟨p, hp, he⟩ := List.mem_map.1 this
    have hr := prs_rn hok (i := i) (j := p.2) (by rw [← he]; exact hp)
    rw [hr] at h
    exact ⟨p.2, by rw [← he]; exact hp, h⟩
theorem renG_at {ids : List (Nat × Nat)} {ps : List (Nat × Nat)} {i j : Nat} (hk : ids.map (·.1) = ps.map (·.1)) (hok : prsOk ps = true) (hm : (i, j) ∈ ps) : renG γ ids (renF (prsRn ps)) i = γ j := by
  unfold renG
  have : (lookO i ids).isSome = true := lookO_isSome (by rw [hk]; exact List.mem_map.2 ⟨_, hm, rfl⟩)
  obtain ⟨k, hl⟩ := Option.isSome_iff_exists.1 this
  simp only [hl, prs_rn hok hm]

theorem ARels.ren {rn fw : Rn} {ids : List (Nat × Nat)} (hinv : ∀ i j, renF fw j = some i → renF rn i = some j ∧ (lookO i ids).isSome = true) :
    ∀ {xs : List AV} {vs : List Value}, xs.all (useF fw) = true → ARels γ M xs vs → ARels (renG γ ids (renF rn)) M (xs.map (renA fw)) vs
  | _, _, _, .nil => .nil
  | _, _, hu, .cons h1 h2 => by
    simp only [List.all_cons, Bool.and_eq_true] at hu
    obtain ⟨c1, c2⟩ := covBF hinv hu.1
    exact .cons (c1.rel c2 h1) (ARels.ren hinv hu.2 h2)

end Go.Am
