/-
  The abstract machine of these proofs.
-/
import Derived.Test.YtdjlilhdgnogaaaAmAppend
set_option linter.unusedVariables false
/-! Operations that write memory: append, store. -/
namespace Go.Am
open Go Go.RowKit
variable {P : Program} {γ γ' : Nat → Option G} {M M' : Mem} {C : Ctx} {s s' : S} {a a' : Act} {w w' : World}

/-- The object behind an append: the row that is appended to (its name, if it has one), what is there. -/
def aBase (ob : Nat → Option AObj) (e : TypeId) : AV → Option (Option Nat × Option AObj)
  | .p .nil => some (none, none)
  | .arr id => match ob id with
    | some o => bool? (Nat.beq o.elem e) (some id, some o)
    | none => none
  | _ => none

def catL (n : Nat) (f g : Nat → Nat → PV) : Nat → Nat → PV := fun i j => match Nat.blt i n with | true => f i j | false => g (i - n) j

def evAppend (P : Program) (ob : Nat → Option AObj) (t tx : TypeId) : List AV → Option (AObj × Option Nat × Option Prop)
  | [x, y] => match sliceE P t with
    | some e => match sizeT P e, bytesT P e, zeroC P e, aBase ob e x with
      | some (k' + 1), some (b' + 1), some z, some (old, bo) => match Nat.beq z.length (k' + 1) with
        | true => match isU8 P e && Nat.beq (k' + 1) 1 with
          | true => match bo, aSrcB P ob tx y with
            | none, some l => some (.barr e false l, old, some (l.length * (b' + 1) ≤ 140737488355328))
            | some (.barr _ mu l0), some l => some (.barr e mu (l0 ++ l), old, some ((l0.length + l.length) * (b' + 1) ≤ 140737488355328))
            | _, _ => none
          | false => match bo, aSrcL P ob tx (k' + 1) y with
            | none, some (n, f) => some (.larr e false (k' + 1) n f, old, some (n * (b' + 1) ≤ 140737488355328))
            | some (.larr _ mu k0 n0 f0), some (n, f) => match Nat.beq k0 (k' + 1) with
              | true => some (.larr e mu (k' + 1) (n0 + n) (catL n0 f0 f), old, some ((n0 + n) * (b' + 1) ≤ 140737488355328))
              | false => none
            | _, _ => none
        | false => none
      | _, _, _, _ => none
    | none => none
  | _ => none

def delO (ob : Nat → Option AObj) : Option Nat → Nat → Option AObj
  | some id => upd ob id none
  | none => ob

/-- The state behind an append. -/
def sappend (s : S) (d : Nat) (old : Option Nat) (o : AObj) : S :=
  { sl := upd s.sl d (.arr d), ob := upd (delO s.ob old) d (some o), us := upd s.us d true }

theorem delO_none {ob : Nat → Option AObj} {old : Option Nat} {i : Nat} (h : delO ob old i ≠ none) : delO ob old i = ob i ∧ some i ≠ old := by
  cases old with
  | none => exact ⟨rfl, by simp⟩
  | some id =>
    unfold delO at *
    by_cases e : i = id
    · subst e; dsimp only at h; rw [upd_same] at h; exact absurd rfl h
    · dsimp only at *; exact ⟨upd_ne _ _ e, by simp [e]⟩

def memRowO (M : Mem) (mu : Bool) (ad : Option Nat) (vs : List Value) : Mem :=
  match ad with
  | some g => memRow M mu g vs
  | none => M

/-- The heart of an append: a row that the call owns (or none) is replaced by one that has more. -/
theorem StG.appendRow (h : StG C γ M s a w) {d : Nat} (hd : dstOk C.nt (some d) = true) (hu : s.us d = false) {old : Option Nat} {o : AObj}
    {k n m cap cap' : Nat} {vs news : List Value} {ad ad' : Option Nat}
    (hold : match old with | some id => ∃ oo, s.ob id = some oo ∧ γ id = some (.arr ad k n cap) ∧ oo.mu = o.mu | none => ad = none)
    (hA : ArrOK M w o.elem o.mu k n vs ad cap)
    (hown : w'.ownsRow 0 o.elem k (arrV ad' (n + m) cap') (n + m) (vs ++ news)) (hg : Grew w w' ad ad')
    (h1 : ∀ u ∈ news, u.oneCell' = true) (hm : n + m ≤ maxLen) (hr : ObjRow M o k (n + m) (vs ++ news)) :
    ∃ γ' M', StG C γ' M' (sappend s d old o) (a.put (some d) (arrV ad' (n + m) cap')) w' := by
  have hfresh := h.mem.fresh (Nat.le_refl w.heap.size)
  -- the row's cells that are known already are among the new ones
  have hmemle : ∀ g, ad' = some g → ∀ q v, M g q = some v → (vs ++ news)[q]? = some v := by
    intro g hg' q v hv
    rcases hg.at_ with he | ⟨g2, he, hge, _, _⟩
    · rw [he] at hg'
      have := hA.mem g hg'
      cases hmu : o.mu with
      | true => rw [hmu] at this; simp only [if_true] at this; rw [this q] at hv; cases hv
      | false =>
        rw [hmu] at this
        simp only [Bool.false_eq_true, if_false] at this
        rw [this q] at hv
        rw [List.getElem?_append_left]
        · exact hv
        · rcases Nat.lt_or_ge q vs.length with hl | hl
          · exact hl
          · rw [List.getElem?_eq_none hl] at hv; cases hv
    · rw [he] at hg'; cases hg'
      rw [h.mem.fresh hge] at hv; cases hv
  let M' : Mem := memRowO M o.mu ad' (vs ++ news)
  have hM : MLe M M' := by
    cases had : ad' with
    | none => simp only [M', had, memRowO]; exact MLe.refl M
    | some g => simp only [M', had, memRowO]; exact memRow_le (hmemle g had)
  have hMne : ∀ b, ad' ≠ some b → M' b = M b := by
    intro b hb
    cases had : ad' with
    | none => simp only [M', had, memRowO]
    | some g => simp only [M', had, memRowO]; exact memRow_ne (fun e => hb (by rw [had, e]))
  let γ' := upd γ d (some (.arr ad' k (n + m) cap'))
  have hγ : GLe γ γ' := by
    intro i g' hi
    by_cases e : i = d
    · subst e; rw [h.us i hu] at hi; cases hi
    · show upd γ d _ i = _; rw [upd_ne _ _ e]; exact hi
  have hdo : s.ob d = none := by
    cases hq : s.ob d with
    | none => rfl
    | some o' => obtain ⟨g, hg⟩ := (h.ob d o' hq).ghost; rw [h.us d hu] at hg; cases hg
  -- other objects' blocks are not the row's
  have hother : ∀ i g b, delO s.ob old i ≠ none → γ i = some g → g.blk = some b → b < w.heap.size ∧ some b ≠ ad := by
    intro i g b hi hgi hb
    obtain ⟨e1, e2⟩ := delO_none hi
    rw [e1] at hi
    have hlt := (h.lo i g b hi hgi hb).2
    refine ⟨hlt, fun e => ?_⟩
    cases old with
    | none => simp only at hold; rw [hold] at e; cases e
    | some id =>
      obtain ⟨oo, ho, hgo, _⟩ := hold
      have := h.sep i id g _ b hi (by rw [ho]; simp) hgi hgo hb (by rw [← e]; rfl)
      exact e2 (by rw [this])
  have hadlt : ∀ g, ad = some g → (C.w0.heap.size ≤ g ∨ C.own g) ∧ g < w.heap.size := by
    intro g hg'
    cases old with
    | none => simp only at hold; rw [hold] at hg'; cases hg'
    | some id =>
      obtain ⟨oo, ho, hgo, _⟩ := hold
      exact h.lo id _ g (by rw [ho]; simp) hgo hg'
  have hcell : ∀ g, ad' = some g → ∀ q u, (vs ++ news)[q]? = some u → w'.cell? ⟨g, q, none⟩ = some u := by
    intro g hg' q u hq
    subst hg'
    have := hown.cells (g := g) rfl q u hq
    rw [addr_add, Nat.zero_add] at this; exact this
  refine ⟨γ', M', ?_⟩
  refine h.master (s' := sappend s d old o) hγ hM
    (put_rel (dst := some d) (by rw [h.nt]; exact hd) (fun t => (h.sl t).mono hγ hM) (.arr d _ _ _ _ (upd_same _ _ _))) (by rw [put_size]; exact h.nt) (by rw [put_defers]; exact h.df) d
    ?_ (fun i hi => upd_ne _ _ hi) ?_ ?_ ?_ ?_ ?_ hg.size ?_ ?_ ?_
  · intro i hi
    show upd (delO s.ob old) d _ i = none ∨ upd (delO s.ob old) d _ i = s.ob i
    rw [upd_ne _ _ hi]
    rcases Classical.em (delO s.ob old i = none) with e | e
    · exact .inl e
    · exact .inr (delO_none e).1
  · intro i hi
    have hi' : upd s.us d true i = false := hi
    by_cases e : i = d
    · subst e; rw [upd_same] at hi'; cases hi'
    · rw [upd_ne _ _ e] at hi'; exact ⟨hi', e⟩
  · intro o' ho'
    have ho' : upd (delO s.ob old) d (some o) d = some o' := ho'
    rw [upd_same] at ho'; cases ho'
    refine OM.row (upd_same _ _ _) (hr.mono hM) ⟨hown, ?_, hm, ?_⟩
    · intro v hv
      rw [List.mem_append] at hv
      exact hv.elim (hA.one v) (h1 v)
    · intro g hg'
      simp only [M', hg', memRowO]
      cases hmu : o.mu with
      | true =>
        simp only [if_true, memRow]
        intro q
        cases hq : M g q with
        | none => rfl
        | some v =>
          rcases hg.at_ with he | ⟨g2, he, hge, _, _⟩
          · rw [he] at hg'
            have := hA.mem g hg'
            rw [hmu] at this; simp only [if_true] at this
            rw [this q] at hq; cases hq
          · rw [he] at hg'; cases hg'
            rw [h.mem.fresh hge] at hq; cases hq
      | false =>
        simp only [Bool.false_eq_true, if_false, memRow]
        intro q; rw [upd_same]
  · intro i g b hi hob hgi hb
    have hob : upd (delO s.ob old) d (some o) i ≠ none := hob
    rw [upd_ne _ _ hi] at hob
    obtain ⟨h2, h3⟩ := hother i g b hob hgi hb
    refine ⟨hg.other b h2 h3, hMne b fun e => ?_⟩
    rcases hg.at_ with he | ⟨g2, he, hge, _, _⟩
    · rw [he] at e; exact h3 e.symm
    · rw [he] at e; cases e; omega
  · intro i g1 g2 b hi hob _ hg1 hg2 hb1 hb2
    have hob : upd (delO s.ob old) d (some o) i ≠ none := hob
    rw [upd_ne _ _ hi] at hob
    obtain ⟨h2, h3⟩ := hother i g1 b hob hg1 hb1
    have hg2 : upd γ d (some (.arr ad' k (n + m) cap')) d = some g2 := hg2
    rw [upd_same] at hg2; cases hg2
    have hb2 : ad' = some b := hb2
    rcases hg.at_ with he | ⟨g3, he, hge, _, _⟩
    · rw [he] at hb2; exact h3 hb2.symm
    · rw [he] at hb2; cases hb2; omega
  · intro g b _ hg' hb
    have hg' : upd γ d (some (.arr ad' k (n + m) cap')) d = some g := hg'
    rw [upd_same] at hg'; cases hg'
    have hb : ad' = some b := hb
    rcases hg.at_ with he | ⟨g3, he, hge, hlt, _⟩
    · rw [he] at hb
      have := hadlt b hb
      exact ⟨this.1, Nat.lt_of_lt_of_le this.2 hg.size⟩
    · rw [he] at hb; cases hb
      exact ⟨.inl (Nat.le_trans h.fr.size hge), hlt⟩
  · intro b q v hv
    by_cases e : ad' = some b
    · have hv' := hv
      cases hmu : o.mu with
      | true =>
        simp only [M', e, hmu, memRow, memRowO] at hv'
        exact hcell b e q v (hmemle b e q v hv')
      | false =>
        simp only [M', e, hmu, memRow, memRowO] at hv'
        rw [upd_same] at hv'
        exact hcell b e q v hv'
    · rw [hMne b e] at hv
      have hc := h.mem b q v hv
      have hb : b < w.heap.size := World.block_lt_of_cell? w ⟨b, q, none⟩ hc
      by_cases e2 : some b = ad
      · -- the old row's block, left behind
        rcases hg.at_ with he | ⟨g3, he, hge, hlt, hall⟩
        · exact absurd (he.trans e2.symm) e
        · rw [World.cell?_of_block (w := w) (hall b hb)]; exact hc
      · rw [World.cell?_of_block (w := w) (hg.other b hb e2)]; exact hc
  · intro b hb hno
    refine hMne b fun e => ?_
    rcases hg.at_ with he | ⟨g3, he, hge, _, _⟩
    · rw [he] at e
      have := (hadlt b e).1
      rcases this with h2 | h2
      · omega
      · exact hno h2
    · rw [he] at e; cases e
      have := h.fr.size
      omega
  · have hf := h.fr
    refine ⟨hg.os.trans hf.os, hg.tape.trans hf.tape, hg.output.trans hf.output, Nat.le_trans hf.size hg.size, fun b hb hno => ?_⟩
    have hlt : b < w.heap.size := Nat.lt_of_lt_of_le hb hf.size
    rw [hg.other b hlt ?_]
    · exact hf.block b hb hno
    · intro e
      have := (hadlt b e.symm).1
      rcases this with h2 | h2
      · omega
      · exact hno h2
end Go.Am
