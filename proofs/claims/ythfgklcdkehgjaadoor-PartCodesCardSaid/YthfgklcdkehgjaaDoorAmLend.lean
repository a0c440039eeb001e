/-
  The abstract machine of these proofs.
-/
import Derived.Test.YthfgklcdkehgjaaDoorAmIter
import Derived.RangeFuncLeaves
set_option linter.unusedVariables false
/-! What lies in memory, handed from one activation to another. -/
namespace Go.Am
open Go Go.RowKit
variable {P : Program} {C C' : Ctx} {s s' : S} {a a' : Act} {w w' w1 w2 : World} {γ γ' γ1 γ2 : Nat → Option G} {M M' M1 M2 : Mem} {o o' o1 o2 : List (Nat × AObj)}

structure Hold (γ : Nat → Option G) (M : Mem) (w : World) (o : List (Nat × AObj)) : Prop where
  ob : ∀ id x, lookO id o = some x → OM γ M w id x
  us : ∀ id, lookO id o = none → γ id = none
  sep : ∀ id id' g g' b, lookO id o ≠ none → lookO id' o ≠ none → γ id = some g → γ id' = some g' → g.blk = some b → g'.blk = some b → id = id'
  lt : ∀ id g b, lookO id o ≠ none → γ id = some g → g.blk = some b → b < w.heap.size
  mem : MOk M w

structure Chg (γ : Nat → Option G) (o : List (Nat × AObj)) (M : Mem) (w : World) (γ' : Nat → Option G) (o' : List (Nat × AObj)) (M' : Mem) (w' : World) : Prop where
  size : w.heap.size ≤ w'.heap.size
  os : w'.os = w.os
  tape : w'.tape = w.tape
  output : w'.output = w.output
  le : MLe M M'
  old : ∀ b, b < w.heap.size → ¬ Handed γ o b → w'.heap[b]? = w.heap[b]? ∧ M' b = M b
  new : ∀ b, Handed γ' o' b → w.heap.size ≤ b ∨ Handed γ o b

theorem Chg.refl : Chg γ o M w γ o M w := ⟨Nat.le_refl _, rfl, rfl, rfl, MLe.refl M, fun _ _ _ => ⟨rfl, rfl⟩, fun _ h => .inr h⟩
theorem Chg.trans (h : Chg γ o M w γ1 o1 M1 w1) (k : Chg γ1 o1 M1 w1 γ2 o2 M2 w2) : Chg γ o M w γ2 o2 M2 w2 := by
  have hn : ∀ b, b < w.heap.size → ¬ Handed γ o b → ¬ Handed γ1 o1 b := fun b hb hh h2 => (h.new b h2).elim (fun h3 => by omega) hh
  refine ⟨Nat.le_trans h.size k.size, k.os.trans h.os, k.tape.trans h.tape, k.output.trans h.output, h.le.trans k.le, fun b hb hh => ?_, fun b hb => ?_⟩
  · have h1 := h.old b hb hh
    have h2 := k.old b (Nat.lt_of_lt_of_le hb h.size) (hn b hb hh)
    exact ⟨h2.1.trans h1.1, h2.2.trans h1.2⟩
  · rcases k.new b hb with h1 | h1
    · exact .inl (Nat.le_trans h.size h1)
    · exact h.new b h1

/-- The place from which a callee, a round, or what follows is told. -/
def ctxOf (w : World) (M : Mem) (γ : Nat → Option G) (o : List (Nat × AObj)) (kept : List Nat) (nt : Nat) (rd : Option Nat) (dl : List Deferred) : Ctx :=
  { w0 := w, M0 := M, own := Handed γ o, nt := nt, g0 := fun i => match elemB i kept with | true => γ i | false => none, rd := rd, dl := dl }
theorem ctxOf_ok {kept : List Nat} {nt : Nat} {rd : Option Nat} {dl : List Deferred} : CtxOk (ctxOf w M γ o kept nt rd dl) nt kept := by
  refine ⟨rfl, fun i g hg => ?_⟩
  simp only [ctxOf] at hg
  split at hg
  · rename_i he; exact elemB_spec.1 he
  · cases hg

theorem Hold.lend (h : Hold γ M w o) {l : List (Nat × AV)} {kept : List Nat} {nt : Nat} {rd : Option Nat} {dl : List Deferred} (hsl : ∀ t, ARel γ M (look t .any l) (a.tmps.getD t undef)) (hd : a.defers = dl) (hn : a.tmps.size = nt) :
    StG (ctxOf w M γ o kept nt rd dl) γ M (mkS l o) a w := by
  refine ⟨hsl, h.ob, fun id hu => h.us id ?_, h.sep, fun id g b h1 h2 h3 => ⟨.inr ⟨id, g, h1, h2, h3⟩, h.lt id g b h1 h2 h3⟩, h.mem, MLe.refl M, fun _ _ _ => rfl, ⟨rfl, rfl, rfl, Nat.le_refl _, fun _ _ _ => rfl⟩, hd, hn, fun i g hg => ?_⟩
  · have hu : (lookO id o).isSome = false := hu
    cases hl : lookO id o with
    | none => rfl
    | some _ => rw [hl] at hu; cases hu
  · simp only [ctxOf] at hg
    split at hg
    · exact hg
    · cases hg

theorem Hold.back {l : List (Nat × AV)} {kept : List Nat} {nt : Nat} {rd : Option Nat} {dl : List Deferred} (h : StG (ctxOf w M γ o kept nt rd dl) γ' M' (mkS l o') a w') :
    Hold γ' M' w' o' ∧ Chg γ o M w γ' o' M' w' ∧ (∀ i ∈ kept, ∀ g, γ i = some g → γ' i = some g) ∧ (∀ t, ARel γ' M' (look t .any l) (a.tmps.getD t undef)) ∧ a.defers = dl ∧ a.tmps.size = nt := by
  refine ⟨⟨h.ob, fun id hu => h.us id ?_, h.sep, fun id g b h1 h2 h3 => (h.lo id g b h1 h2 h3).2, h.mem⟩, ⟨h.fr.size, h.fr.os, h.fr.tape, h.fr.output, h.le, fun b hb hh => ⟨h.fr.block b hb hh, h.new b hb hh⟩, fun b ⟨id, g, h1, h2, h3⟩ => (h.lo id g b h1 h2 h3).1⟩, fun i hi g hg => h.gl i g ?_, h.sl, h.df, h.nt⟩
  · show (lookO id o').isSome = false
    rw [hu]; rfl
  · simp only [ctxOf]
    rw [elemB_spec.2 hi]; exact hg

/-! ### Raw objects: laid, changed -/
theorem heap_push_lt {w : World} {x : Obj} {b : Nat} (hb : b < w.heap.size) : (w.alloc x).heap[b]? = w.heap[b]? := by
  show (w.heap.push x)[b]? = _
  rw [Array.getElem?_push_lt hb, Array.getElem?_eq_getElem hb]
theorem Hold.addraw (h : Hold γ M w o) {id : Nat} (hid : lookO id o = none) (x : Obj) :
    Hold (upd γ id (some (.cell w.heap.size))) M (w.alloc x) ((id, .raw x) :: o) ∧ Chg γ o M w (upd γ id (some (.cell w.heap.size))) ((id, .raw x) :: o) M (w.alloc x) := by
  have hγ : GLe γ (upd γ id (some (.cell w.heap.size))) := by
    intro i g' hi
    by_cases e : i = id
    · subst e; rw [h.us i hid] at hi; cases hi
    · rw [upd_ne _ _ e]; exact hi
  have hl : ∀ {i}, i ≠ id → lookO i ((id, .raw x) :: o) = lookO i o := by
    intro i hi
    show (match Nat.beq i id with | true => some (AObj.raw x) | false => lookO i o) = _
    cases hb : Nat.beq i id with
    | true => exact absurd (Nat.eq_of_beq_eq_true hb) hi
    | false => rfl
  have hsame : lookO id ((id, AObj.raw x) :: o) = some (.raw x) := by
    show (match Nat.beq id id with | true => some (AObj.raw x) | false => lookO id o) = _
    rw [Nat.beq_refl]
  have hg : ∀ {i g b}, i ≠ id → lookO i o ≠ none → γ i = some g → g.blk = some b → b < w.heap.size := fun _ h1 h2 h3 => h.lt _ _ _ h1 h2 h3
  refine ⟨⟨fun i y hi => ?_, fun i hi => ?_, fun i j g g' b hi hj h1 h2 h3 h4 => ?_, fun i g b hi h1 h2 => ?_, h.mem.alloc _⟩, ⟨by simp, rfl, rfl, rfl, MLe.refl M, fun b hb _ => ⟨heap_push_lt hb, rfl⟩, fun b ⟨i, g, h1, h2, h3⟩ => ?_⟩⟩
  · by_cases e : i = id
    · subst e
      rw [hsame] at hi; cases hi
      exact ⟨w.heap.size, upd_same _ _ _, heap_alloc_new w _, h.mem.fresh (Nat.le_refl _)⟩
    · rw [hl e] at hi
      exact (h.ob i y hi).keep hγ (MLe.refl M) fun g b h1 h2 => ⟨heap_push_lt (h.lt i g b (by rw [hi]; simp) h1 h2), rfl⟩
  · by_cases e : i = id
    · subst e; rw [hsame] at hi; cases hi
    · rw [hl e] at hi; rw [upd_ne _ _ e]; exact h.us i hi
  · by_cases ei : i = id
    · subst ei
      rw [upd_same] at h1; cases h1; cases h3
      by_cases ej : j = i
      · exact ej.symm
      · rw [upd_ne _ _ ej] at h2
        have := h.lt j g' _ (by rw [hl ej] at hj; exact hj) h2 h4
        omega
    · rw [upd_ne _ _ ei] at h1
      by_cases ej : j = id
      · subst ej
        rw [upd_same] at h2; cases h2; cases h4
        have := h.lt i g _ (by rw [hl ei] at hi; exact hi) h1 h3
        omega
      · rw [upd_ne _ _ ej] at h2
        exact h.sep i j g g' b (by rw [hl ei] at hi; exact hi) (by rw [hl ej] at hj; exact hj) h1 h2 h3 h4
  · by_cases ei : i = id
    · subst ei
      rw [upd_same] at h1; cases h1; cases h2; simp
    · rw [upd_ne _ _ ei] at h1
      have := h.lt i g b (by rw [hl ei] at hi; exact hi) h1 h2
      simp; omega
  · by_cases ei : i = id
    · subst ei
      rw [upd_same] at h2; cases h2; cases h3; exact .inl (Nat.le_refl _)
    · rw [upd_ne _ _ ei] at h2
      exact .inr ⟨i, g, by rw [hl ei] at h1; exact h1, h2, h3⟩

theorem Hold.setraw (h : Hold γ M w o) {id b : Nat} {x y : Obj} (hid : lookO id o = some (.raw x)) (hb : γ id = some (.cell b)) (hy : lookO id o' = some (.raw y)) (hne : ∀ i, i ≠ id → lookO i o' = lookO i o) :
    Hold γ M (w.putObj b y) o' ∧ Chg γ o M w γ o' M (w.putObj b y) := by
  obtain ⟨b', hg', hx, hn⟩ := h.ob id _ hid
  rw [hb] at hg'; cases hg'
  have hlt : b < w.heap.size := h.lt id _ b (by rw [hid]; simp) hb rfl
  have hnn : ∀ i, lookO i o' ≠ none → lookO i o ≠ none := by
    intro i hi
    by_cases e : i = id
    · subst e; rw [hid]; simp
    · rw [← hne i e]; exact hi
  refine ⟨⟨fun i z hi => ?_, fun i hi => ?_, fun i j g g' c hi hj h1 h2 h3 h4 => h.sep i j g g' c (hnn i hi) (hnn j hj) h1 h2 h3 h4, fun i g c hi h1 h2 => ?_, h.mem.put hn⟩, ⟨by simp, rfl, rfl, rfl, MLe.refl M, fun c hc hh => ⟨World.putObj_heap_other ?_, rfl⟩, fun c ⟨i, g, h1, h2, h3⟩ => .inr ⟨i, g, hnn i h1, h2, h3⟩⟩⟩
  · by_cases e : i = id
    · subst e
      rw [hy] at hi; cases hi
      exact ⟨b, hb, World.putObj_heap_same hlt, hn⟩
    · rw [hne i e] at hi
      refine (h.ob i z hi).keep (GLe.refl γ) (MLe.refl M) fun g c h1 h2 => ⟨World.putObj_heap_other ?_, rfl⟩
      rintro rfl
      exact e (h.sep i id g _ c (by rw [hi]; simp) (by rw [hid]; simp) h1 hb h2 rfl)
  · by_cases e : i = id
    · subst e; rw [hy] at hi; cases hi
    · rw [hne i e] at hi; exact h.us i hi
  · have := h.lt i g c (hnn i hi) h1 h2
    rw [World.putObj_size]; exact this
  · rintro rfl
    exact hh ⟨id, _, by rw [hid]; simp, hb, rfl⟩

/-! ### Pieces of code -/
def cutLO (fx : List Nat) (c : Cut) (s : S) : Option (List (Nat × AV) × List (Nat × AObj)) :=
  match resolveO s [] (realO c.own) with
  | some rn => match cutOk fx rn with
    | true => match cutSlots s rn (fwOf rn) (realO c.own) c.slots with
      | some l => match buildO s rn (fwOf rn) (realO c.own) c.own rn (realO c.own) with
        | some o => some (l, o)
        | none => none
      | none => none
    | false => none
  | none => none
theorem cutLO_cutS {fx : List Nat} {c : Cut} {s : S} {l : List (Nat × AV)} {o : List (Nat × AObj)} (h : cutLO fx c s = some (l, o)) : cutS fx c s = some (mkS l o) := by
  unfold cutLO at h
  unfold cutS
  split at h
  · rename_i rn hrn
    rw [hrn]; dsimp only
    split at h
    · rename_i hok
      rw [hok]; dsimp only
      split at h
      · rename_i l' hl
        rw [hl]; dsimp only
        split at h
        · rename_i o' ho
          rw [ho]; cases h; rfl
        · cases h
      · cases h
    · cases h
  · cases h
theorem cutSlots_keys {s : S} {rn fw : Rn} {own : List Own} : ∀ {ts : List Nat} {l : List (Nat × AV)}, cutSlots s rn fw own ts = some l → l.map (·.1) = ts
  | [], l, h => by cases h; rfl
  | t :: r, l, h => by
    simp only [cutSlots] at h
    split at h
    · split at h
      · rename_i l' hl
        cases h
        simp [cutSlots_keys hl]
      · cases h
    · cases h
theorem cutLO_keys {fx : List Nat} {c : Cut} {s : S} {l : List (Nat × AV)} {o : List (Nat × AObj)} (h : cutLO fx c s = some (l, o)) : l.map (·.1) = c.slots := by
  unfold cutLO at h
  split at h
  · split at h
    · split at h
      · rename_i l' hl
        split at h
        · cases h; exact cutSlots_keys hl
        · cases h
      · cases h
    · cases h
  · cases h
def tagOf : Exit → AV
  | .normal => .p (.int .i64 (-1))
  | .ret => .p (.int .i64 (-2))
  | .exit i => .p (.int .i64 (i : Int))
  | _ => .any
def kTag (fx : List Nat) (c : Cut) : K := fun e s =>
  match cutLO fx c s with
  | some (l, o) => some (.tup (tagOf e :: l.map (·.2)), o)
  | none => none
theorem tagOf_normal {e : Exit} (h : tagOf e = .p (.int .i64 (-1))) : e = .normal := by
  cases e with
  | normal => rfl
  | exit i => simp [tagOf] at h
  | _ => simp [tagOf] at h
theorem tagOf_exit {e : Exit} {i : Nat} (h : tagOf e = .p (.int .i64 (i : Int))) : e = .exit i := by
  cases e with
  | normal => simp [tagOf] at h
  | ret => simp [tagOf] at h
  | exit j => simp [tagOf] at h; have : j = i := by omega
              rw [this]
  | _ => simp [tagOf] at h
theorem zip_keys {α β : Type} : ∀ {l : List (α × β)}, List.zip (l.map (·.1)) (l.map (·.2)) = l
  | [] => rfl
  | p :: r => by rw [List.map_cons, List.map_cons, List.zip_cons_cons, zip_keys]
theorem kTag_get {nt : Nat} {fx : List Nat} (hC : CtxOk C nt fx) {c : Cut} {e : Exit} {s : S} {t : AV} {xs : List AV} {o : List (Nat × AObj)} (h : kTag fx c e s = some (.tup (t :: xs), o)) : tagOf e = t ∧ Sub C s (mkS (List.zip c.slots xs) o) := by
  unfold kTag at h
  split at h
  · rename_i l o' hl
    cases h
    rw [← cutLO_keys hl, zip_keys]
    exact ⟨rfl, cutS_sub hC (cutLO_cutS hl)⟩
  · cases h

def agNone : List Nat → Code → S → K → Option Ans := fun _ _ _ _ => none
theorem piece {G : Cfg} (hG : CfgOk G P C) {c : Code} {s : S} {k : K} {r : Ans} (h : runC G agNone [] c s k = some r) : T P C c s (fun e s' => k e s' = some r) :=
  runC_sound (again := agNone) hG (fun _ _ _ _ _ h _ => by cases h) c [] s k _ h (fun _ _ h => h)
/-- One piece behind another. -/
noncomputable def kNext (G : Cfg) (c : Code) (k : K) : K := fun e s =>
  match e with
  | .normal => runC G agNone [] c s k
  | e => k e s
theorem wpIn_piece {G : Cfg} (hG : CfgOk G P C) {c : Code} {s : S} {k : K} {r : Ans} {R : Exit → Act → World → Prop} (h : runC G agNone [] c s k = some r) (hs : St C s a w) (hk : ∀ e s' a' w', k e s' = some r → St C s' a' w' → R e a' w') : c.wpIn (FW C.rd) 0 P R a w :=
  wpIn_mono (piece hG h a w hs) fun e a' w' ⟨s', h1, h2⟩ => hk e s' a' w' h1 h2

/-! ### A contract that says less -/
theorem ARel.nil_list {γ : Nat → Option G} {M : Mem} {v : Value} {k : Nat} {R : Rows} (h0 : R.n = 0) (h : ARel γ M (.p .nil) v) : ARel γ M (.p (.list k R)) v := by
  cases h with | p _ _ h => cases h; exact .p _ _ (.listNil k R h0)
theorem ARel.tup_head {γ : Nat → Option G} {M : Mem} {v : Value} {x y : AV} {r : List AV} (k : ∀ v, ARel γ M x v → ARel γ M y v) (h : ARel γ M (.tup (x :: r)) v) : ARel γ M (.tup (y :: r)) v := by
  obtain ⟨vs, rfl, hs, hr⟩ := h.tup_inv
  refine .tup _ _ (by simpa using hs) fun i hi => ?_
  cases i with
  | zero => exact k _ (hr 0 (by simp))
  | succ i => exact hr (i + 1) (by simpa using hi)
end Go.Am
