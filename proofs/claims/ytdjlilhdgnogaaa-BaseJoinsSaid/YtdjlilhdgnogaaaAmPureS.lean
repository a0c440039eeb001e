/-
  The abstract machine of these proofs.
-/
import Derived.Test.YtdjlilhdgnogaaaAmPure
set_option linter.unusedVariables false
/-! The soundness of 'evP'. -/
namespace Go.Am
open Go Go.RowKit
variable {P : Program} {γ : Nat → Option G} {M : Mem}

inductive ARels (γ : Nat → Option G) (M : Mem) : List AV → List Value → Prop
  | nil : ARels γ M [] []
  | cons {x : AV} {v : Value} {xs : List AV} {vs : List Value} (h : ARel γ M x v) (t : ARels γ M xs vs) : ARels γ M (x :: xs) (v :: vs)

theorem ARels.length {xs : List AV} {vs : List Value} (h : ARels γ M xs vs) : vs.length = xs.length := by
  induction h with
  | nil => rfl
  | cons _ _ ih => simp [ih]
theorem ARels.get {xs : List AV} {vs : List Value} (h : ARels γ M xs vs) : ∀ i, i < xs.length → ARel γ M (xs.getD i .any) (vs.getD i undef) := by
  induction h with
  | nil => intro i hi; exact absurd hi (Nat.not_lt_zero _)
  | cons h _ ih =>
    intro i hi
    cases i with
    | zero => exact h
    | succ i => exact ih i (by simpa using hi)
theorem ARels.map {ρ : Operand → Value} {σ : Operand → AV} (h : ∀ x, ARel γ M (σ x) (ρ x)) : ∀ l : List Operand, ARels γ M (l.map σ) (l.map ρ)
  | [] => .nil
  | x :: l => .cons (h x) (ARels.map h l)
theorem ARels.take {xs : List AV} {vs : List Value} (h : ARels γ M xs vs) : ∀ n, ARels γ M (xs.take n) (vs.take n) := by
  induction h with
  | nil => intro n; simp; exact .nil
  | cons h _ ih => intro n; cases n with
    | zero => exact .nil
    | succ n => exact .cons h (ih n)
theorem ARels.drop {xs : List AV} {vs : List Value} (h : ARels γ M xs vs) : ∀ n, ARels γ M (xs.drop n) (vs.drop n) := by
  induction h with
  | nil => intro n; simp; exact .nil
  | cons h t ih => intro n; cases n with
    | zero => exact .cons h t
    | succ n => exact ih n

theorem ARel.p_inv {x : PV} {v : Value} (h : ARel γ M (.p x) v) : PRel M x v := by cases h; assumption
theorem ARel.int_inv {k : IntKind} {n : Int} {v : Value} (h : ARel γ M (.p (.int k n)) v) : v = .int k n ∧ k.has n := h.p_inv.int_inv
theorem ARel.str_inv {l : List UInt8} {v : Value} (h : ARel γ M (.p (.str l)) v) : v = .string ⟨l.toArray⟩ ∧ l.length ≤ maxLen := h.p_inv.str_inv
theorem ARel.bool_inv {b : Bool} {v : Value} (h : ARel γ M (.p (.bool b)) v) : v = .bool b := h.p_inv.bool_inv
theorem ARel.gd_inv {c : Bool} {x : AV} {v : Value} (h : ARel γ M (.gd c x) v) (hc : c = true) : ARel γ M x v := by cases h with | gd _ _ _ h _ => exact h hc

theorem bool?_some {b : Bool} {α : Type} {x y : α} (h : bool? b x = some y) : b = true ∧ x = y := by
  cases b
  · cases h
  · cases h; exact ⟨rfl, rfl⟩

theorem run_str_index {t : TypeId} (ht : isStrT P t = true) (l : List UInt8) (k : IntKind) (i : Int) (h0 : 0 ≤ i) (h1 : i < (l.length : Int)) (w : World) :
    (Instr.index t (.string ⟨l.toArray⟩) (.int k i)).run P w = .ok (.int .u8 ((l.getD i.toNat 0).toNat : Int)) w := by
  have hi : i.toNat < l.length := by omega
  have e : (⟨l.toArray⟩ : ByteArray)[i.toNat]? = some (l.getD i.toNat 0) := by
    rw [getElem?_pos (⟨l.toArray⟩ : ByteArray) i.toNat (by simpa [ByteArray.size] using hi)]
    simp only [List.getD_eq_getElem?_getD, List.getElem?_eq_getElem hi, Option.getD_some]
    rfl
  simp only [Instr.index, asIntOf]
  simp [run_underlying (isStrT_spec ht), h0, e]

theorem has_nat_i64 {n : Nat} (h : n ≤ maxLen) : IntKind.i64.has (n : Int) := has_i64 (by unfold maxLen at h; unfold i64ok; omega)

theorem extract_str (l : List UInt8) (a b : Nat) (hb : b ≤ l.length) : (⟨l.toArray⟩ : ByteArray).extract a b = ⟨((l.take b).drop a).toArray⟩ := by
  apply ByteArray.ext
  simp only [ByteArray.data_extract, List.extract_toArray, List.extract_eq_take_drop, List.drop_take]

theorem run_bound {k : IntKind} {i : Int} {y : Nat} {c : BoundsCode} (h0 : 0 ≤ i) (h1 : i ≤ (y : Int)) (w : World) :
    (Instr.sliceBound (.int k i) y c).run P w = .ok i.toNat w := by
  simp [Instr.sliceBound, asIntOf, h0, h1]

theorem run_slice_str {t : TypeId} (ht : isStrT P t = true) (l : List UInt8) (lo hi : Option (IntKind × Int))
    (hlo : ∀ k i, lo = some (k, i) → 0 ≤ i ∧ i ≤ (match hi with | some (_, j) => j | none => (l.length : Int)))
    (hhi : ∀ k i, hi = some (k, i) → 0 ≤ i ∧ i ≤ (l.length : Int)) (w : World) :
    (Instr.slice t (.string ⟨l.toArray⟩) (lo.map fun x => .int x.1 x.2) (hi.map fun x => .int x.1 x.2) none).run P w =
      .ok (.string ⟨((l.take (match hi with | some (_, j) => j.toNat | none => l.length)).drop (match lo with | some (_, i) => i.toNat | none => 0)).toArray⟩) w := by
  have hsz : (⟨l.toArray⟩ : ByteArray).size = l.length := by simp [ByteArray.size]
  have hu := run_underlying (isStrT_spec ht)
  cases hi with
  | none =>
    cases lo with
    | none =>
      simp [Instr.slice, hu, Instr.sliceBounds]
    | some x =>
      obtain ⟨k, i⟩ := x
      have := hlo k i rfl
      simp only [Instr.slice, Instr.sliceBounds, Option.map_some, Option.map_none]
      simp [hu, run_bound this.1 this.2, extract_str, hsz]
  | some y =>
    obtain ⟨k', j⟩ := y
    have hj := hhi k' j rfl
    cases lo with
    | none =>
      simp only [Instr.slice, Instr.sliceBounds, Option.map_some, Option.map_none]
      simp [hu, run_bound hj.1 hj.2, hsz]
      rw [extract_str _ _ _ (by omega)]
      simp
    | some x =>
      obtain ⟨k, i⟩ := x
      have := hlo k i rfl
      simp only [Instr.slice, Instr.sliceBounds, Option.map_some]
      have h2 : i ≤ (j.toNat : Int) := by have := this.2; simp at this; omega
      simp [hu, run_bound hj.1 hj.2, run_bound this.1 h2, hsz]
      rw [extract_str _ _ _ (by omega)]

theorem run_eqGuard_p {op : BinOp} {t : TypeId} {x y : Operand} {a b : Value} {p q : PV} (ha : PRel M p a) (_hb : PRel M q b)
    (h : ∀ v, p ≠ .plain v) (w : World) : (eqGuard op t x y a b).run P w = .ok () w := by
  have h1 : a ≠ .nilIface := by
    cases ha <;> first
      | (intro e; cases e; done)
      | (exact absurd rfl (h _))
  have h2 : ∀ cs, a ≠ .agg cs := by
    cases ha <;> first
      | (intro cs e; cases e; done)
      | (exact absurd rfl (h _))
  unfold eqGuard
  cases op <;> dsimp only <;> first
    | rfl
    | (simp only [Bool.not_true, Bool.false_eq_true, if_false]
       split
       · exact absurd rfl h1
       · exact absurd rfl (h2 _)
       · rfl)

theorem getD_take {α : Type} (l : List α) (n i : Nat) (d : α) (h : i < n) : (l.take n).getD i d = l.getD i d := by
  simp [List.getD_eq_getElem?_getD, h]
theorem getD_drop {α : Type} (l : List α) (n i : Nat) (d : α) : (l.drop n).getD i d = l.getD (n + i) d := by
  simp [List.getD_eq_getElem?_getD]

theorem apart_sound {t : TypeId} {cs : List AV} {vs : Array Value} {off : Nat} {r : AV} (h : apart P t cs off = some r)
    (hs : vs.size = cs.length) (hx : ∀ i, i < cs.length → ARel γ M (cs.getD i .any) (vs.getD i undef)) (w : World) :
    ∃ v, (part t vs off).run P w = .ok v w ∧ ARel γ M r v := by
  unfold apart at h
  cases ha : isAggT P t with
  | none => rw [ha] at h; cases h
  | some b =>
    cases hz : sizeT P t with
    | none => rw [ha, hz] at h; cases b <;> cases h
    | some n =>
      rw [ha, hz] at h
      cases b with
      | true =>
        dsimp only at h
        split at h
        · rename_i hb
          cases h
          have hle := Nat.le_of_ble_eq_true hb
          refine ⟨.agg (vs.extract off (off + n)), by simp [part, run_isAgg ha, run_sizeOf hz], .agg _ _ ?_ ?_⟩
          · simp; omega
          · intro i hi
            have hi' : i < n := by simp at hi; omega
            rw [getD_take _ _ _ _ hi', getD_drop]
            have := hx (off + i) (by omega)
            have e : (vs.extract off (off + n)).getD i undef = vs.getD (off + i) undef := by
              simp only [Array.getD_eq_getD_getElem?]
              rw [Array.getElem?_extract]
              rw [if_pos (by omega)]
            rw [e]; exact this
        · cases h
      | false =>
        dsimp only at h
        split at h
        · rename_i hb
          cases h
          have hlt : off < cs.length := Nat.le_of_ble_eq_true hb
          have := hx off hlt
          obtain ⟨u, hv, hu⟩ : ∃ u, vs[off]? = some u ∧ vs.getD off undef = u :=
            ⟨vs[off]'(by omega), Array.getElem?_eq_getElem (by omega), by rw [Array.getD_eq_getD_getElem?, Array.getElem?_eq_getElem (by omega)]; rfl⟩
          exact ⟨u, by simp [part, run_isAgg ha, hv], hu ▸ this⟩
        · cases h

theorem fieldOf_spec {t f : Nat} {fd : Field} (h : fieldOf P t f = some fd) : ∃ fs, P.underlying t = some (.struct fs) ∧ fs[f]? = some fd := by
  unfold fieldOf at h
  split at h
  · exact ⟨_, by assumption, h⟩
  · cases h

theorem foldMin_sound : ∀ (xs : List AV) (vs : List Value) (a n : Int), afoldMin a xs = some n → ARels γ M xs vs → IntKind.i64.has a → ∀ w,
    (vs.foldlM Builtin.min2 (.int .i64 a)).run P w = .ok (.int .i64 n) w ∧ IntKind.i64.has n := by
  intro xs
  induction xs with
  | nil => intro vs a n h hx ha w; cases hx; cases h; exact ⟨rfl, ha⟩
  | cons x xs ih =>
    intro vs a n h hx ha w
    cases hx with
    | cons hv ht =>
      unfold afoldMin at h
      split at h
      · rename_i heq; cases heq
      · rename_i y r heq
        cases heq
        obtain ⟨rfl, hy⟩ := hv.int_inv
        have := ih _ _ _ h ht (by split <;> assumption) w
        simp only [List.foldlM_cons]
        rw [Sem.run_bind]
        simp only [Builtin.min2, Sem.run_pure, Result.andThen_ok]
        exact this
      · cases h
theorem foldMax_sound : ∀ (xs : List AV) (vs : List Value) (a n : Int), afoldMax a xs = some n → ARels γ M xs vs → IntKind.i64.has a → ∀ w,
    (vs.foldlM Builtin.max2 (.int .i64 a)).run P w = .ok (.int .i64 n) w ∧ IntKind.i64.has n := by
  intro xs
  induction xs with
  | nil => intro vs a n h hx ha w; cases hx; cases h; exact ⟨rfl, ha⟩
  | cons x xs ih =>
    intro vs a n h hx ha w
    cases hx with
    | cons hv ht =>
      unfold afoldMax at h
      split at h
      · rename_i heq; cases heq
      · rename_i y r heq
        cases heq
        obtain ⟨rfl, hy⟩ := hv.int_inv
        have := ih _ _ _ h ht (by split <;> assumption) w
        simp only [List.foldlM_cons]
        rw [Sem.run_bind]
        simp only [Builtin.max2, Sem.run_pure, Result.andThen_ok]
        exact this
      · cases h
end Go.Am
