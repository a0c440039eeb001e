/-
  The abstract machine of these proofs.
-/
import Derived.Test.YtdjlilhdgnogaaaAmLoad
set_option linter.unusedVariables false
/-! Filling rows of cells; 'build'. -/
namespace Go.Am
open Go Go.RowKit
variable {P : Program} {γ γ' : Nat → Option G} {M M' : Mem} {C : Ctx} {s s' : S} {a a' : Act} {w w' : World}

def CRel (γ : Nat → Option G) (M : Mem) (cs : List AV) (vs : Array Value) : Prop :=
  vs.size = cs.length ∧ ∀ j, j < cs.length → ARel γ M (cs.getD j .any) (vs.getD j undef)

def over (cs : List AV) (off : Nat) (xs : List AV) : List AV := cs.take off ++ (xs ++ cs.drop (off + xs.length))

theorem foldl_set (off : Nat) : ∀ (l : List Value) (n : Nat) (cells : Array Value),
    ((l.zipIdx n).foldl (fun cs x => cs.setIfInBounds (off + x.2) x.1) cells).size = cells.size ∧
    ∀ j, off + n + l.length ≤ cells.size → ((l.zipIdx n).foldl (fun cs x => cs.setIfInBounds (off + x.2) x.1) cells)[j]? =
      if off + n ≤ j ∧ j < off + n + l.length then l[j - (off + n)]? else cells[j]?
  | [], n, cells => by
    refine ⟨rfl, fun j _ => ?_⟩
    rw [if_neg (by simp)]; rfl
  | v :: l, n, cells => by
    obtain ⟨h1, h2⟩ := foldl_set off l (n + 1) (cells.setIfInBounds (off + n) v)
    simp only [List.zipIdx_cons, List.foldl_cons, List.length_cons]
    refine ⟨by rw [h1]; simp, fun j hj => ?_⟩
    rw [h2 j (by simp; omega)]
    by_cases e : j = off + n
    · subst e
      rw [if_neg (by omega), if_pos (by omega)]
      rw [Array.getElem?_setIfInBounds_self_of_lt (by omega)]
      simp
    · rw [Array.getElem?_setIfInBounds_ne (by omega)]
      by_cases hc : off + (n + 1) ≤ j ∧ j < off + (n + 1) + l.length
      · rw [if_pos hc, if_pos (by omega)]
        obtain ⟨q, hq⟩ : ∃ q, j - (off + n) = q + 1 := ⟨j - (off + n) - 1, by omega⟩
        have hq2 : j - (off + (n + 1)) = q := by omega
        rw [hq, hq2]; rfl
      · rw [if_neg hc, if_neg (by omega)]

theorem over_length {cs : List AV} {off : Nat} {xs : List AV} (h : off + xs.length ≤ cs.length) : (over cs off xs).length = cs.length := by
  simp [over]; omega

theorem over_get {cs : List AV} {off : Nat} {xs : List AV} (h : off + xs.length ≤ cs.length) (j : Nat) :
    (over cs off xs).getD j .any = if off ≤ j ∧ j < off + xs.length then xs.getD (j - off) .any else cs.getD j .any := by
  unfold over
  simp only [List.getD_eq_getElem?_getD]
  by_cases h1 : j < off
  · rw [List.getElem?_append_left (by simp; omega), if_neg (by omega), List.getElem?_take, if_pos h1]
  · rw [List.getElem?_append_right (by simp; omega)]
    have e : (cs.take off).length = off := by simp; omega
    rw [e]
    by_cases h2 : j < off + xs.length
    · rw [List.getElem?_append_left (by omega), if_pos (by omega)]
    · rw [List.getElem?_append_right (by omega), if_neg (by omega), List.getElem?_drop]
      congr 2
      omega

/-- The cells of a value that is known to be one cell, or a struct. -/
def AV.cells? : AV → Option (List AV)
  | .agg cs => some cs
  | x => match x.one with | true => some [x] | false => none

theorem cells?_rel {x : AV} {ys : List AV} (h : x.cells? = some ys) {v : Value} (hx : ARel γ M x v) : CRel γ M ys v.cells := by
  cases x with
  | agg cs =>
    cases h
    obtain ⟨vs, rfl, hs, hr⟩ := hx.agg_inv
    exact ⟨hs, hr⟩
  | any => cases h
  | tup cs => cases h
  | gd c y => cases h
  | _ =>
    cases h
    have h1 := hx.oneCell rfl
    have e : v.cells = #[v] := by cases v <;> first | rfl | cases h1
    rw [e]
    refine ⟨rfl, fun j hj => ?_⟩
    have : j = 0 := by simp at hj; omega
    subst this
    exact hx

def afill (place : Nat → Option (Nat × Nat)) (cs : List AV) : List (Nat × AV) → Option (List AV)
  | [] => some cs
  | (i, x) :: rest => match place i, x.cells? with
    | some (off, size), some ys => match Nat.beq ys.length size && Nat.ble (off + ys.length) cs.length with
      | true => afill place (over cs off ys) rest
      | false => none
    | _, _ => none

inductive PRels (γ : Nat → Option G) (M : Mem) : List (Nat × AV) → List (Nat × Value) → Prop
  | nil : PRels γ M [] []
  | cons {i : Nat} {x : AV} {v : Value} {xs : List (Nat × AV)} {vs : List (Nat × Value)} (h : ARel γ M x v) (t : PRels γ M xs vs) : PRels γ M ((i, x) :: xs) ((i, v) :: vs)

theorem fill_sound (place : Nat → Option (Nat × Nat)) : ∀ (xs : List (Nat × AV)) (vs : List (Nat × Value)) (cs r : List AV) (cells : Array Value),
    afill place cs xs = some r → PRels γ M xs vs → CRel γ M cs cells → ∃ cells', Instr.fill place cells vs = some cells' ∧ CRel γ M r cells' := by
  intro xs
  induction xs with
  | nil => intro vs cs r cells h hp hc; cases hp; cases h; exact ⟨cells, rfl, hc⟩
  | cons x xs ih =>
    intro vs cs r cells h hp hc
    cases hp with
    | @cons i x v _ vs hv ht =>
      simp only [afill] at h
      cases hpl : place i with
      | none => rw [hpl] at h; cases h
      | some ps =>
        obtain ⟨off, size⟩ := ps
        cases hcl : x.cells? with
        | none => rw [hpl, hcl] at h; cases h
        | some ys =>
          rw [hpl, hcl] at h
          dsimp only at h
          split at h
          · rename_i hb
            rw [Bool.and_eq_true] at hb
            have h1 := Nat.eq_of_beq_eq_true hb.1
            have h2 := Nat.le_of_ble_eq_true hb.2
            have hcv := cells?_rel hcl hv
            obtain ⟨hs, hr⟩ := hcv
            have hcond : (decide (v.cells.size ≠ size) || decide (off + v.cells.size > cells.size)) = false := by
              rw [Bool.or_eq_false_iff, decide_eq_false_iff_not, decide_eq_false_iff_not, hs, hc.1]; omega
            simp only [Instr.fill, hpl, hcond, Bool.false_eq_true, if_false]
            refine ih vs (over cs off ys) r _ h ht ?_
            obtain ⟨g1, g2⟩ := foldl_set off v.cells.toList 0 cells
            have e : (v.cells.zipIdx.foldl (fun cs x => match x with | (c, j) => cs.setIfInBounds (off + j) c) cells) =
                ((v.cells.toList.zipIdx 0).foldl (fun cs x => cs.setIfInBounds (off + x.2) x.1) cells) := by
              rw [← Array.foldl_toList]
              simp
            rw [e]
            have hlen : v.cells.toList.length = ys.length := by simpa using hs
            refine ⟨by rw [g1, over_length h2]; exact hc.1, fun j hj => ?_⟩
            rw [over_length h2] at hj
            have hg := g2 j (by rw [hlen, hc.1]; omega)
            rw [over_get h2, Array.getD_eq_getD_getElem?, hg, hlen]
            by_cases hcnd : off ≤ j ∧ j < off + ys.length
            · rw [if_pos hcnd, if_pos (by omega)]
              have := hr (j - off) (by omega)
              rw [Array.getD_eq_getD_getElem?] at this
              simpa using this
            · rw [if_neg hcnd, if_neg (by omega)]
              have := hc.2 j hj
              rw [Array.getD_eq_getD_getElem?] at this
              exact this
          · cases h

/-- The cells of a type's zero value. -/
def zeroC (P : Program) (t : TypeId) : Option (List AV) :=
  match P.info? t with
  | some i => match i.zero with
    | some z => match z.cells.toList.all (·.oneCell') with
      | true => some (z.cells.toList.map acst)
      | false => none
    | none => none
  | none => none

theorem zeroC_spec {t : TypeId} {cs : List AV} (h : zeroC P t = some cs) : ∃ i z, P.info? t = some i ∧ i.zero = some z ∧ (∀ v ∈ z.cells.toList, v.oneCell' = true) ∧ cs = z.cells.toList.map acst := by
  unfold zeroC at h
  cases hi : P.info? t with
  | none => rw [hi] at h; cases h
  | some i =>
    rw [hi] at h
    dsimp only at h
    cases hz : i.zero with
    | none => rw [hz] at h; cases h
    | some z =>
      rw [hz] at h
      dsimp only at h
      split at h
      · rename_i hall
        cases h
        exact ⟨i, z, rfl, hz, fun v hv => (List.all_eq_true.1 hall) v hv, rfl⟩
      · cases h

theorem map_acst_rel (γ : Nat → Option G) (M : Mem) (vs : Array Value) : CRel γ M (vs.toList.map acst) vs := by
  refine ⟨by simp, fun j hj => ?_⟩
  have hj' : j < vs.size := by simpa using hj
  have e : (vs.toList.map acst).getD j .any = acst vs[j] := by
    rw [List.getD_eq_getElem?_getD, List.getElem?_map, List.getElem?_eq_getElem (by simpa using hj')]; simp
  have e2 : vs.getD j undef = vs[j] := by rw [Array.getD_eq_getD_getElem?, Array.getElem?_eq_getElem hj']; rfl
  rw [e, e2]
  exact acst_rel γ M _

def structPlaces (P : Program) (fs : Array Field) : Option (List (Nat × Nat)) :=
  fs.toList.mapM fun f => (sizeT P f.type).map fun n => (f.offset, n)

def evBuild (P : Program) (t : TypeId) (ix : List Nat) (xs : List AV) : Option (AV × Option Prop) :=
  match zeroC P t, P.underlying t with
  | some z, some (.struct fs) => match structPlaces P fs with
    | some ps => (afill (fun i => ps[i]?) z (ix.zip xs)).map fun cs => (.agg cs, none)
    | none => none
  | _, _ => none

theorem places_run : ∀ (fs : List Field) (ps : List (Nat × Nat)), (fs.mapM fun f => (sizeT P f.type).map fun n => (f.offset, n)) = some ps →
    ∀ w, (fs.mapM (m := Sem) fun f => do pure (f.offset, ← sizeOf f.type)).run P w = .ok ps w := by
  intro fs
  induction fs with
  | nil => intro ps h w; simp at h; subst h; rfl
  | cons f fs ih =>
    intro ps h w
    rw [List.mapM_cons] at h
    cases hf : sizeT P f.type with
    | none => rw [hf] at h; cases h
    | some n =>
      rw [hf] at h
      simp only [Option.map_some, Option.pure_def, Option.bind_eq_bind, Option.bind_some] at h
      cases hr : (fs.mapM fun f => (sizeT P f.type).map fun n => (f.offset, n)) with
      | none => rw [hr] at h; cases h
      | some ps' =>
        rw [hr] at h
        cases h
        rw [List.mapM_cons]
        simp only [Sem.run_bind, run_sizeOf hf, Result.andThen_ok, Sem.run_pure, ih ps' hr w]

theorem PRels.of {xs : List AV} : ∀ {ix : List Nat} {ps : List (Nat × Operand)} {ρ : Operand → Value}, ARels γ M xs (ps.map fun p => ρ p.2) → ix = ps.map (·.1) →
    PRels γ M (ix.zip xs) (ps.map fun p => (p.1, ρ p.2)) := by
  intro ix ps ρ h hi
  subst hi
  induction ps generalizing xs with
  | nil => cases h; exact .nil
  | cons p ps ih => cases h with | cons h t => exact .cons h (ih t)

theorem evBuild_sound {t : TypeId} {ps : Array (Nat × Operand)} {xs : List AV} {r : AV} {ok : Option Prop} {ρ : Operand → Value}
    (h : evBuild P t (ps.toList.map (·.1)) xs = some (r, ok)) (hx : ARels γ M xs (ps.toList.map fun p => ρ p.2)) (w : World) :
    ∃ v, (Instr.build t (ps.map fun (i, x) => (i, ρ x))).run P w = .ok v w ∧ ARel γ M r v := by
  unfold evBuild at h
  cases hz : zeroC P t with
  | none => rw [hz] at h; cases h
  | some z =>
    rw [hz] at h
    split at h
    · rename_i z' fs hz' hu
      cases hz'
      split at h
      · rename_i places hpl
        obtain ⟨cs, hf, he⟩ := map_some h
        cases he
        obtain ⟨i, zv, hi, hzv, _, rfl⟩ := zeroC_spec hz
        obtain ⟨cells', hc1, hc2⟩ := fill_sound (γ := γ) (M := M) (fun i => places[i]?) _ _ _ _ zv.cells hf (PRels.of hx rfl) (map_acst_rel γ M zv.cells)
        have hrun := places_run (P := P) fs.toList places hpl w
        refine ⟨.agg cells', ?_, .agg _ _ hc2.1 hc2.2⟩
        have e : (ps.map fun (x : Nat × Operand) => (x.1, ρ x.2)).toList = ps.toList.map fun p => (p.1, ρ p.2) := by simp
        have hm : (fs.mapM (m := Sem) fun f => do pure (f.offset, ← sizeOf f.type)).run P w = .ok places.toArray w := by
          rw [Array.mapM_eq_mapM_toList, Sem.run_map, hrun]
          rfl
        simp only [Instr.build, Sem.run_bind, zeroValue, typeInfo, run_program, Result.andThen_ok, hi, Sem.run_pure, hzv, run_underlying hu, hm]
        have e3 : (fun (i : Nat) => places.toArray[i]?) = fun (i : Nat) => places[i]? := by funext i; simp
        rw [e3, e, hc1]
        rfl
      · cases h
    · cases h
end Go.Am
