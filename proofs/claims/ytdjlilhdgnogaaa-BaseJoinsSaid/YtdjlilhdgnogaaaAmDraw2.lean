/-
  The abstract machine of these proofs.
-/
import Derived.Test.YtdjlilhdgnogaaaAmDraw
set_option linter.unusedVariables false
/-! Which objects an operation looks at: those that its arguments name. -/
namespace Go.Am
open Go Go.RowKit
variable {P : Program} {γ γ' : Nat → Option G} {M M' : Mem} {C : Ctx} {s s' : S} {a a' : Act} {w w' : World}

/-- What is known of the objects that have a ghost is known there too. -/
def RLe (γ : Nat → Option G) (ob ob' : Nat → Option AObj) : Prop := ∀ i, γ i ≠ none → ∀ o, ob i = some o → ob' i = some o

theorem ARels.head {x : AV} {xs : List AV} {vs : List Value} (h : ARels γ M (x :: xs) vs) : ∃ v, ARel γ M x v := by cases h with | cons h _ => exact ⟨_, h⟩
theorem ARels.tail {x : AV} {xs : List AV} {vs : List Value} (h : ARels γ M (x :: xs) vs) : ∃ vs', ARels γ M xs vs' := by cases h with | cons _ h => exact ⟨_, h⟩
theorem named_ref {id off : Nat} {v : Value} (h : ARel γ M (.ref id off) v) : γ id ≠ none := by obtain ⟨b, hb, _⟩ := h.ref_inv; rw [hb]; simp
theorem named_arr {id : Nat} {v : Value} (h : ARel γ M (.arr id) v) : γ id ≠ none := by obtain ⟨_, _, _, _, hb, _⟩ := h.arr_inv; rw [hb]; simp
theorem named_aptr {id i j : Nat} {v : Value} (h : ARel γ M (.aptr id i j) v) : γ id ≠ none := by obtain ⟨_, _, _, _, hb, _⟩ := h.aptr_inv; rw [hb]; simp

theorem snap1_monoR {ob ob' : Nat → Option AObj} (h : RLe γ ob ob') {x z : AV} {v : Value} (hx : ARel γ M x v) (hs : snap1 ob x = some z) : snap1 ob' x = some z := by
  cases x with
  | arr id =>
    dsimp only [snap1] at hs ⊢
    cases ho : ob id with
    | none => rw [ho] at hs; cases hs
    | some o => rw [ho] at hs; rw [h id (named_arr hx) o ho]; exact hs
  | _ => exact hs

theorem allSome_monoR {α β : Type} {f g : α → Option β} {q : α → Prop} (h : ∀ x y, q x → f x = some y → g x = some y) : ∀ {l : List α} {r : List β}, (∀ x ∈ l, q x) → allSome f l = some r → allSome g l = some r := by
  intro l
  induction l with
  | nil => intro r _ hr; exact hr
  | cons x l ih =>
    intro r hq hr
    simp only [allSome] at hr ⊢
    cases hx : f x with
    | none => rw [hx] at hr; cases hr
    | some y =>
      cases hl : allSome f l with
      | none => rw [hx, hl] at hr; cases hr
      | some ys => rw [hx, hl] at hr; rw [h x y (hq x (by simp)) hx, ih (fun z hz => hq z (by simp [hz])) hl]; exact hr

theorem rel_mem {xs : List AV} {vs : List Value} (h : ARels γ M xs vs) : ∀ x ∈ xs, ∃ v, ARel γ M x v := by
  induction h with
  | nil => intro x hx; cases hx
  | cons h _ ih =>
    intro x hx
    rcases List.mem_cons.1 hx with e | e
    · rw [e]; exact ⟨_, h⟩
    · exact ih x e
theorem rel_getD {cs : List AV} {p : Nat → Value} (h : ∀ i, i < cs.length → ARel γ M (cs.getD i .any) (p i)) : ∀ x ∈ cs, ∃ v, ARel γ M x v := by
  intro x hx
  obtain ⟨i, hi, rfl⟩ := List.mem_iff_getElem.1 hx
  have := h i hi
  rw [List.getD_eq_getElem?_getD, List.getElem?_eq_getElem hi] at this
  exact ⟨_, this⟩

theorem snap_monoR {ob ob' : Nat → Option AObj} (h : RLe γ ob ob') {x z : AV} {v : Value} (hx : ARel γ M x v) (hs : snap ob x = some z) : snap ob' x = some z := by
  cases x with
  | agg cs =>
    obtain ⟨zs, hz, he⟩ := map_some hs
    cases he
    obtain ⟨vs, rfl, hsz, hr⟩ := hx.agg_inv
    show (allSome (snap1 ob') cs).map AV.agg = _
    rw [allSome_monoR (q := fun x => ∃ v, ARel γ M x v) (fun x y ⟨v, hv⟩ => snap1_monoR h hv) (rel_getD hr) hz]; rfl
  | clo fn fs cs =>
    cases fs with
    | nil => cases cs with
      | nil => exact hs
      | cons _ _ => cases hs
    | cons _ _ => cases hs
  | any => exact snap1_monoR h (x := .any) hx hs
  | p q => exact snap1_monoR h (x := .p q) hx hs
  | ref i j => exact snap1_monoR h (x := .ref i j) hx hs
  | arr i => exact snap1_monoR h (x := .arr i) hx hs
  | aptr i j k => exact snap1_monoR h (x := .aptr i j k) hx hs
  | tup l => exact snap1_monoR h (x := .tup l) hx hs
  | gd c y => exact snap1_monoR h (x := .gd c y) hx hs

theorem evL_monoR {ob ob' : Nat → Option AObj} (h : RLe γ ob ob') {op : Op} {xs : List AV} {vs : List Value} (hx : ARels γ M xs vs) {r : AV × Option Prop} (he : evL P ob op xs = some r) : evL P ob' op xs = some r := by
  cases op <;> simp only [evL, reduceCtorEq] at he ⊢
  case load t x =>
    unfold evLoad at he ⊢
    split at he
    · rename_i id off
      obtain ⟨v, hv⟩ := hx.head
      cases ho : ob id with
      | none => rw [ho] at he; cases he
      | some o => rw [ho] at he; rw [h id (named_ref hv) o ho]; exact he
    · exact he
    · rename_i id i j
      obtain ⟨v, hv⟩ := hx.head
      cases ho : ob id with
      | none => rw [ho] at he; cases he
      | some o => rw [ho] at he; rw [h id (named_aptr hv) o ho]; exact he
    · cases he
  case indexAddr t x i =>
    unfold evIndexAddrL at he ⊢
    split at he
    · rename_i id kk i'
      obtain ⟨v, hv⟩ := hx.head
      cases ho : ob id with
      | none => rw [ho] at he; revert he; cases elemSize P t <;> intro he <;> cases he
      | some o => rw [ho] at he; rw [h id (named_arr hv) o ho]; exact he
    · cases he
  case convert sT d x =>
    unfold evConvL at he ⊢
    split at he
    · rename_i id
      obtain ⟨v, hv⟩ := hx.head
      cases ho : ob id with
      | none => rw [ho] at he; cases he
      | some o => rw [ho] at he; rw [h id (named_arr hv) o ho]; exact he
    · exact he
    · exact he
    · cases he
  case call c =>
    obtain ⟨callee, args, ts⟩ := c
    cases callee with
    | value f => cases he
    | invoke r m => cases he
    | builtin b =>
      cases b <;> dsimp only at he ⊢ <;> first | (cases he; done) | skip
      cases hts : ts[0]? with
      | none => rw [hts] at he; cases he
      | some t =>
        rw [hts] at he
        dsimp only at he ⊢
        unfold evLenL at he ⊢
        split at he
        · rename_i id
          obtain ⟨v, hv⟩ := hx.head
          cases ho : ob id with
          | none => rw [ho] at he; cases he
          | some o => rw [ho] at he; rw [h id (named_arr hv) o ho]; exact he
        · cases he

theorem evC_monoR {env : Env} {ob ob' : Nat → Option AObj} (h : RLe γ ob ob') {op : Op} {xs : List AV} {vs : List Value} (hx : ARels γ M xs vs) {r : AV × Option Prop} (he : evC env ob op xs = some r) : evC env ob' op xs = some r := by
  unfold evC at he ⊢
  split at he
  · split at he
    · rename_i f fs cs ys
      have hall : ∀ x ∈ fs ++ (ys ++ cs), ∃ v, ARel γ M x v := by
        obtain ⟨v, hv⟩ := hx.head
        obtain ⟨vs', ht⟩ := hx.tail
        cases hv with
        | clo _ _ _ vf vc hf hc g1 g2 =>
          intro x hx
          rcases List.mem_append.1 hx with h1 | h1
          · exact rel_getD g1 x h1
          · rcases List.mem_append.1 h1 with h2 | h2
            · exact rel_mem ht x h2
            · exact rel_getD g2 x h2
      cases hz : allSome (snap ob) (fs ++ (ys ++ cs)) with
      | none => rw [hz] at he; cases he
      | some zs => rw [hz] at he; rw [allSome_monoR (q := fun x => ∃ v, ARel γ M x v) (fun x y ⟨v, hv⟩ => snap_monoR h hv) hall hz]; exact he
    · cases he
  · cases he

theorem evV_monoR {env : Env} {ob ob' : Nat → Option AObj} (h : RLe γ ob ob') {op : Op} {xs : List AV} {vs : List Value} (hx : ARels γ M xs vs) {r : AV × Option Prop} (he : evV P env ob op xs = some r) : evV P env ob' op xs = some r := by
  unfold evV at he ⊢
  cases h1 : evP P op xs with
  | some q => rw [h1] at he; exact he
  | none =>
    rw [h1] at he
    dsimp only at he ⊢
    cases h2 : evL P ob op xs with
    | some q => rw [h2] at he; rw [evL_monoR h hx h2]; exact he
    | none =>
      rw [h2] at he
      dsimp only at he
      split at he
      · rename_i t ps
        have : evL P ob' (.build t ps) xs = none := rfl
        rw [this]; exact he
      · rename_i hne
        have hc : ∃ f args ts, op = .call ⟨.value f, args, ts⟩ := by
          unfold evC at he
          split at he
          · exact ⟨_, _, _, rfl⟩
          · cases he
        obtain ⟨f, args, ts, rfl⟩ := hc
        have : evL P ob' (.call ⟨.value f, args, ts⟩) xs = none := rfl
        rw [this]
        exact evC_monoR h hx he
end Go.Am
