/-
  Lifted functions, and facts about them.
-/
import Derived.Test.YtmnkkliibjlefaaDoorRows
import Derived.Test.YtmnkkliibjlefaaDoorAmC
import Derived.Test.YtmnkkliibjlefaaDoorC5BldA
namespace Go.Proofs.YtmnkkliibjlefaaDoor
open Go Go.Am
set_option linter.unusedVariables false
section
open Go.RowKit Go.Lib
/-! ### Their contracts -/
theorem bld_parts {γ : Nat → Option G} {M : Mem} {w : World} {L : Nat → Prop} {obF : Nat → Option AObj} {id : Nat} {T : TypeId} {a : AV} (hO : Objs γ M w obF L) (ho : obF id = some (.bldr T a)) :
    ∃ b v0 v1, γ id = some (.cell b) ∧ w.heap[b]? = some (.cells #[v0, v1] T (0, 0)) ∧ (v0 = .pointer none ∨ v0 = .pointer (some ⟨b, 0, none⟩)) ∧ ARel γ M a v1 ∧ v1.oneCell' = true ∧ (∀ o, M b o = none) := hO.ob id _ ho

/-- copyCheck: the builder is what it was. -/
theorem FnR_cc (a : AV) (rest : List (Nat × AObj)) :
    FnR Tryd.prog 33 [.ref 70000 0] ((70000, .bldr 42 a) :: rest) (70000 :: rest.map (·.1)) (.tup []) ((70000, .bldr 42 a) :: rest) := by
  intro γ M w vs hO hnone hM hvs
  obtain ⟨b, v0, v1, hg, hh, h0, h1, h2, hm⟩ := bld_parts (id := 70000) hO rfl
  cases hvs with
  | cons hx ht =>
    cases ht
    obtain ⟨b', hg', rfl⟩ := hx.ref_inv
    rw [hg] at hg'; cases hg'
    have hb : Handed γ ((70000, .bldr 42 a) :: rest) b := ⟨70000, .cell b, by simp [lookO], hg, rfl⟩
    have hlt : b < w.heap.size := hO.lo 70000 _ b (by simp [lookO]) hg rfl
    have e0 : ([Value.pointer (some ⟨b, 0, none⟩)] : List Value).toArray = #[.pointer (some ⟨b, 0, none⟩)] := rfl
    rcases h0 with rfl | rfl
    · have hc0 : w.cell? ⟨b, 0, none⟩ = some (.pointer none) := by rw [cell_of_row w b 0 _ _ _ hh]; rfl
      refine (cc_fresh b w hc0 (by simp [World.shape?, hh]) (by simp [World.frozen?, hh])).mono fun e w' ⟨he, hw⟩ => ?_
      subst hw
      have hset : (w.setCell ⟨b, 0, none⟩ (.pointer (some ⟨b, 0, none⟩))) = w.setRow b #[.pointer (some ⟨b, 0, none⟩), v1] := by
        rw [setCell_eq_setRow w b 0 _ _ _ _ hh]; rfl
      rw [hset]
      have hoth : ∀ c, c ≠ b → (w.setRow b #[.pointer (some ⟨b, 0, none⟩), v1]).heap[c]? = w.heap[c]? := fun c hc => setRow_other w b c _ hc
      refine ⟨_, γ, M, he, fun i _ g hgi => hgi, MLe.refl M, ?_, .tup _ _ rfl (fun i hi => absurd hi (Nat.not_lt_zero _)), ⟨?_, hO.sep, ?_⟩, ?_, by simp, rfl, rfl, rfl⟩
      · intro c o v hv
        have hc : c ≠ b := fun e => by subst e; rw [hm o] at hv; cases hv
        rw [World.cell?_of_block (w := w) (hoth c hc)]; exact hM c o v hv
      · intro i o hi
        by_cases e : i = 70000
        · subst e
          have : o = .bldr 42 a := by simpa [lookO] using hi.symm
          subst this
          exact ⟨b, _, v1, hg, setRow_heap w b _ _ _ _ hh, .inr rfl, h1, h2, hm⟩
        · refine (hO.ob i o hi).keep (GLe.refl γ) (MLe.refl M) fun g c hgi hgc => ⟨hoth c fun ec => ?_, rfl⟩
          subst ec
          exact e (hO.sep i 70000 g (.cell c) c (by rw [hi]; simp) (by simp [lookO]) hgi hg hgc rfl)
      · intro i g c hi hgi hgc
        have := hO.lo i g c hi hgi hgc
        exact ⟨.inr ⟨i, g, hi, hgi, hgc⟩, by simpa using this⟩
      · intro c hc hno
        exact ⟨hoth c fun e => hno (by rw [e]; exact hb), rfl⟩
    · have hc0 : w.cell? ⟨b, 0, none⟩ = some (.pointer (some ⟨b, 0, none⟩)) := by rw [cell_of_row w b 0 _ _ _ hh]; rfl
      refine (cc_used b w hc0).mono fun e w' ⟨he, hw⟩ => ?_
      subst hw
      exact ⟨_, γ, M, he, fun i _ g hgi => hgi, MLe.refl M, hM, .tup _ _ rfl (fun i hi => absurd hi (Nat.not_lt_zero _)), ⟨hO.ob, hO.sep, fun i g c hi hgi hgc => ⟨.inr ⟨i, g, hi, hgi, hgc⟩, hO.lo i g c hi hgi hgc⟩⟩,
        fun c hc hno => ⟨rfl, rfl⟩, Nat.le_refl _, rfl, rfl, rfl⟩

theorem freeze_cell (w : World) (a : Addr) (n : Nat) (p : Addr) : (w.drew.freeze a n).cell? p = w.cell? p := by
  unfold World.freeze
  split
  · rfl
  · have hd : w.drew.heap = w.heap := rfl
    simp only [World.cell?, Array.getElem?_modify, hd]
    by_cases e : a.block = p.block
    · rw [if_pos e]
      cases hh2 : w.heap[p.block]? with
      | none => rfl
      | some o => cases o <;> rfl
    · rw [if_neg e]
theorem FnR_str_of {γ : Nat → Option G} {M : Mem} {w w' : World} {ib : List (Nat × AObj)} {l : List UInt8} (hM : MOk M w) (hl : l.length ≤ maxLen) (hold : ∀ c, c < w.heap.size → ¬ Handed γ ib c → w'.heap[c]? = w.heap[c]?) (hcell : ∀ c o v, M c o = some v → w'.cell? ⟨c, o, none⟩ = w.cell? ⟨c, o, none⟩)
    (hsz : w.heap.size ≤ w'.heap.size) (h1 : w'.os = w.os) (h2 : w'.tape = w.tape) (h3 : w'.output = w.output) :
    ∃ v γ' M', Ending.returned (.string ⟨l.toArray⟩) = .returned v ∧ (∀ i ∈ ([] : List Nat), ∀ g, γ i = some g → γ' i = some g) ∧ MLe M M' ∧ MOk M' w' ∧ ARel γ' M' (.p (.str l)) v ∧
      Objs γ' M' w' (fun i => lookO i []) (fun b => (w.heap.size ≤ b ∨ Handed γ ib b) ∧ b < w'.heap.size) ∧
      (∀ b, b < w.heap.size → ¬ Handed γ ib b → w'.heap[b]? = w.heap[b]? ∧ M' b = M b) ∧ w.heap.size ≤ w'.heap.size ∧ w'.os = w.os ∧ w'.tape = w.tape ∧ w'.output = w.output :=
  ⟨_, γ, M, rfl, fun i hi => (by cases hi), MLe.refl M, fun c o v hv => (by rw [hcell c o v hv]; exact hM c o v hv), .p _ _ (.str l hl),
    ⟨fun i o hi => (by cases hi), fun i j g g' b hi => absurd rfl hi, fun i g b hi => absurd rfl hi⟩, fun b hb hno => ⟨hold b hb hno, rfl⟩, hsz, h1, h2, h3⟩
theorem below_cell {w w' : World} (hb : Below w.heap.size w w') {M : Mem} (hM : MOk M w) : ∀ c o v, M c o = some v → w'.cell? ⟨c, o, none⟩ = w.cell? ⟨c, o, none⟩ := fun c o v hv => by
  have hc : c < w.heap.size := by
    rcases Nat.lt_or_ge c w.heap.size with h | h
    · exact h
    · have := hM c o v hv
      simp [World.cell?, Array.getElem?_eq_none h] at this
  exact hb.cell (p := ⟨c, o, none⟩) hc

/-- String of a builder with a row. -/
theorem FnR_str (mu : Bool) (l : List UInt8) :
    FnR Tryd.prog 25 [.ref 70000 0] [(70000, .bldr 42 (.arr 70001)), (70001, .barr 5 mu l)] [] (.p (.str l)) [] := by
  intro γ M w vs hO hnone hM hvs
  obtain ⟨b, v0, v1, hg, hh, h0, h1, h2, hm⟩ := bld_parts (id := 70000) hO rfl
  obtain ⟨a, cap, hg1, hA⟩ := hO.ob 70001 (.barr 5 mu l) rfl
  cases hvs with
  | cons hx ht =>
    cases ht
    obtain ⟨b', hg', rfl⟩ := hx.ref_inv
    rw [hg] at hg'; cases hg'
    obtain ⟨a', k', n', cap', hg1', rfl⟩ := h1.arr_inv
    rw [hg1] at hg1'; cases hg1'
    cases a with
    | none =>
      obtain ⟨hl, rfl⟩ := hA.none
      have : l = [] := List.eq_nil_of_length_eq_zero hl
      subst this
      refine (bs_nil b v0 w hh).mono fun e w' ⟨he, hb⟩ => ?_
      rw [he]
      exact FnR_str_of hM (by simp) (fun c hc _ => hb.block c hc) (below_cell hb hM) hb.size hb.os hb.tape hb.output
    | some g =>
      rcases hA.own.2 with ⟨hv, _⟩ | ⟨g', cap', cur, hv, _, hgh, hnc, hcm, hcs, htake⟩
      · simp [arrV] at hv
      · simp only [arrV, Option.map_some, Value.slice.injEq, Option.some.injEq, Addr.mk.injEq, and_true, true_and] at hv
        obtain ⟨rfl, rfl⟩ := hv
        have hne : g ≠ b := fun e => by
          subst e
          have := hO.sep 70000 70001 _ _ g (by simp [lookO]) (by simp [lookO]) hg hg1 rfl rfl
          cases this
        have hbg : Handed γ [(70000, .bldr 42 (.arr 70001)), (70001, .barr 5 mu l)] g := ⟨70001, _, by simp [lookO], hg1, rfl⟩
        by_cases hl : l = []
        · subst hl
          by_cases hc0 : cap = 0
          · subst hc0
            refine (bs_noroom b g v0 cur w hh hgh).mono fun e w' ⟨he, hb⟩ => ?_
            rw [he]
            exact FnR_str_of hM (by simp) (fun c hc _ => hb.block c hc) (below_cell hb hM) hb.size hb.os hb.tape hb.output
          · refine (bs_room b g cap v0 w hc0 hh).mono fun e w' ⟨he, hb⟩ => ?_
            rw [he]
            exact FnR_str_of hM (by simp) (fun c hc _ => hb.block c hc) (below_cell hb hM) hb.size hb.os hb.tape hb.output
        · refine (bs_row b g cap v0 cur l w hl hh hgh hnc hcm (by simpa using hcs) fun i c hc => ?_).mono fun e w' ⟨he, hw⟩ => ?_
          · exact hA.cell i _ (by rw [List.getElem?_map, hc]; rfl)
          · subst hw
            rw [he]
            have hoth : ∀ c, c ≠ g → (w.drew.freeze ⟨g, 0, none⟩ l.length).heap[c]? = w.heap[c]? := fun c hc => by
              unfold World.freeze
              split
              · rfl
              · simp only [Array.getElem?_modify]; rw [if_neg (fun e => hc e.symm)]; rfl
            refine FnR_str_of hM hA.len (fun c hc hno => hoth c fun e => hno (by rw [e]; exact hbg)) (fun c o v hv => freeze_cell _ _ _ _) ?_ ?_ ?_ ?_
            · unfold World.freeze; split
              · exact Nat.le_refl _
              · simp only [Array.size_modify]; exact Nat.le_refl _
            · unfold World.freeze; split <;> rfl
            · unfold World.freeze; split <;> rfl
            · unfold World.freeze; split <;> rfl
theorem FnR_str0 : FnR Tryd.prog 25 [.ref 70000 0] [(70000, .bldr 42 (.p .nil))] [] (.p (.str [])) [] := by
  intro γ M w vs hO hnone hM hvs
  obtain ⟨b, v0, v1, hg, hh, h0, h1, h2, hm⟩ := bld_parts (id := 70000) hO rfl
  cases hvs with
  | cons hx ht =>
    cases ht
    obtain ⟨b', hg', rfl⟩ := hx.ref_inv
    rw [hg] at hg'; cases hg'
    cases h1.p_inv
    refine (bs_nil b v0 w hh).mono fun e w' ⟨he, hb⟩ => ?_
    rw [he]
    exact FnR_str_of hM (by simp) (fun c hc _ => hb.block c hc) (below_cell hb hM) hb.size hb.os hb.tape hb.output

def sp_bcc : RSpec := ⟨[false], fun args ib => match args, ib with
  | [.ref 70000 0], [(70000, .bldr 42 (.arr 70001)), (70001, .barr 5 mu l)] => some (([70000, 70001], .tup []), ([(70000, .bldr 42 (.arr 70001)), (70001, .barr 5 mu l)], none))
  | [.ref 70000 0], [(70000, .bldr 42 (.p .nil))] => some (([70000], .tup []), ([(70000, .bldr 42 (.p .nil))], none))
  | _, _ => none⟩
theorem ok_bcc : SpecROk Tryd.prog 33 sp_bcc := by
  intro args ib kept r outs ok he hok
  simp only [sp_bcc] at he
  split at he
  · cases he; exact ⟨by kernel_rfl, FnR_cc _ _⟩
  · cases he; exact ⟨by kernel_rfl, FnR_cc _ []⟩
  · cases he
def sp_bstr : RSpec := ⟨[false], fun args ib => match args, ib with
  | [.ref 70000 0], [(70000, .bldr 42 (.arr 70001)), (70001, .barr 5 mu l)] => some (([], .p (.str l)), ([], none))
  | [.ref 70000 0], [(70000, .bldr 42 (.p .nil))] => some (([], .p (.str [])), ([], none))
  | _, _ => none⟩
theorem ok_bstr : SpecROk Tryd.prog 25 sp_bstr := by
  intro args ib kept r outs ok he hok
  simp only [sp_bstr] at he
  split at he
  · cases he; exact ⟨by kernel_rfl, FnR_str _ _⟩
  · cases he; exact ⟨by kernel_rfl, FnR_str0⟩
  · cases he
end
end Go.Proofs.YtmnkkliibjlefaaDoor
