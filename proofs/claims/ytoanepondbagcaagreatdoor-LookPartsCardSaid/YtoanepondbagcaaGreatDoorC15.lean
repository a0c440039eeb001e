/-
  Lifted functions, and facts about them.
-/
import Derived.Test.YtoanepondbagcaaGreatDoorRows
import Derived.Test.YtoanepondbagcaaGreatDoorAmC
import Derived.Test.YtoanepondbagcaaGreatDoorC14
import Derived.Lib.MakeNoZero
import Derived.Laws.IdiomCopy
namespace Go.Proofs.YtoanepondbagcaaGreatDoor
open Go Go.Am
set_option linter.unusedVariables false
section
open Go.RowKit Go.Lib
/-! ### Their contracts -/
theorem bld_parts {γ : Nat → Option G} {M : Mem} {w : World} {L : Nat → Prop} {obF : Nat → Option AObj} {id : Nat} {T : TypeId} {a : AV} (hO : Objs γ M w obF L) (ho : obF id = some (.bldr T a)) :
    ∃ b v0 v1, γ id = some (.cell b) ∧ w.heap[b]? = some (.cells #[v0, v1] T (0, 0)) ∧ (v0 = .pointer none ∨ v0 = .pointer (some ⟨b, 0, none⟩)) ∧ ARel γ M a v1 ∧ v1.oneCell' = true ∧ (∀ o, M b o = none) := hO.ob id _ ho

/-- copyCheck: the builder is what it was. -/
theorem FnR_cc (a : AV) (rest : List (Nat × AObj)) :
    FnR Tryz.prog 80 [.ref 70000 0] ((70000, .bldr 61 a) :: rest) (70000 :: rest.map (·.1)) (.tup []) ((70000, .bldr 61 a) :: rest) := by
  intro γ M w vs hO hnone hM hvs
  obtain ⟨b, v0, v1, hg, hh, h0, h1, h2, hm⟩ := bld_parts (id := 70000) hO rfl
  cases hvs with
  | cons hx ht =>
    cases ht
    obtain ⟨b', hg', rfl⟩ := hx.ref_inv
    rw [hg] at hg'; cases hg'
    have hb : Go.Am.Handed γ ((70000, .bldr 61 a) :: rest) b := ⟨70000, .cell b, by simp [lookO], hg, rfl⟩
    have hlt : b < w.heap.size := hO.lo 70000 _ b (by simp [lookO]) hg rfl
    have e0 : ([Value.pointer (some ⟨b, 0, none⟩)] : List Value).toArray = #[.pointer (some ⟨b, 0, none⟩)] := rfl
    rcases h0 with rfl | rfl
    · have hc0 : w.cell? ⟨b, 0, none⟩ = some (.pointer none) := by rw [cell_of_row w b 0 _ _ _ hh]; rfl
      refine (cc_fresh b w hc0 (by simp [World.shape?, hh]) (by simp [World.frozen?, hh])).mono fun e w' ⟨he, hw⟩ => ?_
      subst hw
      have hset : (w.setCell ⟨b, 0, none⟩ (.pointer (some ⟨b, 0, none⟩))) = w.setRow b #[.pointer (some ⟨b, 0, none⟩), v1] := by
        rw [setCell_eq_setRow w b 0 _ _ _ _ hh]; rfl
      rw [hset]
      have hoth : ∀ c, c ≠ b → (w.setRow b #[.pointer (some ⟨b, 0, none⟩), v1]).heap[c]? = w.heap[c]? := fun c hc => setRow_other w b c _ hc
      refine ⟨_, γ, M, he, fun i _ g hgi => hgi, MLe.refl M, ?_, .tup _ _ rfl (fun i hi => absurd hi (Nat.not_lt_zero _)), ⟨?_, hO.sep, ?_⟩, ?_, by simp, rfl, rfl, rfl⟩
      · intro c o v hv
        have hc : c ≠ b := fun e => by subst e; rw [hm o] at hv; cases hv
        rw [World.cell?_of_block (w := w) (hoth c hc)]; exact hM c o v hv
      · intro i o hi
        by_cases e : i = 70000
        · subst e
          have : o = .bldr 61 a := by simpa [lookO] using hi.symm
          subst this
          exact ⟨b, _, v1, hg, setRow_heap w b _ _ _ _ hh, .inr rfl, h1, h2, hm⟩
        · refine (hO.ob i o hi).keep (GLe.refl γ) (MLe.refl M) fun g c hgi hgc => ⟨hoth c fun ec => ?_, rfl⟩
          subst ec
          exact e (hO.sep i 70000 g (.cell c) c (by rw [hi]; simp) (by simp [lookO]) hgi hg hgc rfl)
      · intro i g c hi hgi hgc
        have := hO.lo i g c hi hgi hgc
        exact ⟨.inr ⟨i, g, hi, hgi, hgc⟩, by simpa using this⟩
      · intro c hc hno
        exact ⟨hoth c fun e => hno (by rw [e]; exact hb), rfl⟩
    · have hc0 : w.cell? ⟨b, 0, none⟩ = some (.pointer (some ⟨b, 0, none⟩)) := by rw [cell_of_row w b 0 _ _ _ hh]; rfl
      refine (cc_used b w hc0).mono fun e w' ⟨he, hw⟩ => ?_
      subst hw
      exact ⟨_, γ, M, he, fun i _ g hgi => hgi, MLe.refl M, hM, .tup _ _ rfl (fun i hi => absurd hi (Nat.not_lt_zero _)), ⟨hO.ob, hO.sep, fun i g c hi hgi hgc => ⟨.inr ⟨i, g, hi, hgi, hgc⟩, hO.lo i g c hi hgi hgc⟩⟩,
        fun c hc hno => ⟨rfl, rfl⟩, Nat.le_refl _, rfl, rfl, rfl⟩

theorem freeze_cell (w : World) (a : Addr) (n : Nat) (p : Addr) : (w.drew.freeze a n).cell? p = w.cell? p := by
  unfold World.freeze
  split
  · rfl
  · have hd : w.drew.heap = w.heap := rfl
    simp only [World.cell?, Array.getElem?_modify, hd]
    by_cases e : a.block = p.block
    · rw [if_pos e]
      cases hh2 : w.heap[p.block]? with
      | none => rfl
      | some o => cases o <;> rfl
    · rw [if_neg e]
theorem FnR_str_of {γ : Nat → Option G} {M : Mem} {w w' : World} {ib : List (Nat × AObj)} {l : List UInt8} (hM : MOk M w) (hl : l.length ≤ maxLen) (hold : ∀ c, c < w.heap.size → ¬ Go.Am.Handed γ ib c → w'.heap[c]? = w.heap[c]?) (hcell : ∀ c o v, M c o = some v → w'.cell? ⟨c, o, none⟩ = w.cell? ⟨c, o, none⟩)
    (hsz : w.heap.size ≤ w'.heap.size) (h1 : w'.os = w.os) (h2 : w'.tape = w.tape) (h3 : w'.output = w.output) :
    ∃ v γ' M', Ending.returned (.string ⟨l.toArray⟩) = .returned v ∧ (∀ i ∈ ([] : List Nat), ∀ g, γ i = some g → γ' i = some g) ∧ MLe M M' ∧ MOk M' w' ∧ ARel γ' M' (.p (.str l)) v ∧
      Objs γ' M' w' (fun i => lookO i []) (fun b => (w.heap.size ≤ b ∨ Go.Am.Handed γ ib b) ∧ b < w'.heap.size) ∧
      (∀ b, b < w.heap.size → ¬ Go.Am.Handed γ ib b → w'.heap[b]? = w.heap[b]? ∧ M' b = M b) ∧ w.heap.size ≤ w'.heap.size ∧ w'.os = w.os ∧ w'.tape = w.tape ∧ w'.output = w.output :=
  ⟨_, γ, M, rfl, fun i hi => (by cases hi), MLe.refl M, fun c o v hv => (by rw [hcell c o v hv]; exact hM c o v hv), .p _ _ (.str l hl),
    ⟨fun i o hi => (by cases hi), fun i j g g' b hi => absurd rfl hi, fun i g b hi => absurd rfl hi⟩, fun b hb hno => ⟨hold b hb hno, rfl⟩, hsz, h1, h2, h3⟩
theorem below_cell {w w' : World} (hb : Below w.heap.size w w') {M : Mem} (hM : MOk M w) : ∀ c o v, M c o = some v → w'.cell? ⟨c, o, none⟩ = w.cell? ⟨c, o, none⟩ := fun c o v hv => by
  have hc : c < w.heap.size := by
    rcases Nat.lt_or_ge c w.heap.size with h | h
    · exact h
    · have := hM c o v hv
      simp [World.cell?, Array.getElem?_eq_none h] at this
  exact hb.cell (p := ⟨c, o, none⟩) hc

/-- String of a builder with a row. -/
theorem FnR_str (mu : Bool) (l : List UInt8) :
    FnR Tryz.prog 51 [.ref 70000 0] [(70000, .bldr 61 (.arr 70001)), (70001, .barr 5 mu l)] [] (.p (.str l)) [] := by
  intro γ M w vs hO hnone hM hvs
  obtain ⟨b, v0, v1, hg, hh, h0, h1, h2, hm⟩ := bld_parts (id := 70000) hO rfl
  obtain ⟨a, cap, hg1, hA⟩ := hO.ob 70001 (.barr 5 mu l) rfl
  cases hvs with
  | cons hx ht =>
    cases ht
    obtain ⟨b', hg', rfl⟩ := hx.ref_inv
    rw [hg] at hg'; cases hg'
    obtain ⟨a', k', n', cap', hg1', rfl⟩ := h1.arr_inv
    rw [hg1] at hg1'; cases hg1'
    cases a with
    | none =>
      obtain ⟨hl, rfl⟩ := hA.none
      have : l = [] := List.eq_nil_of_length_eq_zero hl
      subst this
      refine (bs_nil b v0 w hh).mono fun e w' ⟨he, hb⟩ => ?_
      rw [he]
      exact FnR_str_of hM (by simp) (fun c hc _ => hb.block c hc) (below_cell hb hM) hb.size hb.os hb.tape hb.output
    | some g =>
      rcases hA.own.2 with ⟨hv, _⟩ | ⟨g', cap', cur, hv, _, hgh, hnc, hcm, hcs, htake⟩
      · simp [arrV] at hv
      · simp only [arrV, Option.map_some, Value.slice.injEq, Option.some.injEq, Addr.mk.injEq, and_true, true_and] at hv
        obtain ⟨rfl, rfl⟩ := hv
        have hne : g ≠ b := fun e => by
          subst e
          have := hO.sep 70000 70001 _ _ g (by simp [lookO]) (by simp [lookO]) hg hg1 rfl rfl
          cases this
        have hbg : Go.Am.Handed γ [(70000, .bldr 61 (.arr 70001)), (70001, .barr 5 mu l)] g := ⟨70001, _, by simp [lookO], hg1, rfl⟩
        by_cases hl : l = []
        · subst hl
          by_cases hc0 : cap = 0
          · subst hc0
            refine (bs_noroom b g v0 cur w hh hgh).mono fun e w' ⟨he, hb⟩ => ?_
            rw [he]
            exact FnR_str_of hM (by simp) (fun c hc _ => hb.block c hc) (below_cell hb hM) hb.size hb.os hb.tape hb.output
          · refine (bs_room b g cap v0 w hc0 hh).mono fun e w' ⟨he, hb⟩ => ?_
            rw [he]
            exact FnR_str_of hM (by simp) (fun c hc _ => hb.block c hc) (below_cell hb hM) hb.size hb.os hb.tape hb.output
        · refine (bs_row b g cap v0 cur l w hl hh hgh hnc hcm (by simpa using hcs) fun i c hc => ?_).mono fun e w' ⟨he, hw⟩ => ?_
          · exact hA.cell i _ (by rw [List.getElem?_map, hc]; rfl)
          · subst hw
            rw [he]
            have hoth : ∀ c, c ≠ g → (w.drew.freeze ⟨g, 0, none⟩ l.length).heap[c]? = w.heap[c]? := fun c hc => by
              unfold World.freeze
              split
              · rfl
              · simp only [Array.getElem?_modify]; rw [if_neg (fun e => hc e.symm)]; rfl
            refine FnR_str_of hM hA.len (fun c hc hno => hoth c fun e => hno (by rw [e]; exact hbg)) (fun c o v hv => freeze_cell _ _ _ _) ?_ ?_ ?_ ?_
            · unfold World.freeze; split
              · exact Nat.le_refl _
              · simp only [Array.size_modify]; exact Nat.le_refl _
            · unfold World.freeze; split <;> rfl
            · unfold World.freeze; split <;> rfl
            · unfold World.freeze; split <;> rfl
theorem FnR_str0 : FnR Tryz.prog 51 [.ref 70000 0] [(70000, .bldr 61 (.p .nil))] [] (.p (.str [])) [] := by
  intro γ M w vs hO hnone hM hvs
  obtain ⟨b, v0, v1, hg, hh, h0, h1, h2, hm⟩ := bld_parts (id := 70000) hO rfl
  cases hvs with
  | cons hx ht =>
    cases ht
    obtain ⟨b', hg', rfl⟩ := hx.ref_inv
    rw [hg] at hg'; cases hg'
    cases h1.p_inv
    refine (bs_nil b v0 w hh).mono fun e w' ⟨he, hb⟩ => ?_
    rw [he]
    exact FnR_str_of hM (by simp) (fun c hc _ => hb.block c hc) (below_cell hb hM) hb.size hb.os hb.tape hb.output

def sp_bcc : RSpec := ⟨[false], fun args ib => match args, ib with
  | [.ref 70000 0], [(70000, .bldr 61 (.arr 70001)), (70001, .barr 5 mu l)] => some (([70000, 70001], .tup []), ([(70000, .bldr 61 (.arr 70001)), (70001, .barr 5 mu l)], none))
  | [.ref 70000 0], [(70000, .bldr 61 (.p .nil))] => some (([70000], .tup []), ([(70000, .bldr 61 (.p .nil))], none))
  | _, _ => none⟩
theorem ok_bcc : SpecROk Tryz.prog 80 sp_bcc := by
  intro args ib kept r outs ok he hok
  simp only [sp_bcc] at he
  split at he
  · cases he; exact ⟨by kernel_rfl, FnR_cc _ _⟩
  · cases he; exact ⟨by kernel_rfl, FnR_cc _ []⟩
  · cases he
def sp_bstr : RSpec := ⟨[false], fun args ib => match args, ib with
  | [.ref 70000 0], [(70000, .bldr 61 (.arr 70001)), (70001, .barr 5 mu l)] => some (([], .p (.str l)), ([], none))
  | [.ref 70000 0], [(70000, .bldr 61 (.p .nil))] => some (([], .p (.str [])), ([], none))
  | _, _ => none⟩
theorem ok_bstr : SpecROk Tryz.prog 51 sp_bstr := by
  intro args ib kept r outs ok he hok
  simp only [sp_bstr] at he
  split at he
  · cases he; exact ⟨by kernel_rfl, FnR_str _ _⟩
  · cases he; exact ⟨by kernel_rfl, FnR_str0⟩
  · cases he
end
end Go.Proofs.YtoanepondbagcaaGreatDoor
namespace Go.Proofs.YtoanepondbagcaaGreatDoor
open Go Go.Am
set_option linter.unusedVariables false

noncomputable def Gwsr : Cfg := ⟨Tryz.prog, mkEnv [], mkEnvR [(80, sp_bcc)], 19, [70000], [], [([0, 1], [1])]⟩

noncomputable def Fwsr (F : Nat) (s l : List UInt8) : Option Ans := runFR Gwsr Tryz.f48 ⟨[4, 5], [⟨.fix 70000, 70000, .cells []⟩, ⟨.cell 70000 1, 70001001, (.barr 5 false [])⟩]⟩ [70000, 70001001] F [.ref 70000 0, .p (.str s)] [(70000, .bldr 61 (.arr 70001)), (70001, .barr 5 false l)]

theorem Fwsr_eq (F : Nat) (s l : List UInt8) : Fwsr F s l = need ((l.length + s.length) * 1 ≤ 140737488355328) (some (.tup [.p (.int .i64 (s.length : Int)), .p (.plain .nilIface)], [(70000, .bldr 61 (.arr 70001001)), (70001001, .barr 5 false (l ++ s))])) := by kernel_rfl

theorem fn_wsr (F : Nat) (s l : List UInt8) (r : AV) (os : List (Nat × AObj)) (h : (∃ γ M w vs, ARels γ M [.ref 70000 0, .p (.str s)] vs ∧ Objs γ M w (fun i => lookO i [(70000, .bldr 61 (.arr 70001)), (70001, .barr 5 false l)]) (fun b => b < w.heap.size)) → Fwsr F s l = some (r, os)) : FnR Tryz.prog 48 [.ref 70000 0, .p (.str s)] [(70000, .bldr 61 (.arr 70001)), (70001, .barr 5 false l)] [70000] r os :=
  FnR_run Gwsr ⟨[4, 5], [⟨.fix 70000, 70000, .cells []⟩, ⟨.cell 70000 1, 70001001, (.barr 5 false [])⟩]⟩ [70000, 70001001] F rfl (EnvOk_mk (l := []) trivial) (EnvROk_mk (l := [(80, sp_bcc)]) ⟨ok_bcc, trivial⟩) (Checked.mixed Tryz.checked) (fn := Tryz.f48) (by kernel_rfl) (by kernel_rfl) rfl h


noncomputable def Gwsn : Cfg := ⟨Tryz.prog, mkEnv [], mkEnvR [(80, sp_bcc)], 19, [70000], [], [([0, 1], [1])]⟩

noncomputable def Fwsn (F : Nat) (s : List UInt8) : Option Ans := runFR Gwsn Tryz.f48 ⟨[4, 5], [⟨.fix 70000, 70000, .cells []⟩, ⟨.cell 70000 1, 70001001, (.barr 5 false [])⟩]⟩ [70000, 70001001] F [.ref 70000 0, .p (.str s)] [(70000, .bldr 61 (.p .nil))]

theorem Fwsn_eq (F : Nat) (s : List UInt8) : Fwsn F s = need (s.length * 1 ≤ 140737488355328) (some (.tup [.p (.int .i64 (s.length : Int)), .p (.plain .nilIface)], [(70000, .bldr 61 (.arr 70001001)), (70001001, .barr 5 false s)])) := by kernel_rfl

theorem fn_wsn (F : Nat) (s : List UInt8) (r : AV) (os : List (Nat × AObj)) (h : (∃ γ M w vs, ARels γ M [.ref 70000 0, .p (.str s)] vs ∧ Objs γ M w (fun i => lookO i [(70000, .bldr 61 (.p .nil))]) (fun b => b < w.heap.size)) → Fwsn F s = some (r, os)) : FnR Tryz.prog 48 [.ref 70000 0, .p (.str s)] [(70000, .bldr 61 (.p .nil))] [70000] r os :=
  FnR_run Gwsn ⟨[4, 5], [⟨.fix 70000, 70000, .cells []⟩, ⟨.cell 70000 1, 70001001, (.barr 5 false [])⟩]⟩ [70000, 70001001] F rfl (EnvOk_mk (l := []) trivial) (EnvROk_mk (l := [(80, sp_bcc)]) ⟨ok_bcc, trivial⟩) (Checked.mixed Tryz.checked) (fn := Tryz.f48) (by kernel_rfl) (by kernel_rfl) rfl h


noncomputable def Gwbr : Cfg := ⟨Tryz.prog, mkEnv [], mkEnvR [(80, sp_bcc)], 17, [70000], [], [([0, 1], [1])]⟩

noncomputable def Fwbr (F : Nat) (c : Int) (l : List UInt8) : Option Ans := runFR Gwbr Tryz.f65 ⟨[4], [⟨.fix 70000, 70000, .cells []⟩, ⟨.cell 70000 1, 70001001, (.barr 5 false [])⟩]⟩ [70000, 70001001] F [.ref 70000 0, .p (.int .u8 c)] [(70000, .bldr 61 (.arr 70001)), (70001, .barr 5 false l)]

theorem Fwbr_eq (F : Nat) (c : Int) (l : List UInt8) : Fwbr F c l = need ((l.length + [UInt8.ofNat (c).toNat].length) * 1 ≤ 140737488355328) (some (.p (.plain .nilIface), [(70000, .bldr 61 (.arr 70001001)), (70001001, .barr 5 false (l ++ [UInt8.ofNat (c).toNat]))])) := by kernel_rfl

theorem fn_wbr (F : Nat) (c : Int) (l : List UInt8) (r : AV) (os : List (Nat × AObj)) (h : (∃ γ M w vs, ARels γ M [.ref 70000 0, .p (.int .u8 c)] vs ∧ Objs γ M w (fun i => lookO i [(70000, .bldr 61 (.arr 70001)), (70001, .barr 5 false l)]) (fun b => b < w.heap.size)) → Fwbr F c l = some (r, os)) : FnR Tryz.prog 65 [.ref 70000 0, .p (.int .u8 c)] [(70000, .bldr 61 (.arr 70001)), (70001, .barr 5 false l)] [70000] r os :=
  FnR_run Gwbr ⟨[4], [⟨.fix 70000, 70000, .cells []⟩, ⟨.cell 70000 1, 70001001, (.barr 5 false [])⟩]⟩ [70000, 70001001] F rfl (EnvOk_mk (l := []) trivial) (EnvROk_mk (l := [(80, sp_bcc)]) ⟨ok_bcc, trivial⟩) (Checked.mixed Tryz.checked) (fn := Tryz.f65) (by kernel_rfl) (by kernel_rfl) rfl h


noncomputable def Gwbn : Cfg := ⟨Tryz.prog, mkEnv [], mkEnvR [(80, sp_bcc)], 17, [70000], [], [([0, 1], [1])]⟩

noncomputable def Fwbn (F : Nat) (c : Int) : Option Ans := runFR Gwbn Tryz.f65 ⟨[4], [⟨.fix 70000, 70000, .cells []⟩, ⟨.cell 70000 1, 70001001, (.barr 5 false [])⟩]⟩ [70000, 70001001] F [.ref 70000 0, .p (.int .u8 c)] [(70000, .bldr 61 (.p .nil))]

theorem Fwbn_eq (F : Nat) (c : Int) : Fwbn F c = need ([UInt8.ofNat (c).toNat].length * 1 ≤ 140737488355328) (some (.p (.plain .nilIface), [(70000, .bldr 61 (.arr 70001001)), (70001001, .barr 5 false [UInt8.ofNat (c).toNat])])) := by kernel_rfl

theorem fn_wbn (F : Nat) (c : Int) (r : AV) (os : List (Nat × AObj)) (h : (∃ γ M w vs, ARels γ M [.ref 70000 0, .p (.int .u8 c)] vs ∧ Objs γ M w (fun i => lookO i [(70000, .bldr 61 (.p .nil))]) (fun b => b < w.heap.size)) → Fwbn F c = some (r, os)) : FnR Tryz.prog 65 [.ref 70000 0, .p (.int .u8 c)] [(70000, .bldr 61 (.p .nil))] [70000] r os :=
  FnR_run Gwbn ⟨[4], [⟨.fix 70000, 70000, .cells []⟩, ⟨.cell 70000 1, 70001001, (.barr 5 false [])⟩]⟩ [70000, 70001001] F rfl (EnvOk_mk (l := []) trivial) (EnvROk_mk (l := [(80, sp_bcc)]) ⟨ok_bcc, trivial⟩) (Checked.mixed Tryz.checked) (fn := Tryz.f65) (by kernel_rfl) (by kernel_rfl) rfl h
def sp_wstr : RSpec := ⟨[false, true], fun args ib => match args, ib with
  | [.ref 70000 0, .p (.str s)], [(70000, .bldr 61 (.arr 70001)), (70001, .barr 5 false l)] => some (([70000], .tup [.p (.int .i64 (s.length : Int)), .p (.plain .nilIface)]), ([(70000, .bldr 61 (.arr 70001001)), (70001001, .barr 5 false (l ++ s))], some (l.length + s.length ≤ 140737488355328)))
  | [.ref 70000 0, .p (.str s)], [(70000, .bldr 61 (.p .nil))] => some (([70000], .tup [.p (.int .i64 (s.length : Int)), .p (.plain .nilIface)]), ([(70000, .bldr 61 (.arr 70001001)), (70001001, .barr 5 false s)], some (s.length ≤ 140737488355328)))
  | _, _ => none⟩
theorem ok_wstr : SpecROk Tryz.prog 48 sp_wstr := by
  intro args ib kept r outs ok he hok
  simp only [sp_wstr] at he
  split at he
  · cases he
    exact ⟨by kernel_rfl, fn_wsr 0 _ _ _ _ fun _ => by rw [Fwsr_eq, need_pos (by rw [Nat.mul_one]; exact hok)]⟩
  · cases he
    exact ⟨by kernel_rfl, fn_wsn 0 _ _ _ fun _ => by rw [Fwsn_eq, need_pos (by rw [Nat.mul_one]; exact hok)]⟩
  · cases he
def sp_wbyte : RSpec := ⟨[false, true], fun args ib => match args, ib with
  | [.ref 70000 0, .p (.int .u8 c)], [(70000, .bldr 61 (.arr 70001)), (70001, .barr 5 false l)] => some (([70000], .p (.plain .nilIface)), ([(70000, .bldr 61 (.arr 70001001)), (70001001, .barr 5 false (l ++ [UInt8.ofNat c.toNat]))], some (l.length + 1 ≤ 140737488355328)))
  | [.ref 70000 0, .p (.int .u8 c)], [(70000, .bldr 61 (.p .nil))] => some (([70000], .p (.plain .nilIface)), ([(70000, .bldr 61 (.arr 70001001)), (70001001, .barr 5 false [UInt8.ofNat c.toNat])], none))
  | _, _ => none⟩
theorem ok_wbyte : SpecROk Tryz.prog 65 sp_wbyte := by
  intro args ib kept r outs ok he hok
  simp only [sp_wbyte] at he
  split at he
  · cases he
    exact ⟨by kernel_rfl, fn_wbr 0 _ _ _ _ fun _ => by rw [Fwbr_eq, need_pos (by rw [Nat.mul_one]; exact hok)]⟩
  · cases he
    exact ⟨by kernel_rfl, fn_wbn 0 _ _ _ fun _ => by rw [Fwbn_eq, need_pos (by show 1 * 1 ≤ _; decide)]⟩
  · cases he
end Go.Proofs.YtoanepondbagcaaGreatDoor
namespace Go.Proofs.YtoanepondbagcaaGreatDoor
open Go Go.Am
set_option linter.unusedVariables false
/-! Grow at a builder that has not been written. -/
section
open Go.RowKit Go.Lib
set_option maxHeartbeats 1000000 in
theorem bg_fresh (b n : Nat) (w : World) (hbk : w.heap[b]? = some (.cells #[.pointer (some ⟨b, 0, none⟩), .slice none 0 0] 61 (0, 0))) (hn : n ≤ 281474976710656) :
    Calls Tryz.prog 89 #[.pointer (some ⟨b, 0, none⟩), .int .i64 n] w fun e w' => e = .returned (.tuple #[]) ∧
      ∃ cs : Array Value, cs.size ≤ maxLen ∧ w'.heap = ((w.setCell ⟨b, 1, none⟩ (.slice (some ⟨w.heap.size, 0, none⟩) 0 cs.size)).alloc (.cells cs 5)).heap ∧ w'.os = w.os ∧ w'.tape = w.tape ∧ w'.output = w.output := by
  obtain ⟨cs, hrun, hle, hmax⟩ := Lib.run_makeNoZero (P := Tryz.prog) w.drew #[3] 25 5 Tryz.underlying25 n hn
  have hw : IntKind.i64.wrap (IntKind.i64.wrap 0 + (n : Int)) = n := by
    rw [IntKind.wrap_i64, IntKind.wrap_i64]
    omega
  have hcall : (callFunc 125 #[.int .i64 (IntKind.i64.wrap (IntKind.i64.wrap 0 + (n : Int)))]).run Tryz.prog w.drew = .ok (.value (.slice (some ⟨w.drew.heap.size, 0, none⟩) n cs.size)) (w.drew.drew.drew.alloc (.cells cs 5)) := by
    rw [hw, run_callFunc_extern Tryz.func125 (by kernel_rfl) (by kernel_rfl) (by kernel_rfl) (e := Extern.BytealgMakeNoZero.makeNoZero #[3] #[25]) (by kernel_rfl), hrun]
    rfl
  have hlt : b < w.heap.size := by
    rcases Nat.lt_or_ge b w.heap.size with h' | h'
    · exact h'
    · simp [Array.getElem?_eq_none h'] at hbk
  have c1 : w.drew.cell? ⟨b, 1, none⟩ = some (.slice none 0 0) := by
    have : w.drew.heap[b]? = _ := hbk
    rw [Lib.cell_of_heap this]; rfl
  have c2 : (w.alloc (.cells cs 5)).cell? ⟨b, 1, none⟩ = some (.slice none 0 0) := by
    have : (w.alloc (.cells cs 5)).heap[b]? = _ := (Lib.alloc_old w _ b hlt).trans hbk
    rw [Lib.cell_of_heap this]; rfl
  have f2 : (w.alloc (.cells cs 5)).frozen? ⟨b, 1, none⟩ = false := by
    exact Lib.frozen_of_heap ((Lib.alloc_old w _ b hlt).trans hbk) 1
  have hcopy : ∀ W : World, (Builtin.copy_ #[25, 25] 3 #[.slice (some ⟨w.heap.size, 0, none⟩) 0 cs.size, .slice none 0 0]).run Tryz.prog W = .ok (goInt 0) W :=
    fun W => run_copy_none W 25 25 3 5 _ _ 0 cs.size 0 0 Tryz.underlying25 (by kernel_rfl) rfl
  clear hw
  have hfin := hmax (by unfold maxLen; omega)
  have mixed := Checked.mixed Tryz.checked
  go_enter Tryz.func89, Tryz.ntmps89
  go_wp2
  go_region_o
  all_goals (go_wp2; go_end0; exact ⟨rfl, cs, hfin, rfl, rfl, rfl, rfl⟩)
set_option maxHeartbeats 1000000 in
theorem bG_fresh (b n : Nat) (w w1 : World) (h1n : 1 ≤ n) (hn : n ≤ 281474976710656)
    (hcc : Calls Tryz.prog 80 #[.pointer (some ⟨b, 0, none⟩)] w fun e w' => e = .returned (.tuple #[]) ∧ w' = w1)
    (hbk1 : w1.heap[b]? = some (.cells #[.pointer (some ⟨b, 0, none⟩), .slice none 0 0] 61 (0, 0))) :
    Calls Tryz.prog 52 #[.pointer (some ⟨b, 0, none⟩), .int .i64 n] w fun e w' => e = .returned (.tuple #[]) ∧
      ∃ cs : Array Value, cs.size ≤ maxLen ∧ w'.heap = ((w1.setCell ⟨b, 1, none⟩ (.slice (some ⟨w1.heap.size, 0, none⟩) 0 cs.size)).alloc (.cells cs 5)).heap ∧ w'.os = w1.os ∧ w'.tape = w1.tape ∧ w'.output = w1.output := by
  have c1 : w1.cell? ⟨b, 1, none⟩ = some (.slice none 0 0) := by rw [Lib.cell_of_heap hbk1]; rfl
  have mixed := Checked.mixed Tryz.checked
  have c1' : w1.drew.cell? ⟨b, 1, none⟩ = some (.slice none 0 0) := c1
  have hgr := bg_fresh b n w1.drew hbk1 hn
  go_enter Tryz.func52, Tryz.ntmps52
  go_wp2_with (go_at_call 80; refine hcc.mono ?_; rintro e w' ⟨rfl, rfl⟩)
  go_region_o
  all_goals go_wp2_with (go_at_call 89; refine hgr.mono ?_; rintro e w' ⟨rfl, cs, h1, h2, h3, h4, h5⟩)
  all_goals first
    | (go_end0; exact ⟨rfl, cs, h1, h2, h3, h4, h5⟩)
    | (exfalso; simp_all; omega)
end
end Go.Proofs.YtoanepondbagcaaGreatDoor
namespace Go.Proofs.YtoanepondbagcaaGreatDoor
open Go Go.Am
set_option linter.unusedVariables false
section
open Go.RowKit Go.Lib
theorem two_look {α : Type} {i a b : Nat} {x y o : α} (h : lookO i [(a, x), (b, y)] = some o) : (i = a ∧ o = x) ∨ (i = b ∧ o = y) := by
  have := lookO_mem h
  simp only [List.mem_cons, Prod.mk.injEq, List.not_mem_nil, or_false] at this
  exact this
theorem two_none {α : Type} {i a b : Nat} {x y : α} (h : lookO i [(a, x), (b, y)] ≠ none) : i = a ∨ i = b := by
  cases hl : lookO i [(a, x), (b, y)] with
  | none => exact absurd hl h
  | some o => rcases two_look hl with h | h
              · exact .inl h.1
              · exact .inr h.1
theorem FnR_grow (n : Nat) (h1n : 1 ≤ n) (hn : n ≤ 281474976710656) :
    FnR Tryz.prog 52 [.ref 70000 0, .p (.int .i64 (n : Int))] [(70000, .bldr 61 (.p .nil))] [70000] (.tup []) [(70000, .bldr 61 (.arr 70001001)), (70001001, .barr 5 false [])] := by
  intro γ M w vs hO hnone hM hvs
  obtain ⟨b, v0, v1, hg, hh, h0, h1, h2, hm⟩ := bld_parts (id := 70000) hO rfl
  cases h1.p_inv
  cases hvs with
  | cons hx ht =>
    cases ht with
    | cons hy ht =>
    cases ht
    obtain ⟨b', hg', rfl⟩ := hx.ref_inv
    rw [hg] at hg'; cases hg'
    cases hy with | p _ _ hy =>
    cases hy with | int _ _ hi =>
    have hlt : b < w.heap.size := hO.lo 70000 _ b (by simp [lookO]) hg rfl
    have hb : Go.Am.Handed γ [(70000, .bldr 61 (.p .nil))] b := ⟨70000, .cell b, by simp [lookO], hg, rfl⟩
    have hset : (w.setCell ⟨b, 0, none⟩ (.pointer (some ⟨b, 0, none⟩))) = w.setRow b #[.pointer (some ⟨b, 0, none⟩), .slice none 0 0] := by
      rw [setCell_eq_setRow w b 0 _ _ _ _ hh]; rfl
    obtain ⟨w1, hcc, hb1, hs1, ho1, hos, htp, hout⟩ : ∃ w1 : World, (Calls Tryz.prog 80 #[.pointer (some ⟨b, 0, none⟩)] w fun e w' => e = .returned (.tuple #[]) ∧ w' = w1) ∧
        w1.heap[b]? = some (.cells #[.pointer (some ⟨b, 0, none⟩), .slice none 0 0] 61 (0, 0)) ∧ w1.heap.size = w.heap.size ∧ (∀ c, c ≠ b → w1.heap[c]? = w.heap[c]?) ∧ w1.os = w.os ∧ w1.tape = w.tape ∧ w1.output = w.output := by
      rcases h0 with rfl | rfl
      · refine ⟨_, cc_fresh b w (by rw [Lib.cell_of_heap hh]; rfl) (by simp [World.shape?, hh]) (Lib.frozen_of_heap hh 0), ?_⟩
        rw [hset]
        exact ⟨setRow_heap w b _ _ _ _ hh, by simp, fun c hc => setRow_other w b c _ hc, rfl, rfl, rfl⟩
      · exact ⟨w, cc_used b w (by rw [Lib.cell_of_heap hh]; rfl), hh, rfl, fun _ _ => rfl, rfl, rfl, rfl⟩
    refine (bG_fresh b n w w1 h1n hn hcc hb1).mono fun e w' ⟨he, cs, hcs, hheap, q1, q2, q3⟩ => ?_
    have hrow : (w1.setCell ⟨b, 1, none⟩ (.slice (some ⟨w1.heap.size, 0, none⟩) 0 cs.size)) = w1.setRow b #[.pointer (some ⟨b, 0, none⟩), .slice (some ⟨w1.heap.size, 0, none⟩) 0 cs.size] := by
      rw [setCell_eq_setRow w1 b 1 _ _ _ _ hb1]; rfl
    rw [hrow] at hheap
    have hsz1 : (w1.setRow b #[.pointer (some ⟨b, 0, none⟩), .slice (some ⟨w1.heap.size, 0, none⟩) 0 cs.size]).heap.size = w.heap.size := by rw [← hs1]; simp
    have hsz : w'.heap.size = w.heap.size + 1 := by rw [hheap]; simp [hsz1]
    have hbb : w'.heap[b]? = some (.cells #[.pointer (some ⟨b, 0, none⟩), .slice (some ⟨w.heap.size, 0, none⟩) 0 cs.size] 61 (0, 0)) := by
      rw [hheap, Lib.alloc_old _ _ b (by rw [hsz1]; exact hlt), setRow_heap w1 b _ _ _ _ hb1, hs1]
    have hnew : w'.heap[w.heap.size]? = some (.cells cs 5 (0, 0)) := by
      rw [hheap, ← hsz1]; exact heap_alloc_new _ _
    have hoth : ∀ c, c < w.heap.size → c ≠ b → w'.heap[c]? = w.heap[c]? := fun c hc hcb => by
      rw [hheap, Lib.alloc_old _ _ c (by rw [hsz1]; exact hc), setRow_other w1 b c _ hcb]; exact ho1 c hcb
    have hMn : ∀ o, M w.heap.size o = none := fun o => by
      cases hv : M w.heap.size o with
      | none => rfl
      | some v => have := hM _ _ _ hv; simp [World.cell?] at this
    refine ⟨_, upd γ 70001001 (some (.arr (some w.heap.size) 1 0 cs.size)), M, he, fun i hi g hgi => ?_, MLe.refl M, ?_, .tup _ _ rfl (fun i hi => absurd hi (Nat.not_lt_zero _)), ⟨?_, ?_, ?_⟩, ?_, by omega, q1.trans hos, q2.trans htp, q3.trans hout⟩
    · have : i = 70000 := by simpa using hi
      subst this
      exact hgi
    · intro c o v hv
      have hc : c ≠ b := fun e => by subst e; rw [hm o] at hv; cases hv
      have hcl : c < w.heap.size := by
        rcases Nat.lt_or_ge c w.heap.size with h | h
        · exact h
        · have := hM c o v hv
          simp [World.cell?, Array.getElem?_eq_none h] at this
      rw [World.cell?_of_block (w := w) (hoth c hcl hc)]; exact hM c o v hv
    · intro i o hi
      rcases two_look hi with ⟨rfl, rfl⟩ | ⟨rfl, rfl⟩
      · exact ⟨b, _, _, hg, hbb, .inr rfl, .arr 70001001 (some w.heap.size) 1 0 cs.size rfl, rfl, hm⟩
      · refine ⟨some w.heap.size, cs.size, rfl, ⟨⟨rfl, .inr ⟨w.heap.size, cs.size, cs, rfl, Nat.zero_le _, hnew, Nat.zero_le _, hcs, by simp, by simp⟩⟩, fun v hv => (by cases hv), Nat.zero_le _, fun g hgg => ?_⟩⟩
        cases hgg
        exact fun o => by rw [hMn o]; rfl
    · intro i j g g' c hi hj hgi hgj hgc hgc'
      rcases two_none hi with rfl | rfl <;> rcases two_none hj with rfl | rfl
      · rfl
      · rw [show upd γ 70001001 (some (.arr (some w.heap.size) 1 0 cs.size)) 70000 = γ 70000 from rfl, hg] at hgi
        cases hgi; cases hgj; cases hgc; cases hgc'
        exact absurd hlt (Nat.lt_irrefl _)
      · rw [show upd γ 70001001 (some (.arr (some w.heap.size) 1 0 cs.size)) 70000 = γ 70000 from rfl, hg] at hgj
        cases hgi; cases hgj; cases hgc; cases hgc'
        exact absurd hlt (Nat.lt_irrefl _)
      · rfl
    · intro i g c hi hgi hgc
      rcases two_none hi with rfl | rfl
      · rw [show upd γ 70001001 (some (.arr (some w.heap.size) 1 0 cs.size)) 70000 = γ 70000 from rfl, hg] at hgi
        cases hgi; cases hgc
        exact ⟨.inr hb, by omega⟩
      · cases hgi; cases hgc
        exact ⟨.inl (Nat.le_refl _), by omega⟩
    · intro c hc hno
      exact ⟨hoth c hc fun e => hno (by rw [e]; exact hb), rfl⟩
def sp_grow : RSpec := ⟨[false, true], fun args ib => match args, ib with
  | [.ref 70000 0, .p (.int .i64 n)], [(70000, .bldr 61 (.p .nil))] => some (([70000], .tup []), ([(70000, .bldr 61 (.arr 70001001)), (70001001, .barr 5 false [])], some (1 ≤ n ∧ n ≤ 281474976710656)))
  | _, _ => none⟩
theorem ok_grow : SpecROk Tryz.prog 52 sp_grow := by
  intro args ib kept r outs ok he hok
  simp only [sp_grow] at he
  split at he
  · rename_i n
    cases he
    obtain ⟨h1, h2⟩ : 1 ≤ n ∧ n ≤ 281474976710656 := hok
    obtain ⟨n, rfl⟩ := Int.eq_ofNat_of_zero_le (show (0 : Int) ≤ n by omega)
    exact ⟨by kernel_rfl, FnR_grow n (by omega) (by omega)⟩
  · cases he
end
end Go.Proofs.YtoanepondbagcaaGreatDoor
namespace Go.Proofs.YtoanepondbagcaaGreatDoor
open Go Go.Am
set_option linter.unusedVariables false
/-! strings.Join, in general. -/
def joinS (sep : List UInt8) : List (List UInt8) → List UInt8
  | [] => []
  | x :: r => x ++ r.flatMap (sep ++ ·)
def totL (l : List (List UInt8)) : Nat := (l.map List.length).sum
abbrev joinok (l : List (List UInt8)) (sep : List UInt8) : Prop := sep ≠ [] ∧ sep.length ≤ 1000 ∧ l.length ≤ 1000000 ∧ totL l ≤ 1000000000
theorem totL_cons (x : List UInt8) (r : List (List UInt8)) : totL (x :: r) = x.length + totL r := by simp [totL]
noncomputable def cjoinl : Code := bodyOf Tryz.f27

noncomputable def Gjoinl : Cfg := ⟨Tryz.prog, mkEnv [], mkEnvR [(48, sp_wstr), (51, sp_bstr), (52, sp_grow)], 75, [], [([1, 0, 0, 1, 0, 1, 1, 1], ⟨[0, 1, 5, 29], []⟩), ([1, 0, 1, 0, 1, 1, 1], ⟨[0, 1, 5], []⟩), ([1, 1, 1, 1], ⟨[0, 1, 5], []⟩), ([0, 1, 0, 1, 1, 1, 1], ⟨[0, 1, 5, 39, 40, 41], []⟩), ([1, 1, 0, 0, 1, 1, 0, 0, 1, 0, 1, 1, 1, 1], ⟨[0, 1, 5, 7, 39, 40, 41], []⟩), ([0, 1, 0, 1, 1, 1, 1, 1, 1, 1, 1], ⟨[1, 8, 63, 64, 65], [⟨.slot 8, 8, .cells []⟩, ⟨.cell 8 1, 9001, (.barr 5 false [])⟩]⟩)], [([0, 1, 1, 1, 1, 1, 1], [1]), ([0, 1, 1, 1, 1, 1, 1, 1], [3]), ([0, 1, 0, 0, 1, 1, 0, 0, 1, 0, 1, 1, 1, 1, 1, 1, 1, 1], [1]), ([1, 1, 0, 0, 1, 1, 0, 0, 1, 0, 1, 1, 1, 1, 1, 1, 1, 1], [1]), ([0, 1, 1, 1, 1, 1, 1, 1, 1, 1], [0])]⟩

noncomputable def Bjoinl_1 (F : Nat) (l : List (List UInt8)) (sep : List UInt8) (vc1 : Bool) : Option Ans := runB Gjoinl cjoinl (kP Tryz.prog Tryz.f27.results.toList) F [] [1, 1, 1, 0, 1, 0, 0, 1] [(0, .p (.list 1 (.dat .str l))), (1, .p (.str sep)), (5, .p (.int .i64 (0 : Int))), (29, .p (.bool vc1))] []

noncomputable def Bjoinl_2 (F : Nat) (l : List (List UInt8)) (sep : List UInt8) : Option Ans := runB Gjoinl cjoinl (kP Tryz.prog Tryz.f27.results.toList) F [] [1, 1, 1, 0, 1, 0, 1] [(0, .p (.list 1 (.dat .str l))), (1, .p (.str sep)), (5, .p (.int .i64 (0 : Int)))] []

noncomputable def Bjoinl_3 (F : Nat) (l : List (List UInt8)) (sep : List UInt8) (vi2 : Int) : Option Ans := runB Gjoinl cjoinl (kP Tryz.prog Tryz.f27.results.toList) F [] [1, 1, 1, 1] [(0, .p (.list 1 (.dat .str l))), (1, .p (.str sep)), (5, .p (.int .i64 vi2))] []

noncomputable def Bjoinl_4 (F f1 : Nat) (l : List (List UInt8)) (sep : List UInt8) (vi3 vi4 vi5 : Int) : Option Ans := runR Gjoinl cjoinl (kP Tryz.prog Tryz.f27.results.toList) F [] [1, 1, 1, 1, 0, 1, 0] f1 [(0, .p (.list 1 (.dat .str l))), (1, .p (.str sep)), (5, .p (.int .i64 vi3)), (39, .p (.list 1 (.dat .str l))), (40, .p (.int .i64 vi4)), (41, .p (.int .i64 vi5))] []

noncomputable def Bjoinl_5 (F f1 : Nat) (l : List (List UInt8)) (sep : List UInt8) (vi3 : Int) (vs6 : List UInt8) (vi4 vi5 : Int) : Option Ans := runB Gjoinl cjoinl (kP Tryz.prog Tryz.f27.results.toList) F [f1] [1, 1, 1, 1, 0, 1, 0, 0, 1, 1, 0, 0, 1, 1] [(0, .p (.list 1 (.dat .str l))), (1, .p (.str sep)), (5, .p (.int .i64 vi3)), (7, .p (.str vs6)), (39, .p (.list 1 (.dat .str l))), (40, .p (.int .i64 vi4)), (41, .p (.int .i64 vi5))] []

noncomputable def Bjoinl_6 (F f2 : Nat) (sep : List UInt8) (vl7 : List (List UInt8)) (vi8 vi9 : Int) (vb10 : List UInt8) : Option Ans := runR Gjoinl cjoinl (kP Tryz.prog Tryz.f27.results.toList) F [] [1, 1, 1, 1, 1, 1, 1, 1, 0, 1, 0] f2 [(1, .p (.str sep)), (8, .ref 8 0), (63, .p (.list 1 (.dat .str vl7))), (64, .p (.int .i64 vi8)), (65, .p (.int .i64 vi9))] [(8, .bldr 61 (.arr 9001)), (9001, .barr 5 false vb10)]

noncomputable def Fjoinl (F : Nat) (l : List (List UInt8)) (sep : List UInt8) : Option Ans := runF Gjoinl Tryz.f27 F [.p (.list 1 (.dat .str l)), .p (.str sep)]

theorem Bjoinl_1_eq (F : Nat) (l : List (List UInt8)) (sep : List UInt8) (vc1 : Bool) : Bjoinl_1 F l sep vc1 = cond (vc1) (none) (Bjoinl_2 F l sep) := by kernel_rfl

theorem Bjoinl_2_eq (F : Nat) (l : List (List UInt8)) (sep : List UInt8) : Bjoinl_2 F l sep = need (i64ok ((l.length : Int) - (1 : Int))) (need (i64ok ((sep.length : Int) * ((l.length : Int) - (1 : Int)))) (need (i64ok ((0 : Int) + ((sep.length : Int) * ((l.length : Int) - (1 : Int))))) (Bjoinl_3 F l sep ((0 : Int) + ((sep.length : Int) * ((l.length : Int) - (1 : Int))))))) := by kernel_rfl

theorem Bjoinl_3_eq (F : Nat) (l : List (List UInt8)) (sep : List UInt8) (vi2 : Int) : Bjoinl_3 F l sep vi2 = Bjoinl_4 F F l sep vi2 (l.length : Int) (0 : Int) := by kernel_rfl

theorem Bjoinl_4_eq (F f1 : Nat) (l : List (List UInt8)) (sep : List UInt8) (vi3 vi4 vi5 : Int) : Bjoinl_4 F (f1 + 1) l sep vi3 vi4 vi5 = cond (decide (vi5 < vi4)) (need (0 ≤ vi5 ∧ vi5 < (l.length : Int)) (need (i64ok ((9223372036854775807 : Int) - vi3)) (cond (decide (((l.getD (vi5).toNat []).length : Int) > ((9223372036854775807 : Int) - vi3))) (none) (Bjoinl_5 F f1 l sep vi3 (l.getD (vi5).toNat []) vi4 vi5)))) (need (1 ≤ vi3 ∧ vi3 ≤ 281474976710656) (need (0 ≤ (0 : Int) ∧ (0 : Int) < (l.length : Int)) (need (([] : List UInt8).length + (l.getD ((0 : Int)).toNat []).length ≤ 140737488355328) (need (0 ≤ (1 : Int) ∧ (1 : Int) ≤ (l.length : Int)) (Bjoinl_6 F F sep (l.drop ((1 : Int)).toNat) ((l.drop ((1 : Int)).toNat).length : Int) (0 : Int) (([] : List UInt8) ++ (l.getD ((0 : Int)).toNat []))))))) := by kernel_rfl

theorem Bjoinl_5_eq (F f1 : Nat) (l : List (List UInt8)) (sep : List UInt8) (vi3 : Int) (vs6 : List UInt8) (vi4 vi5 : Int) : Bjoinl_5 F f1 l sep vi3 vs6 vi4 vi5 = need (i64ok (vi3 + (vs6.length : Int))) (need (i64ok (vi5 + (1 : Int))) (Bjoinl_4 F f1 l sep (vi3 + (vs6.length : Int)) vi4 (vi5 + (1 : Int)))) := by kernel_rfl

theorem Bjoinl_6_eq (F f2 : Nat) (sep : List UInt8) (vl7 : List (List UInt8)) (vi8 vi9 : Int) (vb10 : List UInt8) : Bjoinl_6 F (f2 + 1) sep vl7 vi8 vi9 vb10 = cond (decide (vi9 < vi8)) (need (0 ≤ vi9 ∧ vi9 < (vl7.length : Int)) (need (vb10.length + sep.length ≤ 140737488355328) (need ((vb10 ++ sep).length + (vl7.getD (vi9).toNat []).length ≤ 140737488355328) (need (i64ok (vi9 + (1 : Int))) (Bjoinl_6 F f2 sep vl7 vi8 (vi9 + (1 : Int)) ((vb10 ++ sep) ++ (vl7.getD (vi9).toNat []))))))) (some (.p (.str vb10), [])) := by kernel_rfl

theorem Fjoinl_eq (F : Nat) (l : List (List UInt8)) (sep : List UInt8) : Fjoinl F l sep = cond ((l.length : Int) == (0 : Int)) (some (.p (.str ([] : List UInt8)), [])) (cond ((l.length : Int) == (1 : Int)) (need (0 ≤ (0 : Int) ∧ (0 : Int) < (l.length : Int)) (some (.p (.str (l.getD ((0 : Int)).toNat [])), []))) (cond (decide ((sep.length : Int) > (0 : Int))) (need (i64ok ((l.length : Int) - (1 : Int))) (need (((l.length : Int) - (1 : Int)) ≠ 0 ∧ i64ok ((9223372036854775807 : Int).tdiv ((l.length : Int) - (1 : Int)))) (Bjoinl_1 F l sep (decide ((sep.length : Int) ≥ ((9223372036854775807 : Int).tdiv ((l.length : Int) - (1 : Int)))))))) (Bjoinl_3 F l sep (0 : Int)))) := by kernel_rfl

theorem fn_joinl (F : Nat) (l : List (List UInt8)) (sep : List UInt8) (r : AV) (h : (∃ M vs, ARels γ0 M [.p (.list 1 (.dat .str l)), .p (.str sep)] vs) → Fjoinl F l sep = some (r, [])) : FnP Tryz.prog 27 [.p (.list 1 (.dat .str l)), .p (.str sep)] r :=
  FnP_run Gjoinl F rfl (EnvOk_mk (l := []) trivial) (EnvROk_mk (l := [(48, sp_wstr), (51, sp_bstr), (52, sp_grow)]) ⟨ok_wstr, ok_bstr, ok_grow, trivial⟩) (Checked.mixed Tryz.checked) (fn := Tryz.f27) (by kernel_rfl) (by kernel_rfl) rfl h
theorem Bjoinl_end (F : Nat) (sep : List UInt8) (l : List (List UInt8)) (hs : sep.length ≤ 1000) (hl : l.length ≤ 1000000) (ht : totL l ≤ 1000000000) : ∀ (r : List (List UInt8)) (f i : Nat) (b : List UInt8), l.drop i = r → r.length < f → i ≤ l.length → b.length + r.length * 1000 + totL r ≤ 100000000000 →
    Bjoinl_6 F f sep l (l.length : Int) (i : Int) b = some (.p (.str (b ++ r.flatMap (sep ++ ·))), []) := by
  intro r
  induction r with
  | nil =>
    intro f i b hd hf hi hb
    have : i = l.length := by have := congrArg List.length hd; simp at this; omega
    cases f with
    | zero => omega
    | succ f => rw [Bjoinl_6_eq]; exact cond_f (by simp; omega) (by simp)
  | cons c r ih =>
    intro f i b hd hf hi hb
    obtain ⟨h1, h2, h3⟩ := dropG hd []
    rw [totL_cons, List.length_cons] at hb
    cases f with
    | zero => omega
    | succ f =>
      rw [Bjoinl_6_eq, Int.toNat_natCast, h1]
      refine cond_t (by simp; omega) (need_mk ⟨by omega, by omega⟩ (need_mk (by omega) (need_mk (by rw [List.length_append]; omega) (need_mk (by unfold i64ok; omega) ?_))))
      rw [show (i : Int) + 1 = ((i + 1 : Nat) : Int) by omega]
      rw [ih f (i + 1) _ h2 (by simp at hf; omega) (by omega) (by simp only [List.length_append]; omega)]
      simp
theorem Bjoinl_sum (F : Nat) (sep x : List UInt8) (q : List (List UInt8)) (hs : sep.length ≤ 1000) (hl : (x :: q).length ≤ 1000000) (ht : totL (x :: q) ≤ 1000000000) (hF : (x :: q).length < F) : ∀ (r : List (List UInt8)) (f i n : Nat), (x :: q).drop i = r → r.length < f → i ≤ (x :: q).length → 1 ≤ n → n + totL r ≤ 100000000000 →
    Bjoinl_4 F f (x :: q) sep (n : Int) ((x :: q).length : Int) (i : Int) = some (.p (.str (joinS sep (x :: q))), []) := by
  intro r
  induction r with
  | nil =>
    intro f i n hd hf hi hn hb
    have hi' : i = (x :: q).length := by have := congrArg List.length hd; simp at this; simp at hi ⊢; omega
    have hx := totL_cons x q
    have hq : (x :: q).length = q.length + 1 := rfl
    cases f with
    | zero => omega
    | succ f =>
      rw [Bjoinl_4_eq]
      refine cond_f (by simp only [decide_eq_false_iff_not]; omega) (need_mk (by omega) (need_mk (by simp) (need_mk (by simp; omega) (need_mk (by simp; omega) ?_))))
      show Bjoinl_6 F F sep q (q.length : Int) ((0 : Nat) : Int) ([] ++ x) = _
      rw [Bjoinl_end F sep q hs (by omega) (by omega) q F 0 _ rfl (by omega) (by omega) (by simp; omega)]
      rfl
  | cons c r ih =>
    intro f i n hd hf hi hn hb
    obtain ⟨h1, h2, h3⟩ := dropG hd []
    rw [totL_cons] at hb
    cases f with
    | zero => omega
    | succ f =>
      rw [Bjoinl_4_eq, Int.toNat_natCast, h1]
      refine cond_t (by simp only [decide_eq_true_iff]; omega) (need_mk ⟨by omega, by omega⟩ (need_mk (by unfold i64ok; omega) (cond_f (by simp only [decide_eq_false_iff_not]; omega) ?_)))
      rw [Bjoinl_5_eq]
      refine need_mk (by unfold i64ok; omega) (need_mk (by unfold i64ok; omega) ?_)
      rw [show (i : Int) + 1 = ((i + 1 : Nat) : Int) by omega, show (n : Int) + (c.length : Int) = ((n + c.length : Nat) : Int) by omega]
      exact ih f (i + 1) _ h2 (by simp at hf; omega) (by omega) (by omega) (by omega)
theorem joinl_eq (l : List (List UInt8)) (sep : List UInt8) (hk : joinok l sep) : Fjoinl (l.length + 1) l sep = some (.p (.str (joinS sep l)), []) := by
  obtain ⟨hk0, hk1, hk2, hk3⟩ := hk
  rw [Fjoinl_eq]
  match l, hk2, hk3 with
  | [], _, _ => rfl
  | [x], _, _ => refine cond_f (by simp) (cond_t (by simp) (need_mk (by simp) (by simp [joinS])))
  | x :: y :: q, hk2, hk3 =>
    have hs0 : 1 ≤ sep.length := by cases sep with | nil => exact absurd rfl hk0 | cons _ _ => simp
    have hl : (x :: y :: q).length = q.length + 2 := rfl
    refine cond_f (by simp; omega) (cond_f (by simp; omega) (cond_t (by simp; omega) (need_mk (by unfold i64ok; omega) ?_)))
    have hd : ∀ k : Int, 1 ≤ k → k ≤ 1000000 → 9000000000000 ≤ (9223372036854775807 : Int).tdiv k ∧ (9223372036854775807 : Int).tdiv k ≤ 9223372036854775807 := by
      intro k h1 h2
      rw [Int.tdiv_eq_ediv_of_nonneg (by omega)]
      refine ⟨?_, ?_⟩
      · rw [Int.le_ediv_iff_mul_le (by omega)]
        have : 9000000000000 * k ≤ 9000000000000 * 1000000 := by omega
        omega
      · exact Int.ediv_le_self _ (by omega)
    have hd' := hd (((x :: y :: q).length : Int) - 1) (by omega) (by omega)
    refine need_mk ⟨by omega, by unfold i64ok; omega⟩ ?_
    rw [Bjoinl_1_eq]
    refine cond_f (by simp only [decide_eq_false_iff_not, ge_iff_le]; omega) ?_
    rw [Bjoinl_2_eq]
    have hm : (sep.length : Int) * (((x :: y :: q).length : Int) - 1) = ((sep.length * (q.length + 1) : Nat) : Int) := by
      rw [hl]; push_cast; congr 1; omega
    have hm1 : sep.length * (q.length + 1) ≤ 1000 * (q.length + 1) := Nat.mul_le_mul_right _ hk1
    have hm2 : 1 * (q.length + 1) ≤ sep.length * (q.length + 1) := Nat.mul_le_mul_right _ hs0
    rw [hm]
    refine need_mk (by unfold i64ok; omega) (need_mk (by unfold i64ok; omega) (need_mk (by unfold i64ok; omega) ?_))
    rw [Bjoinl_3_eq, show (0 : Int) + ((sep.length * (q.length + 1) : Nat) : Int) = ((sep.length * (q.length + 1) : Nat) : Int) by omega]
    exact Bjoinl_sum _ sep x (y :: q) hk1 hk2 hk3 (by omega) (x :: y :: q) _ 0 _ rfl (by omega) (by omega) (by omega) (by omega)
def sp_joinl : List AV → Option (AV × Option Prop)
  | [.p (.list 1 (.dat .str l)), .p (.str sep)] => some (.p (.str (joinS sep l)), some (joinok l sep))
  | _ => none
theorem ok_joinl : SpecOk Tryz.prog 27 sp_joinl := by
  intro zs r ok he hok
  unfold sp_joinl at he
  split at he
  · cases he; exact ⟨by kernel_rfl, fn_joinl (_) _ _ _ fun _ => joinl_eq _ _ hok⟩
  · cases he
end Go.Proofs.YtoanepondbagcaaGreatDoor
namespace Go.Proofs.YtoanepondbagcaaGreatDoor
open Go Go.Am
set_option linter.unusedVariables false
/-! What is told of the empty text: the envelope. -/
theorem FnP_args {P : Program} {f : FuncId} {args args' : List AV} {r : AV} (h : ∀ (M : Mem) (vs : List Value), ARels γ0 M args vs → ARels γ0 M args' vs) (k : FnP P f args' r) : FnP P f args r :=
  fun M w vs hM hvs => k M w vs hM (h M vs hvs)
theorem box1_rel {M : Mem} {f g : Nat → PV} {v : Value} (h : PRel M (.box 1 f) v) (e : f 0 = g 0) : PRel M (.box 1 g) v := by
  cases h with
  | box _ _ b off x hM hx =>
    refine .box 1 g b off x hM fun j hj => ?_
    have : j = 0 := by omega
    subst this
    rw [← e]; exact hx 0 (by omega)
theorem box1_arel {M : Mem} {f g : Nat → PV} {v : Value} (h : ARel γ0 M (.p (.box 1 f)) v) (e : f 0 = g 0) : ARel γ0 M (.p (.box 1 g)) v := .p _ _ (box1_rel h.p_inv e)

noncomputable def Genvor0 : Cfg := ⟨Tryz.prog, mkEnv [(25, sp_addresses0)], mkEnvR [], 13, [], [], []⟩

noncomputable def Fenvor0 (F : Nat) (n : List UInt8) : Option Ans := runF Genvor0 Tryz.f26 F [.p (.str n), .p (.box 1 (fun _ => (.list 2 (.dat (.pair .str .str) []) : PV))), .p (.box 1 (fun _ => (.str [78, 73, 76] : PV)))]

theorem Fenvor0_eq (F : Nat) (n : List UInt8) : Fenvor0 F n = need (firstok ([] : List (List UInt8 × List UInt8)) n) (cond (([78, 73, 76] : List UInt8) != ([78, 73, 76] : List UInt8)) (some (.p (.str ([78, 73, 76] : List UInt8)), [])) (some (.p (.str ([78, 73, 76] : List UInt8)), []))) := by kernel_rfl

theorem fn_envor0 (F : Nat) (n : List UInt8) (r : AV) (h : (∃ M vs, ARels γ0 M [.p (.str n), .p (.box 1 (fun _ => (.list 2 (.dat (.pair .str .str) []) : PV))), .p (.box 1 (fun _ => (.str [78, 73, 76] : PV)))] vs) → Fenvor0 F n = some (r, [])) : FnP Tryz.prog 26 [.p (.str n), .p (.box 1 (fun _ => (.list 2 (.dat (.pair .str .str) []) : PV))), .p (.box 1 (fun _ => (.str [78, 73, 76] : PV)))] r :=
  FnP_run Genvor0 F rfl (EnvOk_mk (l := [(25, sp_addresses0)]) ⟨ok_addresses0.any, trivial⟩) (EnvROk_mk (l := []) trivial) (Checked.mixed Tryz.checked) (fn := Tryz.f26) (by kernel_rfl) (by kernel_rfl) rfl h
def sp_envor0 : List AV → Option (AV × Option Prop)
  | [.p (.str n), .p (.box 1 f), .p (.box 1 g)] => match f 0, g 0 with
    | .list 2 (.dat (.pair .str .str) []), .str [78, 73, 76] => some (.p (.str [78, 73, 76]), some (firstok [] n))
    | _, _ => none
  | _ => none
theorem ok_envor0 : SpecOk Tryz.prog 26 sp_envor0 := by
  intro zs r ok he hok
  unfold sp_envor0 at he
  split at he
  · rename_i n f g
    split at he
    · rename_i hf hg
      cases he
      refine ⟨by kernel_rfl, FnP_args (fun M vs h => ?_) (fn_envor0 0 n _ fun _ => by rw [Fenvor0_eq]; exact need_mk hok rfl)⟩
      cases h with | cons h1 h =>
      cases h with | cons h2 h =>
      cases h with | cons h3 h =>
      cases h
      exact .cons h1 (.cons (box1_arel h2 hf) (.cons (box1_arel h3 hg) .nil))
    · cases he
  · cases he

noncomputable def Genvelope0 : Cfg := ⟨Tryz.prog, mkEnv [(24, sp_fields0), (25, sp_addresses0), (26, sp_envor0), (27, sp_joinl), (28, sp_nstring0)], mkEnvR [], 38, [], [], [([888888, 1, 1, 1, 1], [3, 0, 5, 0])]⟩

noncomputable def Fenvelope0 (F : Nat)  : Option Ans := runF Genvelope0 Tryz.f12 F [.p (.str ([] : List UInt8))]

theorem Fenvelope0_eq (F : Nat)  : Fenvelope0 F  = need (firstok ([] : List (List UInt8 × List UInt8)) ([102, 114, 111, 109] : List UInt8)) (need (firstok ([] : List (List UInt8 × List UInt8)) ([100, 97, 116, 101] : List UInt8)) (need (firstok ([] : List (List UInt8 × List UInt8)) ([115, 117, 98, 106, 101, 99, 116] : List UInt8)) (need (firstok ([] : List (List UInt8 × List UInt8)) ([115, 101, 110, 100, 101, 114] : List UInt8)) (need (firstok ([] : List (List UInt8 × List UInt8)) ([114, 101, 112, 108, 121, 45, 116, 111] : List UInt8)) (need (firstok ([] : List (List UInt8 × List UInt8)) ([116, 111] : List UInt8)) (need (firstok ([] : List (List UInt8 × List UInt8)) ([99, 99] : List UInt8)) (need (firstok ([] : List (List UInt8 × List UInt8)) ([98, 99, 99] : List UInt8)) (need (firstok ([] : List (List UInt8 × List UInt8)) ([105, 110, 45, 114, 101, 112, 108, 121, 45, 116, 111] : List UInt8)) (need (firstok ([] : List (List UInt8 × List UInt8)) ([109, 101, 115, 115, 97, 103, 101, 45, 105, 100] : List UInt8)) (need (joinok [([78, 73, 76] : List UInt8), ([78, 73, 76] : List UInt8), ([78, 73, 76] : List UInt8), ([78, 73, 76] : List UInt8), ([78, 73, 76] : List UInt8), ([78, 73, 76] : List UInt8), ([78, 73, 76] : List UInt8), ([78, 73, 76] : List UInt8), ([78, 73, 76] : List UInt8), ([78, 73, 76] : List UInt8)] ([32] : List UInt8)) (need (lenok (([40] : List UInt8).length + (joinS ([32] : List UInt8) [([78, 73, 76] : List UInt8), ([78, 73, 76] : List UInt8), ([78, 73, 76] : List UInt8), ([78, 73, 76] : List UInt8), ([78, 73, 76] : List UInt8), ([78, 73, 76] : List UInt8), ([78, 73, 76] : List UInt8), ([78, 73, 76] : List UInt8), ([78, 73, 76] : List UInt8), ([78, 73, 76] : List UInt8)]).length)) (need (lenok ((([40] : List UInt8) ++ (joinS ([32] : List UInt8) [([78, 73, 76] : List UInt8), ([78, 73, 76] : List UInt8), ([78, 73, 76] : List UInt8), ([78, 73, 76] : List UInt8), ([78, 73, 76] : List UInt8), ([78, 73, 76] : List UInt8), ([78, 73, 76] : List UInt8), ([78, 73, 76] : List UInt8), ([78, 73, 76] : List UInt8), ([78, 73, 76] : List UInt8)])).length + ([41] : List UInt8).length)) (some (.p (.str ((([40] : List UInt8) ++ (joinS ([32] : List UInt8) [([78, 73, 76] : List UInt8), ([78, 73, 76] : List UInt8), ([78, 73, 76] : List UInt8), ([78, 73, 76] : List UInt8), ([78, 73, 76] : List UInt8), ([78, 73, 76] : List UInt8), ([78, 73, 76] : List UInt8), ([78, 73, 76] : List UInt8), ([78, 73, 76] : List UInt8), ([78, 73, 76] : List UInt8)])) ++ ([41] : List UInt8))), [])))))))))))))) := by kernel_rfl

theorem fn_envelope0 (F : Nat)  (r : AV) (h : (∃ M vs, ARels γ0 M [.p (.str ([] : List UInt8))] vs) → Fenvelope0 F  = some (r, [])) : FnP Tryz.prog 12 [.p (.str ([] : List UInt8))] r :=
  FnP_run Genvelope0 F rfl (EnvOk_mk (l := [(24, sp_fields0), (25, sp_addresses0), (26, sp_envor0), (27, sp_joinl), (28, sp_nstring0)]) ⟨ok_fields0.any, ok_addresses0.any, ok_envor0.any, ok_joinl.any, ok_nstring0.any, trivial⟩) (EnvROk_mk (l := []) trivial) (Checked.mixed Tryz.checked) (fn := Tryz.f12) (by kernel_rfl) (by kernel_rfl) rfl h
def envE : List UInt8 := [40, 78, 73, 76, 32, 78, 73, 76, 32, 78, 73, 76, 32, 78, 73, 76, 32, 78, 73, 76, 32, 78, 73, 76, 32, 78, 73, 76, 32, 78, 73, 76, 32, 78, 73, 76, 32, 78, 73, 76, 41]
def sp_envelope0 : List AV → Option (AV × Option Prop)
  | [.p (.str [])] => some (.p (.str envE), none)
  | _ => none
theorem fok0 (n : List UInt8) (h : n.length ≤ 100) : firstok [] n := ⟨by omega, (fun x hx => by cases hx), by simp⟩
theorem ok_envelope0 : SpecOk Tryz.prog 12 sp_envelope0 := by
  intro zs r ok he hok
  unfold sp_envelope0 at he
  split at he
  · cases he
    refine ⟨by kernel_rfl, fn_envelope0 0 _ fun _ => ?_⟩
    rw [Fenvelope0_eq]
    refine need_mk (fok0 _ (by simp)) (need_mk (fok0 _ (by simp)) (need_mk (fok0 _ (by simp)) (need_mk (fok0 _ (by simp)) (need_mk (fok0 _ (by simp)) (need_mk (fok0 _ (by simp)) (need_mk (fok0 _ (by simp)) (need_mk (fok0 _ (by simp)) (need_mk (fok0 _ (by simp)) (need_mk (fok0 _ (by simp)) (need_mk ⟨by simp, by simp, by simp, by decide⟩ (need_mk ?_ (need_mk ?_ rfl))))))))))))
    · rw [show (joinS ([32] : List UInt8) _).length = 39 from rfl]; simp
    · exact (by omega : (41 : Nat) ≤ 9223372036854775807)
  · cases he
end Go.Proofs.YtoanepondbagcaaGreatDoor
