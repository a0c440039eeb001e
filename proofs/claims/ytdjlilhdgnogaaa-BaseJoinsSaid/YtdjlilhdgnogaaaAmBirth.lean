/-
  The abstract machine of these proofs.
-/
import Derived.Test.YtdjlilhdgnogaaaAmFill
set_option linter.unusedVariables false
/-! Operations that make memory. -/
namespace Go.Am
open Go Go.RowKit
variable {P : Program} {γ γ' : Nat → Option G} {M M' : Mem} {C : Ctx} {s s' : S} {a a' : Act} {w w' : World}

theorem MOk.fresh (h : MOk M w) {b : Nat} (hb : w.heap.size ≤ b) : ∀ o, M b o = none := by
  intro o
  cases hm : M b o with
  | none => rfl
  | some v =>
    have := World.block_lt_of_cell? w ⟨b, o, none⟩ (h b o v hm)
    have : b < w.heap.size := this
    omega

theorem MOk.alloc (h : MOk M w) (o : Obj) : MOk M (w.alloc o) := by
  intro b i v hv
  have hc := h b i v hv
  have hb : b < w.heap.size := World.block_lt_of_cell? w ⟨b, i, none⟩ hc
  rw [World.cell?_of_block (w := w) (Below.heap_alloc w o b hb)]; exact hc

/-- A new object of cells. -/
theorem StG.cells (h : StG C γ M s a w) {d : Nat} (hd : dstOk C.nt (some d) = true) (hu : s.us d = false) {cs : List AV} {vs : Array Value} (e : TypeId)
    (hr : CRel γ M cs vs) (h1 : ∀ j, j < cs.length → (vs.getD j undef).oneCell' = true) :
    StG C (upd γ d (some (.cell w.heap.size))) M { sl := upd s.sl d (.ref d 0), ob := upd s.ob d (some (.cells cs)), us := upd s.us d true }
      (a.put (some d) (.pointer (some ⟨w.heap.size, 0, none⟩))) (w.alloc (.cells vs e)) := by
  have hγ : GLe γ (upd γ d (some (.cell w.heap.size))) := by
    intro i g' hi
    by_cases e : i = d
    · subst e; rw [h.us i hu] at hi; cases hi
    · rw [upd_ne _ _ e]; exact hi
  refine h.birth hd hu (MLe.refl M) (by simp) (fun b hb => ⟨Below.heap_alloc w _ b hb, rfl⟩) (h.mem.alloc _) rfl rfl rfl (g := .cell w.heap.size) ?_ ?_ (.ref d 0 _ (upd_same _ _ _))
  · intro b hb; cases hb; simp
  · exact ⟨w.heap.size, vs, e, upd_same _ _ _, heap_alloc_new w _, hr.1, fun j hj => ⟨(hr.2 j hj).mono hγ (MLe.refl M), h1 j hj⟩, h.mem.fresh (Nat.le_refl _)⟩

/-- What a row's cells are, as an object. -/
def ObjRow (M : Mem) (o : AObj) (k n : Nat) (vs : List Value) : Prop :=
  match o with
  | .cells _ => False
  | .barr _ _ l => k = 1 ∧ n = l.length ∧ vs = l.map byteV
  | .larr _ _ k' n' f => k = k' ∧ n = n' ∧ ∀ i j, i < n → j < k → ∃ v, vs[i * k + j]? = some v ∧ PRel M (f i j) v

def AObj.mu : AObj → Bool
  | .barr _ mu _ => mu
  | .larr _ mu _ _ _ => mu
  | _ => true
def AObj.elem : AObj → TypeId
  | .barr e _ _ => e
  | .larr e _ _ _ _ => e
  | _ => 0

theorem OM.row {id : Nat} {o : AObj} {a : Option Nat} {k n cap : Nat} {vs : List Value} (hg : γ id = some (.arr a k n cap)) (hr : ObjRow M o k n vs)
    (hA : ArrOK M w o.elem o.mu k n vs a cap) : OM γ M w id o := by
  cases o with
  | cells cs => exact hr.elim
  | barr e mu l =>
    obtain ⟨rfl, rfl, rfl⟩ := hr
    exact ⟨a, cap, hg, hA⟩
  | larr e mu k' n' f =>
    obtain ⟨rfl, rfl, hf⟩ := hr
    exact ⟨a, cap, vs, hg, hf, hA⟩

theorem OM.row_inv {id : Nat} {o : AObj} (h : OM γ M w id o) (ho : ∀ cs, o ≠ .cells cs) : ∃ a k n cap vs, γ id = some (.arr a k n cap) ∧ ObjRow M o k n vs ∧ ArrOK M w o.elem o.mu k n vs a cap := by
  cases o with
  | cells cs => exact absurd rfl (ho cs)
  | barr e mu l =>
    obtain ⟨a, cap, hg, hA⟩ := h
    exact ⟨a, 1, l.length, cap, l.map byteV, hg, ⟨rfl, rfl, rfl⟩, hA⟩
  | larr e mu k n f =>
    obtain ⟨a, cap, vs, hg, hf, hA⟩ := h
    exact ⟨a, k, n, cap, vs, hg, ⟨rfl, rfl, hf⟩, hA⟩

theorem ObjRow.mono {o : AObj} {k n : Nat} {vs : List Value} (h : ObjRow M o k n vs) (hM : MLe M M') : ObjRow M' o k n vs := by
  cases o with
  | cells cs => exact h.elim
  | barr e mu l => exact h
  | larr e mu k' n' f =>
    obtain ⟨h1, h2, h3⟩ := h
    exact ⟨h1, h2, fun i j hi hj => let ⟨v, hv, hp⟩ := h3 i j hi hj; ⟨v, hv, hp.mono hM⟩⟩

/-- Memory that knows a row's cells. -/
def memRow (M : Mem) (mu : Bool) (g : Nat) (vs : List Value) : Mem :=
  match mu with
  | true => M
  | false => upd M g (fun o => vs[o]?)

theorem memRow_le {mu : Bool} {g : Nat} {vs : List Value} (h : ∀ o v, M g o = some v → vs[o]? = some v) : MLe M (memRow M mu g vs) := by
  intro b o v hv
  cases mu with
  | true => exact hv
  | false =>
    simp only [memRow]
    by_cases e : b = g
    · subst e; rw [upd_same]; exact h o v hv
    · rw [upd_ne _ _ e]; exact hv
theorem memRow_ne {mu : Bool} {g b : Nat} {vs : List Value} (h : b ≠ g) : memRow M mu g vs b = M b := by
  cases mu with
  | true => rfl
  | false => exact upd_ne _ _ h

/-- A new row. -/
theorem StG.row (h : StG C γ M s a w) {d : Nat} (hd : dstOk C.nt (some d) = true) (hu : s.us d = false) {o : AObj} {k n cap : Nat} {vs : List Value}
    {cur : Array Value} (hw : w'.heap = w.heap.push (.cells cur o.elem)) (hos : w'.os = w.os) (htape : w'.tape = w.tape) (hout : w'.output = w.output)
    (hlen : vs.length = n * k) (hn : n ≤ cap) (hcm : cap ≤ maxLen) (hcur : cur.size = cap * k) (htake : cur.toList.take (n * k) = vs)
    (h1 : ∀ v ∈ vs, v.oneCell' = true) (hr : ObjRow M o k n vs) :
    StG C (upd γ d (some (.arr (some w.heap.size) k n cap))) (memRow M o.mu w.heap.size vs) { sl := upd s.sl d (.arr d), ob := upd s.ob d (some o), us := upd s.us d true }
      (a.put (some d) (arrV (some w.heap.size) n cap)) w' := by
  have hfresh := h.mem.fresh (Nat.le_refl w.heap.size)
  have hM : MLe M (memRow M o.mu w.heap.size vs) := memRow_le fun o v hv => by rw [hfresh] at hv; cases hv
  have hsz : w'.heap.size = w.heap.size + 1 := by rw [hw]; simp
  have hnew : w'.heap[w.heap.size]? = some (.cells cur o.elem (0, 0)) := by rw [hw]; simp
  have hold : ∀ b, b < w.heap.size → w'.heap[b]? = w.heap[b]? := fun b hb => by rw [hw, Array.getElem?_push, if_neg (by omega)]
  have hvs : ∀ (j : Nat) (u : Value), vs[j]? = some u → cur[j]? = some u := by
    intro j u hu
    rw [← htake, List.getElem?_take] at hu
    split at hu
    · simpa using hu
    · cases hu
  refine h.birth hd hu hM (by omega) (fun b hb => ⟨hold b hb, memRow_ne (by omega)⟩) ?_ hos htape hout (g := .arr (some w.heap.size) k n cap) ?_ ?_ (.arr d _ _ _ _ (upd_same _ _ _))
  · intro b i v hv
    by_cases e : b = w.heap.size
    · subst e
      rw [cell_of_row w' _ i cur _ (0, 0) hnew]
      cases hmu : o.mu with
      | true => rw [hmu] at hv; simp only [memRow] at hv; rw [hfresh] at hv; cases hv
      | false => rw [hmu] at hv; simp only [memRow] at hv; rw [upd_same] at hv; exact hvs i v hv
    · rw [memRow_ne e] at hv
      have hc := h.mem b i v hv
      have hb : b < w.heap.size := World.block_lt_of_cell? w ⟨b, i, none⟩ hc
      rw [World.cell?_of_block (w := w) (hold b hb)]; exact hc
  · intro b hb; cases hb; omega
  · refine OM.row (upd_same _ _ _) (hr.mono hM) ⟨⟨hlen, .inr ⟨_, _, cur, rfl, Nat.zero_le _, hnew, hn, hcm, hcur, htake⟩⟩, h1, Nat.le_trans hn hcm, ?_⟩
    intro g hg
    cases hg
    cases hmu : o.mu with
    | true => simp only [if_true]; exact hfresh
    | false =>
      simp only [Bool.false_eq_true, if_false]
      intro i
      simp only [memRow]
      rw [upd_same]

/-- A nil slice that the call may append to. -/
theorem StG.nilRow (h : StG C γ M s a w) {d : Nat} (hd : dstOk C.nt (some d) = true) (hu : s.us d = false) {o : AObj} {k : Nat} (hr : ObjRow M o k 0 []) :
    StG C (upd γ d (some (.arr none k 0 0))) M { sl := upd s.sl d (.arr d), ob := upd s.ob d (some o), us := upd s.us d true } (a.put (some d) (.slice none 0 0)) w := by
  refine h.birth hd hu (MLe.refl M) (Nat.le_refl _) (fun b _ => ⟨rfl, rfl⟩) h.mem rfl rfl rfl (g := .arr none k 0 0) (fun b hb => (by cases hb)) ?_ (.arr d none k 0 0 (upd_same _ _ _))
  exact OM.row (upd_same _ _ _) hr ⟨⟨by simp, .inl ⟨rfl, rfl⟩⟩, (fun v hv => by cases hv), Nat.zero_le _, (fun g hg => by cases hg)⟩

def toPV : AV → Option PV
  | .p x => some x
  | _ => none

def toByte : AV → Option UInt8
  | .p (.int .u8 n) => some (UInt8.ofNat n.toNat)
  | _ => none

def isU8 (P : Program) (e : TypeId) : Bool := match P.underlying e with | some (.int .u8) => true | _ => false

def allSome {α β : Type} (f : α → Option β) : List α → Option (List β)
  | [] => some []
  | x :: r => match f x, allSome f r with
    | some y, some ys => some (y :: ys)
    | _, _ => none

theorem allSome_get {α β : Type} {f : α → Option β} : ∀ {l : List α} {r : List β}, allSome f l = some r → r.length = l.length ∧ ∀ (i : Nat) (x : α), l[i]? = some x → ∃ y, r[i]? = some y ∧ f x = some y := by
  intro l
  induction l with
  | nil => intro r h; cases h; exact ⟨rfl, fun i x hx => by cases hx⟩
  | cons x l ih =>
    intro r h
    simp only [allSome] at h
    cases hf : f x with
    | none => rw [hf] at h; cases h
    | some y =>
      cases hr : allSome f l with
      | none => rw [hf, hr] at h; cases h
      | some ys =>
        rw [hf, hr] at h; cases h
        obtain ⟨h1, h2⟩ := ih hr
        refine ⟨by simp [h1], fun i z hz => ?_⟩
        cases i with
        | zero => simp at hz; subst hz; exact ⟨y, by simp, hf⟩
        | succ i => simpa using h2 i z (by simpa using hz)

/-- An object of cells that are data. -/
def rowObj (P : Program) (e : TypeId) (mu : Bool) (k n : Nat) (cs : List AV) : Option AObj :=
  match isU8 P e && Nat.beq k 1 with
  | true => (allSome toByte cs).map fun l => .barr e mu l
  | false => (allSome toPV cs).map fun l => .larr e mu k n (fun i j => l.getD (i * k + j) .bad)

theorem u8_byteV {n : Int} (h : IntKind.u8.has n) : Value.int .u8 n = byteV (UInt8.ofNat n.toNat) := by
  simp [IntKind.has, IntKind.min, IntKind.max, IntKind.signed, IntKind.bits] at h
  unfold byteV
  congr 1
  simp
  omega

theorem rowObj_spec {e : TypeId} {mu : Bool} {k n : Nat} {cs : List AV} {o : AObj} (h : rowObj P e mu k n cs = some o) (hl : cs.length = n * k) {vs : Array Value} (hr : CRel γ M cs vs) :
    o.elem = e ∧ o.mu = mu ∧ ObjRow M o k n vs.toList := by
  unfold rowObj at h
  split at h
  · rename_i hk
    rw [Bool.and_eq_true] at hk
    have hk1 := Nat.eq_of_beq_eq_true hk.2
    subst hk1
    obtain ⟨l, hl', he⟩ := map_some h
    cases he
    obtain ⟨h1, h2⟩ := allSome_get hl'
    refine ⟨rfl, rfl, rfl, by omega, ?_⟩
    apply List.ext_getElem?
    intro i
    rw [List.getElem?_map]
    by_cases hi : i < cs.length
    · obtain ⟨y, hy, hf⟩ := h2 i _ (List.getElem?_eq_getElem hi)
      have hrel := hr.2 i hi
      have hvi : i < vs.size := by rw [hr.1]; exact hi
      rw [List.getD_eq_getElem?_getD, List.getElem?_eq_getElem hi, Array.getD_eq_getD_getElem?, Array.getElem?_eq_getElem hvi] at hrel
      simp only [Option.getD_some] at hrel
      unfold toByte at hf
      split at hf
      · rename_i n' hx
        cases hf
        rw [hx] at hrel
        obtain ⟨e1, e2⟩ := hrel.int_inv
        rw [hy, Array.getElem?_toList, Array.getElem?_eq_getElem hvi, e1, u8_byteV e2]
        rfl
      · cases hf
    · have e0 : vs.toList[i]? = none := by rw [List.getElem?_eq_none]; rw [Array.length_toList, hr.1]; omega
      have e1 : l[i]? = none := by rw [List.getElem?_eq_none]; omega
      rw [e0, e1]; rfl
  · obtain ⟨l, hl', he⟩ := map_some h
    cases he
    obtain ⟨h1, h2⟩ := allSome_get hl'
    refine ⟨rfl, rfl, rfl, rfl, ?_⟩
    intro i j hi hj
    have hlt : i * k + j < cs.length := by
      rw [hl]
      have : (i + 1) * k ≤ n * k := Nat.mul_le_mul_right k hi
      rw [Nat.add_mul, Nat.one_mul] at this
      omega
    obtain ⟨y, hy, hf⟩ := h2 _ _ (List.getElem?_eq_getElem hlt)
    have hrel := hr.2 _ hlt
    have hvi : i * k + j < vs.size := by rw [hr.1]; exact hlt
    rw [List.getD_eq_getElem?_getD, List.getElem?_eq_getElem hlt, Array.getD_eq_getD_getElem?, Array.getElem?_eq_getElem hvi] at hrel
    simp only [Option.getD_some] at hrel
    refine ⟨_, by rw [Array.getElem?_toList, Array.getElem?_eq_getElem hvi], ?_⟩
    unfold toPV at hf
    split at hf
    · rename_i q hx
      cases hf
      rw [hx] at hrel
      show PRel M (l.getD (i * k + j) .bad) _
      rw [List.getD_eq_getElem?_getD, hy]
      exact hrel.p_inv
    · cases hf
end Go.Am
