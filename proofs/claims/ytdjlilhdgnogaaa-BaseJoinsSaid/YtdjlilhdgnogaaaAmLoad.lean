/-
  The abstract machine of these proofs.
-/
import Derived.Test.YtdjlilhdgnogaaaAmMem
set_option linter.unusedVariables false
/-! Operations that read memory. -/
namespace Go.Am
open Go Go.RowKit
variable {P : Program} {γ γ' : Nat → Option G} {M M' : Mem} {C : Ctx} {s s' : S} {a a' : Act} {w w' : World}

/-- A value read out of cells that are known. -/
def aload (P : Program) (t : TypeId) (n : Nat) (x : Nat → AV) : Option AV :=
  match isAggT P t, sizeT P t with
  | some true, some m => match Nat.ble m n with
    | true => some (.agg ((List.range m).map x))
    | false => none
  | some false, some _ => match Nat.blt 0 n with
    | true => some (x 0)
    | false => none
  | _, _ => none

theorem aload_sound {t : TypeId} {n : Nat} {x : Nat → AV} {r : AV} (h : aload P t n x = some r) {b off : Nat} {g : Nat → Value}
    (hc : ∀ j, j < n → w.cell? ⟨b, off + j, none⟩ = some (g j)) (hx : ∀ j, j < n → ARel γ M (x j) (g j)) :
    ∃ v, (loadVar t ⟨b, off, none⟩).run P w = .ok v w ∧ ARel γ M r v := by
  unfold aload at h
  cases ha : isAggT P t with
  | none => rw [ha] at h; cases h
  | some bb =>
    cases hz : sizeT P t with
    | none => rw [ha, hz] at h; cases bb <;> cases h
    | some m =>
      rw [ha, hz] at h
      cases bb with
      | true =>
        dsimp only at h
        split at h
        · rename_i hb
          have hb := Nat.le_of_ble_eq_true hb
          cases h
          have hl := run_loadCells (P := P) w ⟨b, off, none⟩ m g (fun j hj => by rw [addr_add]; exact hc j (by omega))
          refine ⟨.agg ((List.range m).map g).toArray, by simp [loadVar, run_isAgg ha, run_sizeOf hz, hl], .agg _ _ (by simp) ?_⟩
          intro i hi
          have hi' : i < m := by simpa using hi
          have := hx i (by omega)
          simpa [List.getD_eq_getElem?_getD, Array.getD_eq_getD_getElem?, hi'] using this
        · cases h
      | false =>
        dsimp only at h
        split at h
        · rename_i hb
          have hb : 0 < n := Nat.le_of_ble_eq_true hb
          cases h
          have := hc 0 hb
          rw [Nat.add_zero] at this
          exact ⟨g 0, by simp only [loadVar, Sem.run_bind, run_isAgg ha, Result.andThen_ok]; simp [run_load, this], hx 0 hb⟩
        · cases h

def evLoad (P : Program) (ob : Nat → Option AObj) (t : TypeId) : List AV → Option (AV × Option Prop)
  | [.ref id off] => match ob id with
    | some (.cells cs) => (aload P t (cs.length - off) (fun j => cs.getD (off + j) .any)).map fun r => (r, none)
    | _ => none
  | [.p (.box n f)] => (aload P t n (fun j => .p (f j))).map fun r => (r, none)
  | [.aptr id i j] => match ob id with
    | some (.barr _ _ l) => match j with
      | 0 => (aload P t 1 (fun _ => .p (.int .u8 ((l.getD i 0).toNat : Int)))).map fun r => (r, some (i < l.length))
      | _ => none
    | some (.larr _ _ k n f) => (aload P t (k - j) (fun q => .p (f i (j + q)))).map fun r => (r, some (i < n))
    | _ => none
  | _ => none

def evLenL (P : Program) (ob : Nat → Option AObj) (t : TypeId) : List AV → Option (AV × Option Prop)
  | [.arr id] => match ob id with
    | some (.barr _ _ l) => bool? (isSliceT P t) (.p (.int .i64 (l.length : Int)), none)
    | some (.larr _ _ _ n _) => bool? (isSliceT P t) (.p (.int .i64 (n : Int)), none)
    | _ => none
  | _ => none

def evIndexAddrL (P : Program) (ob : Nat → Option AObj) (t : TypeId) : List AV → Option (AV × Option Prop)
  | [.arr id, .p (.int _ i)] => match ob id, elemSize P t with
    | some (.barr _ _ l), some k => bool? (Nat.beq 1 k) (.aptr id i.toNat 0, some (0 ≤ i ∧ i < (l.length : Int)))
    | some (.larr _ _ k' n _), some k => bool? (Nat.beq k' k) (.aptr id i.toNat 0, some (0 ≤ i ∧ i < (n : Int)))
    | _, _ => none
  | _ => none

def isByteSliceT (P : Program) (t : TypeId) : Bool :=
  match sliceE P t with
  | some e => match P.underlying e with | some (.int .u8) => true | _ => false
  | none => false

def evConvL (P : Program) (ob : Nat → Option AObj) (s d : TypeId) : List AV → Option (AV × Option Prop)
  | [.arr id] => match ob id with
    | some (.barr _ _ l) => bool? (isByteSliceT P s && isStrT P d) (.p (.str l), none)
    | _ => none
  | [.p (.bytes l)] => bool? (isByteSliceT P s && isStrT P d) (.p (.str l), none)
  | [.p .nil] => bool? (isByteSliceT P s && isStrT P d) (.p (.str []), none)
  | _ => none

/-- A value of an operation that reads the call's own memory. -/
def evL (P : Program) (ob : Nat → Option AObj) (op : Op) (xs : List AV) : Option (AV × Option Prop) :=
  match op with
  | .load t _ => evLoad P ob t xs
  | .indexAddr t _ _ => evIndexAddrL P ob t xs
  | .convert s d _ => evConvL P ob s d xs
  | .call ⟨.builtin .len, _, ts⟩ => match ts[0]? with | some t => evLenL P ob t xs | none => none
  | _ => none

theorem ArrOK.cell {e : TypeId} {mu : Bool} {k n : Nat} {vs : List Value} {g cap : Nat} (h : ArrOK M w e mu k n vs (some g) cap) :
    ∀ j u, vs[j]? = some u → w.cell? ⟨g, j, none⟩ = some u := by
  intro j u hu
  have := h.own.cells (g := g) rfl j u hu
  rw [addr_add, Nat.zero_add] at this; exact this

theorem ArrOK.len_vs {e : TypeId} {mu : Bool} {k n : Nat} {vs : List Value} {a : Option Nat} {cap : Nat} (h : ArrOK M w e mu k n vs a cap) : vs.length = n * k := h.own.1

theorem ArrOK.none {e : TypeId} {mu : Bool} {k n : Nat} {vs : List Value} {cap : Nat} (h : ArrOK M w e mu k n vs none cap) : n = 0 ∧ cap = 0 := by
  rcases h.own.2 with ⟨hv, hn⟩ | ⟨g, cap', cur, hv, _⟩
  · simp [arrV] at hv; exact ⟨hn, hv.2⟩
  · simp [arrV] at hv

theorem ARel.ref_inv {id off : Nat} {v : Value} (h : ARel γ M (.ref id off) v) : ∃ b, γ id = some (.cell b) ∧ v = .pointer (some ⟨b, off, none⟩) := by
  cases h with | ref id off b h => exact ⟨b, h, rfl⟩
theorem ARel.arr_inv {id : Nat} {v : Value} (h : ARel γ M (.arr id) v) : ∃ a k n cap, γ id = some (.arr a k n cap) ∧ v = arrV a n cap := by
  cases h with | arr id a k n cap h => exact ⟨a, k, n, cap, h, rfl⟩
theorem ARel.aptr_inv {id i j : Nat} {v : Value} (h : ARel γ M (.aptr id i j) v) : ∃ g k n cap, γ id = some (.arr (some g) k n cap) ∧ v = .pointer (some ⟨g, i * k + j, none⟩) := by
  cases h with | aptr id i j g k n cap h => exact ⟨g, k, n, cap, h, rfl⟩

theorem byteV_get {l : List UInt8} {i : Nat} (h : i < l.length) : (l.map byteV)[i]? = some (byteV (l.getD i 0)) := by
  rw [List.getElem?_map, List.getElem?_eq_getElem h, List.getD_eq_getElem?_getD, List.getElem?_eq_getElem h]; rfl

theorem byteV_rel (γ : Nat → Option G) (M : Mem) (c : UInt8) : ARel γ M (.p (.int .u8 (c.toNat : Int))) (byteV c) := .p _ _ (.int _ _ (has_u8 c))

theorem evLoad_sound (hs : StG C γ M s a w) {t : TypeId} {x r : AV} {ok : Option Prop} (h : evLoad P s.ob t [x] = some (r, ok)) (hok : okP ok) {v : Value}
    (hx : ARel γ M x v) : ∃ u, (Instr.loadAt t v).run P w = .ok u w ∧ ARel γ M r u := by
  cases x with
  | ref id off =>
    obtain ⟨b, hb, rfl⟩ := hx.ref_inv
    dsimp only [evLoad] at h
    cases ho : s.ob id with
    | none => rw [ho] at h; cases h
    | some o =>
      rw [ho] at h
      cases o with
      | cells cs =>
        obtain ⟨r', hr, he⟩ := map_some h
        cases he
        obtain ⟨b', vs, e, hg, hh, hsz, hc, _⟩ := hs.ob id _ ho
        rw [hb] at hg; cases hg
        obtain ⟨u, hu, hrel⟩ := aload_sound (P := P) (w := w) (γ := γ) (M := M) hr (b := b) (off := off) (g := fun j => vs.getD (off + j) undef)
          (fun j hj => by
            rw [cell_of_row w b (off + j) vs e (0, 0) hh, Array.getD_eq_getD_getElem?, Array.getElem?_eq_getElem (by omega)]; rfl)
          (fun j hj => (hc (off + j) (by omega)).1)
        exact ⟨u, by simp [Instr.loadAt, Instr.sureAddr, hu], hrel⟩
      | _ => cases h
  | p q =>
    cases q with
    | box n f =>
      obtain ⟨r', hr, he⟩ := map_some h
      cases he
      cases hx.p_inv with
      | box n f b off g hM hf =>
        obtain ⟨u, hu, hrel⟩ := aload_sound (P := P) (w := w) (γ := γ) (M := M) hr (b := b) (off := off) (g := g)
          (fun j hj => hs.mem _ _ _ (hM j hj)) (fun j hj => .p _ _ (hf j hj))
        exact ⟨u, by simp [Instr.loadAt, Instr.sureAddr, hu], hrel⟩
    | _ => cases h
  | aptr id i j =>
    obtain ⟨g, k, n, cap, hg, rfl⟩ := hx.aptr_inv
    dsimp only [evLoad] at h
    cases ho : s.ob id with
    | none => rw [ho] at h; cases h
    | some o =>
      rw [ho] at h
      cases o with
      | cells cs => cases h
      | barr e mu l =>
        cases j with
        | succ j => cases h
        | zero =>
          obtain ⟨r', hr, he⟩ := map_some h
          cases he
          obtain ⟨a', cap', hg', hA⟩ := hs.ob id _ ho
          rw [hg] at hg'; cases hg'
          have hlt : i < l.length := hok
          obtain ⟨u, hu, hrel⟩ := aload_sound (P := P) (w := w) (γ := γ) (M := M) hr (b := g) (off := i * 1 + 0) (g := fun _ => byteV (l.getD i 0))
            (fun q hq => by
              have : q = 0 := by omega
              subst this
              have := hA.cell i _ (byteV_get hlt)
              simpa using this)
            (fun q hq => byteV_rel γ M _)
          exact ⟨u, by simp only [Instr.loadAt, Instr.sureAddr, Sem.run_bind, Sem.run_pure, Result.andThen_ok]; exact hu, hrel⟩
      | larr e mu k' n' f =>
        obtain ⟨r', hr, he⟩ := map_some h
        cases he
        obtain ⟨a', cap', vs, hg', hv, hA⟩ := hs.ob id _ ho
        rw [hg] at hg'; cases hg'
        have hlt : i < n := hok
        obtain ⟨u, hu, hrel⟩ := aload_sound (P := P) (w := w) (γ := γ) (M := M) hr (b := g) (off := i * k + j) (g := fun q => vs.getD (i * k + (j + q)) undef)
          (fun q hq => by
            obtain ⟨v', hv1, _⟩ := hv i (j + q) hlt (by omega)
            have := hA.cell _ _ hv1
            rw [List.getD_eq_getElem?_getD, hv1]
            simpa [Nat.add_assoc] using this)
          (fun q hq => by
            obtain ⟨v', hv1, hv2⟩ := hv i (j + q) hlt (by omega)
            rw [List.getD_eq_getElem?_getD, hv1]
            exact .p _ _ hv2)
        exact ⟨u, by simp only [Instr.loadAt, Instr.sureAddr, Sem.run_bind, Sem.run_pure, Result.andThen_ok]; exact hu, hrel⟩
  | _ => cases h

theorem isByteSliceT_spec {t : TypeId} (h : isByteSliceT P t = true) : ∃ e, P.underlying t = some (.slice e) ∧ P.underlying e = some (.int .u8) := by
  unfold isByteSliceT at h
  split at h
  · rename_i e he
    refine ⟨e, sliceE_spec he, ?_⟩
    split at h
    · assumption
    · cases h
  · cases h

theorem run_bytesToString (b off cap : Nat) (l : List UInt8) (h : ∀ i c, l[i]? = some c → w.cell? ⟨b, off + i, none⟩ = some (byteV c)) :
    (Conv.bytesToString (.slice (some ⟨b, off, none⟩) l.length cap)).run P w = .ok (.string ⟨l.toArray⟩) w := by
  have hl := run_loadCells_list (P := P) w ⟨b, off, none⟩ (l.map byteV) (fun j v hv => by
    rw [addr_add]
    rw [List.getElem?_map] at hv
    cases hc : l[j]? with
    | none => rw [hc] at hv; cases hv
    | some c => rw [hc] at hv; cases hv; exact h j c hc)
  rw [List.length_map] at hl
  have e1 : l.map byteV = (l.map fun c => (c.toNat : Int)).map (Value.int .u8) := by rw [List.map_map]; rfl
  rw [e1] at hl
  rw [Go.run_bytesToString w _ l.length cap _ hl, foldl_push_bytes]
  have e2 : (l.map fun c => (c.toNat : Int)).map (fun n => UInt8.ofNat n.toNat) = l := by
    rw [List.map_map]
    conv => rhs; rw [← List.map_id l]
    exact List.map_congr_left fun c _ => by simp
  rw [e2]
  simp [ByteArray.empty, ByteArray.emptyWithCapacity]
  rfl

theorem run_convert_bytes {sT d : TypeId} (hT : (isByteSliceT P sT && isStrT P d) = true) (v : Value) (hv : ∃ x n c, v = .slice x n c) :
    (convert sT d v).run P w = (Conv.bytesToString v).run P w := by
  rw [Bool.and_eq_true] at hT
  obtain ⟨e, h1, h2⟩ := isByteSliceT_spec hT.1
  have h3 := isStrT_spec hT.2
  obtain ⟨x, n, c, rfl⟩ := hv
  simp [convert, run_underlying h1, run_underlying h2, run_underlying h3]

theorem evConvL_sound (hs : StG C γ M s a w) {sT d : TypeId} {x r : AV} {ok : Option Prop} (h : evConvL P s.ob sT d [x] = some (r, ok)) {v : Value}
    (hx : ARel γ M x v) : ∃ u, (convert sT d v).run P w = .ok u w ∧ ARel γ M r u := by
  cases x with
  | arr id =>
    obtain ⟨a', k, n, cap, hg, rfl⟩ := hx.arr_inv
    dsimp only [evConvL] at h
    cases ho : s.ob id with
    | none => rw [ho] at h; cases h
    | some o =>
      rw [ho] at h
      cases o with
      | barr e mu l =>
        obtain ⟨hT, he⟩ := bool?_some h
        cases he
        obtain ⟨a2, cap2, hg', hA⟩ := hs.ob id _ ho
        rw [hg] at hg'; cases hg'
        rw [run_convert_bytes hT (arrV a' l.length cap) ⟨_, _, _, rfl⟩]
        cases a' with
        | none =>
          have := hA.none
          have hl : l = [] := List.eq_nil_of_length_eq_zero this.1
          subst hl
          exact ⟨.string .empty, rfl, .p _ _ (.str [] (by simp))⟩
        | some g =>
          exact ⟨_, run_bytesToString g 0 cap l (fun i c hc => by
            have := hA.cell i (byteV c) (by rw [List.getElem?_map, hc]; rfl)
            simpa using this), .p _ _ (.str _ hA.len)⟩
      | _ => cases h
  | p q =>
    cases q with
    | bytes l =>
      obtain ⟨hT, he⟩ := bool?_some h
      cases he
      rcases bytes_inv hx.p_inv with ⟨rfl, rfl⟩ | ⟨b, off, cap, rfl, hm, hc, hM⟩
      · rw [run_convert_bytes hT _ ⟨_, _, _, rfl⟩]
        exact ⟨.string .empty, rfl, .p _ _ (.str [] (by simp))⟩
      · rw [run_convert_bytes hT _ ⟨_, _, _, rfl⟩]
        exact ⟨_, run_bytesToString b off cap l (fun i c hc => hs.mem _ _ _ (hM i c hc)), .p _ _ (.str _ hm)⟩
    | nil =>
      obtain ⟨hT, he⟩ := bool?_some h
      cases he
      cases hx.p_inv
      rw [run_convert_bytes hT _ ⟨_, _, _, rfl⟩]
      exact ⟨.string .empty, rfl, .p _ _ (.str [] (by simp))⟩
    | _ => cases h
  | _ => cases h

theorem evIndexAddrL_sound (hs : StG C γ M s a w) {t : TypeId} {x y r : AV} {ok : Option Prop} (h : evIndexAddrL P s.ob t [x, y] = some (r, ok)) (hok : okP ok) {v u : Value}
    (hx : ARel γ M x v) (hy : ARel γ M y u) : ∃ q, (Instr.indexAt t v u).run P w = .ok q w ∧ ARel γ M r q := by
  cases x with
  | arr id =>
    cases y with
    | p y =>
      cases y with
      | int kk i =>
        obtain ⟨a', k, n, cap, hg, rfl⟩ := hx.arr_inv
        have hu := hy.int_inv.1
        subst hu
        dsimp only [evIndexAddrL] at h
        cases ho : s.ob id with
        | none => rw [ho] at h; cases h
        | some o =>
          cases hk : elemSize P t with
          | none => rw [ho, hk] at h; cases o <;> cases h
          | some k1 =>
            rw [ho, hk] at h
            cases o with
            | cells cs => cases h
            | barr e mu l =>
              obtain ⟨hT, he⟩ := bool?_some h
              cases he
              have hT := Nat.eq_of_beq_eq_true hT
              subst hT
              obtain ⟨a2, cap2, hg', hA⟩ := hs.ob id _ ho
              rw [hg] at hg'; cases hg'
              cases a' with
              | none => have := hA.none; exact absurd hok.2 (by omega)
              | some g => exact ⟨_, run_indexAt_slice hk g 0 _ _ _ _ hok.1 hok.2 w, by rw [Nat.zero_add]; exact .aptr id _ _ _ _ _ _ hg⟩
            | larr e mu k2 n2 f =>
              obtain ⟨hT, he⟩ := bool?_some h
              cases he
              have hT := Nat.eq_of_beq_eq_true hT
              subst hT
              obtain ⟨a2, cap2, vs, hg', hv, hA⟩ := hs.ob id _ ho
              rw [hg] at hg'; cases hg'
              cases a' with
              | none => have := hA.none; exact absurd hok.2 (by omega)
              | some g => exact ⟨_, run_indexAt_slice hk g 0 _ _ _ _ hok.1 hok.2 w, by rw [Nat.zero_add]; exact .aptr id _ _ _ _ _ _ hg⟩
      | _ => cases h
    | _ => cases h
  | _ => cases h

theorem evLenL_sound (hs : StG C γ M s a w) {t : TypeId} {x r : AV} {ok : Option Prop} (h : evLenL P s.ob t [x] = some (r, ok)) {v : Value}
    (hx : ARel γ M x v) (ts : Array TypeId) (ht : ts[0]? = some t) (ty : TypeId) : ∃ q, (Builtin.len_ ts ty #[v]).run P w = .ok q w ∧ ARel γ M r q := by
  cases x with
  | arr id =>
    obtain ⟨a', k, n, cap, hg, rfl⟩ := hx.arr_inv
    dsimp only [evLenL] at h
    cases ho : s.ob id with
    | none => rw [ho] at h; cases h
    | some o =>
      rw [ho] at h
      cases o with
      | cells cs => cases h
      | barr e mu l =>
        obtain ⟨hT, he⟩ := bool?_some h
        cases he
        obtain ⟨e', hu⟩ := isSliceT_spec hT
        obtain ⟨a2, cap2, hg', hA⟩ := hs.ob id _ ho
        rw [hg] at hg'; cases hg'
        exact ⟨_, by simp [Builtin.len_, ht, run_underlying hu, arrV, goInt], .p _ _ (.int _ _ (has_nat_i64 hA.len))⟩
      | larr e mu k2 n2 f =>
        obtain ⟨hT, he⟩ := bool?_some h
        cases he
        obtain ⟨e', hu⟩ := isSliceT_spec hT
        obtain ⟨a2, cap2, vs, hg', hv, hA⟩ := hs.ob id _ ho
        rw [hg] at hg'; cases hg'
        exact ⟨_, by simp [Builtin.len_, ht, run_underlying hu, arrV, goInt], .p _ _ (.int _ _ (has_nat_i64 hA.len))⟩
  | _ => cases h

theorem evL_sound (hs : StG C γ M s a w) (o : Oper) {xs : List AV} {r : AV} {ok : Option Prop} (h : evL P s.ob o.op xs = some (r, ok)) (hok : okP ok)
    {ρ : Operand → Value} (hx : ARels γ M xs (o.op.operands.toList.map ρ)) : ∃ v, (execOp ρ o).run P w = .ok (.value v) w ∧ ARel γ M r v := by
  obtain ⟨dst, op, type, pos, after, guard⟩ := o
  dsimp only at hx h
  cases op <;> simp only [evL, reduceCtorEq] at h <;> simp only [Op.operands, List.map_cons, List.map_nil] at hx
  case load t x =>
    cases hx with
    | cons h1 ht =>
      cases ht with
      | nil =>
        obtain ⟨v, hv, hr⟩ := evLoad_sound (P := P) hs h hok h1
        exact ⟨v, by simp [execOp, hv], hr⟩
  case convert sT d x =>
    cases hx with
    | cons h1 ht =>
      cases ht with
      | nil =>
        obtain ⟨v, hv, hr⟩ := evConvL_sound (P := P) hs h h1
        exact ⟨v, by simp [execOp, hv], hr⟩
  case indexAddr t x i =>
    cases hx with
    | cons h1 ht =>
      cases ht with
      | cons h2 ht =>
        cases ht with
        | nil =>
          obtain ⟨v, hv, hr⟩ := evIndexAddrL_sound (P := P) hs h hok h1 h2
          exact ⟨v, by simp [execOp, hv], hr⟩
  case call c =>
    obtain ⟨callee, args, ts⟩ := c
    cases callee with
    | value f => cases h
    | invoke r m => cases h
    | builtin b =>
      cases b <;> dsimp only at h <;> first | (cases h; done) | skip
      have hx' : ARels γ M xs (args.toList.map ρ) := by simpa [Call.operands] using hx
      cases hts : ts[0]? with
      | none => rw [hts] at h; cases h
      | some t =>
        rw [hts] at h
        dsimp only at h
        cases args with
        | mk al =>
        dsimp only at hx'
        generalize hvs : al.map ρ = vs at hx'
        have hal : (List.toArray al).map ρ = vs.toArray := by rw [← hvs]; simp
        cases hx' with
        | nil => cases h
        | cons ha ht =>
          cases ht with
          | cons _ _ => simp [evLenL] at h
          | nil =>
            obtain ⟨v, hv, hr⟩ := evLenL_sound (P := P) hs h ha ts hts type
            refine ⟨v, ?_, hr⟩
            simp only [execOp, resolve, Sem.run_bind, Sem.run_pure, Result.andThen_ok, invoke, builtin, hal, hv]
end Go.Am
