/-
  A part of a machine that runs known data, and its soundness; no condition of its own.
-/
import Derived.Lib.Builder
import Derived.Lib.ConvBytes
import Derived.Deep.AppendSrc
import Derived.Deep.Upon
import Derived.Lib.UnsafeStr
import Derived.WalkKit
import Derived.CallsIn
import Derived.OrdersIn
import Derived.RangeFuncRecord
import Derived.Test.YtkbaejegflmeeaaGreatDoorBmA
/-! Conversions, maps, parts of values. -/
namespace Go.Bm
open Go Go.RowKit
variable {S : Seat} {γ γ' : Nat → Option G} {C : Ctx} {h : Hp} {w w' : World} {σ : Tr BV} {a : Act} {P : Program}

theorem fold_ints (ns : List Int) : ∀ s : ByteArray, ns.foldl (fun r n => r.push (UInt8.ofNat n.toNat)) s = ⟨s.data ++ (ns.map fun n => UInt8.ofNat n.toNat).toArray⟩ := by
  induction ns with
  | nil => intro s; simp
  | cons b l ih => intro s; rw [List.foldl_cons, ih]; apply ByteArray.ext; simp [ByteArray.push]
theorem txt_run (ad : Addr) (n cap c : Nat) (hc : ∀ j, j < n → w.cell? (ad.add j) = some (byteV c j)) : (Conv.bytesToString (.slice (some ad) n cap)).run P w = .ok (strV n c) w := by
  have hl := run_loadCells (P := P) w ad n (byteV c) hc
  have e : (List.range n).map (byteV c) = ((List.range n).map fun i => (Int.ofNat (byteAt c i))).map (Value.int .u8) := by rw [List.map_map]; rfl
  rw [e] at hl
  rw [Go.run_bytesToString w ad n cap _ hl, fold_ints]
  congr 2
  rw [List.map_map]
  apply ByteArray.ext
  show _ ++ _ = _
  have : (List.map ((fun n => UInt8.ofNat n.toNat) ∘ fun i => Int.ofNat (byteAt c i)) (List.range n)) = dec n c := rfl
  rw [this]
  simp [ByteArray.empty, ByteArray.emptyWithCapacity]
  rfl
theorem txtV_spec {k n : Nat} {q : Row} {v : BV} (hv : txtV (some (n, q)) = some v) {news : List Value} (hr : RowRel γ 1 n q news) : ∃ c, v = .s n c ∧ c < 256 ^ n ∧ news = (List.range n).map (byteV c) := by
  unfold txtV at hv
  split at hv
  · rename_i heq; cases heq
    obtain ⟨_, _, rfl, _, h1, h2⟩ := hr
    cases hv
    exact ⟨_, rfl, h1, h2⟩
  · rename_i heq; cases heq
    split at hv
    · rename_i l _ c hc
      cases hv
      obtain ⟨h1, _, h2⟩ := hr
      obtain ⟨h3, h4⟩ := packC_spec hc h2
      have : l.length = n := by have := h2.length; omega
      rw [this] at h3 h4
      exact ⟨c, rfl, h3, h4⟩
    · cases hv
  · rename_i heq; cases heq
theorem convT_sound (hT : TyOk S) (r : Rel C γ h w) {s d : TypeId} {x v : BV} (hd : und S d = some .string) (hv : convT S h s x = some v) {u : Value} (hx : BRel γ x u) :
    ∃ z, (convert s d u).run S.P w = .ok z w ∧ BRel γ v z := by
  have hd' := und_spec hT hd
  unfold convT at hv
  split at hv
  · rename_i hu
    split at hv
    · cases hv
      cases hx with | s n c hc =>
      exact ⟨strV _ _, by simp [convert, strV, run_underlying hd', run_und hT hu], .s _ _ hc⟩
    · cases hv
  · rename_i e hu
    have hu' := und_spec hT hu
    split at hv
    · rename_i h8
      have h8' := isU8_spec hT h8
      have hrun : ∀ (ad : Option Addr) (n c : Nat), (convert s d (.slice ad n c)).run S.P w = (Conv.bytesToString (.slice ad n c)).run S.P w := fun ad n c => by
        simp [convert, run_underlying hd', run_underlying hu', run_underlying h8']
      split at hv
      · cases hv
      · rename_i hns
        cases hq : rowV h 1 x with
        | none => rw [hq] at hv; cases hv
        | some p =>
          obtain ⟨n, q⟩ := p
          rw [hq] at hv
          cases x <;> simp only [rowV] at hq <;> (try (cases hq; done))
          case s n c => exact absurd rfl (hns _ _)
          case ns =>
            cases hq; cases hx; cases hv
            exact ⟨strV 0 0, by rw [hrun]; rfl, .s 0 0 (by simp)⟩
          case se =>
            cases hq; cases hv
            cases hx with | se ad c =>
            exact ⟨strV 0 0, by rw [hrun]; exact txt_run ad 0 c 0 (fun j hj => by omega), .s 0 0 (by simp)⟩
          case sl id off len cap =>
            split at hq
            · rename_i q' hq'
              cases hq
              cases hx with | sl _ _ _ _ g hg hc =>
              obtain ⟨news, h1, h2⟩ := rowOf_sound r hq' hg
              obtain ⟨c, rfl, h3, h4⟩ := txtV_spec (k := 1) hv h1
              refine ⟨_, (hrun _ _ _).trans (txt_run _ _ cap c fun j hj => ?_), .s _ _ h3⟩
              rw [addr_add]; exact h2 j _ (by rw [h4]; simp [hj])
            · cases hq
          case sg k id off len =>
            split at hq
            · rename_i q' hq'
              cases hq
              cases hx with | sg _ _ _ _ g o hg hk h0 ho hc =>
              obtain ⟨news, h1, h2⟩ := rowOf_sound r hq' hg
              obtain ⟨c, rfl, h3, h4⟩ := txtV_spec (k := 1) hv h1
              refine ⟨_, (hrun _ _ _).trans (txt_run _ _ _ c fun j hj => ?_), .s _ _ h3⟩
              rw [addr_add]; exact h2 j _ (by rw [h4]; simp [hj])
            · cases hq
    · cases hv
  · cases hv

theorem rowAt_mono (fits : TypeId → Bool) : ∀ (d e c c' off n : Nat), c ≤ c' → rowAt P fits d e c off n = true → rowAt P fits d e c' off n = true := by
  intro d e c c' off n hc h
  cases d with
  | zero => cases h
  | succ d =>
    simp only [rowAt] at h ⊢
    by_cases hs : P.cellsOf e = 0
    · simp [hs] at h
    · simp only [hs, if_false, Bool.or_eq_true, Bool.and_eq_true, decide_eq_true_eq, beq_iff_eq] at h ⊢
      rcases h with ⟨⟨h1, h2⟩, h3⟩ | ⟨h1, h2⟩
      · exact .inl ⟨⟨h1, by omega⟩, h3⟩
      · exact .inr ⟨by omega, h2⟩
theorem liesAt_mono : ∀ (d e c c' off u n : Nat), c ≤ c' → liesAt P d e c off u n = true → liesAt P d e c' off u n = true := by
  intro d
  induction d with
  | zero => intro e c c' off u n hc h; cases h
  | succ d ih =>
    intro e c c' off u n hc h
    simp only [liesAt, Bool.or_eq_true] at h ⊢
    rcases h with h | h
    · exact .inl (rowAt_mono _ _ _ _ _ _ _ hc h)
    · refine .inr ?_
      split at h
      · exact ih _ _ _ _ _ _ hc h
      · cases h
theorem convV_sound (hT : TyOk S) (hL : ∀ e off u, S.lies e off u = true → liesAt S.P S.P.depth e 1 off u 1 = true) (r : Rel C γ h w) {s d : TypeId} {x v : BV} (hv : convV S h s d x = some v) {u : Value} (hx : BRel γ x u) :
    ∃ z, (convert s d u).run S.P w = .ok z w ∧ BRel γ v z := by
  unfold convV at hv
  split at hv
  · rename_i k hd
    split at hv
    · rename_i k0 hs
      unfold convI at hv
      split at hv
      · cases hv; cases hx
        exact ⟨_, by simp [convert, run_und hT hd, run_und hT hs, Conv.intToInt]; rfl, by rw [wr_eq]; exact .i _ _⟩
      · cases hv
    · cases hv
  · rename_i hd; exact convT_sound hT r hd hv hx
  · rename_i hd
    split at hv
    · rename_i e hs
      unfold convU at hv
      split at hv
      · rename_i id off
        split at hv
        · rename_i ee n tr k ho hk
          split at hv
          · rename_i hb; cases hv
            cases hx with | p _ _ g hg =>
            obtain ⟨vs, hh, hn, _, hc⟩ := OM.cObj r ho hg
            refine ⟨_, run_convert_to_unsafe (und_spec hT hs) (und_spec hT hd) ?_ (hc off (blt_lt hb)).1, .p _ _ g hg⟩
            unfold sz at hk
            split at hk
            · rename_i i hi; rw [hT.ty _ _ hi]; have := Option.some.inj hk; simp; omega
            · cases hk
          · cases hv
        · cases hv
      · cases hv
    · cases hv
  · rename_i ue hd
    split at hv
    · rename_i hs
      unfold convP at hv
      split at hv
      · rename_i id off
        split at hv
        · rename_i ee n tr ho
          split at hv
          · rename_i k ku hk hku hl
            split at hv
            · rename_i hb; cases hv
              rw [Bool.and_eq_true] at hb
              have hb1 : 1 ≤ k := Nat.le_of_ble_eq_true hb.1
              have hb2 : k ≤ n := Nat.le_of_ble_eq_true hb.2
              cases hx with | p _ _ g hg =>
              obtain ⟨vs, hh, hn, _, hc⟩ := OM.cObj r ho hg
              have hsh : w.shape? g.b = some (ee, vs.size) := by unfold World.shape?; rw [hh]
              have hco : S.P.cellsOf ee = k := by
                unfold Program.cellsOf
                unfold sz at hk
                split at hk
                · rename_i i hi; rw [hT.ty _ _ hi]; cases hk; rfl
                · cases hk
              have hlies : liesAt S.P S.P.depth ee (vs.size / S.P.cellsOf ee) off ue 1 = true := by
                refine liesAt_mono _ _ 1 _ _ _ _ ?_ (hL _ _ _ hl)
                rw [hco, Nat.le_div_iff_mul_le (by omega)]; omega
              refine ⟨.pointer (some ⟨g.b, off, none⟩), ?_, .p _ _ g hg⟩
              have hv0 : (viewAt g.b).run S.P w = .ok none w := by simp [viewAt, hsh]
              have hse : (Conv.seenAt ⟨g.b, off, none⟩).run S.P w = .ok ⟨g.b, off, none⟩ w := by simp [Conv.seenAt, hv0]
              have hva : (variablesAt ⟨g.b, off, none⟩ ue 1).run S.P w = .ok true w := by simp [variablesAt, hsh, hlies]
              have hd' := run_und hT hd w
              have hs' := run_und hT hs w
              simp only [convert, Sem.run_bind, hd', hs', Result.andThen_ok, Conv.unsafePointer, hse]
              simp only [run_sz hT hku w, Result.andThen_ok]
              simp [hva]
            · cases hv
          · cases hv
        · cases hv
      · cases hv
    · cases hv
  · cases hv
end Go.Bm

/-! Maps, parts of values, filling. -/
namespace Go.Bm
open Go Go.RowKit
variable {S : Seat} {γ γ' : Nat → Option G} {C : Ctx} {h : Hp} {w w' : World} {σ : Tr BV} {a : Act} {P : Program}

/-! Maps -/
theorem strV_beq {n c m d : Nat} (hc : c < 256 ^ n) (hd : d < 256 ^ m) : ((⟨(dec n c).toArray⟩ : ByteArray) == ⟨(dec m d).toArray⟩) = eqS n c m d := by
  rw [eqS_eq hc hd]
  show ((dec n c).toArray == (dec m d).toArray) = _
  by_cases h : dec n c = dec m d
  · rw [h]; simp
  · have h1 : (dec n c == dec m d) = false := by simpa using h
    rw [h1]
    simpa using h
def KeyD (d : TypeDesc) : BV → Prop
  | .i _ _ => ∃ k, d = .int k
  | .s _ _ => d = .string
  | _ => False
theorem keyOk_spec (hT : TyOk S) {t : TypeId} {k : BV} (h : keyOk S t k = true) : ∃ d, S.P.underlying t = some d ∧ KeyD d k := by
  unfold keyOk at h
  split at h
  · rename_i hu; exact ⟨_, und_spec hT hu, _, rfl⟩
  · rename_i hu; exact ⟨_, und_spec hT hu, rfl⟩
  · cases h
theorem same_run {d : TypeDesc} {x y : BV} {r : Bool} (h : eqKey x y = some r) (hd : KeyD d x) {u v : Value} (hx : BRel γ x u) (hy : BRel γ y v) : Instr.sameNow d u v = some r := by
  unfold eqKey at h
  split at h
  · split at h
    · rename_i hk
      have := kn_eq hk
      subst this
      cases h; cases hx; cases hy
      obtain ⟨k, rfl⟩ := hd
      simp [Instr.sameNow, eqI_eq]
    · cases h
  · cases h
    cases hx with | s _ _ hc =>
    cases hy with | s _ _ hc' =>
    have : d = .string := hd
    subst this
    simp only [Instr.sameNow, strV]
    rw [strV_beq hc hc']
  · cases h
theorem eqKey_true {x y : BV} (h : eqKey x y = some true) : x = y := by
  unfold eqKey at h
  split at h
  · rename_i k a k' b
    split at h
    · rename_i hk
      have := kn_eq hk
      subst this
      have h := Option.some.inj h
      rw [eqI_eq] at h
      have : a = b := by simpa using h
      rw [this]
    · cases h
  · have h := Option.some.inj h
    unfold eqS at h
    rw [Bool.and_eq_true] at h
    rw [Nat.eq_of_beq_eq_true h.1, Nat.eq_of_beq_eq_true h.2]
  · cases h
theorem findK_none {k : BV} : ∀ {l : List (BV × BV)}, findK k l = some none → ∀ y ∈ l, eqKey k y.1 = some false
  | [], _, y, hy => by cases hy
  | x :: l, h, y, hy => by
    obtain ⟨k', v⟩ := x
    unfold findK at h
    split at h
    · cases h
    · rename_i he
      rcases List.mem_cons.1 hy with rfl | hy
      · exact he
      · exact findK_none h y hy
    · cases h
theorem findK_some {k v : BV} : ∀ {l : List (BV × BV)}, findK k l = some (some v) → (k, v) ∈ l
  | [], h => by cases h
  | x :: l, h => by
    obtain ⟨k', v'⟩ := x
    unfold findK at h
    split at h
    · rename_i he; cases h; rw [eqKey_true he]; simp
    · exact List.mem_cons_of_mem _ (findK_some h)
    · cases h
theorem find_none {d : TypeDesc} {k : BV} {u : Value} (hd : KeyD d k) (hu : BRel γ k u) : ∀ {l : List (BV × BV)} {es : List MapEntry}, EsRel γ l es → (∀ y ∈ l, eqKey k y.1 = some false) → ∀ i, Instr.findNow d u es i = some none
  | [], [], _, _, i => rfl
  | x :: l, e :: es, h, hk, i => by
    obtain ⟨h1, h2, h3⟩ := h
    simp only [Instr.findNow, same_run (hk x (by simp)) hd hu h1]
    exact find_none hd hu h3 (fun y hy => hk y (by simp [hy])) (i + 1)
  | [], _ :: _, h, _, _ => h.elim
  | _ :: _, [], h, _, _ => h.elim
theorem eqKey_refl {k x : BV} {b : Bool} (h : eqKey k x = some b) : eqKey k k = some true := by
  unfold eqKey at h
  split at h
  · simp [eqKey, eqI_eq]
  · simp [eqKey, eqS]
  · cases h
theorem eqKey_sym {x k : BV} (hf : eqKey x k = some false) : eqKey k x = some false := by
  cases x <;> cases k <;> (try (cases hf; done))
  · rename_i k1 a1 k2 a2
    simp only [eqKey] at hf ⊢
    split at hf
    · rename_i hk
      have hk := kn_eq hk
      subst hk
      have hf := Option.some.inj hf
      rw [eqI_eq] at hf
      have hne : ¬ a1 = a2 := by simpa using hf
      simp [eqI_eq]; omega
    · cases hf
  · rename_i n c m d
    simp only [eqKey] at hf ⊢
    have hq : (Nat.beq n m && Nat.beq c d) = false := Option.some.inj hf
    simp only [eqS, Option.some.injEq]
    cases h1 : Nat.beq n m with
    | true =>
      rw [h1] at hq
      have := Nat.eq_of_beq_eq_true h1
      subst this
      have hcd : c ≠ d := Nat.ne_of_beq_eq_false (by rw [Bool.true_and] at hq; exact hq)
      rw [beq_ne (Ne.symm hcd)]; simp
    | false =>
      have := Nat.ne_of_beq_eq_false h1
      rw [beq_ne (Ne.symm this)]; rfl
theorem find_some {d : TypeDesc} {k v : BV} {u : Value} (hd : KeyD d k) (hu : BRel γ k u) : ∀ {l : List (BV × BV)} {es : List MapEntry}, EsRel γ l es → apartK l → (k, v) ∈ l → (∀ y ∈ l, eqKey y.1 k ≠ none) → ∀ i, ∃ j z, Instr.findNow d u es i = some (some (j, z)) ∧ BRel γ v z
  | [], [], _, _, hm, _, i => by cases hm
  | x :: l, e :: es, h, ha, hm, hn, i => by
    obtain ⟨h1, h2, h3⟩ := h
    rcases List.mem_cons.1 hm with rfl | hm
    · have hr : eqKey k k = some true := by
        have := hn (k, v) (by simp)
        cases hq : eqKey k k with
        | none => exact absurd hq this
        | some b => rw [← hq]; exact eqKey_refl hq
      exact ⟨i, e.val, by simp only [Instr.findNow, same_run hr hd hu h1], h2⟩
    · have hf : eqKey x.1 k = some false := ha.1 (k, v) hm
      have hf' : eqKey k x.1 = some false := eqKey_sym hf
      obtain ⟨j, z, h4, h5⟩ := find_some hd hu h3 ha.2 hm (fun y hy => hn y (by simp [hy])) (i + 1)
      exact ⟨j, z, by simp only [Instr.findNow, same_run hf' hd hu h1]; exact h4, h5⟩
  | [], _ :: _, h, _, _, _, _ => h.elim
  | _ :: _, [], h, _, _, _, _ => h.elim
theorem run_checkKey {K : TypeId} {d : TypeDesc} {k : BV} {u : Value} (hK : P.underlying K = some d) (hd : KeyD d k) (hu : BRel γ k u) (b : Bool) (w : World) : (Instr.checkKey b 10000 K u).run P w = .ok () w := by
  have : ∃ n, (10000 : Nat) = n + 1 := ⟨9999, rfl⟩
  obtain ⟨n, hn⟩ := this
  rw [hn]
  cases k <;> (try exact hd.elim)
  case i kk m => obtain ⟨q, rfl⟩ := hd; cases hu; simp only [Instr.checkKey, Sem.run_bind, run_underlying hK, Result.andThen_ok, Sem.run_pure]
  case s n' c => have hd : d = .string := hd; subst hd; cases hu; simp only [Instr.checkKey, strV, Sem.run_bind, run_underlying hK, Result.andThen_ok, Sem.run_pure]
theorem run_findKey {K : TypeId} {d : TypeDesc} (hK : P.underlying K = some d) {v : Value} {es : List MapEntry} {r : Option (Nat × Value)} (h : Instr.findNow d v es 0 = some r) (w : World) : (Instr.findKey K v es).run P w = .ok r w := by
  simp only [Instr.findKey, Sem.run_bind, run_underlying hK, Result.andThen_ok, h, Sem.run_pure]
theorem run_getMap {b : Nat} {es : Array MapEntry} {c : Nat} (h : w.heap[b]? = some (.map es c)) : (getObj b).run P w = .ok (.map es c) w := by
  simp [getObj, Sem.run, h]
theorem OM.mObj {id : Nat} {l : List (BV × BV)} (r : Rel C γ h w) (ho : h.get id = .mp l) {g : G} (hg : γ id = some g) : ∃ es cl l', w.heap[g.b]? = some (.map es cl) ∧ l'.Perm l ∧ EsRel γ l' es.toList ∧ apartK l' := by
  have := r.ob id
  rw [ho] at this
  obtain ⟨g', es, cl, l', h1, h2⟩ := this
  rw [hg] at h1; cases h1
  exact ⟨es, cl, l', h2⟩
theorem lookV_sound (hT : TyOk S) (r : Rel C γ h w) {t : TypeId} {x k v : BV} {ok : Bool} (hv : lookV S h t x k ok = some v) {u z : Value} (hx : BRel γ x u) (hk : BRel γ k z) :
    ∃ q, (Instr.lookup t u z ok).run S.P w = .ok q w ∧ BRel γ v q := by
  unfold lookV at hv
  split at hv
  · rename_i kt e l hu hm
    have hu := und_spec hT hu
    split at hv
    · rename_i hko
      obtain ⟨d, hd1, hd2⟩ := keyOk_spec hT hko
      have base : ∃ (es : Array MapEntry) (l' : List (BV × BV)), (∀ (f : Array MapEntry → Sem Value), ((do
          let es ← match u with
            | .map none => pure #[]
            | .map (some r) => do
              let .map es _ ← getObj r | stuck "Lookup: map expected"
              pure es
            | _ => stuck "Lookup: map expected"
          f es) : Sem Value).run S.P w = (f es).run S.P w) ∧ l'.Perm l ∧ EsRel γ l' es.toList ∧ apartK l' := by
        unfold mapOf at hm
        split at hm
        · cases hm; cases hx
          exact ⟨#[], [], fun f => by simp, .refl _, trivial, trivial⟩
        · split at hm
          · rename_i id _ l0 ho
            cases hm
            cases hx with | m _ g hg =>
            obtain ⟨es, cl, l', h1, h2, h3, h4⟩ := OM.mObj r ho hg
            exact ⟨es, l', fun f => by simp [run_getMap h1], h2, h3, h4⟩
          · cases hm
        · cases hm
      obtain ⟨es, l', hb, hp, he, ha⟩ := base
      have main : ∀ (vv : Value) (rr : Bool), (∃ o, Instr.findNow d z es.toList 0 = some o ∧ ((o = none ∧ rr = false ∧ (zeroValue e).run S.P w = .ok vv w) ∨ (∃ j, o = some (j, vv)) ∧ rr = true)) →
          (Instr.lookup t u z ok).run S.P w = .ok (if ok then .tuple #[vv, .bool rr] else vv) w := by
        intro vv rr ⟨o, ho, hor⟩
        unfold Instr.lookup
        simp only [Sem.run_bind, run_underlying hu, Result.andThen_ok]
        have := hb fun es => (do
          Instr.checkKey es.isEmpty 10000 kt z
          let (v, okk) ← match ← Instr.findKey kt z es.toList with
            | some (_, v) => pure (v, true)
            | none => pure (← zeroValue e, false)
          pure (if ok then .tuple #[v, .bool okk] else v))
        simp only [Sem.run_bind] at this
        refine (Eq.trans ?_ this).trans ?_
        · rfl
        · simp only [run_checkKey hd1 hd2 hk, Result.andThen_ok, run_findKey hd1 ho]
          rcases hor with ⟨rfl, rfl, hz⟩ | ⟨⟨j, rfl⟩, rfl⟩
          · simp [hz]
          · simp
      have fin : ∀ (vb : BV) (vv : Value) (rr : Bool), BRel γ vb vv → BRel γ (found ok vb rr) (if ok then .tuple #[vv, .bool rr] else vv) := by
        intro vb vv rr hb
        cases ok with
        | true => exact .t _ _ (.cons hb (.cons (.b rr) .nil))
        | false => exact hb
      split at hv
      · rename_i vb hf
        cases hv
        have hmem : (k, vb) ∈ l' := hp.mem_iff.2 (findK_some hf)
        have hnn : ∀ y ∈ l', eqKey y.1 k ≠ none := by
          intro y hy
          have key : ∀ {l : List (BV × BV)}, apartK l → (k, vb) ∈ l → y ∈ l → eqKey k k = some true → eqKey y.1 k ≠ none := by
            intro l
            induction l with
            | nil => intro _ hm; cases hm
            | cons x l ih =>
              intro ha hm hy hkk
              rcases List.mem_cons.1 hy with rfl | hy
              · rcases List.mem_cons.1 hm with e | hm
                · rw [← e, hkk]; simp
                · rw [ha.1 _ hm]; simp
              · rcases List.mem_cons.1 hm with e | hm
                · have h1 := ha.1 y hy
                  rw [← e] at h1
                  dsimp only at h1
                  intro hno
                  unfold eqKey at h1 hno
                  split at h1
                  · rename_i k1 a1 k2 a2 _ _
                    split at h1
                    · rename_i hq1
                      have := kn_eq hq1
                      subst this
                      simp_all
                    · cases h1
                  · simp_all
                  · cases h1
                · exact ih ha.2 hm hy hkk
          refine key ha hmem hy ?_
          cases k <;> (try exact hd2.elim)
          · simp [eqKey, eqI_eq]
          · simp [eqKey, eqS]
        obtain ⟨j, zz, h1, h2⟩ := find_some hd2 hk he ha hmem hnn 0
        exact ⟨_, main zz true ⟨_, h1, .inr ⟨⟨j, rfl⟩, rfl⟩⟩, fin _ _ _ h2⟩
      · rename_i hf
        split at hv
        · rename_i vb hz
          cases hv
          have hnone := find_none hd2 hk he (fun y hy => findK_none hf y (hp.mem_iff.1 hy)) 0
          unfold zeroV at hz
          split at hz
          · rename_i i hi
            split at hz
            · rename_i zv hzv
              cases hz
              exact ⟨_, main zv false ⟨_, hnone, .inl ⟨rfl, rfl, by simp [zeroValue, typeInfo, hT.ty _ _ hi, hzv]⟩⟩, fin _ _ _ (cv_rel zv)⟩
            · cases hz
          · cases hz
        · cases hv
      · cases hv
    · cases hv
  · cases hv
end Go.Bm

/-! Filling; parts; every operation that changes nothing. -/
namespace Go.Bm
open Go Go.RowKit
variable {S : Seat} {γ γ' : Nat → Option G} {C : Ctx} {h : Hp} {w w' : World} {σ : Tr BV} {a : Act} {P : Program}

theorem overL_length : ∀ (cs : List BV) (off : Nat) (l : List BV), (overL cs off l).length = cs.length
  | cs, _, [] => by cases cs <;> simp [overL]
  | [], _, _ :: _ => rfl
  | _ :: cs, 0, x :: l => by simp [overL, overL_length cs 0 l]
  | c :: cs, k+1, x :: l => by simp [overL, overL_length cs k (x :: l)]
theorem overL_get : ∀ (cs : List BV) (off : Nat) (l : List BV), off + l.length ≤ cs.length → ∀ j, (overL cs off l)[j]? = if off ≤ j ∧ j < off + l.length then l[j - off]? else cs[j]?
  | cs, off, [], _, j => by rw [if_neg (by simp only [List.length_nil]; omega)]; cases cs <;> simp [overL]
  | [], off, x :: l, h, j => by simp at h
  | c :: cs, 0, x :: l, h, j => by
    simp only [overL]
    cases j with
    | zero => rw [if_pos (by simp)]; rfl
    | succ j =>
      rw [List.getElem?_cons_succ, overL_get cs 0 l (by simp at h ⊢; omega)]
      by_cases hc : 0 ≤ j ∧ j < 0 + l.length
      · rw [if_pos hc, if_pos (by simp; omega)]; simp
      · rw [if_neg hc, if_neg (by simp; omega)]; simp
  | c :: cs, k+1, x :: l, h, j => by
    simp only [overL]
    cases j with
    | zero => rw [if_neg (by omega)]; rfl
    | succ j =>
      rw [List.getElem?_cons_succ, overL_get cs k (x :: l) (by simp at h ⊢; omega)]
      by_cases hc : k ≤ j ∧ j < k + (x :: l).length
      · rw [if_pos hc, if_pos (by omega)]; congr 1; omega
      · rw [if_neg hc, if_neg (by omega)]; simp
theorem foldl_set (off : Nat) : ∀ (l : List Value) (n : Nat) (cells : Array Value),
    ((l.zipIdx n).foldl (fun cs x => cs.setIfInBounds (off + x.2) x.1) cells).size = cells.size ∧
    ∀ j, off + n + l.length ≤ cells.size → ((l.zipIdx n).foldl (fun cs x => cs.setIfInBounds (off + x.2) x.1) cells)[j]? =
      if off + n ≤ j ∧ j < off + n + l.length then l[j - (off + n)]? else cells[j]?
  | [], n, cells => by
    refine ⟨rfl, fun j _ => ?_⟩
    rw [if_neg (by simp)]; rfl
  | v :: l, n, cells => by
    obtain ⟨h1, h2⟩ := foldl_set off l (n + 1) (cells.setIfInBounds (off + n) v)
    simp only [List.zipIdx_cons, List.foldl_cons, List.length_cons]
    refine ⟨by rw [h1]; simp, fun j hj => ?_⟩
    rw [h2 j (by simp; omega)]
    by_cases e : j = off + n
    · subst e
      rw [if_neg (by omega), if_pos (by omega)]
      rw [Array.getElem?_setIfInBounds_self_of_lt (by omega)]
      simp
    · rw [Array.getElem?_setIfInBounds_ne (by omega)]
      by_cases hc : off + (n + 1) ≤ j ∧ j < off + (n + 1) + l.length
      · rw [if_pos hc, if_pos (by omega)]
        obtain ⟨q, hq⟩ : ∃ q, j - (off + n) = q + 1 := ⟨j - (off + n) - 1, by omega⟩
        have hq2 : j - (off + (n + 1)) = q := by omega
        rw [hq, hq2]; rfl
      · rw [if_neg hc, if_neg (by omega)]
theorem cells_rel {x : BV} (h : okV x = true) {v : Value} (hx : BRel γ x v) : BRels γ (cellsOf x) v.cells.toList := by
  have one1 : one x = true → v.cells = #[v] := fun ho => by
    have := hx.one ho
    cases v <;> first | rfl | cases this
  cases x with
  | a l => cases hx with | a _ vs hv => exact hv
  | u => cases h
  | t l => cases h
  | _ => rw [one1 rfl]; exact .cons hx .nil
inductive PRels (γ : Nat → Option G) : List (Nat × BV) → List (Nat × Value) → Prop
  | nil : PRels γ [] []
  | cons {i : Nat} {x : BV} {v : Value} {xs : List (Nat × BV)} {vs : List (Nat × Value)} (h : BRel γ x v) (t : PRels γ xs vs) : PRels γ ((i, x) :: xs) ((i, v) :: vs)
theorem mapOps_rel (hs : SRel γ σ a.tmps) : ∀ l : List (Nat × Operand), PRels γ (mapOps σ l) (l.map fun p => (p.1, a.eval p.2))
  | [] => .nil
  | (_, x) :: l => .cons (opv_rel hs x) (mapOps_rel hs l)
theorem fill_sound (place : Nat → Option (Nat × Nat)) : ∀ (xs : List (Nat × BV)) (vs : List (Nat × Value)) (cs r : List BV) (cells : Array Value),
    fillL place xs cs = some r → PRels γ xs vs → BRels γ cs cells.toList → ∃ cells', Instr.fill place cells vs = some cells' ∧ BRels γ r cells'.toList ∧ r.length = cs.length := by
  intro xs
  induction xs with
  | nil => intro vs cs r cells h hp hc; cases hp; cases h; exact ⟨cells, rfl, hc, rfl⟩
  | cons x xs ih =>
    intro vs cs r cells h hp hc
    cases hp with
    | @cons i x v _ vs hv ht =>
      simp only [fillL] at h
      cases hpl : place i with
      | none => rw [hpl] at h; cases h
      | some ps =>
        obtain ⟨off, size⟩ := ps
        rw [hpl] at h
        dsimp only at h
        split at h
        · rename_i hb
          rw [Bool.and_eq_true, Bool.and_eq_true] at hb
          have h0 := hb.1
          have h1 := Nat.eq_of_beq_eq_true hb.2.1
          have h2 : off + size ≤ cs.length := Nat.le_of_ble_eq_true hb.2.2
          have hcv := cells_rel h0 hv
          have hlen : v.cells.toList.length = (cellsOf x).length := hcv.length
          have hcl : cells.toList.length = cs.length := hc.length
          have hs : v.cells.size = size := by rw [← Array.length_toList, hlen, h1]
          have hcs : cells.size = cs.length := by rw [← Array.length_toList, hcl]
          have hcond : (decide (v.cells.size ≠ size) || decide (off + v.cells.size > cells.size)) = false := by
            rw [Bool.or_eq_false_iff, decide_eq_false_iff_not, decide_eq_false_iff_not, hs, hcs]; omega
          simp only [Instr.fill, hpl, hcond, Bool.false_eq_true, if_false]
          obtain ⟨g1, g2⟩ := foldl_set off v.cells.toList 0 cells
          have e : (v.cells.zipIdx.foldl (fun cs x => match x with | (c, j) => cs.setIfInBounds (off + j) c) cells) =
              ((v.cells.toList.zipIdx 0).foldl (fun cs x => cs.setIfInBounds (off + x.2) x.1) cells) := by
            rw [← Array.foldl_toList]
            simp
          rw [e]
          obtain ⟨cells', i1, i2, i3⟩ := ih vs (overL cs off (cellsOf x)) r ((v.cells.toList.zipIdx 0).foldl (fun cs x => cs.setIfInBounds (off + x.2) x.1) cells) h ht (by
            refine BRels.of_get (by rw [Array.length_toList, g1, overL_length, hcs]) fun j y u hy hu => ?_
            rw [overL_get _ _ _ (by omega)] at hy
            rw [Array.getElem?_toList, g2 j (by omega)] at hu
            by_cases hcnd : off ≤ j ∧ j < off + (cellsOf x).length
            · rw [if_pos hcnd] at hy
              rw [if_pos (by omega)] at hu
              obtain ⟨u', hu1, hu2⟩ := hcv.get? hy
              simp only [Nat.add_zero] at hu
              rw [hu1] at hu; cases hu; exact hu2
            · rw [if_neg hcnd] at hy
              rw [if_neg (by omega)] at hu
              obtain ⟨u', hu1, hu2⟩ := hc.get? hy
              rw [Array.getElem?_toList] at hu1
              rw [hu1] at hu; cases hu; exact hu2)
          exact ⟨cells', i1, i2, by rw [i3, overL_length]⟩
        · cases h

theorem placesL_run (hT : TyOk S) : ∀ (fs : List Field) (pl : List (Nat × Nat)), placesL S fs = some pl → ∀ w : World, (fs.mapM fun f => do pure (f.offset, ← sizeOf f.type) : Sem (List (Nat × Nat))).run S.P w = .ok pl w := by
  intro fs
  induction fs with
  | nil => intro pl h w; cases h; rfl
  | cons f l ih =>
    intro pl h w
    unfold placesL at h
    split at h
    · rename_i k r hk hr
      cases h
      rw [List.mapM_cons]
      simp only [Sem.run_bind, run_sz hT hk, Result.andThen_ok, Sem.run_pure, ih r hr]
    · cases h
theorem build_sound (hT : TyOk S) {t : TypeId} {ps : List (Nat × BV)} {v : BV} (hv : buildV S t ps = some v) {vs : List (Nat × Value)} (hp : PRels γ ps vs) (w : World) :
    ∃ z, (Instr.build t vs.toArray).run S.P w = .ok z w ∧ BRel γ v z := by
  unfold buildV at hv
  split at hv
  · rename_i pl z hpl hz
    split at hv
    · rename_i l hf
      cases hv
      unfold placesS at hpl
      split at hpl
      · rename_i fs hu
        obtain ⟨zv, hzv, rfl, _⟩ := zeroC_spec hT hz
        obtain ⟨cells', h1, h2, _⟩ := fill_sound (γ := γ) (fun i => pl[i]?) _ _ _ _ zv.cells hf hp (cvl_rel _)
        have hpr := placesL_run hT _ _ hpl w
        have hpa : (fs.mapM fun f => do pure (f.offset, ← sizeOf f.type) : Sem (Array (Nat × Nat))).run S.P w = .ok pl.toArray w := by
          rw [Array.mapM_eq_mapM_toList, Sem.run_map, hpr]; rfl
        refine ⟨.agg cells', ?_, .a _ _ h2⟩
        simp only [Instr.build, Sem.run_bind, hzv, Result.andThen_ok, run_und hT hu, hpa]
        have : (fun i : Nat => pl.toArray[i]?) = fun i : Nat => pl[i]? := by funext i; simp
        rw [this, h1]
        rfl
      · cases hpl
    · cases hv
  · cases hv

theorem takeL_eq : ∀ (n : Nat) (l : List BV), takeL n l = l.take n
  | 0, _ => by simp [takeL]
  | _+1, [] => rfl
  | n+1, x :: l => by simp [takeL, takeL_eq n l]
theorem dropL_eq : ∀ (n : Nat) (l : List BV), dropL n l = l.drop n
  | 0, _ => by simp [dropL]
  | _+1, [] => rfl
  | n+1, x :: l => by simp [dropL, dropL_eq n l]
theorem field_sound (hT : TyOk S) {t f ft off k : Nat} {l : List BV} {v : BV} (hf : fieldT S t f = some (ft, off)) (hk : sz S ft = some k) (hb : off + k ≤ l.length) (hv : valOf S ft (takeL k (dropL off l)) = some v)
    {vs : Array Value} (hl : BRels γ l vs.toList) (w : World) : ∃ z, (Instr.field t (.agg vs) f).run S.P w = .ok z w ∧ BRel γ v z := by
  obtain ⟨fs, fd, hu, hfd, rfl, rfl⟩ := fieldT_spec hT hf
  have hlen : vs.size = l.length := by rw [← Array.length_toList]; exact hl.length
  unfold valOf at hv
  rw [takeL_eq, dropL_eq] at hv
  split at hv
  · rename_i ha
    cases hv
    refine ⟨.agg (vs.extract fd.offset (fd.offset + k)), ?_, .a _ _ ?_⟩
    · simp [Instr.field, run_underlying hu, hfd, asAgg, part, run_agg hT ha, run_sz hT hk]
    · refine BRels.of_get (by simp; omega) fun j x u hx hu' => ?_
      have hj : j < k := by
        rcases Nat.lt_or_ge j k with h | h
        · exact h
        · rw [List.getElem?_eq_none (by simp; omega)] at hx; cases hx
      rw [List.getElem?_take_of_lt hj, List.getElem?_drop] at hx
      obtain ⟨u', h1, h2⟩ := hl.get? hx
      rw [Array.getElem?_toList] at h1
      have : (vs.extract fd.offset (fd.offset + k)).toList[j]? = vs[fd.offset + j]? := by
        rw [Array.getElem?_toList, Array.getElem?_extract_of_lt (by omega), Array.getElem?_eq_getElem (by omega)]
      rw [this, h1] at hu'
      cases hu'
      exact h2
  · rename_i ha
    split at hv
    · rename_i x hx
      cases hv
      have h0 : l[fd.offset]? = some v := by
        have := congrArg (·[0]?) hx
        simp at this
        rw [List.getElem?_take] at this
        split at this
        · simpa using this
        · cases this
      obtain ⟨u, h1, h2⟩ := hl.get? h0
      rw [Array.getElem?_toList] at h1
      exact ⟨u, by simp [Instr.field, run_underlying hu, hfd, asAgg, part, run_agg hT ha, h1], h2⟩
    · cases hv
  · cases hv
end Go.Bm

/-! Every operation that changes nothing. -/
namespace Go.Bm
open Go Go.RowKit
variable {S : Seat} {γ γ' : Nat → Option G} {C : Ctx} {h : Hp} {w w' : World} {σ : Tr BV} {a : Act} {P : Program}

/-- What holds of the seat's tables. -/
structure VOk (S : Seat) : Prop extends TyOk S where
  eq2 : ∀ t, S.eq2 t = true → ∀ (a b c d : Int) (w : World), (Op.equal t (.agg #[.int .i64 a, .int .i64 b]) (.agg #[.int .i64 c, .int .i64 d])).run S.P w = .ok (a == c && b == d) w ∧
      ∀ op x y, (eqGuard op t x y (.agg #[.int .i64 a, .int .i64 b]) (.agg #[.int .i64 c, .int .i64 d])).run S.P w = .ok () w
  lies : ∀ e off u, S.lies e off u = true → liesAt S.P S.P.depth e 1 off u 1 = true

theorem binV_sound (hS : VOk S) {o : BinOp} {t : TypeId} {xo yo : Operand} {x y v : BV} (hv : binV S t yo o x y = some v) {u z : Value} (hx : BRel γ x u) (hy : BRel γ y z) (w : World) :
    ∃ q, (do eqGuard o t xo yo u z; binOp o t u z : Sem Value).run S.P w = .ok q w ∧ BRel γ v q := by
  have other : binX S t yo o x y = some v → ∃ q, (do eqGuard o t xo yo u z; binOp o t u z : Sem Value).run S.P w = .ok q w ∧ BRel γ v q := by
    intro hb
    unfold binX at hb
    split at hb
    · split at hb
      · rename_i r hr; cases hb
        obtain ⟨h1, h2, h3, _⟩ := eqT_sound hS.toTyOk hS.eq2 (xo := xo) hr hx hy w
        exact ⟨.bool r, by rw [h3]; simp [h2, h1], .b r⟩
      · cases hb
    · split at hb
      · rename_i r hr; cases hb
        obtain ⟨h1, h2, _, h3⟩ := eqT_sound hS.toTyOk hS.eq2 (xo := xo) hr hx hy w
        exact ⟨.bool (!r), by rw [h3]; simp [h2, h1], .b (!r)⟩
      · cases hb
    · cases hb
  cases x <;> simp only [binV] at hv <;> (try exact other hv)
  case i k n =>
    cases hx
    cases y <;> simp only [binI] at hv <;> (try (cases hv; done))
    case i k' m =>
      cases hy
      unfold intG at hv
      have hg : (eqGuard o t xo yo (.int k n) (.int k' m)).run S.P w = .ok () w := by cases o <;> rfl
      cases hb : Nat.beq (kn k) (kn k') with
      | true =>
        rw [hb] at hv
        have := kn_eq hb
        subst this
        cases hsh : isSh o with
        | false =>
          obtain ⟨q, h1, h2⟩ := intOp_sound (S := S) (γ := γ) hv hsh t w
          exact ⟨q, by simp [hg, h1], h2⟩
        | true =>
          obtain ⟨q, h1, h2⟩ := shOp_sound (S := S) (γ := γ) (k' := k) hv hsh t w
          exact ⟨q, by simp [hg, h1], h2⟩
      | false =>
        rw [hb] at hv
        cases hsh : isSh o with
        | false => rw [hsh] at hv; cases hv
        | true =>
          rw [hsh] at hv
          obtain ⟨q, h1, h2⟩ := shOp_sound (S := S) (γ := γ) (k' := k') hv hsh t w
          exact ⟨q, by simp [hg, h1], h2⟩
  case s n c =>
    cases hx with | s _ _ hc =>
    cases y <;> simp only [binS] at hv <;> (try (cases hv; done))
    case s m d =>
      cases hy with | s _ _ hd =>
      have hg : (eqGuard o t xo yo (strV n c) (strV m d)).run S.P w = .ok () w := by cases o <;> rfl
      obtain ⟨q, h1, h2⟩ := strOp_sound (S := S) (γ := γ) hv hc hd t w
      exact ⟨q, by simp [hg, h1], h2⟩
theorem ifB_spec {b : Bool} {v r : BV} (h : ifB b v = some r) : b = true ∧ v = r := ite_none_some h
theorem len_run {t : TypeId} {v : Value} {n : Nat} {ty : TypeId} (h : (P.underlying t = some .string ∧ ∃ n' c, v = strV n' c ∧ n' = n) ∨ ((∃ e, P.underlying t = some (.slice e)) ∧ ∃ ad c, v = .slice ad n c)) (w : World) :
    (Builtin.len_ #[t] ty #[v]).run P w = .ok (.int .i64 (.ofNat n)) w := by
  rcases h with ⟨hu, n', c, rfl, rfl⟩ | ⟨⟨e, hu⟩, ad, c, rfl⟩
  · have := strV_size n' c
    simp [Builtin.len_, strV, run_underlying hu, goInt, this]
  · simp [Builtin.len_, run_underlying hu, goInt]
theorem usd_run {ad : Addr} {n c : Nat} {ts : Array TypeId} {ty : TypeId} {cs : Array Bool} (hc : c ≠ 0) : (builtin .unsafeSliceData ts ty cs #[.slice (some ad) n c]).run P w = .ok (.value (.pointer (some ad))) w := by
  show (((if c ≠ 0 then pure (.pointer (some ad)) else _ : Sem Value) >>= fun a => pure (.value a)) : Sem Next).run P w = _
  rw [if_pos hc]; rfl
theorem builtV_sound (hS : VOk S) (r : Rel C γ h w) {b : Builtin} {ts : Array TypeId} {xs : List BV} {v : BV} (hv : builtV S h b ts xs = some v) {vs : List Value} (hx : BRels γ xs vs) (ty : TypeId) (cs : Array Bool) :
    ∃ q, (builtin b ts ty cs vs.toArray).run S.P w = .ok (.value q) w ∧ BRel γ v q := by
  have two : ∀ {f : Int → Int → Int} {g : Value → Value → Sem Value}, mmV f xs = some v → (∀ k x y, (g (.int k x) (.int k y)) = pure (.int k (f x y)) ∧ ∀ k', g (.int k x) (.int k' y) = pure (.int k (f x y))) →
      ∃ x y q, vs = [x, y] ∧ g x y = pure q ∧ BRel γ v q := by
    intro f g hm hg
    unfold mmV at hm
    split at hm
    · cases hm
      obtain ⟨x, y, rfl, h1, h2⟩ := hx.two_inv
      cases h1; cases h2
      exact ⟨_, _, _, rfl, (hg _ _ _).2 _, .i _ _⟩
    · cases hm
  have ts1 : ∀ {t : TypeId}, ts.toList = [t] → ts = #[t] := fun e => Array.ext' e
  cases b <;> simp only [builtV] at hv <;> (try (cases hv; done))
  case len =>
    split at hv
    · rename_i t x hts
      have hts := ts1 hts
      subst hts
      obtain ⟨u, rfl, hu⟩ := hx.one_inv
      have fin : ∀ n, v = nat64 n → (Builtin.len_ #[t] ty #[u]).run S.P w = .ok (.int .i64 (.ofNat n)) w → ∃ q, (builtin .len #[t] ty cs [u].toArray).run S.P w = .ok (.value q) w ∧ BRel γ v q := by
        intro n e hr
        subst e
        refine ⟨_, ?_, .i _ _⟩
        show ((Builtin.len_ #[t] ty #[u] >>= fun a => pure (.value a)) : Sem Next).run S.P w = _
        rw [Sem.run_bind, hr]; rfl
      have arr : (match arrK S t with | some (n, _) => some (nat64 n) | none => none) = some v → ∃ q, (builtin .len #[t] ty cs [u].toArray).run S.P w = .ok (.value q) w ∧ BRel γ v q := by
        intro ha
        split at ha
        · rename_i n k hk
          cases ha
          obtain ⟨e, hu', _⟩ := arrK_spec hS.toTyOk hk
          refine fin n rfl ?_
          simp [Builtin.len_, run_underlying hu', goInt]
        · cases ha
      cases x <;> simp only [lenV] at hv <;> (try exact arr hv)
      case s n c =>
        obtain ⟨h1, rfl⟩ := ifB_spec hv
        cases hu
        exact fin n rfl (len_run (.inl ⟨isStr_spec hS.toTyOk h1, _, _, rfl, rfl⟩) w)
      case ns =>
        obtain ⟨h1, rfl⟩ := ifB_spec hv
        cases hu
        exact fin 0 rfl (len_run (.inr ⟨isSl_spec hS.toTyOk h1, _, _, rfl⟩) w)
      case se =>
        obtain ⟨h1, rfl⟩ := ifB_spec hv
        cases hu
        exact fin 0 rfl (len_run (.inr ⟨isSl_spec hS.toTyOk h1, _, _, rfl⟩) w)
      case sl id off n c =>
        obtain ⟨h1, rfl⟩ := ifB_spec hv
        cases hu
        exact fin n rfl (len_run (.inr ⟨isSl_spec hS.toTyOk h1, _, _, rfl⟩) w)
      case sg k id off n =>
        obtain ⟨h1, rfl⟩ := ifB_spec hv
        cases hu
        exact fin n rfl (len_run (.inr ⟨isSl_spec hS.toTyOk h1, _, _, rfl⟩) w)
      case nm =>
        obtain ⟨h1, rfl⟩ := ifB_spec hv
        obtain ⟨kt, e, hu'⟩ := isMp_spec hS.toTyOk h1
        cases hu
        exact fin 0 rfl (by simp [Builtin.len_, run_underlying hu', goInt])
      case m id =>
        split at hv
        · rename_i l ho
          obtain ⟨h1, rfl⟩ := ifB_spec hv
          obtain ⟨kt, e, hu'⟩ := isMp_spec hS.toTyOk h1
          cases hu with | m _ g hg =>
          obtain ⟨es, cl, l', q1, q2, q3, _⟩ := OM.mObj r ho hg
          have hlen : es.size = l.length := by
            have key : ∀ {l : List (BV × BV)} {es : List MapEntry}, EsRel γ l es → es.length = l.length := by
              intro l
              induction l with
              | nil => intro es he; cases es with | nil => rfl | cons _ _ => exact he.elim
              | cons x l ih => intro es he; cases es with | nil => exact he.elim | cons y es => simp [ih he.2.2]
            rw [← Array.length_toList, key q3, q2.length_eq]
          refine fin _ rfl ?_
          simp [Builtin.len_, run_underlying hu', goInt, run_getMap q1, hlen]
        · cases hv
    · cases hv
  case cap =>
    split at hv
    · rename_i t x hts
      have hts := ts1 hts
      subst hts
      obtain ⟨u, rfl, hu⟩ := hx.one_inv
      unfold capV at hv
      split at hv
      · obtain ⟨h1, rfl⟩ := ifB_spec hv
        obtain ⟨e, hu'⟩ := isSl_spec hS.toTyOk h1
        cases hu
        exact ⟨_, by simp [builtin, Builtin.cap_, run_underlying hu']; rfl, .i _ _⟩
      · obtain ⟨h1, rfl⟩ := ifB_spec hv
        obtain ⟨e, hu'⟩ := isSl_spec hS.toTyOk h1
        cases hu
        exact ⟨_, by simp [builtin, Builtin.cap_, run_underlying hu']; rfl, .i _ _⟩
      · cases hv
    · cases hv
  case max =>
    obtain ⟨x, y, q, rfl, hq, hr⟩ := two (g := Builtin.max2) hv (by
      have key : ∀ (k k' : IntKind) (x y : Int), Builtin.max2 (.int k x) (.int k' y) = pure (.int k (maxI x y)) := by
        intro k k' x y
        simp only [Builtin.max2, maxI, ltI_eq]
        by_cases hxy : x < y
        · rw [if_pos (by omega), decide_eq_true hxy]
        · rw [if_neg (by omega), decide_eq_false hxy]
      exact fun k x y => ⟨key k k x y, fun k' => key k k' x y⟩)
    exact ⟨q, by simp [builtin, Builtin.max_, hq], hr⟩
  case min =>
    obtain ⟨x, y, q, rfl, hq, hr⟩ := two (g := Builtin.min2) hv (by
      have key : ∀ (k k' : IntKind) (x y : Int), Builtin.min2 (.int k x) (.int k' y) = pure (.int k (minI x y)) := by
        intro k k' x y
        simp only [Builtin.min2, minI, ltI_eq]
        by_cases hxy : y < x
        · rw [if_pos (by omega), decide_eq_true hxy]
        · rw [if_neg (by omega), decide_eq_false hxy]
      exact fun k x y => ⟨key k k x y, fun k' => key k k' x y⟩)
    exact ⟨q, by simp [builtin, Builtin.min_, hq], hr⟩
  case unsafeSliceData =>
    split at hv
    · rename_i x
      obtain ⟨u, rfl, hu⟩ := hx.one_inv
      unfold usdV at hv
      split at hv
      · cases hv; cases hu
        exact ⟨.pointer none, rfl, .np⟩
      · split at hv
        · cases hv
        · rename_i hc; cases hv
          cases hu with | sl _ _ _ _ g hg hcc =>
          have := Nat.ne_of_beq_eq_false hc
          exact ⟨_, usd_run (ts := ts) (ty := ty) (cs := cs) this, .p _ _ g hg⟩
      · split at hv
        · cases hv
        · rename_i hc; cases hv
          cases hu with | sg _ _ _ _ g o hg hk h0 ho hcc =>
          have := Nat.ne_of_beq_eq_false hc
          have hne : ¬ (g.C - o = 0) := by omega
          exact ⟨_, usd_run (ts := ts) (ty := ty) (cs := cs) hne, .p _ _ g hg⟩
      · cases hv
    · cases hv
theorem evV_sound (hS : VOk S) (hG : GtOk S C) (r : Rel C γ h w) (hs : SRel γ σ a.tmps) (o : Oper) {v : BV} (hv : evV S h o.op σ = some v) :
    ∃ z, (execOp a.eval o).run S.P w = .ok (.value z) w ∧ BRel γ v z := by
  obtain ⟨dst, op, type, pos, after, guard⟩ := o
  dsimp only at hv
  cases op <;> simp only [evV] at hv <;> (try (cases hv; done))
  case move x => cases hv; exact ⟨_, rfl, opv_rel hs x⟩
  case assign x => cases hv; exact ⟨_, rfl, opv_rel hs x⟩
  case pick c x y =>
    unfold vPick at hv
    have hc := opv_rel hs c
    cases hcv : opv σ c <;> rw [hcv] at hv hc <;> simp only [pickV] at hv <;> (try (cases hv; done))
    rename_i b
    cases hv
    generalize hq : a.eval c = q at hc
    cases hc
    cases b with
    | true => exact ⟨a.eval x, by simp [execOp, hq, asBool], opv_rel hs x⟩
    | false => exact ⟨a.eval y, by simp [execOp, hq, asBool], opv_rel hs y⟩
  case load t x =>
    obtain ⟨z, h1, h2⟩ := loadV_sound hS.toTyOk hG r hv (opv_rel hs x)
    exact ⟨z, by simp [execOp, h1], h2⟩
  case nilCheck x =>
    unfold vNil at hv
    have hx := opv_rel hs x
    cases hxv : opv σ x <;> rw [hxv] at hv hx <;> simp only [nilV] at hv <;> (try (cases hv; done))
    cases hv
    generalize hq : a.eval x = q at hx
    cases hx with | p _ _ g hg =>
    exact ⟨.pointer (some ⟨g.b, _, none⟩), by simp [execOp, hq], .p _ _ g hg⟩
  case binOp o t x y yt =>
    obtain ⟨z, h1, h2⟩ := binV_sound hS (xo := x) hv (opv_rel hs x) (opv_rel hs y) w
    exact ⟨z, by simp only [execOp]; rw [Sem.run_bind, h1]; rfl, h2⟩
  case unOp o t x =>
    unfold vUn at hv
    have hx := opv_rel hs x
    unfold unV at hv
    split at hv
    · rename_i b hb
      rw [hb] at hx
      cases hv
      generalize hq : a.eval x = q at hx
      cases hx
      exact ⟨_, by simp [execOp, hq, Op.unary], .b _⟩
    · rename_i k n hb
      rw [hb] at hx
      cases hv
      generalize hq : a.eval x = q at hx
      cases hx
      exact ⟨.int k (k.wrap (0 - n)), by simp [execOp, hq, Op.unary, Op.intArith], by rw [wr_eq, negI_eq, show -n = 0 - n by omega]; exact .i _ _⟩
    · cases hv
  case convert s d x =>
    obtain ⟨z, h1, h2⟩ := convV_sound hS.toTyOk hS.lies r hv (opv_rel hs x)
    exact ⟨z, by simp [execOp, h1], h2⟩
  case makeFunc fn fs cs =>
    unfold vFunc at hv
    split at hv
    · cases hv
      exact ⟨.func _ (fs.map a.eval) (cs.map a.eval), by simp [execOp, Instr.makeFunc], .f _ _ _ _ _ (by simpa using maps_rel hs fs.toList) (by simpa using maps_rel hs cs.toList)⟩
    · cases hv
  case slice t x lo hi mx =>
    obtain ⟨z, h1, h2⟩ := sliceV_sound hS.toTyOk r hv (opv_rel hs x) (omap_rel hs lo) (omap_rel hs hi) (omap_rel hs mx)
    exact ⟨z, by simp [execOp, h1], h2⟩
  case fieldAddr t x f =>
    unfold vFieldA at hv
    have hx := opv_rel hs x
    cases hxv : opv σ x <;> rw [hxv] at hv hx <;> simp only [fldP] at hv <;> (try (cases hv; done))
    rename_i id off
    cases hfa : fieldA S t f with
    | none => rw [hfa] at hv; cases hv
    | some fo =>
      rw [hfa] at hv
      cases hv
      generalize hq : a.eval x = q at hx
      cases hx with | p _ _ g hg =>
      unfold fieldA at hfa
      split at hfa
      · rename_i ft fo' hft
        split at hfa
        · rename_i k hk
          cases hfa
          obtain ⟨fs, fd, hu, hfd, rfl, rfl⟩ := fieldT_spec hS.toTyOk hft
          have hsz := run_sz hS.toTyOk hk w
          refine ⟨.pointer (some ⟨g.b, off + fd.offset, none⟩), ?_, .p _ _ g hg⟩
          simp [execOp, hq, Instr.fieldAt, run_underlying hu, hfd, Instr.sureAddr, fieldPlace, hsz, addr_add]
        · cases hfa
      · cases hfa
  case field t x f =>
    unfold vField at hv
    have hx := opv_rel hs x
    split at hv
    · rename_i ft off l hf hl
      rw [hl] at hx
      generalize hq : a.eval x = q at hx
      cases hx with | a _ vs hvs =>
      split at hv
      · rename_i k hk
        split at hv
        · rename_i hb
          obtain ⟨z, h1, h2⟩ := field_sound hS.toTyOk hf hk (Nat.le_of_ble_eq_true hb) hv hvs w
          exact ⟨z, by simp [execOp, hq, h1], h2⟩
        · cases hv
      · cases hv
    · cases hv
  case indexAddr t x i =>
    obtain ⟨z, h1, h2⟩ := idxAddr_sound (w := w) hS.toTyOk hv (opv_rel hs x) (opv_rel hs i)
    exact ⟨z, by simp [execOp, h1], h2⟩
  case index t x i =>
    unfold vIdx at hv
    have hx := opv_rel hs x
    have hi := opv_rel hs i
    cases hxv : opv σ x <;> rw [hxv] at hv hx <;> simp only [idxT] at hv <;> (try (cases hv; done))
    rename_i n c
    cases hst : isStr S t with
    | false => rw [hst] at hv; cases hv
    | true =>
      rw [hst] at hv
      have hu := isStr_spec hS.toTyOk hst
      have hv : idxS n c (natV (opv σ i)) = some v := hv
      unfold idxS at hv
      split at hv
      · rename_i m hm
        obtain ⟨kk, hik⟩ := natV_spec hm hi
        split at hv
        · rename_i hb; cases hv
          have hb := blt_lt hb
          generalize hq : a.eval x = q at hx
          cases hx
          refine ⟨.int .u8 (.ofNat (byteAt c m)), ?_, .i _ _⟩
          have hg : (⟨(dec n c).toArray⟩ : ByteArray)[m]? = some (UInt8.ofNat (byteAt c m)) := by
            show (if h : m < (⟨(dec n c).toArray⟩ : ByteArray).size then some _ else none) = _
            rw [dif_pos (by rw [strV_size]; exact hb)]
            congr 1
            have := dec_get n c m hb
            rw [List.getElem?_eq_getElem (by rw [dec_length]; exact hb)] at this
            exact Option.some.inj this
          simp only [execOp, hq, hik, strV, Instr.index, asIntOf, Sem.run_bind, Sem.run_pure, Result.andThen_ok, run_underlying hu]
          rw [if_pos (by simp)]
          have e1 : (Int.ofNat m).toNat = m := rfl
          rw [e1, hg]
          show Result.ok (Next.value (.int .u8 ((UInt8.ofNat (byteAt c m)).toNat : Int))) w = _
          rw [u8_toNat]; rfl
        · cases hv
      · cases hv
  case lookup t x k ok =>
    obtain ⟨z, h1, h2⟩ := lookV_sound hS.toTyOk r hv (opv_rel hs x) (opv_rel hs k)
    exact ⟨z, by simp [execOp, h1], h2⟩
  case extract x n =>
    unfold vExt at hv
    have hx := opv_rel hs x
    cases hxv : opv σ x <;> rw [hxv] at hv hx <;> simp only [tupG] at hv <;> (try (cases hv; done))
    rename_i l
    generalize hq : a.eval x = q at hx
    cases hx with | t _ vs hvs =>
    obtain ⟨u, h1, h2⟩ := hvs.get? hv
    rw [Array.getElem?_toList] at h1
    exact ⟨u, by simp [execOp, hq, Instr.extract, h1], h2⟩
  case build t ps =>
    obtain ⟨z, h1, h2⟩ := build_sound hS.toTyOk hv (mapOps_rel hs ps.toList) w
    refine ⟨z, ?_, h2⟩
    have : (ps.map fun x => match x with | (i, x) => (i, a.eval x)) = (ps.toList.map fun p => (p.1, a.eval p.2)).toArray := by
      apply Array.ext'; simp
    simp only [execOp, this, Sem.run_bind, h1]
    rfl
  case next it b =>
    unfold vNext at hv
    have hx := opv_rel hs it
    split at hv
    · rename_i id hxv
      rw [hxv] at hx
      split at hv
      · rename_i c ho
        cases hv
        generalize hq : a.eval it = q at hx
        cases hx with | p _ _ g hg =>
        have := r.ob id
        rw [ho] at this
        obtain ⟨g', h1, h2⟩ := this
        rw [hg] at h1; cases h1
        refine ⟨.tuple #[.bool false], ?_, .t _ _ (.cons (.b false) .nil)⟩
        have hgo : (getObj g.b).run S.P w = .ok (.stringIter ⟨(dec 0 c).toArray⟩ 0) w := by simp [getObj, Sem.run, h2]
        simp only [execOp, hq, Instr.next, Sem.run_bind, hgo, Result.andThen_ok]
        rw [if_neg (by rw [strV_size]; omega)]
        rfl
      · cases hv
    · cases hv
  case call c =>
    obtain ⟨callee, args, ts⟩ := c
    cases callee with
    | value f => simp only [vCall, calV, vN] at hv; cases hv
    | invoke r m => simp only [vCall, calV, vN] at hv; cases hv
    | builtin b =>
      simp only [vCall, calV] at hv
      obtain ⟨z, h1, h2⟩ := builtV_sound hS r hv (maps_rel hs args.toList) type (args.map fun | .const _ => true | _ => false)
      refine ⟨z, ?_, h2⟩
      have : args.map a.eval = (args.toList.map a.eval).toArray := by apply Array.ext'; simp
      simp only [execOp, resolve, Sem.run_bind, Sem.run_pure, Result.andThen_ok, invoke, this]
      exact h1
end Go.Bm

/-! Operations that make memory. -/
namespace Go.Bm
open Go Go.RowKit
variable {S : Seat} {γ γ' : Nat → Option G} {C : Ctx} {h : Hp} {w w' : World} {σ : Tr BV} {a : Act} {P : Program}

/-- A world with more memory, where g is new. -/
structure Fresh (w w' : World) (g : G) : Prop where
  os : w'.os = w.os
  tape : w'.tape = w.tape
  output : w'.output = w.output
  lo : w.heap.size ≤ g.b
  hi : g.b < w'.heap.size
  old : ∀ b, b < w.heap.size → w'.heap[b]? = w.heap[b]?
theorem Fresh.alloc (w : World) (o : Obj) (k c : Nat) : Fresh w (w.alloc o) ⟨w.heap.size, k, c, none⟩ :=
  ⟨rfl, rfl, rfl, Nat.le_refl _, by simp, fun b hb => Below.heap_alloc w o b hb⟩
theorem alloc_new (w : World) (o : Obj) : (w.alloc o).heap[w.heap.size]? = some o := heap_alloc_new w o

theorem allOne_get : ∀ {l : List BV}, allOne l = true → ∀ {i : Nat} {x : BV}, l[i]? = some x → one x = true
  | [], _, i, x, hx => by cases hx
  | y :: l, h, i, x, hx => by
    simp only [allOne, Bool.and_eq_true] at h
    cases i with
    | zero => simp at hx; subst hx; exact h.1
    | succ i => exact allOne_get h.2 (by simpa using hx)
theorem mkT_get (l : List BV) (j : Nat) (hj : j < l.length) : some ((mkT l).get j) = l[j]? := by
  unfold mkT ofL
  have := Tr.sets_get? l .e 0 j hj
  rwa [Nat.zero_add] at this
theorem mkC_OM {id e : Nat} {g : G} {l : List BV} {vs : Array Value} (hg : γ id = some g) (hl : BRels γ l vs.toList) (h1 : allOne l = true) (hh : w.heap[g.b]? = some (.cells vs e (0, 0))) (hs : vs.size = g.C * g.k) : OM γ w id (mkC e l) := by
  have hlen : vs.size = l.length := by rw [← Array.length_toList]; exact hl.length
  refine ⟨g, vs, hg, hh, by omega, hs, fun j hj => ?_⟩
  have hx := mkT_get l j hj
  obtain ⟨v, h2, h3⟩ := hl.get? hx.symm
  have e : vs.getD j undef = v := by rw [Array.getElem?_toList] at h2; rw [Array.getD_eq_getD_getElem?, h2]; rfl
  rw [e]
  exact ⟨h3, h3.one (allOne_get h1 hx.symm)⟩
/-- A row's cells: the first of a new block. -/
theorem rowC_OM {id e n k : Nat} {g : G} {l : List BV} {news : List Value} {cur : Array Value} (hg : γ id = some g) (hk : g.k = k) (hl : BRels γ l news) (h1 : allOne l = true) (hh : w.heap[g.b]? = some (.cells cur e (0, 0))) (hs : cur.size = g.C * k)
    (ht : cur.toList.take (n * k) = news) (hn : n * k = l.length) (hc : n ≤ g.C) : OM γ w id (mkC e l) := by
  have hnk : n * k ≤ cur.size := by rw [hs]; exact Nat.mul_le_mul_right k hc
  refine ⟨g, cur, hg, hh, by omega, by rw [hk]; exact hs, fun j hj => ?_⟩
  have hx := mkT_get l j hj
  obtain ⟨v, h2, h3⟩ := hl.get? hx.symm
  have e : cur.getD j undef = v := by
    rw [← ht, List.getElem?_take_of_lt (by omega), Array.getElem?_toList] at h2
    rw [Array.getD_eq_getD_getElem?, h2]; rfl
  rw [e]
  exact ⟨h3, h3.one (allOne_get h1 hx.symm)⟩
theorem rowB_OM {id e n c : Nat} {g : G} {cur : Array Value} (hg : γ id = some g) (hk : g.k = 1) (hh : w.heap[g.b]? = some (.cells cur e (0, 0))) (hs : cur.size = g.C) (ht : cur.toList.take n = (List.range n).map (byteV c)) (hc : n ≤ g.C) : OM γ w id (.bs e 0 n c) := by
  refine ⟨g, cur, (0, 0), hg, hh, hk, hs, by omega, rfl, fun j hj => ?_⟩
  have h1 : (cur.toList.take n)[j]? = some (byteV c j) := by rw [ht]; simp [hj]
  rw [List.getElem?_take_of_lt hj, Array.getElem?_toList] at h1
  exact h1
theorem mkRow_OM {id e n k : Nat} {g : G} {q : Row} {ob : Ob} {news : List Value} {cur : Array Value} (hm : mkRow S e k q = some ob) (hr : RowRel γ k n q news) (hg : γ id = some g) (hk : g.k = k) (hh : w.heap[g.b]? = some (.cells cur e (0, 0))) (hs : cur.size = g.C * k)
    (ht : cur.toList.take (n * k) = news) (hc : n ≤ g.C) : OM γ w id ob := by
  cases q with
  | bs m c =>
    obtain ⟨h1, h2, rfl, h3, h4, h5⟩ := hr
    simp only [mkRow] at hm
    split at hm
    · rename_i _ hb
      have := Nat.eq_of_beq_eq_true hb
      cases hm
      subst this
      rw [Nat.mul_one] at ht hs
      exact rowB_OM hg hk hh hs (ht.trans h5) hc
    · split at hm
      · rename_i h0; cases hm
        exact ⟨g, cur, hg, hh, by omega, by rw [hk]; exact hs, fun j hj => by omega⟩
      · cases hm
    · cases hm
  | c l =>
    obtain ⟨h1, h2, h3⟩ := hr
    have hlen : n * k = l.length := by rw [← h1]; exact h3.length
    simp only [mkRow] at hm
    split at hm
    · rename_i _ hb
      have := Nat.eq_of_beq_eq_true hb
      split at hm
      · rename_i c hp; cases hm
        subst this
        obtain ⟨p1, p2⟩ := packC_spec hp h3
        rw [Nat.mul_one] at ht hs hlen
        subst hlen
        exact rowB_OM hg hk hh hs (ht.trans p2) hc
      · cases hm
    · split at hm
      · rename_i h1'; cases hm
        exact rowC_OM hg hk h3 h1' hh hs ht hlen hc
      · cases hm
    · cases hm

theorem rep_length : ∀ (n : Nat) (z acc : List BV), (rep n z acc).length = n * z.length + acc.length
  | 0, z, acc => by simp [rep]
  | n+1, z, acc => by simp only [rep, rep_length n, List.length_append, Nat.add_mul]; omega
theorem rep_tail : ∀ (n : Nat) (z acc : List BV) (j : Nat), (rep n z acc)[n * z.length + j]? = acc[j]?
  | 0, z, acc, j => by simp [rep]
  | n+1, z, acc, j => by
    have := rep_tail n z (z ++ acc) (z.length + j)
    simp only [rep]
    rw [Nat.add_mul, Nat.one_mul, Nat.add_assoc, this, List.getElem?_append_right (by omega)]
    congr 1; omega
theorem rep_get : ∀ (n : Nat) (z acc : List BV) (i : Nat), i < n * z.length → (rep n z acc)[i]? = z[i % z.length]?
  | 0, z, acc, i, h => by omega
  | n+1, z, acc, i, h => by
    simp only [rep]
    rcases Nat.lt_or_ge i (n * z.length) with hi | hi
    · exact rep_get n z (z ++ acc) i hi
    · obtain ⟨j, rfl⟩ : ∃ j, i = n * z.length + j := ⟨i - n * z.length, by omega⟩
      have hj : j < z.length := by rw [Nat.add_mul] at h; omega
      rw [rep_tail, List.getElem?_append_left hj, Nat.mul_add_mod_of_lt' hj]
where
  Nat.mul_add_mod_of_lt' {n m j : Nat} (h : j < m) : (n * m + j) % m = j := by rw [Nat.mul_comm, Nat.mul_add_mod, Nat.mod_eq_of_lt h]
theorem rep_rel {n k : Nat} {zv : Value} (hk : (cvl zv.cells.toList).length = k) : BRels γ (rep n (cvl zv.cells.toList) []) (madeCells zv.cells (n * k)).toList := by
  have hz : zv.cells.size = k := by rw [← hk, cvl_length, Array.length_toList]
  refine BRels.of_get (by rw [rep_length, hk, Array.length_toList, size_madeCells]; simp) fun i x v hx hv => ?_
  have hi : i < n * k := by
    rcases Nat.lt_or_ge i (n * k) with h | h
    · exact h
    · rw [List.getElem?_eq_none (by rw [rep_length, hk]; simpa using h)] at hx; cases hx
  rw [rep_get _ _ _ _ (by rw [hk]; exact hi), hk] at hx
  have hlt : i % k < zv.cells.size := by
    rw [hz]
    refine Nat.mod_lt _ ?_
    rcases Nat.eq_zero_or_pos k with h0 | h0
    · rw [h0, Nat.mul_zero] at hi; omega
    · exact h0
  have hv' : v = zv.cells[i % zv.cells.size]! := by
    rw [Array.getElem?_toList] at hv
    simp only [madeCells, Array.getElem?_map, Array.getElem?_range, if_pos hi, Option.map_some] at hv
    exact (Option.some.inj hv).symm
  rw [hz] at hv'
  rw [hv', getElem!_pos zv.cells _ hlt]
  obtain ⟨u, h1, h2⟩ := (cvl_rel (γ := γ) zv.cells.toList).get? hx
  rw [Array.getElem?_toList, Array.getElem?_eq_getElem hlt] at h1
  cases h1
  exact h2

theorem one_all {l : List BV} {news : List Value} (h : BRels γ l news) (h1 : allOne l = true) : ∀ u ∈ news, u.oneCell' = true := by
  intro u hu
  obtain ⟨i, hi⟩ := List.getElem?_of_mem hu
  cases hx : l[i]? with
  | none =>
    have := h.length
    rw [List.getElem?_eq_none_iff] at hx
    rw [List.getElem?_eq_none (by omega)] at hi; cases hi
  | some x =>
    obtain ⟨v, h2, h3⟩ := h.get? hx
    rw [h2] at hi; cases hi
    exact h3.one (allOne_get h1 hx)
/-- The cells of a row that is made are one each. -/
theorem mkRow_one {e k : Nat} {l : List BV} {ob : Ob} (hm : mkRow S e k (.c l) = some ob) {news : List Value} (h : BRels γ l news) : ∀ u ∈ news, u.oneCell' = true := by
  simp only [mkRow] at hm
  split at hm
  · split at hm
    · rename_i c hp
      obtain ⟨_, p2⟩ := packC_spec hp h
      rw [p2]; exact byteV_one _ _
    · cases hm
  · split at hm
    · rename_i h1; exact one_all h h1
    · cases hm
  · cases hm

theorem evB_sound (hS : VOk S) (hs : SRel γ σ a.tmps) {id : Nat} (hu : γ id = none) (o : Oper) {v : BV} {ob : Ob} (hv : evB S o.op σ id = some (v, ob)) (w : World) :
    ∃ z w' g, (execOp a.eval o).run S.P w = .ok (.value z) w' ∧ Fresh w w' g ∧ BRel (upd γ id (some g)) v z ∧ OM (upd γ id (some g)) w' id ob := by
  have hγ : ∀ g, GLe γ (upd γ id (some g)) := fun g i g' hi => by
    by_cases e : i = id
    · subst e; rw [hu] at hi; cases hi
    · rw [upd_ne _ _ e]; exact hi
  have hT := hS.toTyOk
  obtain ⟨dst, op, type, pos, after, guard⟩ := o
  dsimp only at hv
  cases op <;> simp only [evB] at hv <;> (try (cases hv; done))
  case alloc t =>
    unfold bAlloc at hv
    split at hv
    · rename_i l hz
      split at hv
      · rename_i h1
        cases hv
        obtain ⟨zv, hz1, rfl, _⟩ := zeroC_spec hT hz
        refine ⟨.pointer (some ⟨w.heap.size, 0, none⟩), w.alloc (.cells zv.cells t), ⟨w.heap.size, 1, zv.cells.size, none⟩, ?_, Fresh.alloc _ _ _ _, .p id 0 _ (upd_same _ _ _), mkC_OM (upd_same _ _ _) (cvl_rel _) h1 (alloc_new _ _) (by simp)⟩
        simp [execOp, Instr.alloc, hz1, newVar, newRow]
      · cases hv
    · cases hv
  case box t x =>
    unfold bBox at hv
    split at hv
    · rename_i h1
      cases hv
      have hok : okV (opv σ x) = true := by
        cases hx : opv σ x <;> rw [hx] at h1 <;> first | rfl | (simp [cellsOf, allOne, one] at h1)
      have hc := cells_rel hok (opv_rel hs x)
      refine ⟨.pointer (some ⟨w.heap.size, 0, none⟩), w.alloc (.cells (a.eval x).cells t), ⟨w.heap.size, 1, (a.eval x).cells.size, none⟩, ?_, Fresh.alloc _ _ _ _, .p id 0 _ (upd_same _ _ _), mkC_OM (upd_same _ _ _) (hc.mono (hγ _)) h1 (alloc_new _ _) (by simp)⟩
      simp [execOp, Instr.box, newVar, newRow]
    · cases hv
  case buildSlice t n ps =>
    unfold bSlice at hv
    split at hv
    · rename_i e he
      split at hv
      · rename_i k z hk hz
        split at hv
        · rename_i hb
          rw [Bool.and_eq_true] at hb
          have hb1 : n * (k + 1) ≤ 16777216 := Nat.le_of_ble_eq_true hb.1
          have hb2 : z.length = k + 1 := Nat.eq_of_beq_eq_true hb.2
          split at hv
          · rename_i l hf
            split at hv
            · rename_i ob' hm
              cases hv
              obtain ⟨zv, hz1, rfl, _⟩ := zeroC_spec hT hz
              obtain ⟨cells', h1, h2, h3⟩ := fill_sound (γ := γ) _ _ _ _ _ (madeCells zv.cells (n * (k + 1))) hf (mapOps_rel hs ps.toList) (rep_rel hb2)
              have hlen : l.length = n * (k + 1) := by rw [h3, rep_length, hb2]; simp
              have hsz : cells'.size = n * (k + 1) := by rw [← Array.length_toList, h2.length, hlen]
              have hrow : RowRel (upd γ id (some ⟨w.heap.size, k + 1, n, none⟩)) (k + 1) n (.c l) cells'.toList := ⟨by rw [h2.length, hlen], mkRow_one hm h2, h2.mono (hγ _)⟩
              refine ⟨.slice (some ⟨w.heap.size, 0, none⟩) n n, w.alloc (.cells cells' e), ⟨w.heap.size, k + 1, n, none⟩, ?_, Fresh.alloc _ _ _ _, .sl id 0 n n _ (upd_same _ _ _) (Nat.le_refl _),
                mkRow_OM hm hrow (upd_same _ _ _) rfl (alloc_new _ _) hsz (by rw [List.take_of_length_le (by rw [Array.length_toList, hsz]; exact Nat.le_refl _)]) (Nat.le_refl _)⟩
              have hle : ¬ (n * (k + 1) > 2 ^ 24) := by omega
              have hu' := elemT_spec hT he
              have e1 : (ps.map fun (x : Nat × Operand) => (x.1, a.eval x.2)).toList = ps.toList.map fun p => (p.1, a.eval p.2) := by simp
              by_cases h0 : n * (k + 1) = 0
              · have hc' : Instr.fill (fun i => some (i * (k + 1), k + 1)) #[] (ps.map fun (x : Nat × Operand) => (x.1, a.eval x.2)).toList = some cells' := by
                  rw [e1]
                  have := h1
                  rw [h0] at this
                  simpa [madeCells, Array.range_zero'] using this
                have hrun : (Instr.buildSlice t n (ps.map fun (x : Nat × Operand) => (x.1, a.eval x.2))).run S.P w = .ok (.slice (some ⟨w.heap.size, 0, none⟩) n n) (w.alloc (.cells cells' e)) := by
                  simp only [Instr.buildSlice, Sem.run_bind, run_underlying hu', Result.andThen_ok, run_sz hT hk, h0, if_true, Array.range_zero', Array.map_empty, hc', newRow]
                  rfl
                simp only [execOp, Sem.run_bind]
                rw [hrun]
                rfl
              · have hc' : Instr.fill (fun i => some (i * (k + 1), k + 1)) ((Array.range (n * (k + 1))).map (zv.cells[· % zv.cells.size]!)) (ps.map fun (x : Nat × Operand) => (x.1, a.eval x.2)).toList = some cells' := by
                  rw [e1]; exact h1
                have hrun : (Instr.buildSlice t n (ps.map fun (x : Nat × Operand) => (x.1, a.eval x.2))).run S.P w = .ok (.slice (some ⟨w.heap.size, 0, none⟩) n n) (w.alloc (.cells cells' e)) := by
                  simp only [Instr.buildSlice, Sem.run_bind, run_underlying hu', Result.andThen_ok, run_sz hT hk, hle, if_false, h0, hz1, Sem.run_pure, hc', newRow]
                  rfl
                simp only [execOp, Sem.run_bind]
                rw [hrun]
                rfl
            · cases hv
          · cases hv
        · cases hv
      · cases hv
    · cases hv
  case makeSlice t l c =>
    unfold bMake at hv
    split at hv
    · rename_i e n m he hn hm
      split at hv
      · rename_i k z bb hk hz hbb
        split at hv
        · rename_i hb
          rw [Bool.and_eq_true, Bool.and_eq_true] at hb
          have hb1 : z.length = k + 1 := Nat.eq_of_beq_eq_true hb.1
          have hb2 : n ≤ m := Nat.le_of_ble_eq_true hb.2.1
          have hb3 : m * (bb + 1) ≤ 16777216 := Nat.le_of_ble_eq_true hb.2.2
          split at hv
          · rename_i ob' hmk
            cases hv
            obtain ⟨zv, hz1, rfl, i, hi, hzi⟩ := zeroC_spec hT hz
            have hbi : i.bytes = bb := by
              unfold bts at hbb
              split at hbb
              · rename_i j hj
                have := hT.ty _ _ hj
                rw [hi] at this; cases this
                exact Option.some.inj hbb
              · cases hbb
            have hki : i.size = k + 1 := by
              unfold sz at hk
              split at hk
              · rename_i j hj
                have := hT.ty _ _ hj
                rw [hi] at this; cases this
                exact Option.some.inj hk
              · cases hk
            obtain ⟨k1, e1⟩ := natV_spec hn (opv_rel hs l)
            obtain ⟨k2, e2⟩ := natV_spec hm (opv_rel hs c)
            have hmb : m * bb ≤ 16777216 := by rw [Nat.mul_add] at hb3; omega
            have hm0 : m ≤ 16777216 := by rw [Nat.mul_add] at hb3; omega
            have hrun := run_make (P := S.P) w t e i zv (elemT_spec hT he) hi hzi k1 k2 (.ofNat n) (.ofNat m) (by simp) (by simp; omega) (by
              rw [hbi, show (bb : Int) * Int.ofNat m = ((bb * m : Nat) : Int) by simp]
              rw [Nat.mul_comm]; omega) (by simp; omega)
            have e3 : (Int.ofNat m).toNat = m := rfl
            have e4 : (Int.ofNat n).toNat = n := rfl
            rw [e3, e4, hki] at hrun
            have hrel := rep_rel (γ := γ) (n := m) (zv := zv) hb1
            have hrow : RowRel (upd γ id (some ⟨w.heap.size, k + 1, m, none⟩)) (k + 1) m (.c (rep m (cvl zv.cells.toList) [])) (madeCells zv.cells (m * (k + 1))).toList := ⟨by rw [Array.length_toList, size_madeCells], mkRow_one hmk hrel, hrel.mono (hγ _)⟩
            refine ⟨.slice (some ⟨w.heap.size, 0, none⟩) n m, w.alloc (.cells (madeCells zv.cells (m * (k + 1))) e), ⟨w.heap.size, k + 1, m, none⟩, ?_, Fresh.alloc _ _ _ _, .sl id 0 n m _ (upd_same _ _ _) hb2,
              mkRow_OM hmk hrow (upd_same _ _ _) rfl (alloc_new _ _) (size_madeCells _ _) (by rw [List.take_of_length_le (by rw [Array.length_toList, size_madeCells]; exact Nat.le_refl _)]) (Nat.le_refl _)⟩
            simp only [execOp, e1, e2, Sem.run_bind, hrun, Result.andThen_ok]
            rfl
          · cases hv
        · cases hv
      · cases hv
    · cases hv
  case makeMap t q =>
    unfold bMap at hv
    split at hv
    · cases hv
      refine ⟨.map (some w.heap.size), w.alloc (.map #[] 0), ⟨w.heap.size, 1, 0, none⟩, ?_, Fresh.alloc _ _ _ _, .m id _ (upd_same _ _ _), ⟨_, #[], 0, [], upd_same _ _ _, alloc_new _ _, .refl _, trivial, trivial⟩⟩
      simp [execOp, Instr.makeMap]
    · cases hv
  case convert sT d x =>
    unfold bConv at hv
    split at hv
    · rename_i e u n c he hsu hx
      split at hv
      · rename_i h8
        cases hv
        have hxr := opv_rel hs x
        rw [hx] at hxr
        generalize hq : a.eval x = q at hxr
        cases hxr with | s _ _ hc =>
        have hrun := Lib.run_convert_string_bytes (P := S.P) w sT d e ⟨(dec n c).toArray⟩ (und_spec hT hsu) (elemT_spec hT he) (isU8_spec hT h8)
        have hsz : (⟨(dec n c).toArray⟩ : ByteArray).size = n := strV_size n c
        have hge := grownCap_ge w n 0 e
        have hcs : (Lib.bytesCells w e ⟨(dec n c).toArray⟩).size = grownCap w n 0 e := by
          simp [Lib.bytesCells, hsz]
          rw [dec_length]; omega
        refine ⟨.slice (some ⟨w.heap.size, 0, none⟩) n (grownCap w n 0 e - 0), Lib.bytesWorld w e ⟨(dec n c).toArray⟩, ⟨w.heap.size, 1, grownCap w n 0 e, none⟩, ?_, ⟨rfl, rfl, rfl, Nat.le_refl _, by rw [Lib.bytesWorld_size]; exact Nat.lt_succ_self _, fun b hb => Lib.bytesWorld_at_old w e _ b hb⟩,
          .sg 1 id 0 n _ 0 (upd_same _ _ _) rfl (by decide) (by simp) (by simpa using hge), ⟨_, _, _, upd_same _ _ _, Lib.bytesWorld_at_new w e _, rfl, hcs, by rw [hcs]; exact hge, ?_, fun j hj => ?_⟩⟩
        · simp only [execOp, hq, strV, Sem.run_bind, hrun, Result.andThen_ok, hsz]
          rfl
        · intro q hq; dsimp only; omega
        · have h1 : j < (⟨(dec n c).toArray⟩ : ByteArray).size := by rw [hsz]; exact hj
          have := Lib.bytesWorld_cell w e ⟨(dec n c).toArray⟩ j h1
          rw [cell_of_row _ _ _ _ _ _ (Lib.bytesWorld_at_new w e _)] at this
          rw [this]
          have h2 : ((⟨(dec n c).toArray⟩ : ByteArray).data.toList.getD j 0) = UInt8.ofNat (byteAt c j) := by
            show ((dec n c).toArray.toList.getD j 0) = _
            rw [List.getD_eq_getElem?_getD, show (dec n c).toArray.toList = dec n c from rfl, dec_get n c j hj]; rfl
          rw [h2, u8_toNat]; rfl
      · cases hv
    · cases hv
  case range t x =>
    unfold bRange at hv
    split at hv
    · rename_i n c hu' hx
      cases hv
      have hxr := opv_rel hs x
      rw [hx] at hxr
      generalize hq : a.eval x = q at hxr
      cases hxr with | s _ _ hc =>
      refine ⟨.pointer (some ⟨w.heap.size, 0, none⟩), w.alloc (.stringIter ⟨(dec n c).toArray⟩ 0), ⟨w.heap.size, 1, 0, none⟩, ?_, Fresh.alloc _ _ _ _, .p id 0 _ (upd_same _ _ _), ⟨_, upd_same _ _ _, alloc_new _ _⟩⟩
      simp [execOp, hq, strV, Instr.range, run_und hT hu']
    · cases hv
end Go.Bm

/-! Cells that are written. -/
namespace Go.Bm
open Go Go.RowKit
variable {S : Seat} {γ γ' : Nat → Option G} {C : Ctx} {h : Hp} {w w' : World} {σ : Tr BV} {a : Act} {P : Program}

def setMany (cur : Array Value) : Nat → List Value → Array Value
  | _, [] => cur
  | o, v :: r => setMany (cur.setIfInBounds o v) (o + 1) r
theorem setMany_size : ∀ (vs : List Value) (o : Nat) (cur : Array Value), (setMany cur o vs).size = cur.size
  | [], _, _ => rfl
  | v :: r, o, cur => by rw [setMany, setMany_size r]; simp
theorem setMany_lo : ∀ (vs : List Value) (o : Nat) (cur : Array Value) (j : Nat), (j < o ∨ o + vs.length ≤ j) → (setMany cur o vs)[j]? = cur[j]?
  | [], _, _, _, _ => rfl
  | v :: r, o, cur, j, h => by
    have hl : (v :: r).length = r.length + 1 := rfl
    rw [setMany, setMany_lo r _ _ j (by omega)]
    exact Array.getElem?_setIfInBounds_ne (by omega)
theorem setMany_in : ∀ (vs : List Value) (o : Nat) (cur : Array Value) (j : Nat), j < vs.length → o + j < cur.size → (setMany cur o vs)[o + j]? = vs[j]?
  | [], _, _, _, h, _ => by cases h
  | v :: r, o, cur, j, h, hs => by
    rw [setMany]
    cases j with
    | zero =>
      rw [setMany_lo r _ _ _ (by omega)]
      simp [show o < cur.size by omega]
    | succ j =>
      rw [show o + (j + 1) = o + 1 + j by omega, setMany_in r (o + 1) _ j (by simpa using h) (by simp; omega)]
      rfl
theorem setCell_heap (w : World) (b o : Nat) (v : Value) {cur : Array Value} {e : Nat} {m : Nat × Nat} (h : w.heap[b]? = some (.cells cur e m)) : (w.setCell ⟨b, o, none⟩ v).heap[b]? = some (.cells (cur.setIfInBounds o v) e m) := by
  unfold World.setCell
  simp only [Array.getElem?_modify, if_true, h, Option.map_some]
  rfl
theorem setCells_heap (b : Nat) : ∀ (vs : List Value) (o : Nat) (w : World) (cur : Array Value) (e : Nat) (m : Nat × Nat), w.heap[b]? = some (.cells cur e m) → (w.setCells b o vs).heap[b]? = some (.cells (setMany cur o vs) e m)
  | [], _, _, _, _, _, h => h
  | v :: r, o, w, cur, e, m, h => by
    rw [World.setCells, setMany]
    exact setCells_heap b r (o + 1) _ _ e m (setCell_heap w b o v h)
theorem setCells_other (b : Nat) : ∀ (vs : List Value) (o : Nat) (w : World) (i : Nat), i ≠ b → (w.setCells b o vs).heap[i]? = w.heap[i]?
  | [], _, _, _, _ => rfl
  | v :: r, o, w, i, h => by
    rw [World.setCells, setCells_other b r _ _ i h]
    unfold World.setCell
    simp only [Array.getElem?_modify, if_neg (Ne.symm h)]
theorem setCells_size (b : Nat) : ∀ (vs : List Value) (o : Nat) (w : World), (w.setCells b o vs).heap.size = w.heap.size
  | [], _, _ => rfl
  | v :: r, o, w => by
    rw [World.setCells, setCells_size b r]
    simp [World.setCell]
theorem setCells_tape (b : Nat) : ∀ (vs : List Value) (o : Nat) (w : World), (w.setCells b o vs).tape = w.tape
  | [], _, _ => rfl
  | v :: r, o, w => by rw [World.setCells, setCells_tape b r]; rfl

/-- What is known of a row of cells. -/
def KO (γ : Nat → Option G) (vs : Array Value) (m : Nat × Nat) : Ob → Prop
  | .c _ n t => m = (0, 0) ∧ n ≤ vs.size ∧ ∀ j, j < n → BRel γ (t.get j) (vs.getD j undef) ∧ (vs.getD j undef).oneCell' = true
  | .bs _ fz n c => n ≤ vs.size ∧ fzOk fz m n vs.size ∧ ∀ j, j < n → vs[j]? = some (byteV c j)
  | _ => False
def obE : Ob → Nat
  | .c e _ _ => e
  | .bs e _ _ _ => e
  | _ => 0
def obK (k : Nat) : Ob → Prop
  | .bs _ _ _ _ => k = 1
  | _ => True
theorem KO.om {id : Nat} {ob : Ob} {vs : Array Value} {m : Nat × Nat} {g : G} (hk : KO γ vs m ob) (hg : γ id = some g) (hh : w.heap[g.b]? = some (.cells vs (obE ob) m)) (hs : vs.size = g.C * g.k) (h1 : obK g.k ob) : OM γ w id ob := by
  cases ob <;> (try exact hk.elim)
  case c e n t => obtain ⟨rfl, h2, h3⟩ := hk; exact ⟨g, vs, hg, hh, h2, hs, h3⟩
  case bs e fz n c => obtain ⟨h2, h3, h4⟩ := hk; have h1 : g.k = 1 := h1; exact ⟨g, vs, m, hg, hh, h1, by rw [hs, h1, Nat.mul_one], h2, h3, h4⟩
theorem Rel.ko (r : Rel C γ h w) {id : Nat} {ob : Ob} (ho : h.get id = ob) (hr : (∃ e n t, ob = .c e n t) ∨ ∃ e fz n c, ob = .bs e fz n c) {g : G} (hg : γ id = some g) :
    ∃ vs m, KO γ vs m ob ∧ w.heap[g.b]? = some (.cells vs (obE ob) m) ∧ vs.size = g.C * g.k ∧ obK g.k ob := by
  have := r.ob id
  rw [ho] at this
  rcases hr with ⟨e, n, t, rfl⟩ | ⟨e, fz, n, c, rfl⟩
  · obtain ⟨g', vs, h1, h2, h3, h4, h5⟩ := this
    rw [hg] at h1; cases h1
    exact ⟨vs, _, ⟨rfl, h3, h5⟩, h2, h4, trivial⟩
  · obtain ⟨g', vs, m, h1, h2, h3, h4, h5⟩ := this
    rw [hg] at h1; cases h1
    exact ⟨vs, m, h5, h2, by rw [h4, h3, Nat.mul_one], h3⟩
theorem KO.fresh {vs : Array Value} {m : Nat × Nat} {ob : Ob} (h : KO γ vs m ob) (e : Nat) : KO γ vs (0, 0) (freshRow e ob) := by
  cases ob <;> (try exact h.elim)
  case c e n t => exact ⟨rfl, h.2⟩
  case bs e fz n c => exact ⟨h.1, rfl, h.2.2⟩
theorem cell_getD {vs : Array Value} {j : Nat} (h : j < vs.size) : vs[j]? = some (vs.getD j undef) := by
  rw [Array.getD_eq_getD_getElem?, Array.getElem?_eq_getElem h]; rfl
theorem getD_of {vs vs' : Array Value} {j : Nat} (h : vs'[j]? = vs[j]?) : vs'.getD j undef = vs.getD j undef := by
  rw [Array.getD_eq_getD_getElem?, Array.getD_eq_getD_getElem?, h]

theorem catRow_rel {k n m : Nat} {r q s : Row} (hc : catRow r q = some s) {os ns : List Value} (hr : RowRel γ k n r os) (hq : RowRel γ k m q ns) : RowRel γ k (n + m) s (os ++ ns) := by
  obtain ⟨r1, r2, r3⟩ := hr
  obtain ⟨q1, q2, q3⟩ := hq
  have hl : (os ++ ns).length = (n + m) * k := by rw [List.length_append, r1, q1, Nat.add_mul]
  have h1 : ∀ u ∈ os ++ ns, u.oneCell' = true := fun u hu => (List.mem_append.1 hu).elim (r2 u) (q2 u)
  have bytes : ∀ {n m c d : Nat}, c < 256 ^ n → (List.range n).map (byteV c) ++ (List.range m).map (byteV d) = (List.range (n + m)).map (byteV (catC n c d)) := by
    intro n m c d hc
    apply List.ext_getElem?
    intro i
    rcases Nat.lt_or_ge i n with hi | hi
    · rw [List.getElem?_append_left (by simpa using hi)]
      simp [hi, show i < n + m by omega, byteV, byteAt_cat_lo _ _ _ _ hi]
    · rw [List.getElem?_append_right (by simpa using hi)]
      obtain ⟨j, rfl⟩ : ∃ j, i = n + j := ⟨i - n, by omega⟩
      simp only [List.length_map, List.length_range, Nat.add_sub_cancel_left, List.getElem?_map]
      rcases Nat.lt_or_ge j m with hj | hj
      · rw [List.getElem?_range hj, List.getElem?_range (by omega)]
        simp [byteV, byteAt_cat_hi _ _ _ _ hc]
      · rw [List.getElem?_eq_none (by simpa using hj), List.getElem?_eq_none (by simp; omega)]; rfl
  cases r with
  | bs a c =>
    obtain ⟨rfl, hk, hlt, rfl⟩ := r3
    cases q with
    | bs b d =>
      obtain ⟨rfl, hk', hlt', rfl⟩ := q3
      cases hc
      refine ⟨hl, h1, rfl, ?_, cat_lt _ _ _ _ hlt hlt', bytes hlt⟩
      rcases hk with rfl | hk
      · rcases hk' with rfl | hk'
        · exact .inl rfl
        · exact .inr hk'
      · exact .inr hk
    | c l =>
      simp only [catRow] at hc
      split at hc
      · rename_i hb
        have := Nat.eq_of_beq_eq_true hb
        cases hc
        subst this
        exact ⟨hl, h1, by simpa using q3⟩
      · rename_i hb
        have hn0 : a ≠ 0 := Nat.ne_of_beq_eq_false hb
        have hk : k = 1 := hk.resolve_left hn0
        subst hk
        split at hc
        · rename_i d hp; cases hc
          obtain ⟨p1, p2⟩ := packC_spec hp q3
          have hlen : l.length = m := by rw [← q3.length, q1, Nat.mul_one]
          rw [hlen] at p1 p2
          refine ⟨hl, h1, by show a + l.length = _; rw [hlen], .inr rfl, cat_lt _ _ _ _ hlt p1, ?_⟩
          rw [p2]; exact bytes hlt
        · cases hc
  | c l =>
    cases q with
    | bs b d =>
      obtain ⟨rfl, hk', hlt', rfl⟩ := q3
      simp only [catRow] at hc
      split at hc
      · rename_i hb
        have := Nat.eq_of_beq_eq_true hb
        cases hc
        subst this
        exact ⟨hl, h1, by simpa using r3⟩
      · rename_i hb
        have hn0 : b ≠ 0 := Nat.ne_of_beq_eq_false hb
        have hk : k = 1 := hk'.resolve_left hn0
        subst hk
        split at hc
        · rename_i c hp; cases hc
          obtain ⟨p1, p2⟩ := packC_spec hp r3
          have hlen : l.length = n := by rw [← r3.length, r1, Nat.mul_one]
          rw [hlen] at p1 p2
          refine ⟨hl, h1, by show l.length + b = _; rw [hlen], .inr rfl, by rw [hlen]; exact cat_lt _ _ _ _ p1 hlt', ?_⟩
          rw [p2, hlen]; exact bytes p1
        · cases hc
    | c l' =>
      cases hc
      exact ⟨hl, h1, BRels.append r3 q3⟩
theorem rowBytes {k n : Nat} {q : Row} {ns : List Value} (hq : RowRel γ k n q ns) {m d : Nat} (hc : catRow (.bs 0 0) q = some (.bs m d)) : m = n ∧ (n = 0 ∨ k = 1) ∧ d < 256 ^ n ∧ ns = (List.range n).map (byteV d) := by
  have := catRow_rel hc (RowRel.nil γ k) hq
  rw [Nat.zero_add, List.nil_append] at this
  exact this.2.2

/-- Cells of a row are overwritten. -/
theorem KO.put {vs : Array Value} {mk : Nat × Nat} {ob ob' : Ob} (hk : KO γ vs mk ob) {off k n : Nat} {q : Row} (hp : putRow off q ob = some ob') {ns : List Value} (hq : RowRel γ k n q ns) (h1 : obK k ob) :
    mk = (0, 0) ∧ (∀ j, j < ns.length → off + j < vs.size) ∧ KO γ (setMany vs off ns) mk ob' ∧ obE ob' = obE ob ∧ (∀ x, obK x ob → obK x ob') := by
  obtain ⟨q1, q2, q3⟩ := hq
  cases ob <;> (try exact hk.elim)
  case c e m tr =>
    obtain ⟨rfl, h2, h3⟩ := hk
    cases q with
    | bs a c =>
      obtain ⟨rfl, _, _, rfl⟩ := q3
      cases a with
      | zero => cases hp; exact ⟨rfl, by simp, ⟨rfl, h2, h3⟩, rfl, fun _ h => h⟩
      | succ a => cases hp
    | c l =>
      simp only [putRow] at hp
      split at hp
      · rename_i hb
        rw [Bool.and_eq_true] at hb
        have hle : off + l.length ≤ m := Nat.le_of_ble_eq_true hb.2
        cases hp
        have hlen : ns.length = l.length := q3.length
        refine ⟨rfl, fun j hj => by omega, ⟨rfl, by rw [setMany_size]; exact h2, fun j hj => ?_⟩, rfl, fun _ h => h⟩
        by_cases hin : off ≤ j ∧ j < off + l.length
        · obtain ⟨i, rfl⟩ : ∃ i, j = off + i := ⟨j - off, by omega⟩
          have hi : i < l.length := by omega
          have e1 := setMany_in ns off vs i (by omega) (by omega)
          have e2 := Tr.sets_get? l tr off i hi
          obtain ⟨v, h4, h5⟩ := q3.get? e2.symm
          have e3 : (setMany vs off ns).getD (off + i) undef = v := by rw [Array.getD_eq_getD_getElem?, e1, h4]; rfl
          rw [e3]
          exact ⟨h5, q2 v (List.mem_of_getElem? h4)⟩
        · have e1 := setMany_lo ns off vs j (by omega)
          rw [getD_of e1, Tr.sets_get_ne l tr off j (by omega)]
          exact h3 j hj
      · cases hp
  case bs e fz m c =>
    obtain ⟨h2, h3, h4⟩ := hk
    have h1 : k = 1 := h1
    subst h1
    cases fz with
    | succ fz => cases hp
    | zero =>
      have hmk : mk = (0, 0) := h3
      subst hmk
      have main : ∀ d, d < 256 ^ n → ns = (List.range n).map (byteV d) → off + n ≤ m → ∀ c', c' = catC off (low c off) (catC n d (shr c (off + n))) →
          (∀ j, j < ns.length → off + j < vs.size) ∧ KO γ (setMany vs off ns) (0, 0) (.bs e 0 m c') := by
        intro d hd hns hle c' hc'
        have hnl : ns.length = n := by rw [hns]; simp
        refine ⟨fun j hj => by omega, by rw [setMany_size]; exact h2, rfl, fun j hj => ?_⟩
        subst hc'
        rcases Nat.lt_or_ge j off with hj1 | hj1
        · rw [setMany_lo _ _ _ _ (.inl hj1), h4 j hj, byteV, byteV, byteAt_cat_lo _ _ _ _ hj1, byteAt_low _ _ _ hj1]
        · obtain ⟨i, rfl⟩ : ∃ i, j = off + i := ⟨j - off, by omega⟩
          rcases Nat.lt_or_ge i n with hi | hi
          · rw [setMany_in _ _ _ _ (by omega) (by omega), byteV, byteAt_cat_hi _ _ _ _ (low_lt _ _), byteAt_cat_lo _ _ _ _ hi, hns]
            simp [hi, byteV]
          · obtain ⟨i', rfl⟩ : ∃ i', i = n + i' := ⟨i - n, by omega⟩
            rw [setMany_lo _ _ _ _ (.inr (by omega)), h4 _ hj, byteV, byteV, byteAt_cat_hi _ _ _ _ (low_lt _ _), byteAt_cat_hi _ _ _ _ hd, byteAt_shr]
            congr 4; omega
      simp only [putRow] at hp
      split at hp
      · rename_i m' d hcr
        obtain ⟨rfl, _, hd, hns⟩ := rowBytes ⟨q1, q2, q3⟩ hcr
        split at hp
        · rename_i hb; cases hp
          obtain ⟨a1, a2⟩ := main d hd hns (Nat.le_of_ble_eq_true hb) _ rfl
          exact ⟨rfl, a1, a2, rfl, fun _ h => h⟩
        · cases hp
      · rename_i l hcr
        have hr := catRow_rel hcr (RowRel.nil γ 1) ⟨q1, q2, q3⟩
        rw [Nat.zero_add, List.nil_append] at hr
        split at hp
        · rename_i d hpk
          obtain ⟨p1, p2⟩ := packC_spec hpk hr.2.2
          have hlen : l.length = n := by
            have h5 := BRels.length hr.2.2
            have h6 := hr.1
            omega
          rw [hlen] at p1 p2
          split at hp
          · rename_i hb; cases hp
            rw [hlen]
            have hb : off + l.length ≤ m := Nat.le_of_ble_eq_true hb
            obtain ⟨a1, a2⟩ := main d p1 p2 (by omega) _ rfl
            exact ⟨rfl, a1, a2, rfl, fun _ h => h⟩
          · cases hp
        · cases hp
      · cases hp

/-- A row grows. -/
theorem KO.grow {vs vs' : Array Value} {mk mk' : Nat × Nat} {ob ob' : Ob} (hk : KO γ vs mk ob) (hγ : GLe γ γ') {e k len n : Nat} {q : Row} (hp : growOb S e k len q ob = some ob') {ns : List Value} (hq : RowRel γ k n q ns)
    (hlo : ∀ j, j < len * k → vs'[j]? = vs[j]?) (hin : ∀ j, j < ns.length → vs'[len * k + j]? = ns[j]?) (hsz : len * k + ns.length ≤ vs'.size) (hm : (mk' = mk ∧ vs'.size = vs.size) ∨ mk' = (0, 0)) :
    KO γ' vs' mk' ob' ∧ obE ob' = e ∧ obE ob = e ∧ len * k ≤ vs.size ∧ (obK k ob') ∧ ∀ q, len * k ≤ q → q < vs.size → ¬ (mk.1 ≤ q ∧ q < mk.2) := by
  obtain ⟨q1, q2, q3⟩ := hq
  cases ob <;> (try exact hk.elim)
  case c e' m tr =>
    obtain ⟨rfl, h2, h3⟩ := hk
    simp only [growOb] at hp
    split at hp
    · rename_i l hb h8
      rw [Bool.and_eq_true] at hb
      have he := Nat.eq_of_beq_eq_true hb.1
      subst he
      have hle : len * k ≤ m := Nat.le_of_ble_eq_true hb.2
      split at hp
      · cases hp
        have hlen : ns.length = l.length := BRels.length q3
        refine ⟨⟨by rcases hm with ⟨h, _⟩ | h <;> exact h, by show len * k + l.length ≤ _; omega, fun j hj => ?_⟩, rfl, rfl, by omega, trivial, fun q _ _ => by dsimp only; omega⟩
        have hj : j < len * k + l.length := hj
        rcases Nat.lt_or_ge j (len * k) with hj1 | hj1
        · show BRel γ' ((tr.sets (len * k) l).get j) _ ∧ _
          rw [getD_of (hlo j hj1), Tr.sets_get_ne l tr (len * k) j (by omega)]
          exact ⟨(h3 j (by omega)).1.mono hγ, (h3 j (by omega)).2⟩
        · obtain ⟨i, rfl⟩ : ∃ i, j = len * k + i := ⟨j - len * k, by omega⟩
          have hi : i < l.length := by omega
          have e2 := Tr.sets_get? l tr (len * k) i hi
          obtain ⟨v, h4, h5⟩ := BRels.get? q3 e2.symm
          have e3 : vs'.getD (len * k + i) undef = v := by rw [Array.getD_eq_getD_getElem?, hin i (by omega), h4]; rfl
          rw [e3]
          exact ⟨h5.mono hγ, q2 v (List.mem_of_getElem? h4)⟩
      · cases hp
    · cases hp
  case bs e' fz m c =>
    obtain ⟨h2, h3, h4⟩ := hk
    simp only [growOb] at hp
    split at hp
    · rename_i m' c' hb hcr
      rw [Bool.and_eq_true, Bool.and_eq_true] at hb
      have he := Nat.eq_of_beq_eq_true hb.1
      have hk1 := Nat.eq_of_beq_eq_true hb.2.1
      subst he hk1
      have hle : len ≤ m := Nat.le_of_ble_eq_true hb.2.2
      have hold : RowRel γ 1 len (.bs len (low c len)) ((List.range len).map (byteV (low c len))) := ⟨by simp, byteV_one _ _, rfl, .inr rfl, low_lt _ _, rfl⟩
      obtain ⟨c1, c2, rfl, c3, c4, c5⟩ := catRow_rel hcr hold ⟨q1, q2, q3⟩
      have hnl : ns.length = n := by rw [q1, Nat.mul_one]
      rw [Nat.mul_one] at hlo hin hsz
      have hcells : ∀ j, j < len + n → vs'[j]? = some (byteV c' j) := fun j hj => by
        have h5 : ((List.range len).map (byteV (low c len)) ++ ns)[j]? = some (byteV c' j) := by rw [c5]; simp [hj]
        rcases Nat.lt_or_ge j len with hj1 | hj1
        · rw [List.getElem?_append_left (by simpa using hj1)] at h5
          simp [hj1] at h5
          rw [hlo j hj1, h4 j (by omega), ← h5, byteV, byteV, byteAt_low _ _ _ hj1]
        · obtain ⟨i, rfl⟩ : ∃ i, j = len + i := ⟨j - len, by omega⟩
          rw [List.getElem?_append_right (by simp)] at h5
          simp at h5
          rw [hin i (by omega), h5]
      have base : ∀ (hz : fzOk fz mk' (len + n) vs'.size) (hfr : ∀ q, len ≤ q → q < vs.size → ¬ (mk.1 ≤ q ∧ q < mk.2)), KO γ' vs' mk' (.bs e fz (len + n) c') ∧ obE (.bs e fz (len + n) c') = e ∧ obE (.bs e fz m c) = e ∧ len * 1 ≤ vs.size ∧ obK 1 (.bs e fz (len + n) c') ∧ ∀ q, len * 1 ≤ q → q < vs.size → ¬ (mk.1 ≤ q ∧ q < mk.2) := by
        intro hz hfr
        exact ⟨⟨by omega, hz, hcells⟩, rfl, rfl, by omega, rfl, by rw [Nat.mul_one]; exact hfr⟩
      split at hp
      · cases hp
      · rename_i hcond
        cases hp
        match fz, h3, hcond with
        | 0, h3, _ =>
          have h3 : mk = (0, 0) := h3
          subst h3
          exact base (by rcases hm with ⟨h, _⟩ | h <;> exact h) (fun q _ _ => by dsimp only; omega)
        | 1, h3, hcond =>
          have h3 : mk.1 = 0 ∧ mk.2 ≤ m := h3
          have hnm : len = m := by
            cases hq : Nat.beq len m with
            | true => exact Nat.eq_of_beq_eq_true hq
            | false => exact absurd hq (fun hq => hcond rfl hq)
          refine base ?_ (fun q h5 _ => by omega)
          rcases hm with ⟨rfl, _⟩ | rfl
          · exact ⟨h3.1, by omega⟩
          · exact ⟨rfl, Nat.zero_le _⟩
        | 2, h3, hcond =>
          have h3 : ∀ q, q < vs.size → ¬ (mk.1 ≤ q ∧ q < mk.2) := h3
          refine base ?_ (fun q _ h5 => h3 q h5)
          rcases hm with ⟨rfl, he⟩ | rfl
          · intro q hq; exact h3 q (by omega)
          · intro q hq; dsimp only; omega
        | fz + 3, h3, _ => exact h3.elim
    · cases hp
end Go.Bm

/-! append. -/
namespace Go.Bm
open Go Go.RowKit
variable {S : Seat} {γ γ' : Nat → Option G} {C : Ctx} {h h' : Hp} {w w' : World} {σ : Tr BV} {a : Act} {P : Program}

def Did (C : Ctx) (γ : Nat → Option G) (h : Hp) (v : BV) (h' : Hp) (z : Value) (w' : World) : Prop := ∃ γ', Ext h.nx γ γ' ∧ h.nx ≤ h'.nx ∧ BRel γ' v z ∧ Rel C γ' h' w'
theorem Rel.born (r : Rel C γ h w) {g : G} {o : Ob} {v : BV} {z : Value} (hf : Fresh w w' g) (hb : BRel (upd γ h.nx (some g)) v z) (ho : OM (upd γ h.nx (some g)) w' h.nx o) : Did C γ h v (h.new o) z w' :=
  ⟨_, Ext.upd (Nat.le_refl _), by rw [Hp.new_nx]; omega, hb, r.birth hf.os hf.tape hf.output hf.lo hf.hi hf.old ho⟩

structure El (S : Seat) (e k bb : Nat) (i : TypeInfo) : Prop where
  info : S.P.info? e = some i
  size : i.size = k
  bytes : i.bytes = bb
theorem el_info (hT : TyOk S) {e k bb : Nat} (hk : sz S e = some k) (hb : bts S e = some bb) : ∃ i, El S e k bb i := by
  unfold sz at hk
  unfold bts at hb
  split at hk
  · rename_i i hi
    rw [hi] at hb
    exact ⟨i, hT.ty _ _ hi, Option.some.inj hk, Option.some.inj hb⟩
  · cases hk
theorem okZ_spec (hT : TyOk S) {e k bb : Nat} {i : TypeInfo} (hi : El S e k bb i) (h : okZ S e k = true) : ∃ z, i.zero = some z ∧ z.cells.size = k ∧ zeroC S e = some (cvl z.cells.toList) := by
  unfold okZ at h
  split at h
  · rename_i l hl
    obtain ⟨z, _, rfl, j, hj, hz⟩ := zeroC_spec hT hl
    rw [hi.info] at hj; cases hj
    have := Nat.eq_of_beq_eq_true h
    rw [cvl_length, Array.length_toList] at this
    exact ⟨z, hz, this, hl⟩
  · cases h
theorem okSize_spec {n bb : Nat} (h : okSize n bb = true) : n ≤ 1073741824 ∧ bb ≤ 65536 := by
  unfold okSize at h
  rw [Bool.and_eq_true] at h
  exact ⟨Nat.le_of_ble_eq_true h.1, Nat.le_of_ble_eq_true h.2⟩

/-- What a new row is. -/
def NewRow (w : World) (e k m : Nat) (cells : List Value) (q : Value) (w' : World) : Prop :=
  ∃ (g : G) (cur : Array Value), Fresh w w' g ∧ g.k = k ∧ q = .slice (some ⟨g.b, 0, none⟩) m g.C ∧ m ≤ g.C ∧ w'.heap[g.b]? = some (.cells cur e (0, 0)) ∧ cur.size = g.C * k ∧ cur.toList.take (m * k) = cells
theorem grow_run {e k bb len n sCap : Nat} {t tx ty : TypeId} {i : TypeInfo} (hi : El S e k bb i) (ht : S.P.underlying t = some (.slice e)) {zv : Value} (hz : i.zero = some zv) (hzk : zv.cells.size = k) (hok : okSize (len + n) bb = true)
    {x : Value} {olds news : List Value} (hs : Src S.P k tx x n news w) (base : Option Addr) (hol : olds.length = len * k) (hold : (Builtin.firstCells i.size len (.slice base len sCap)).run S.P w.drew = .ok olds.toArray w.drew) (hg : sCap < len + n) :
    ∃ q w', (Builtin.append_ #[t, tx] ty #[.slice base len sCap, x]).run S.P w = .ok q w' ∧ NewRow w e k (len + n) (olds ++ news) q w' := by
  obtain ⟨o1, o2⟩ := okSize_spec hok
  have hk := hi.size
  subst hk
  have hb := hi.bytes
  subst hb
  have hmul : (len + n) * i.bytes ≤ 1073741824 * 65536 := Nat.mul_le_mul o1 o2
  have hr := run_append_grow_src (P := S.P) w t tx ty e i zv ht hi.info hz base len sCap olds hold x n news hs hg (by omega) (growslice_fits hg (by omega))
  have hge := grownCap_ge w (len + n) sCap e
  refine ⟨_, _, hr, ⟨w.heap.size, i.size, grownCap w (len + n) sCap e, none⟩, _, ⟨rfl, rfl, rfl, Nat.le_refl _, by simp, fun b hb => Below.heap_alloc w.drew _ b hb⟩, rfl, rfl, hge, heap_alloc_new w.drew _, ?_, ?_⟩
  · simp only [Array.size_append, List.size_toArray, size_zeroCells, hzk, List.length_append, hol, hs.newsLen]
    rw [← Nat.add_mul, ← Nat.add_mul]; congr 1; omega
  · simp only [Array.toList_append]
    have : (olds ++ news).length = (len + n) * i.size := by rw [List.length_append, hol, hs.newsLen, Nat.add_mul]
    rw [← this]
    exact List.take_left

theorem sg_new {k m : Nat} {g : G} (d : Nat) (hk : g.k = k) (h0 : 0 < k) (hm : m ≤ g.C) : BRel (upd γ d (some g)) (.sg k d 0 m) (.slice (some ⟨g.b, 0, none⟩) m g.C) :=
  .sg k d 0 m g 0 (upd_same _ _ _) hk h0 (by simp) (by simpa using hm)
theorem upd_le {d : Nat} (hu : γ d = none) (g : G) : GLe γ (upd γ d (some g)) := fun i g' hi => by
  by_cases e : i = d
  · subst e; rw [hu] at hi; cases hi
  · rw [upd_ne _ _ e]; exact hi
theorem RowRel.mono {k n : Nat} {q : Row} {ns : List Value} (hγ : GLe γ γ') (h : RowRel γ k n q ns) : RowRel γ' k n q ns := by
  obtain ⟨h1, h2, h3⟩ := h
  refine ⟨h1, h2, ?_⟩
  cases q with
  | bs m c => exact h3
  | c l => exact BRels.mono hγ h3

theorem NewRow.mk {e k m : Nat} {cells : List Value} {z : Value} (hn : NewRow w e k m cells z w') (r : Rel C γ h w) (h0 : 0 < k) {q : Row} {ob : Ob} (hm : mkRow S e k q = some ob) (hq : RowRel γ k m q cells) : Did C γ h (.sg k h.nx 0 m) (h.new ob) z w' := by
  obtain ⟨g, cur, hf, hk, rfl, hle, hh, hs, ht⟩ := hn
  have hγ := upd_le (r.us h.nx (Nat.le_refl _)) g
  exact r.born hf (sg_new _ hk h0 hle) (mkRow_OM hm (hq.mono hγ) (upd_same _ _ _) hk hh hs ht hle)
/-- The old row stands at its object's start. -/
theorem NewRow.grow {e k len n : Nat} {olds news : List Value} {z : Value} {ob ob' : Ob} {vs : Array Value} {mk : Nat × Nat} (hn : NewRow w e k (len + n) (olds ++ news) z w') (r : Rel C γ h w) (h0 : 0 < k) (hol : olds.length = len * k) (hov : ∀ j, j < len * k → olds[j]? = vs[j]?)
    {q : Row} (hq : RowRel γ k n q news) (hko : KO γ vs mk ob) (hg : growOb S e k len q ob = some ob') : Did C γ h (.sg k h.nx 0 (len + n)) (h.new ob') z w' := by
  obtain ⟨g, cur, hf, hk, rfl, hle, hh, hs, ht⟩ := hn
  have hγ := upd_le (r.us h.nx (Nat.le_refl _)) g
  have hlen : (olds ++ news).length = (len + n) * k := by rw [List.length_append, hol, hq.1, Nat.add_mul]
  have hcs : (len + n) * k ≤ cur.size := by rw [hs]; exact Nat.mul_le_mul_right _ hle
  have hget : ∀ j, j < (len + n) * k → cur[j]? = (olds ++ news)[j]? := fun j hj => by
    rw [← ht, List.getElem?_take_of_lt hj, Array.getElem?_toList]
  have hnl := hq.1
  rw [Nat.add_mul] at hget hcs
  obtain ⟨k1, k2, _, _, k5, _⟩ := hko.grow hγ hg hq (vs' := cur) (mk' := (0, 0)) (fun j hj => by rw [hget j (by omega), List.getElem?_append_left (by omega)]; exact hov j hj)
    (fun j hj => by rw [hget _ (by omega), List.getElem?_append_right (by omega), hol, Nat.add_sub_cancel_left]) (by omega) (.inr rfl)
  refine r.born hf (sg_new _ hk h0 hle) (k1.om (upd_same _ _ _) (by rw [k2]; exact hh) (by rw [hk]; exact hs) (by rw [hk]; exact k5))

theorem cells_first {b off : Nat} {vs : Array Value} {e : Nat} {m : Nat × Nat} (hh : w.heap[b]? = some (.cells vs e m)) {k n c : Nat} (hn : off + n * k ≤ vs.size) :
    ∃ olds : List Value, olds.length = n * k ∧ (∀ j, j < n * k → olds[j]? = vs[off + j]?) ∧ (Builtin.firstCells k n (.slice (some ⟨b, off, none⟩) n c)).run P w.drew = .ok olds.toArray w.drew := by
  refine ⟨(vs.toList.drop off).take (n * k), by simp; omega, fun j hj => by rw [List.getElem?_take_of_lt hj, List.getElem?_drop, Array.getElem?_toList], run_firstCells_some w.drew k n ⟨b, off, none⟩ n c _ (by simp; omega) fun j u hu => ?_⟩
  rw [addr_add, cell_of_row w.drew b (off + j) vs e m hh]
  rcases Nat.lt_or_ge j (n * k) with hj | hj
  · rw [List.getElem?_take_of_lt hj, List.getElem?_drop, Array.getElem?_toList] at hu; exact hu
  · rw [List.getElem?_eq_none (by simp; omega)] at hu; cases hu

theorem growOb_kind {e k n : Nat} {q : Row} {ob ob' : Ob} (h : growOb S e k n q ob = some ob') : (∃ e n t, ob = .c e n t) ∨ ∃ e fz n c, ob = .bs e fz n c := by
  cases ob <;> first | (cases h; done) | exact .inl ⟨_, _, _, rfl⟩ | exact .inr ⟨_, _, _, _, rfl⟩
theorem putRow_kind {o : Nat} {q : Row} {ob ob' : Ob} (h : putRow o q ob = some ob') : (∃ e n t, ob = .c e n t) ∨ ∃ e fz n c, ob = .bs e fz n c := by
  cases ob <;> first | (cases h; done) | exact .inl ⟨_, _, _, rfl⟩ | exact .inr ⟨_, _, _, _, rfl⟩
theorem fresh_kind {e0 : Nat} {ob : Ob} (h : (∃ e n t, freshRow e0 ob = .c e n t) ∨ ∃ e fz n c, freshRow e0 ob = .bs e fz n c) : (∃ e n t, ob = .c e n t) ∨ ∃ e fz n c, ob = .bs e fz n c := by
  cases ob <;> first | exact .inl ⟨_, _, _, rfl⟩ | exact .inr ⟨_, _, _, _, rfl⟩ | (rcases h with ⟨_, _, _, h⟩ | ⟨_, _, _, _, h⟩ <;> cases h)

theorem Did.same (r : Rel C γ h w) {v : BV} {z : Value} (hv : BRel γ v z) : Did C γ h v h z w := ⟨γ, Ext.refl _ _, Nat.le_refl _, hv, r⟩
/-- Cells of an object are written. -/
theorem Rel.cells (r : Rel C γ h w) {id : Nat} {g : G} (hg : γ id = some g) (hne : h.get id ≠ .x) {ob : Ob} (off : Nat) (ns : List Value) (ho : OM γ (w.setCells g.b off ns) id ob) : Rel C γ (h.set id ob) (w.setCells g.b off ns) :=
  r.write hg hne (World.os_setCells ..) (setCells_tape ..) (World.output_setCells ..) (setCells_size ..) (fun b hb => setCells_other _ _ _ _ _ hb) ho
theorem row_cells {b off : Nat} {vs : Array Value} {e : Nat} {m : Nat × Nat} (hh : w.heap[b]? = some (.cells vs e m)) {ns : List Value} (hin : ∀ j, j < ns.length → off + j < vs.size) (hfr : ∀ j, j < ns.length → ¬ (m.1 ≤ off + j ∧ off + j < m.2)) :
    (∀ j, j < ns.length → (w.cell? ⟨b, off + j, none⟩).isSome = true) ∧ (∀ j, j < ns.length → w.frozen? ⟨b, off + j, none⟩ = false) := by
  refine ⟨fun j hj => ?_, fun j hj => ?_⟩
  · rw [cell_of_row w b _ vs e m hh, Array.getElem?_eq_getElem (hin j hj)]; rfl
  · have := hfr j hj
    simp only [World.frozen?, hh]
    simp only [Bool.and_eq_false_iff, decide_eq_false_iff_not]
    rcases Nat.lt_or_ge (off + j) m.1 with h1 | h1
    · left; first | omega | simp; omega
    · right; first | omega | simp; omega

theorem put_write (r : Rel C γ h w) {id : Nat} {g : G} (hg : γ id = some g) {off k n : Nat} {q : Row} {ob : Ob} (hp : putRow off q (h.get id) = some ob) {ns : List Value} (hq : RowRel γ k n q ns) (hk : g.k = 1 → k = 1) :
    (∀ j, j < ns.length → (w.cell? ⟨g.b, off + j, none⟩).isSome = true) ∧ (∀ j, j < ns.length → w.frozen? ⟨g.b, off + j, none⟩ = false) ∧ Rel C γ (h.set id ob) (w.setCells g.b off ns) := by
  have hkd := putRow_kind hp
  obtain ⟨vs, m, k1, k2, k3, k4⟩ := r.ko rfl hkd hg
  have hkk : obK k (h.get id) := by
    rcases hkd with ⟨_, _, _, e⟩ | ⟨_, _, _, _, e⟩
    · rw [e]; trivial
    · rw [e] at k4 ⊢; exact hk k4
  obtain ⟨rfl, p2, p3, p4, p5⟩ := k1.put hp hq hkk
  obtain ⟨c1, c2⟩ := row_cells k2 p2 (fun j _ => by dsimp only; omega)
  refine ⟨c1, c2, r.cells hg (by rcases hkd with ⟨_, _, _, e⟩ | ⟨_, _, _, _, e⟩ <;> rw [e] <;> simp) off ns ?_⟩
  exact p3.om hg (by rw [p4]; exact setCells_heap _ _ _ _ _ _ _ k2) (by rw [setMany_size]; exact k3) (p5 _ k4)
end Go.Bm

/-! append, all of it. -/
namespace Go.Bm
open Go Go.RowKit
variable {S : Seat} {γ γ' : Nat → Option G} {C : Ctx} {h h' : Hp} {w w' : World} {σ : Tr BV} {a : Act} {P : Program}

theorem src_len0 {k tx m : Nat} {y : Value} {news : List Value} (hs : Src P k tx y m news w) (h : m = 0) : news = [] := List.eq_nil_of_length_eq_zero (by rw [hs.newsLen, h, Nat.zero_mul])
theorem run_append_nil0 {t tx ty e k : Nat} {i : TypeInfo} (hi : P.info? e = some i) (hk : i.size = k) (ht : P.underlying t = some (.slice e)) {y : Value} {news : List Value} (hs : Src P k tx y 0 news w) :
    (Builtin.append_ #[t, tx] ty #[.slice none 0 0, y]).run P w = .ok (.slice none 0 0) w := by
  subst hk
  have hn := src_len0 hs rfl
  subst hn
  rcases hs.kind with ⟨e', hk⟩ | hk <;> simp [Builtin.append_, run_underlying ht, run_underlying hk, sizeOf, typeInfo, hi, hs.len, hs.cells]

theorem RowRel.flat {k m : Nat} {q : Row} {ns : List Value} (hq : RowRel γ k m q ns) : RowRel γ 1 (m * k) q ns := by
  obtain ⟨h1, h2, h3⟩ := hq
  refine ⟨by rw [h1, Nat.mul_one], h2, ?_⟩
  cases q with
  | c l => exact h3
  | bs n c =>
    obtain ⟨rfl, h4, h5, h6⟩ := h3
    rcases h4 with rfl | rfl
    · rw [Nat.zero_mul]; exact ⟨rfl, .inl rfl, h5, h6⟩
    · rw [Nat.mul_one]; exact ⟨rfl, .inr rfl, h5, h6⟩
theorem growOb_le {vs : Array Value} {mk : Nat × Nat} {e k n : Nat} {q : Row} {ob ob' : Ob} (hk : KO γ vs mk ob) (h : growOb S e k n q ob = some ob') : n * k ≤ vs.size := by
  cases ob <;> (try exact hk.elim)
  case c e' m tr =>
    simp only [growOb] at h
    split at h
    · rename_i l hb h8
      rw [Bool.and_eq_true] at hb
      exact Nat.le_trans (Nat.le_of_ble_eq_true hb.2) hk.2.1
    · cases h
  case bs e' fz m c =>
    simp only [growOb] at h
    split at h
    · rename_i m' c' hb hcr
      rw [Bool.and_eq_true, Bool.and_eq_true] at hb
      have := Nat.eq_of_beq_eq_true hb.2.1
      subst this
      rw [Nat.mul_one]
      exact Nat.le_trans (Nat.le_of_ble_eq_true hb.2.2) hk.1
    · cases h

theorem appX_sound (hT : TyOk S) (r : Rel C γ h w) {e k bb t tx ty m : Nat} {i : TypeInfo} (hi : El S e k bb i) (ht : S.P.underlying t = some (.slice e)) (h0 : 0 < k) {x v : BV} {q : Row}
    (hv : appX S h e k bb m q x = some (v, h')) {y u : Value} {news : List Value} (hs : Src S.P k tx y m news w) (hq : RowRel γ k m q news) (hx : BRel γ x u) :
    ∃ z w', (Builtin.append_ #[t, tx] ty #[u, y]).run S.P w = .ok z w' ∧ Did C γ h v h' z w' := by
  unfold appX at hv
  split at hv
  · -- nil
    cases hx
    unfold appN at hv
    split at hv
    · rename_i hb
      have := Nat.eq_of_beq_eq_true hb
      subst this
      cases hv
      exact ⟨_, _, run_append_nil0 hi.info hi.size ht hs, Did.same r .ns⟩
    · rename_i hb
      have hm0 : m ≠ 0 := Nat.ne_of_beq_eq_false hb
      split at hv
      · rename_i ob hok hm
        cases hv
        rw [Bool.and_eq_true] at hok
        obtain ⟨zv, hz, hzk, _⟩ := okZ_spec hT hi hok.2
        obtain ⟨z, w', hr, hn⟩ := grow_run (ty := ty) hi ht hz hzk (by rw [Nat.zero_add]; exact hok.1) hs none (olds := []) (by simp) (by simp [Builtin.firstCells]) (sCap := 0) (by omega)
        rw [Nat.zero_add, List.nil_append] at hn
        exact ⟨z, w', hr, hn.mk r h0 hm hq⟩
      · cases hv
  · -- a slice
    rename_i id off len cap
    cases hx with | sl _ _ _ _ g hg hc =>
    unfold appL at hv
    split at hv
    · rename_i hroom
      have hroom : len + m ≤ cap := Nat.le_of_ble_eq_true hroom
      split at hv
      · rename_i hb
        have := Nat.eq_of_beq_eq_true hb
        subst this
        cases hv
        have hn := src_len0 hs rfl
        subst hn
        have hk := hi.size
        subst hk
        exact ⟨_, _, run_append_room_src w t tx ty e i ht hi.info g.b off len cap y 0 [] hs hroom (by simp) (by simp), Did.same r (.sl id off len cap g hg hc)⟩
      · split at hv
        · rename_i ob hp
          cases hv
          have hk := hi.size
          subst hk
          obtain ⟨c1, c2, c3⟩ := put_write r hg hp hq.flat (fun _ => rfl)
          exact ⟨_, _, run_append_room_src w t tx ty e i ht hi.info g.b off len cap y m news hs hroom c1 c2, ⟨γ, Ext.refl _ _, Nat.le_refl _, .sl id off (len + m) cap g hg hroom, c3⟩⟩
        · cases hv
    · rename_i hroom
      have hroom : ¬ (len + m ≤ cap) := fun hh => by have h5 : Nat.ble (len.add m) cap = true := Nat.ble_eq_true_of_le hh; rw [h5] at hroom; cases hroom
      split at hv
      · rename_i hok
        rw [Bool.and_eq_true] at hok
        obtain ⟨zv, hz, hzk, _⟩ := okZ_spec hT hi hok.2
        split at hv
        · split at hv
          · rename_i ob hgr
            cases hv
            have hkd := growOb_kind hgr
            have hkd' := fresh_kind hkd
            obtain ⟨vs, mk, k1, k2, k3, k4⟩ := r.ko rfl hkd' hg
            have hfr := k1.fresh e
            have hle : len * k ≤ vs.size := growOb_le hfr hgr
            obtain ⟨olds, o1, o2, o3⟩ := cells_first (P := S.P) (k := k) (n := len) (c := cap) (off := 0) k2 (by omega)
            have hk := hi.size
            obtain ⟨z, w', hr, hn⟩ := grow_run (ty := ty) hi ht hz hzk hok.1 hs (some ⟨g.b, 0, none⟩) o1 (by rw [hk]; exact o3) (by omega)
            exact ⟨z, w', hr, hn.grow r h0 o1 (vs := vs) (fun j hj => by rw [o2 j hj, Nat.zero_add]) hq hfr hgr⟩
          · cases hv
        · split at hv
          · rename_i q0 hq0
            split at hv
            · rename_i q1 hcat
              split at hv
              · rename_i ob hm
                cases hv
                obtain ⟨olds, o1, o2⟩ := rowOf_sound r hq0 hg
                have hk := hi.size
                obtain ⟨z, w', hr, hn⟩ := grow_run (ty := ty) hi ht hz hzk hok.1 hs (some ⟨g.b, off, none⟩) o1.1 (run_firstCells_some w.drew i.size len ⟨g.b, off, none⟩ len cap olds (by rw [hk]; exact o1.1) (fun j u hu => by rw [addr_add]; simpa using o2 j u hu)) (by omega)
                exact ⟨z, w', hr, hn.mk r h0 hm (catRow_rel hcat o1 hq)⟩
              · cases hv
            · cases hv
          · cases hv
      · cases hv
  · -- a slice whose room is not known
    rename_i k' id off len
    split at hv
    · rename_i hkb
      have := Nat.eq_of_beq_eq_true hkb
      subst this
      cases hx with | sg _ _ _ _ g o hg hk1 _ ho hc =>
      have hk := hi.size
      unfold appG at hv
      split at hv
      · rename_i hb
        have := Nat.eq_of_beq_eq_true hb
        subst this
        cases hv
        have hn := src_len0 hs rfl
        subst hn
        subst hk
        exact ⟨_, _, run_append_room_src w t tx ty e i ht hi.info g.b off len (g.C - o) y 0 [] hs (by omega) (by simp) (by simp), Did.same r (.sg i.size id off len g o hg hk1 h0 ho hc)⟩
      · split at hv
        · rename_i hok hoff
          have hoff := Nat.eq_of_beq_eq_true hoff
          subst hoff
          have ho0 : o = 0 := by
            rcases Nat.mul_eq_zero.1 ho.symm with h | h
            · exact h
            · omega
          subst ho0
          rw [Bool.and_eq_true] at hok
          obtain ⟨zv, hz, hzk, _⟩ := okZ_spec hT hi hok.2
          split at hv
          · rename_i ob hgr
            cases hv
            have hkd := growOb_kind hgr
            obtain ⟨vs, mk, k1, k2, k3, k4⟩ := r.ko rfl hkd hg
            have hne : h.get id ≠ .x := by rcases hkd with ⟨_, _, _, e⟩ | ⟨_, _, _, _, e⟩ <;> rw [e] <;> simp
            have rk := r.kill id
            by_cases hroom : len + m ≤ g.C
            · have hfit : len * k + news.length ≤ (setMany vs (len * k) news).size := by
                rw [setMany_size, k3, hk1, hs.newsLen, ← Nat.add_mul]; exact Nat.mul_le_mul_right _ hroom
              have hγ := upd_le (r.us h.nx (Nat.le_refl _)) g
              obtain ⟨p1, p2, p3, p4, p5, p6⟩ := k1.grow hγ hgr hq (vs' := setMany vs (len * k) news) (mk' := mk) (fun j hj => setMany_lo _ _ _ _ (.inl hj)) (fun j hj => setMany_in _ _ _ _ hj (by rw [setMany_size] at hfit; omega)) hfit (.inl ⟨rfl, setMany_size _ _ _⟩)
              rw [setMany_size] at hfit
              obtain ⟨c1, c2⟩ := row_cells k2 (off := len * k) (ns := news) (fun j hj => by omega) (fun j hj => p6 _ (by omega) (by omega))
              subst hk
              have hrun := run_append_room_src (P := S.P) w t tx ty e i ht hi.info g.b 0 len (g.C - 0) y m news hs hroom (by rw [Nat.zero_add]; exact c1) (by rw [Nat.zero_add]; exact c2)
              rw [Nat.zero_add] at hrun
              have hlt := (r.lo id g hne hg).1
              refine ⟨_, _, hrun, upd γ h.nx (some g), Ext.upd (Nat.le_refl _), by rw [Hp.new_nx]; exact Nat.le_succ _, sg_new _ hk1 h0 hroom, ?_⟩
              have e1 : (h.set id .x).new ob = ⟨h.nx + 1, ((h.set id .x).set h.nx ob).t⟩ := by unfold Hp.new; rw [bump_eq]; rfl
              rw [e1]
              refine rk.birthAt (r.us _ (Nat.le_refl _)) (Nat.le_succ h.nx) (Nat.lt_succ_self _) (World.os_setCells ..) (setCells_tape ..) (World.output_setCells ..) (by rw [setCells_size]; exact Nat.le_refl _) (by rw [setCells_size]; exact hlt) (r.lo id g hne hg).2 ?_ (fun b hb _ => setCells_other _ _ _ _ _ hb) ?_
              · intro j g1 hj h1 eb
                rw [Hp.get_set] at hj
                by_cases e : j = id
                · rw [if_pos e] at hj; exact hj rfl
                · rw [if_neg e] at hj; exact e (r.sep j id g1 g hj hne h1 hg eb)
              · exact p1.om (upd_same _ _ _) (by rw [p2, ← p3]; exact setCells_heap _ _ _ _ _ _ _ k2) (by rw [setMany_size]; exact k3) (by rw [hk1]; exact p5)
            · have hle : len * k ≤ vs.size := by rw [k3, hk1]; exact Nat.mul_le_mul_right _ (by omega)
              obtain ⟨olds, o1, o2, o3⟩ := cells_first (P := S.P) (k := k) (n := len) (c := g.C - 0) (off := 0) k2 (by omega)
              obtain ⟨z, w', hr, hn⟩ := grow_run (ty := ty) hi ht hz hzk hok.1 hs (some ⟨g.b, 0, none⟩) o1 (by rw [hk]; exact o3) (by omega)
              exact ⟨z, w', hr, hn.grow rk h0 o1 (vs := vs) (fun j hj => by rw [o2 j hj, Nat.zero_add]) hq k1 hgr⟩
          · cases hv
        · cases hv
    · cases hv
  · cases hv
end Go.Bm

/-! Operations that change memory. -/
namespace Go.Bm
open Go Go.RowKit
variable {S : Seat} {γ γ' : Nat → Option G} {C : Ctx} {h h' : Hp} {w w' : World} {σ : Tr BV} {a : Act} {P : Program}

theorem zero_made (z : Array Value) (n : Nat) : Builtin.zeroCells z n = madeCells z (n * z.size) := rfl
theorem appZ_sound (hT : TyOk S) (r : Rel C γ h w) {e k bb t tx ty : Nat} {i : TypeInfo} {kx : IntKind} (hi : El S e k bb i) (ht : S.P.underlying t = some (.slice e)) (htx : S.P.underlying tx = some (.int kx)) (h0 : 0 < k) {x y v : BV}
    (hv : appZ S h e k bb x y = some (v, h')) {u z : Value} (hx : BRel γ x u) (hy : BRel γ y z) :
    ∃ q w', (Builtin.append_ #[t, tx] ty #[u, z]).run S.P w = .ok q w' ∧ Did C γ h v h' q w' := by
  unfold appZ at hv
  split at hv
  · rename_i n zl hn hz
    split at hv
    · rename_i hb
      rw [Bool.and_eq_true, Bool.and_eq_true] at hb
      split at hv
      · rename_i ob hm
        cases hv
        cases hx
        obtain ⟨kk, rfl⟩ := natV_spec hn hy
        obtain ⟨o1, o2⟩ := okSize_spec hb.1
        have hzl := Nat.eq_of_beq_eq_true hb.2.1
        have hn1 : 1 ≤ n := Nat.le_of_ble_eq_true hb.2.2
        obtain ⟨zv, hzv, rfl, j, hj, hzj⟩ := zeroC_spec hT hz
        have hzs : zv.cells.size = k := by rw [← hzl, cvl_length, Array.length_toList]
        have hk := hi.size
        have hbb := hi.bytes
        subst hk hbb
        have hw : IntKind.i64.wrap (Int.ofNat n) = Int.ofNat n := wrap_small _ (by simp) (by simp; omega)
        have hmul : n * i.bytes ≤ 1073741824 * 65536 := Nat.mul_le_mul o1 o2
        have hfit := growslice_fits (need := n) (old := 0) (bytes := i.bytes) (by omega) (by omega)
        have hneg : ¬ ((n : Int) < 0) := by omega
        have hbig : ¬ ((281474976710656 : Int) < (n : Int) * (i.bytes : Int)) := by rw [← Int.natCast_mul]; omega
        have hmx : IntKind.i64.max = 9223372036854775807 := rfl
        have h63 : ¬ ((9223372036854775807 : Int) < (n : Int)) := by omega
        have hfit' : ¬ (281474976710656 < Builtin.nextslicecap n 0 * i.bytes) := by omega
        have hnz : ¬ (n * i.size = 0) := by
          intro h; rcases Nat.mul_eq_zero.1 h with h | h <;> omega
        have hnr : ¬ (n ≤ 0) := by omega
        have hge := grownCap_ge w n 0 e
        have hrun : (Builtin.append_ #[t, tx] ty #[.slice none 0 0, .int kk (.ofNat n)]).run S.P w =
            .ok (.slice (some ⟨w.heap.size, 0, none⟩) n (grownCap w n 0 e)) (w.drew.alloc (.cells (madeCells zv.cells (n * i.size) ++ Builtin.zeroCells zv.cells (grownCap w n 0 e - n)) e)) := by
          have hzz : Builtin.zeroCells zv.cells n = madeCells zv.cells (n * i.size) := by rw [zero_made, hzs]
          have hw' : IntKind.i64.wrap (n : Int) = (n : Int) := hw
          simp [Builtin.append_, run_underlying ht, run_underlying htx, sizeOf, typeInfo, hi.info, asInt, asIntOf, hw', hneg, hbig, hmx, h63, hfit', hnz, hnr, hzv, Builtin.firstCells, newRow, Question.forced, grownCap, hzz]
          omega
        have hrel := rep_rel (γ := γ) (n := n) (zv := zv) hzl
        have hcur : NewRow w e i.size n (madeCells zv.cells (n * i.size)).toList (.slice (some ⟨w.heap.size, 0, none⟩) n (grownCap w n 0 e)) (w.drew.alloc (.cells (madeCells zv.cells (n * i.size) ++ Builtin.zeroCells zv.cells (grownCap w n 0 e - n)) e)) := by
          refine ⟨⟨w.heap.size, i.size, grownCap w n 0 e, none⟩, madeCells zv.cells (n * i.size) ++ Builtin.zeroCells zv.cells (grownCap w n 0 e - n), ⟨rfl, rfl, rfl, Nat.le_refl _, by simp, fun b hb => Below.heap_alloc w.drew _ b hb⟩, rfl, rfl, hge, heap_alloc_new w.drew _, ?_, ?_⟩
          · simp only [Array.size_append, size_madeCells, size_zeroCells, hzs]
            rw [← Nat.add_mul]; congr 1; omega
          · simp only [Array.toList_append]
            have : (madeCells zv.cells (n * i.size)).toList.length = n * i.size := by rw [Array.length_toList, size_madeCells]
            exact List.take_left' this
        exact ⟨_, _, hrun, hcur.mk r h0 hm ⟨by rw [Array.length_toList, size_madeCells], mkRow_one hm hrel, hrel⟩⟩
      · cases hv
    · cases hv
  · cases hv
theorem appR_sound (hT : TyOk S) (r : Rel C γ h w) {e k bb t tx ty : Nat} {i : TypeInfo} (hi : El S e k bb i) (ht : S.P.underlying t = some (.slice e)) (htx : (∃ e', S.P.underlying tx = some (.slice e')) ∨ S.P.underlying tx = some .string) (h0 : 0 < k) {x y v : BV}
    (hv : appR S h e k bb x (rowV h k y) = some (v, h')) {u z : Value} (hx : BRel γ x u) (hy : BRel γ y z) :
    ∃ q w', (Builtin.append_ #[t, tx] ty #[u, z]).run S.P w = .ok q w' ∧ Did C γ h v h' q w' := by
  cases hr : rowV h k y with
  | none => rw [hr] at hv; cases hv
  | some p =>
    obtain ⟨m, q⟩ := p
    rw [hr] at hv
    obtain ⟨news, h1, h2⟩ := rowV_sound r hr htx hy
    exact appX_sound hT r hi ht h0 hv h1 h2 hx
theorem appV_sound (hT : TyOk S) (r : Rel C γ h w) {t tx ty : Nat} {x y v : BV} (hv : appV S h t tx x y = some (v, h')) {u z : Value} (hx : BRel γ x u) (hy : BRel γ y z) :
    ∃ q w', (Builtin.append_ #[t, tx] ty #[u, z]).run S.P w = .ok q w' ∧ Did C γ h v h' q w' := by
  unfold appV at hv
  split at hv
  · cases hv
  · rename_i e he
    have ht := elemT_spec hT he
    split at hv
    · rename_i k bb hk hb
      obtain ⟨i, hi⟩ := el_info hT hk hb
      split at hv
      · rename_i hu; exact appZ_sound hT r hi ht (und_spec hT hu) (Nat.succ_pos _) hv hx hy
      · rename_i hu; exact appR_sound hT r hi ht (.inl ⟨_, und_spec hT hu⟩) (Nat.succ_pos _) hv hx hy
      · rename_i hu; exact appR_sound hT r hi ht (.inr (und_spec hT hu)) (Nat.succ_pos _) hv hx hy
      · cases hv
    · cases hv

theorem storeV_sound (hT : TyOk S) (r : Rel C γ h w) {t : Nat} {x y : BV} (hv : storeV S h t x y = some h') {u z : Value} (hx : BRel γ x u) (hy : BRel γ y z) :
    ∃ w', (Instr.storeAt t u z).run S.P w = .ok () w' ∧ h'.nx = h.nx ∧ Rel C γ h' w' := by
  unfold storeV at hv
  split at hv
  · rename_i id off k hk
    cases hx with | p _ _ g hg =>
    unfold storeW at hv
    split at hv
    · rename_i hb
      rw [Bool.and_eq_true] at hb
      have hlen := Nat.eq_of_beq_eq_true hb.1
      split at hv
      · rename_i ob hst
        cases hv
        have hok : okV y = true := by
          have h1 := hb.2
          cases y <;> first | rfl | (simp [cellsOf, allOne, one] at h1)
        have hc := cells_rel hok hy
        have h1 := one_all hc hb.2
        have hsz : z.cells.size = k := by rw [← hlen, ← Array.length_toList]; exact hc.length
        have hrun : (∀ j, j < z.cells.toList.length → (w.cell? ⟨g.b, off + j, none⟩).isSome = true) → (∀ j, j < z.cells.toList.length → w.frozen? ⟨g.b, off + j, none⟩ = false) →
            (Instr.storeAt t (.pointer (some ⟨g.b, off, none⟩)) z).run S.P w = .ok () (w.setCells g.b off z.cells.toList) := fun c1 c2 => by
          have hst := run_storeCells_cells (P := S.P) g.b off z.cells.toList 0 w (by simpa using c1) (by simpa using c2) h1
          simp only [Nat.add_zero] at hst
          simp only [Instr.storeAt, Instr.sureAddr, storeVar, Sem.run_bind, Sem.run_pure, Result.andThen_ok, run_sz hT hk, hsz, hst]
          rw [if_neg (fun hne => hne rfl)]
          exact hst
        have hq : RowRel γ 1 (z.cells.toList.length) (.c (cellsOf y)) z.cells.toList := ⟨by rw [Nat.mul_one], h1, hc⟩
        unfold storeO at hst
        split at hst
        · rename_i e n tr ho
          split at hst
          · rename_i hle
            cases hst
            have hle : off + k ≤ n := Nat.le_of_ble_eq_true hle
            have hp : putRow off (.c (cellsOf y)) (h.get id) = some (.c e n (tr.sets off (cellsOf y))) := by
              rw [ho]
              simp only [putRow, hb.2, Bool.true_and]
              have : Nat.ble (Nat.add off (cellsOf y).length) n = true := Nat.ble_eq_true_of_le (by rw [hlen]; exact hle)
              rw [this]
            obtain ⟨c1, c2, c3⟩ := put_write r hg hp hq (fun _ => rfl)
            exact ⟨_, hrun c1 c2, rfl, c3⟩
          · cases hst
        · obtain ⟨c1, c2, c3⟩ := put_write r hg hst hq (fun _ => rfl)
          exact ⟨_, hrun c1 c2, rfl, c3⟩
      · cases hv
    · cases hv
  · cases hv

theorem EsRel.push {k v : BV} {e : MapEntry} (h1 : BRel γ k e.key) (h2 : BRel γ v e.val) : ∀ {l : List (BV × BV)} {es : List MapEntry}, EsRel γ l es → EsRel γ (l ++ [(k, v)]) (es ++ [e])
  | [], [], _ => ⟨h1, h2, trivial⟩
  | _ :: _, _ :: _, h => ⟨h.1, h.2.1, EsRel.push h1 h2 h.2.2⟩
theorem apartK_push {k v : BV} : ∀ {l : List (BV × BV)}, apartK l → (∀ y ∈ l, eqKey y.1 k = some false) → apartK (l ++ [(k, v)])
  | [], _, _ => ⟨by simp, trivial⟩
  | x :: l, h, hk => ⟨fun y hy => by
      rcases List.mem_append.1 hy with hy | hy
      · exact h.1 y hy
      · simp at hy; subst hy; exact hk x (by simp), apartK_push h.2 fun y hy => hk y (by simp [hy])⟩
theorem eqKey_sym' {k x : BV} (h : eqKey k x = some false) : eqKey x k = some false := eqKey_sym h
theorem mapSet_sound (hT : TyOk S) (r : Rel C γ h w) {t : Nat} {m k v x : BV} (hv : mapSet S h t m k v = some (x, h')) {u z y : Value} (hm : BRel γ m u) (hk : BRel γ k z) (hy : BRel γ v y) :
    x = .t [] ∧ ∃ w', (Instr.mapUpdate t u z y).run S.P w = .ok () w' ∧ h'.nx = h.nx ∧ Rel C γ h' w' := by
  unfold mapSet at hv
  split at hv
  · rename_i id kt e hu
    have hu := und_spec hT hu
    cases hm with | m _ g hg =>
    split at hv
    · rename_i l ho hko
      obtain ⟨d, hd1, hd2⟩ := keyOk_spec hT hko
      split at hv
      · rename_i hf
        cases hv
        obtain ⟨es, cl, l', h1, h2, h3, h4⟩ := OM.mObj r ho hg
        have hfk : ∀ y ∈ l', eqKey k y.1 = some false := fun y hy => findK_none hf y (h2.mem_iff.1 hy)
        have hnone := find_none hd2 hk h3 hfk 0
        have hlt : g.b < w.heap.size := (Array.getElem?_eq_some_iff.1 h1).1
        refine ⟨rfl, { w with heap := w.heap.setIfInBounds g.b (.map (es.push { key := z, val := y, born := cl }) (cl + 1)) }, ?_, rfl, ?_⟩
        · simp only [Instr.mapUpdate, Sem.run_bind, run_underlying hu, Result.andThen_ok, run_getMap h1, run_checkKey hd1 hd2 hk, run_findKey hd1 hnone]
          simp [setObj, Sem.run, h1]
        · refine r.write hg (by rw [ho]; simp) rfl rfl rfl (by simp) (fun b hb => by simp [Ne.symm hb]) ⟨g, es.push { key := z, val := y, born := cl }, cl + 1, l' ++ [(k, v)], hg, by simp [hlt], List.Perm.append_right _ h2, ?_, apartK_push h4 fun y hy => eqKey_sym (hfk y hy)⟩
          rw [Array.toList_push]
          exact EsRel.push hk hy h3
      · cases hv
    · cases hv
  · cases hv
end Go.Bm

/-! Operations that change memory, on. -/
namespace Go.Bm
open Go Go.RowKit
variable {S : Seat} {γ γ' : Nat → Option G} {C : Ctx} {h h' : Hp} {w w' : World} {σ : Tr BV} {a : Act} {P : Program}

theorem putRow_one {off : Nat} {l : List BV} {ob ob' : Ob} (h : putRow off (.c l) ob = some ob') {ns : List Value} (hn : BRels γ l ns) : ∀ u ∈ ns, u.oneCell' = true := by
  cases ob <;> (try (cases h; done))
  case c e m tr =>
    simp only [putRow] at h
    split at h
    · rename_i hb; rw [Bool.and_eq_true] at hb; exact one_all hn hb.1
    · cases h
  case bs e fz m c =>
    cases fz with
    | succ fz => cases h
    | zero =>
      simp only [putRow, catRow, Nat.beq_refl] at h
      split at h
      · rename_i d hp
        obtain ⟨_, p2⟩ := packC_spec hp hn
        rw [p2]; exact byteV_one _ _
      · cases h
theorem rep_zero {n : Nat} {zv : Value} : BRels γ (rep n (cvl zv.cells.toList) []) (Builtin.zeroCells zv.cells n).toList := by
  rw [zero_made]
  exact rep_rel (by rw [cvl_length, Array.length_toList])
theorem clear_run {t e ty : Nat} (ht : P.underlying t = some (.slice e)) {zv : Value} (hz : ∀ w, (zeroValue e).run P w = .ok zv w) {b off n c : Nat} (hc : ∀ j, j < (Builtin.zeroCells zv.cells n).toList.length → (w.cell? ⟨b, off + j, none⟩).isSome = true)
    (hf : ∀ j, j < (Builtin.zeroCells zv.cells n).toList.length → w.frozen? ⟨b, off + j, none⟩ = false) (h1 : ∀ u ∈ (Builtin.zeroCells zv.cells n).toList, u.oneCell' = true) :
    (Builtin.clear_ #[t] ty #[.slice (some ⟨b, off, none⟩) n c]).run P w = .ok (.tuple #[]) (w.setCells b off (Builtin.zeroCells zv.cells n).toList) := by
  have hst := run_storeCells_cells (P := P) b off (Builtin.zeroCells zv.cells n).toList 0 w (by simpa using hc) (by simpa using hf) h1
  simp only [Nat.add_zero] at hst
  cases n with
  | zero =>
    have : (Builtin.zeroCells zv.cells 0).toList = [] := by simp [Builtin.zeroCells]
    rw [this]
    simp [Builtin.clear_, run_underlying ht, World.setCells]
  | succ n => simp [Builtin.clear_, run_underlying ht, hz, hst]
theorem clear_put (hT : TyOk S) (r : Rel C γ h w) {t e ty : Nat} (ht : S.P.underlying t = some (.slice e)) {zl : List BV} (hz : zeroC S e = some zl) {id off n c : Nat} {g : G} (hg : γ id = some g) {ob : Ob} (hp : putRow off (.c (rep n zl [])) (h.get id) = some ob) :
    ∃ w', (Builtin.clear_ #[t] ty #[.slice (some ⟨g.b, off, none⟩) n c]).run S.P w = .ok (.tuple #[]) w' ∧ Rel C γ (h.set id ob) w' := by
  obtain ⟨zv, hzv, rfl, _⟩ := zeroC_spec hT hz
  have hrel := rep_zero (γ := γ) (n := n) (zv := zv)
  have h1 := putRow_one hp hrel
  obtain ⟨c1, c2, c3⟩ := put_write r hg hp (k := 1) (n := (Builtin.zeroCells zv.cells n).toList.length) ⟨by rw [Nat.mul_one], h1, hrel⟩ (fun _ => rfl)
  exact ⟨_, clear_run ht hzv c1 c2 h1, c3⟩
theorem clearV_sound (hT : TyOk S) (r : Rel C γ h w) {t ty : Nat} {x v : BV} (hv : clearV S h t x = some (v, h')) {u : Value} (hx : BRel γ x u) :
    ∃ q w', (Builtin.clear_ #[t] ty #[u]).run S.P w = .ok q w' ∧ Did C γ h v h' q w' := by
  unfold clearV at hv
  split at hv
  · rename_i e he
    have ht := elemT_spec hT he
    split at hv
    · rename_i zl hz
      split at hv
      · split at hv
        · rename_i ob hp
          cases hv
          cases hx with | sl _ _ _ _ g hg hc =>
          obtain ⟨w', h1, h2⟩ := clear_put hT r ht hz hg hp
          exact ⟨_, w', h1, γ, Ext.refl _ _, Nat.le_refl _, .t _ _ .nil, h2⟩
        · cases hv
      · split at hv
        · rename_i ob hp
          cases hv
          cases hx with | sg _ _ _ _ g o hg hk h0 ho hc =>
          obtain ⟨w', h1, h2⟩ := clear_put hT r ht hz hg hp
          exact ⟨_, w', h1, γ, Ext.refl _ _, Nat.le_refl _, .t _ _ .nil, h2⟩
        · cases hv
      · cases hv
    · cases hv
  · cases hv

theorem freeze_heap (w : World) (b n : Nat) (hn : n ≠ 0) {vs : Array Value} {e : Nat} {m : Nat × Nat} (h : w.heap[b]? = some (.cells vs e m)) :
    (w.freeze ⟨b, 0, none⟩ n).heap[b]? = some (.cells vs e (if m.1 == m.2 then (0, 0 + n) else (min m.1 0, max m.2 (0 + n)))) := by
  unfold World.freeze
  simp only [if_neg hn, Array.getElem?_modify, if_true, h, Option.map_some]
theorem freeze_other (w : World) (b n i : Nat) (hi : i ≠ b) : (w.freeze ⟨b, 0, none⟩ n).heap[i]? = w.heap[i]? := by
  unfold World.freeze
  split
  · rfl
  · simp only [Array.getElem?_modify, if_neg (Ne.symm hi)]
theorem freeze_rest (w : World) (a : Addr) (n : Nat) : (w.freeze a n).os = w.os ∧ (w.freeze a n).tape = w.tape ∧ (w.freeze a n).output = w.output ∧ (w.freeze a n).heap.size = w.heap.size := by
  unfold World.freeze
  split
  · exact ⟨rfl, rfl, rfl, rfl⟩
  · exact ⟨rfl, rfl, rfl, by simp⟩
theorem ptrU_spec (hT : TyOk S) {t e : Nat} (h : ptrU S t = some e) : S.P.underlying t = some (.pointer e) ∧ S.P.cellsOf e = 1 := by
  unfold ptrU at h
  split at h
  · rename_i e' hu
    split at h
    · rename_i hs
      cases h
      refine ⟨und_spec hT hu, ?_⟩
      unfold sz at hs
      split at hs
      · rename_i i hi
        have h2 := Option.some.inj hs
        simp [Program.cellsOf, hT.ty _ _ hi, h2]
      · cases hs
    · cases h
  · cases h
theorem low_bytes {n c j : Nat} (hj : j < n) : byteV (low c n) j = byteV c j := by rw [byteV, byteV, byteAt_low _ _ _ hj]
theorem usV_sound (hT : TyOk S) (r : Rel C γ h w) {t it ty : Nat} {xs : List BV} {v : BV} (hv : usV h (ptrU S t) xs = some (v, h')) {us : List Value} (hx : BRels γ xs us) :
    ∃ q w', (Builtin.unsafeString_ #[t, it] ty us.toArray).run S.P w = .ok q w' ∧ Did C γ h v h' q w' := by
  unfold usV at hv
  split at hv
  · cases hv
    obtain ⟨u, z, rfl, h1, h2⟩ := hx.two_inv
    cases h1; cases h2
    exact ⟨_, _, Lib.run_unsafeString_none w t it ty none, Did.same r (by have := BRel.s (γ := γ) 0 0 (by simp); exact this)⟩
  · rename_i id n
    obtain ⟨u, z, rfl, h1, h2⟩ := hx.two_inv
    cases h1 with | p _ _ g hg =>
    cases h2
    split at hv
    · rename_i e fz m c e' ho hpu
      obtain ⟨hp1, hp2⟩ := ptrU_spec hT hpu
      split at hv
      · rename_i n hb
        cases hv
        rw [Bool.and_eq_true, Bool.and_eq_true, Bool.and_eq_true] at hb
        have he := Nat.eq_of_beq_eq_true hb.1
        subst he
        have hn1 : n + 1 ≤ 1073741824 := Nat.le_of_ble_eq_true hb.2.1
        have hnm : n + 1 ≤ m := Nat.le_of_ble_eq_true hb.2.2.1
        have hfz : fz ≤ 1 := Nat.le_of_ble_eq_true hb.2.2.2
        obtain ⟨vs, mk, h1, h2, h3, h4, h5, h6, h7⟩ := OM.bObj r ho hg
        have hl : (dec (n + 1) (low c (n + 1))).length = n + 1 := dec_length _ _
        have hrun := Lib.run_unsafeString_row (P := S.P) w t it ty e hp1 hp2 g.b vs.size (by simp [World.shape?, h1]) (dec (n + 1) (low c (n + 1))) (by intro h0; rw [h0] at hl; cases hl) (by rw [hl]; omega) (by rw [hl]; omega) (fun j x hx => by
          have hj : j < n + 1 := by
            rcases Nat.lt_or_ge j (n + 1) with h | h
            · exact h
            · rw [List.getElem?_eq_none (by rw [hl]; exact h)] at hx; cases hx
          rw [dec_get _ _ _ hj] at hx
          cases hx
          rw [addr_add, Nat.zero_add, h7 j (by omega), u8_toNat, byteAt_low _ _ _ hj]
          rfl)
        rw [hl] at hrun
        obtain ⟨f1, f2, f3, f4⟩ := freeze_rest w ⟨g.b, 0, none⟩ (n + 1)
        refine ⟨_, _, hrun, γ, Ext.refl _ _, Nat.le_refl _, .s (n + 1) (low c (n + 1)) (low_lt _ _), r.write hg (by rw [ho]; simp) f1 f2 f3 f4 (fun b hb => freeze_other w g.b (n + 1) b hb) ⟨g, vs, _, hg, freeze_heap w g.b (n + 1) (by omega) h1, h2, h3, h4, ?_, h6⟩⟩
        have hmk : mk.1 = 0 ∧ mk.2 ≤ m := by
          match fz, h5, hfz with
          | 0, h5, _ => have h5 : mk = (0, 0) := h5; subst h5; exact ⟨rfl, Nat.zero_le _⟩
          | 1, h5, _ => exact h5
        show (if mk.1 == mk.2 then (0, 0 + (n + 1)) else (min mk.1 0, max mk.2 (0 + (n + 1)))).1 = 0 ∧ (if mk.1 == mk.2 then (0, 0 + (n + 1)) else (min mk.1 0, max mk.2 (0 + (n + 1)))).2 ≤ m
        split
        · exact ⟨rfl, by dsimp only; omega⟩
        · refine ⟨by dsimp only; omega, ?_⟩
          dsimp only; omega
      · cases hv
    · cases hv
  · cases hv

/-- An operation that changes memory. -/
theorem evE_sound (hT : TyOk S) (r : Rel C γ h w) (hs : SRel γ σ a.tmps) (o : Oper) {v : BV} (hv : evE S h o.op σ = some (v, h')) :
    ∃ n z w', (execOp a.eval o).run S.P w = .ok n w' ∧ ((n = .skip ∧ z = undef) ∨ n = .value z) ∧ Did C γ h v h' z w' := by
  obtain ⟨dst, op, type, pos, after, guard⟩ := o
  dsimp only at hv
  have mu : ∀ {t m k x}, eUpd t m k x S h σ = some (v, h') → ∃ w', (Instr.mapUpdate t (a.eval m) (a.eval k) (a.eval x)).run S.P w = .ok () w' ∧ Did C γ h v h' undef w' := by
    intro t m k x hv
    obtain ⟨rfl, w', h1, h2, h3⟩ := mapSet_sound hT r hv (opv_rel hs m) (opv_rel hs k) (opv_rel hs x)
    exact ⟨w', h1, γ, Ext.refl _ _, by omega, .t _ _ .nil, h3⟩
  cases op <;> simp only [evE] at hv <;> (try (cases hv; done))
  case store t x y =>
    unfold eStore done at hv
    split at hv
    · rename_i h1 hst
      cases hv
      obtain ⟨w', h2, h3, h4⟩ := storeV_sound hT r hst (opv_rel hs x) (opv_rel hs y)
      refine ⟨.skip, undef, w', ?_, .inl ⟨rfl, rfl⟩, γ, Ext.refl _ _, by omega, .t _ _ .nil, h4⟩
      simp only [execOp, Sem.run_bind, h2, Result.andThen_ok]; rfl
    · cases hv
  case mapUpdate t m k x =>
    obtain ⟨w', h1, h2⟩ := mu hv
    refine ⟨.skip, undef, w', ?_, .inl ⟨rfl, rfl⟩, h2⟩
    simp only [execOp, Sem.run_bind, h1, Result.andThen_ok]; rfl
  case insert t m k x =>
    obtain ⟨w', h1, h2⟩ := mu hv
    refine ⟨.skip, undef, w', ?_, .inl ⟨rfl, rfl⟩, h2⟩
    simp only [execOp, Sem.run_bind, h1, Result.andThen_ok]; rfl
  case call c =>
    obtain ⟨callee, args, ts⟩ := c
    cases callee with
    | value f => cases hv
    | invoke f m => cases hv
    | builtin b =>
      replace hv : builtE S h b ts (maps σ args.toList) = some (v, h') := hv
      have hxs := maps_rel hs args.toList
      have hmap : (args.map a.eval) = (args.toList.map a.eval).toArray := by rw [← Array.toList_map]
      generalize hus : args.toList.map a.eval = us at hxs hmap
      have fin : ∀ (z : Value) (w' : World), (∀ cs, (builtin b ts type cs us.toArray).run S.P w = .ok (.value z) w') → Did C γ h v h' z w' → ∃ n z w', (execOp a.eval ⟨dst, .call ⟨.builtin b, args, ts⟩, type, pos, after, guard⟩).run S.P w = .ok n w' ∧ ((n = .skip ∧ z = undef) ∨ n = .value z) ∧ Did C γ h v h' z w' := by
        intro z w' h1 h2
        refine ⟨.value z, z, w', ?_, .inr rfl, h2⟩
        simp only [execOp, resolve, Sem.run_bind, Sem.run_pure, Result.andThen_ok, invoke, hmap, h1]
      unfold builtE at hv
      split at hv
      · split at hv
        · rename_i t tx x y hts hxx
          rw [hxx] at hxs
          obtain ⟨u, z, rfl, h1, h2⟩ := hxs.two_inv
          have hts : ts = #[t, tx] := by apply Array.ext'; rw [hts]
          subst hts
          obtain ⟨q, w', h3, h4⟩ := appV_sound (ty := type) hT r hv h1 h2
          refine fin q w' (fun cs => ?_) h4
          simp only [builtin, Sem.run_bind, h3, Result.andThen_ok]; rfl
        · cases hv
      · have cp : ∀ {t t' : Nat} {u z : Value} (ad : Addr) (l c : Nat), u = .slice (some ad) l c → BRel γ .ns z → us = [u, z] → ts.toList = [t, t'] → ∀ k, elemK S t = some k → v = nat64 0 → h' = h →
            ∃ n z w', (execOp a.eval ⟨dst, .call ⟨.builtin .copy, args, ts⟩, type, pos, after, guard⟩).run S.P w = .ok n w' ∧ ((n = .skip ∧ z = undef) ∨ n = .value z) ∧ Did C γ h v h' z w' := by
          intro t t' u z ad l c hu hz hus hts k hk hv' hh'
          have hts : ts = #[t, t'] := by apply Array.ext'; rw [hts]
          subst hts hus hu hv' hh'
          cases hz
          obtain ⟨e, he, hsz⟩ := elemK_spec hT hk
          have hi : ((S.P.info? e).map (·.size)).isSome = true := by
            unfold sz at hsz
            split at hsz
            · rename_i i hi; rw [hT.ty _ _ hi]; rfl
            · cases hsz
          refine fin (goInt 0) w (fun cs => ?_) (Did.same r (.i _ _))
          simp only [builtin, Sem.run_bind, run_copy_nil S.P w t t' type e ad l c he hi, Result.andThen_ok]; rfl
        split at hv
        · rename_i t t' id off l c hts hxx
          rw [hxx] at hxs
          obtain ⟨u, z, rfl, h1, h2⟩ := hxs.two_inv
          cases h1 with | sl _ _ _ _ g hg hc =>
          split at hv
          · rename_i k hk
            cases hv
            exact cp _ _ _ rfl h2 rfl hts k hk rfl rfl
          · cases hv
        · rename_i t t' k id off l hts hxx
          rw [hxx] at hxs
          obtain ⟨u, z, rfl, h1, h2⟩ := hxs.two_inv
          cases h1 with | sg _ _ _ _ g o hg hk h0 ho hc =>
          split at hv
          · rename_i k hk
            cases hv
            exact cp _ _ _ rfl h2 rfl hts k hk rfl rfl
          · cases hv
        · cases hv
      · split at hv
        · rename_i t x hts hxx
          rw [hxx] at hxs
          obtain ⟨u, rfl, h1⟩ := hxs.one_inv
          have hts : ts = #[t] := by apply Array.ext'; rw [hts]
          subst hts
          obtain ⟨q, w', h3, h4⟩ := clearV_sound (ty := type) hT r hv h1
          refine fin q w' (fun cs => ?_) h4
          simp only [builtin, Sem.run_bind, h3, Result.andThen_ok]; rfl
        · cases hv
      · split at hv
        · rename_i t it hts
          have hts : ts = #[t, it] := by apply Array.ext'; rw [hts]
          subst hts
          obtain ⟨q, w', h3, h4⟩ := usV_sound (it := it) (ty := type) hT r hv hxs
          refine fin q w' (fun cs => ?_) h4
          simp only [builtin, Sem.run_bind, h3, Result.andThen_ok]; rfl
        · cases hv
      · cases hv
end Go.Bm

/-! Frames of functions and of rounds: the wide fence, at a loop's record or at none. -/
namespace Go.Bm
open Go Go.RowKit
variable {P : Program} {a : Act} {w w' : World} {r : Option Nat} {Q : Exit → Act → World → Prop}

abbrev FW (r : Option Nat) : Fence := { fn := fun _ => True, depth := none, alive := false, round := r }

def callable (P : Program) (f : FuncId) : Bool :=
  match P.funcs[f]? with
  | some fn => fn.body.isSome && !(fn.name == "runtime.NumGoroutine")
  | none => false

theorem run_callFunc {f : FuncId} (h : callable P f = true) (vs : Array Value) (w : World) : (callFunc f vs).run P w = .ok (.enter f vs) w := by
  unfold callable at h
  cases hf : P.funcs[f]? with
  | none => rw [hf] at h; cases h
  | some fn =>
    rw [hf] at h
    dsimp only at h
    rw [Bool.and_eq_true, Bool.not_eq_true'] at h
    have h2 : fn.body.isNone = false := by cases hb : fn.body with | none => rw [hb] at h; cases h.1 | some _ => rfl
    have h3 : ¬ (fn.name = "runtime.NumGoroutine") := by have := h.2; simpa using this
    have h4 : ¬ (fn.body = none) := by intro e; rw [e] at h2; cases h2
    simp [callFunc, hf, h3, h4]

theorem FW_none : FW none = Fence.wide := rfl
theorem room_FW (r : Option Nat) (n : Nat) : (FW r).room n := fun _ h => by cases h
theorem fenced_FW (P : Program) (r : Option Nat) : Machine.fenced P (FW r) = Machine.fenced P Fence.wide := rfl
theorem callsIn_FW {n : Nat} {f : FuncId} {args : Array Value} {R : Ending → World → Prop} : CallsIn (FW r) n P f args w R ↔ Calls P f args w R := (callsIn_wide (n := n) (P := P) (f := f) (args := args) (w := w) (R := R))

theorem not_defer {ρ : Operand → Value} {o : Oper} {x : Next} (h : (execOp ρ o).run P w = .ok x w') (hx : ∀ d, x ≠ .defer d) : ∀ c, o.op ≠ .defer c := by
  intro c hc
  obtain ⟨dst, op, type, pos, after, guard⟩ := o
  dsimp only at hc
  subst hc
  simp only [execOp, Sem.run_bind] at h
  cases hr : (resolve ρ c type).run P w with
  | ok d w1 => rw [hr] at h; simp [Sem.run_pure] at h; exact hx d h.1.symm
  | halt _ _ => rw [hr] at h; cases h

theorem wpIn_of {o : Oper} {x : Next} {next : Act → World → Prop} (h : (execOp a.eval o).run P w = .ok x w') (hx : ∀ d, x ≠ .defer d) (k : o.uponIn (FW r) 0 P a next Q (.ok x w')) : o.wpIn (FW r) 0 P a w next Q := by
  refine ⟨fun _ _ => trivial, ?_⟩
  rw [Oper.semAt_eq _ _ _ (not_defer h hx), h]
  exact k
theorem wpIn_value {o : Oper} {v : Value} {next : Act → World → Prop} (h : (execOp a.eval o).run P w = .ok (.value v) w') (k : next (a.put o.dst v) w') : o.wpIn (FW r) 0 P a w next Q := wpIn_of h (fun _ e => by cases e) k
theorem wpIn_skip' {o : Oper} {next : Act → World → Prop} (h : (execOp a.eval o).run P w = .ok .skip w') (k : next (a.put o.dst undef) w') : o.wpIn (FW r) 0 P a w next Q := wpIn_of h (fun _ e => by cases e) k
theorem wpIn_call {o : Oper} {f : FuncId} {args : Array Value} {next : Act → World → Prop} (h : (execOp a.eval o).run P w = .ok (.enter f args) w')
    (k : Calls P f args w' fun e w'' => ∃ v, e = .returned v ∧ next (a.put o.dst v) w'') : o.wpIn (FW r) 0 P a w next Q :=
  wpIn_of h (fun _ e => by cases e) ⟨fun h => (by cases h), callsIn_FW.2 (k.mono fun e w'' ⟨v, he, hn⟩ => by subst he; exact hn)⟩

section
variable {b : Frame} {k : List Item} {cs : List Frame}
theorem stepR_scope {c : Code} : step P (lone (b.atR a (.code (.scope c) :: k)) cs w) = .next (lone (b.atR a (.code c :: .inScope c :: k)) cs w) :=
  step_lone_go (by simp [stepG, stepG.exec, Frame.atR])
theorem stepR_inScope {c : Code} : step P (lone (b.atR a (.inScope c :: k)) cs w) = .next (lone (b.atR a k) cs w) :=
  step_lone_go (by simp [stepG, stepG.exec, Frame.atR])
end
theorem wpIn_scope_straight {F : Fence} {n : Nat} {c : Code} (h : c.wpIn F n P (Exit.noGoto Q) a w) : (Code.scope c).wpIn F n P Q a w := by
  intro b k cs hro hb hr
  have h0 : (lone (b.atR a (.code (.scope c) :: k)) cs w).fenced P F := fenced_calm hb hr rfl
  obtain ⟨e, a₁, w₁, hq, harr⟩ := h b (.inScope c :: k) cs hro hb hr
  cases e with
  | normal => exact ⟨.normal, a₁, w₁, hq, .head h0 stepR_scope (StepsIn.trans harr (.one (fenced_calm hb hr rfl) stepR_inScope))⟩
  | exit id =>
    have hx : exitTo id (.inScope c :: k) = exitTo id k := by simp [exitTo]
    exact ⟨.exit id, a₁, w₁, hq, fun k' hk => .head h0 stepR_scope (harr.1 k' (by rw [hx]; exact hk)),
      fun hr' hk => let ⟨k₁, h1, h2⟩ := harr.2 hr' (by rw [hx]; exact hk); ⟨k₁, h1, .head h0 stepR_scope h2⟩⟩
  | goto l => exact hq.elim
  | ret => exact ⟨_, a₁, w₁, hq, .of_steps (.one h0 stepR_scope) harr⟩
  | panic ch => exact ⟨_, a₁, w₁, hq, .of_steps (.one h0 stepR_scope) harr⟩
  | outgrown => exact ⟨_, a₁, w₁, hq, .of_steps (.one h0 stepR_scope) harr⟩

theorem wpIn_loop_f {F : Fence} {n : Nat} {c : Code} (I : Nat → Act → World → Prop)
    (round : ∀ n' a w, I n' a w → c.wpIn F n P (Exit.then (fun a' w' => ∃ m, m < n' ∧ I m a' w') Q) a w) (n₀ : Nat) (h₀ : I n₀ a w) : (Code.loop c).wpIn F n P Q a w := by
  intro b k cs hro hb hr
  have key : ∀ j a w, I j a w → ∃ e a' w', Q e a' w' ∧ ArrivesIn (Machine.fenced P F) P (lone (b.atR a (.code c :: .inLoop c :: k)) cs w) b k cs e a' w' := by
    intro j
    induction j using Nat.strongRecOn with
    | _ j ih =>
      intro a w hI
      obtain ⟨e, a₁, w₁, hq, harr⟩ := round j a w hI b (.inLoop c :: k) cs hro hb hr
      cases e with
      | normal =>
        obtain ⟨m, hlt, hI₁⟩ := hq
        obtain ⟨e₂, a₂, w₂, hq₂, harr₂⟩ := ih m hlt a₁ w₁ hI₁
        exact ⟨e₂, a₂, w₂, hq₂, .of_steps (StepsIn.trans harr (.one (fenced_calm hb hr rfl) stepR_inLoop)) harr₂⟩
      | exit id => exact ⟨_, a₁, w₁, hq, .pass (x := .inLoop c) rfl (fun _ _ => .inl (by simp)) harr⟩
      | goto l => exact ⟨_, a₁, w₁, hq, .pass (x := .inLoop c) rfl (fun _ _ => .inl (by simp)) harr⟩
      | ret => exact ⟨_, a₁, w₁, hq, .pass (x := .inLoop c) rfl (fun _ _ => .inl (by simp)) harr⟩
      | panic ch => exact ⟨_, a₁, w₁, hq, .pass (x := .inLoop c) rfl (fun _ _ => .inl (by simp)) harr⟩
      | outgrown => exact ⟨_, a₁, w₁, hq, .pass (x := .inLoop c) rfl (fun _ _ => .inl (by simp)) harr⟩
  obtain ⟨e, a', w', hq, harr⟩ := key n₀ a w h₀
  exact ⟨e, a', w', hq, .of_steps (.one (fenced_calm hb hr rfl) stepR_loop) harr⟩
theorem put_size (a : Act) (dst : Option Nat) (v : Value) : (a.put dst v).tmps.size = a.tmps.size := by
  cases dst <;> simp [Act.put]
theorem put_defers (a : Act) (dst : Option Nat) (v : Value) : (a.put dst v).defers = a.defers := by
  cases dst <;> rfl
end Go.Bm

/-! A range over a function: the statement, a round, a call of yield. -/
namespace Go.Bm
open Go Go.RowKit
variable {P : Program} {a a' : Act} {w w' w2 : World}

/-! ### The statement -/
abbrev markOf (D : Nat) : Deferred := { target := .collected D, args := #[] }
theorem wpIn_rangeFunc_st {g : Operand} {ps : Array Tmp} {assign body : Code} {Q : Exit → Act → World → Prop} {gf : FuncId} {lb : Array Value} (hg : a.eval g = .func (.func gf) #[] lb) (eg : callable P gf = true)
    (h : ∀ (fn : FuncId) (mkR : LoopState → Option Code → Loop), mkR = (fun st pe => { state := st, pending := pe, fn, tmps := a.tmps, params := ps, assign, body, defers := w.heap.size }) →
      Calls P gf (#[.func (.yield (w.heap.size + 1)) #[] #[]] ++ lb) ((w.alloc (.deferred (some []))).alloc (.loop (mkR .ready none))) fun e W2 => (∃ v, e = .returned v) ∧
        ((W2.heap[w.heap.size + 1]? = some (.loop (mkR .ready none)) ∧ Q .normal { a with defers := markOf w.heap.size :: a.defers } (W2.putObj (w.heap.size + 1) (.loop (mkR .exhausted none)))) ∨
         (∃ c, W2.heap[w.heap.size + 1]? = some (.loop (mkR .done (some c))) ∧ c.wpIn (FW none) 0 P Q { a with defers := markOf w.heap.size :: a.defers } (W2.putObj (w.heap.size + 1) (.loop (mkR .exhausted (some c))))))) :
    (Code.rangeFunc g ps assign body).wpIn (FW none) 0 P Q a w := by
  refine wpIn_rangeFunc fun fn _ => ?_
  obtain ⟨mkR, hR⟩ : ∃ mkR : LoopState → Option Code → Loop, mkR = fun st pe => { state := st, pending := pe, fn, tmps := a.tmps, params := ps, assign, body, defers := w.heap.size } := ⟨_, rfl⟩
  obtain ⟨W1, hW1⟩ : ∃ W1, (w.alloc (.deferred (some []))).alloc (.loop (mkR .ready none)) = W1 := ⟨_, rfl⟩
  have hc := h fn mkR hR
  rw [hW1] at hc
  refine ⟨w.heap.size + 1, [markOf w.heap.size], W1, { target := .fn (.func gf) lb, args := #[.func (.yield (w.heap.size + 1)) #[] #[]] }, W1, gf,
    #[.func (.yield (w.heap.size + 1)) #[] #[]] ++ lb, W1, ?_, ?_, fun _ _ => trivial, ?_, (fun h => nomatch h), ?_⟩
  · rw [← hW1, hR]; exact run_enterLoop_outer _ _ _ _ _
  · simp only [resolve, hg]
    simp [go_sem]
  · simp [invoke, go_sem, run_callFunc eg]
  · refine callsIn_FW.2 (hc.mono ?_)
    rintro e W2 ⟨⟨v, rfl⟩, ⟨hl, hq⟩ | ⟨c, hl, hq⟩⟩
    · refine ⟨none, _, ?_, hq⟩
      have := run_endLoop (P := P) hl (by rw [hR]; simp)
      rw [hR] at this ⊢; exact this
    · refine ⟨some c, _, ?_, hq⟩
      have := run_endLoop (P := P) hl (by rw [hR]; simp)
      rw [hR] at this ⊢; exact this

/-! ### A round -/
def rndPost (l : Nat) (r : Loop) (R : Option Code → World → Prop) : Exit → Act → World → Prop
  | .normal, _, W => W.heap[l]? = some (.loop { r with state := .busy }) ∧ R none W
  | .ret, _, W => W.heap[l]? = some (.loop { r with state := .busy }) ∧ R (some .ret) W
  | .exit id, _, W => W.heap[l]? = some (.loop { r with state := .busy }) ∧ R (some (.exit id)) W
  | _, _, _ => False
theorem round_st {l : Nat} {r : Loop} {tm : Array Value} {W : World} {R : Option Code → World → Prop} (hr : r.state = .ready)
    (h : r.assign.wpIn (FW (some l)) 0 P (Exit.then (fun a1 W1 => W1.heap[l]? = some (.loop r) ∧ r.body.wpIn (FW (some l)) 0 P (rndPost l r R) a1 (W1.putObj l (.loop { r with state := .busy }))) (fun _ _ _ => False)) { tmps := tm, defers := [] } W) :
    RoundIn (FW none) 0 P l r.fn tm r.assign r.body W fun e W' => ∃ (jump : Option Code) (W3 : World), e = .returned (.bool jump.isNone) ∧
      W' = W3.putObj l (.loop { r with state := if jump.isNone then .ready else .done, pending := jump }) ∧ R jump W3 := by
  refine roundIn_of_wpIn (F := FW none) trivial ?_
  refine wpIn_mono (F := FW (some l)) h fun e a1 W1 he => ?_
  cases e with
  | normal =>
    obtain ⟨hl, hb⟩ := he
    refine ⟨_, run_beginRound hl hr, wpIn_mono (F := FW (some l)) hb fun e2 a2 W2 h2 => ?_⟩
    cases e2 with
    | normal => exact ⟨_, _, run_endRound none h2.1, none, W2, rfl, rfl, h2.2⟩
    | ret => exact ⟨_, _, run_endRound (some .ret) h2.1, some .ret, W2, rfl, rfl, h2.2⟩
    | exit id => exact ⟨_, _, run_endRound (some (.exit id)) h2.1, some (.exit id), W2, rfl, rfl, h2.2⟩
    | goto t => exact h2.elim
    | panic ch => exact h2.elim
    | outgrown => exact h2.elim
  | exit id => exact he
  | goto l => exact he
  | ret => exact he
  | panic ch => exact he
  | outgrown => exact he

/-! ### A call of yield -/
theorem wpIn_yield {dst : Option Tmp} {fop : Operand} {args : Array Operand} {ts : Array TypeId} {type : TypeId} {pos : String} {after : Array Edge} {guard : Option (Nat × Bool)} {l : Nat} {r : Loop} {next : Act → World → Prop} {Q : Exit → Act → World → Prop} {rd : Option Nat}
    (hf : a.eval fop = .func (.yield l) #[] #[]) (hl : w.heap[l]? = some (.loop r)) (hn : args.size = r.params.size)
    (h : RoundIn (FW none) 0 P l r.fn ((r.params.zip (args.map a.eval)).foldl (fun tmps (t, a) => tmps.setIfInBounds t a) r.tmps) r.assign r.body w fun e W' => ∃ v, e = .returned v ∧ next (a.put dst v) W') :
    (⟨dst, .call ⟨.value fop, args, ts⟩, type, pos, after, guard⟩ : Oper).wpIn (FW rd) 0 P a w next Q := by
  have hrun : (execOp a.eval ⟨dst, .call ⟨.value fop, args, ts⟩, type, pos, after, guard⟩).run P w = .ok (.round l r.fn ((r.params.zip (args.map a.eval)).foldl (fun tmps (t, a) => tmps.setIfInBounds t a) r.tmps) r.assign r.body) w := by
    simp only [execOp, resolve, hf, Deferred.ofValue, Sem.run_bind, Sem.run_pure, Result.andThen_ok, invoke]
    have := run_yield (P := P) (args := args.map a.eval) hl (by simpa using hn)
    simpa using this
  refine wpIn_of hrun (fun _ e => by cases e) ⟨fun h => (by cases h), h.mono fun e W' ⟨v, he, hv⟩ => ?_⟩
  subst he
  exact hv
end Go.Bm

/-! What a plan that is checked says. -/
namespace Go.Bm
open Go

def Closed (ops : List Oper) (D : Nat → Bool) : Prop := ∀ i o, D i = true → ops[i]? = some o → ∀ e ∈ o.after.toList, bindE e = true → D e.on = true
def Aft (D : Nat → Bool) (o : Oper) : Prop := ∀ e ∈ o.after.toList, bindE e = true → D e.on = true
def efsOf (pre : List Pe) : List Nat := (pre.filter Pe.isEf).map Pe.j
structure EntOk (ops : List Oper) (all pre : List Pe) (e : Pe) (o : Oper) : Prop where
  new : ∀ q ∈ pre, q.j ≠ e.j
  at_ : ops[e.j]? = some o
  before : ∀ x ∈ o.after.toList, bindE x = true → ∃ q ∈ pre, q.j = x.on
  args : ∀ t, (.tmp t ∈ o.op.operands.toList ∨ guardT ops o.guard = some t) → ∀ j oj, ops[j]? = some oj → oj.dst = some t → (∀ D, Closed ops D → Aft D o → D j = true) ∨ (∀ D, Closed ops D → D e.j = false → D j = false)
  ef : ∀ D, Closed ops D → Aft D o → e.isEf = true → ∀ q ∈ pre, D q.j = true
  rd : ∀ D, Closed ops D → Aft D o → ∀ j c, e = .rd j c → pureOp o.op = true ∨ c = (efsOf pre).length ∨ ∃ x, (efsOf pre).reverse[c]? = some x ∧ D x = true
  md : ∀ D, Closed ops D → Aft D o → ∀ j, e = .md j → ∀ q ∈ all, (q.isEf = true ∨ ∃ j' c oj, q = .rd j' c ∧ ops[j']? = some oj ∧ pureOp oj.op = false) → D q.j = true

theorem bit_test (i x : Nat) : (bit i).testBit x = true ↔ x = i := by
  unfold bit
  rw [Nat.testBit_two_pow]
  simp [eq_comm]
theorem sub_spec {a b : Nat} (h : subM a b = true) {x : Nat} (hx : a.testBit x = true) : b.testBit x = true := by
  have h := Nat.eq_of_beq_eq_true h
  have h2 : (a ||| b).testBit x = b.testBit x := by show (Nat.lor a b).testBit x = _; rw [h]
  rw [Nat.testBit_or, hx, Bool.true_or] at h2
  exact h2.symm
theorem lor_test (a b x : Nat) : (Nat.lor a b).testBit x = (a.testBit x || b.testBit x) := Nat.testBit_or a b x
theorem mask_spec {anc : List (Nat × Nat)} {D : Nat → Bool} (hanc : ∀ j x, D j = true → (look j anc).testBit x = true → D x = true) : ∀ (l : List Edge), (∀ e ∈ l, bindE e = true → D e.on = true) → ∀ x, (maskE anc l).testBit x = true → D x = true := by
  intro l
  induction l with
  | nil => intro _ x hx; simp [maskE] at hx
  | cons e l ih =>
    intro h x hx
    unfold maskE at hx
    split at hx
    · rename_i hb
      rw [lor_test, lor_test, Bool.or_eq_true, Bool.or_eq_true] at hx
      have he := h e (by simp) hb
      rcases hx with (hx | hx) | hx
      · rw [(bit_test _ _).1 hx]; exact he
      · exact hanc _ _ he hx
      · exact ih (fun e' h' => h e' (by simp [h'])) x hx
    · exact ih (fun e' h' => h e' (by simp [h'])) x hx
theorem mask_mem {anc : List (Nat × Nat)} : ∀ (l : List Edge) (e : Edge), e ∈ l → bindE e = true → (maskE anc l).testBit e.on = true
  | [], e, h, _ => by cases h
  | f :: l, e, h, hb => by
    unfold maskE
    rcases List.mem_cons.1 h with rfl | h
    · rw [hb]
      simp only [lor_test, (bit_test _ _).2 rfl, Bool.true_or]
    · have := mask_mem (anc := anc) l e h hb
      split
      · rw [lor_test, this, Bool.or_true]
      · exact this
theorem prod_spec {t : Nat} : ∀ (l : List Oper) (i j : Nat) (oj : Oper), l[j]? = some oj → oj.dst = some t → (prodM t i l).testBit (i + j) = true
  | [], _, _, _, h, _ => by cases h
  | o :: l, i, j, oj, h, hd => by
    cases j with
    | zero =>
      simp at h; subst h
      unfold prodM
      rw [hd]
      simp only [Nat.beq_refl, lor_test]
      rw [(bit_test _ _).2 (by omega), Bool.true_or]
    | succ j =>
      have ih := prod_spec l (Nat.succ i) j oj (by simpa using h) hd
      rw [show i + (j + 1) = Nat.succ i + j by omega]
      unfold prodM
      split
      · split
        · rw [lor_test, ih, Bool.or_true]
        · exact ih
      · exact ih
theorem hasE_spec {j : Nat} : ∀ {l : List Edge}, hasE j l = true → ∃ e ∈ l, bindE e = true ∧ e.on = j
  | [], h => by cases h
  | e :: l, h => by
    unfold hasE at h
    rw [Bool.or_eq_true, Bool.and_eq_true] at h
    rcases h with h | h
    · exact ⟨e, by simp, h.1, Nat.eq_of_beq_eq_true h.2⟩
    · obtain ⟨e', h1, h2⟩ := hasE_spec h
      exact ⟨e', by simp [h1], h2⟩
theorem late_spec {t j : Nat} : ∀ {l : List Oper}, lateP t j l = true → ∀ o ∈ l, o.dst = some t → ∃ e ∈ o.after.toList, bindE e = true ∧ e.on = j
  | [], _, o, h, _ => by cases h
  | x :: l, h, o, ho, hd => by
    unfold lateP at h
    rw [Bool.and_eq_true] at h
    rcases List.mem_cons.1 ho with rfl | ho
    · have h1 := h.1
      rw [hd] at h1
      simp only [Nat.beq_refl] at h1
      exact hasE_spec h1
    · exact late_spec h.2 o ho hd
theorem subT1_spec {ops : List Oper} {m i t : Nat} (h : subT1 ops m i t = true) {j : Nat} {oj : Oper} (hj : ops[j]? = some oj) (hd : oj.dst = some t) (hp : (prodM t 0 ops).testBit j = true) : m.testBit j = true ∨ ∀ D, Closed ops D → D i = false → D j = false := by
  unfold subT1 at h
  rw [Bool.or_eq_true] at h
  rcases h with h | h
  · exact .inl (sub_spec h hp)
  · refine .inr fun D hc hi => ?_
    obtain ⟨e, h1, h2, rfl⟩ := late_spec h oj (List.mem_of_getElem? hj) hd
    cases hD : D j with
    | false => rfl
    | true => rw [hc j oj hD hj e h1 h2] at hi; cases hi
theorem subP_spec {ops : List Oper} {m j : Nat} : ∀ {l : List Operand}, subP ops m j l = true → ∀ t, .tmp t ∈ l → subT1 ops m j t = true
  | [], _, t, h => by cases h
  | x :: l, h, t, ht => by
    unfold subP at h
    rw [Bool.and_eq_true] at h
    rcases List.mem_cons.1 ht with rfl | ht
    · exact h.1
    · exact subP_spec h.2 t ht
theorem need_ef {ops : List Oper} : ∀ {l : List Pe} {q : Pe}, q ∈ l → (q.isEf = true ∨ ∃ j' c oj, q = .rd j' c ∧ ops[j']? = some oj ∧ pureOp oj.op = false) → (needM ops l).testBit q.j = true
  | [], q, h, _ => by cases h
  | e :: l, q, h, hq => by
    rcases List.mem_cons.1 h with rfl | h
    · rcases hq with hq | ⟨j', c, oj, rfl, hj, hp⟩
      · cases q <;> (try (cases hq; done))
        unfold needM
        rw [lor_test, (bit_test _ _).2 (by rfl), Bool.true_or]
      · unfold needM
        rw [hj]
        simp only [hp, lor_test]
        rw [(bit_test _ _).2 (by rfl), Bool.true_or]
    · have ih := need_ef (ops := ops) h hq
      cases e with
      | ef j => unfold needM; rw [lor_test, ih, Bool.or_true]
      | rd j c =>
        unfold needM
        split
        · split
          · exact ih
          · rw [lor_test, ih, Bool.or_true]
        · exact ih
      | bi j q => unfold needM; exact ih
      | ins j => unfold needM; exact ih
      | md j => unfold needM; exact ih
theorem look_cons (i j m : Nat) (l : List (Nat × Nat)) : look i ((j, m) :: l) = if i = j then m else look i l := by
  show (match Nat.beq i j with | true => m | false => look i l) = _
  by_cases h : i = j
  · subst h; simp
  · rw [if_neg h]
    have : Nat.beq i j = false := by
      cases hb : Nat.beq i j with
      | true => exact absurd (Nat.eq_of_beq_eq_true hb) h
      | false => rfl
    rw [this]

theorem go_spec (ops : List Oper) (all : List Pe) : ∀ (l pre : List Pe) (anc : List (Nat × Nat)) (done : Nat) (efs : List Nat), pre ++ l = all → goOk ops (needM ops all) l anc done efs = true →
    (∀ j, done.testBit j = true ↔ ∃ q ∈ pre, q.j = j) → (∀ D, Closed ops D → ∀ j x, D j = true → (look j anc).testBit x = true → D x = true) → efs = (efsOf pre).reverse →
    (∀ l1 e l2, l = l1 ++ e :: l2 → ∃ o, EntOk ops all (pre ++ l1) e o) ∧ ∀ i, i < ops.length → ∃ q ∈ all, q.j = i := by
  intro l
  induction l with
  | nil =>
    intro pre anc done efs hall h hd _ _
    refine ⟨fun l1 e l2 he => (by cases l1 <;> cases he), fun i hi => ?_⟩
    unfold goOk at h
    have h := Nat.eq_of_beq_eq_true h
    rw [List.append_nil] at hall
    rw [← hall]
    refine (hd i).1 ?_
    rw [h, Nat.testBit_two_pow_sub_one]
    simpa using hi
  | cons e l ih =>
    intro pre anc done efs hall h hd hanc hef
    unfold goOk at h
    split at h
    · cases h
    · rename_i o ho
      simp only [Bool.and_eq_true, Bool.not_eq_true'] at h
      obtain ⟨h1, h2, h3, h4, h5, h6⟩ := h
      have hmask : ∀ D, Closed ops D → Aft D o → ∀ x, (maskE anc o.after.toList).testBit x = true → D x = true := fun D hc ha => mask_spec (hanc D hc) _ ha
      have hent : EntOk ops all pre e o := by
        refine ⟨fun q hq he => ?_, ho, fun x hx hb => ?_, fun t ht j oj hj hdst => ?_, fun D hc ha he q hq => ?_, fun D hc ha j c he => ?_, fun D hc ha j he q hq hk => ?_⟩
        · have := (hd e.j).2 ⟨q, hq, he⟩
          rw [this] at h1; cases h1
        · exact (hd _).1 (sub_spec h2 (mask_mem _ x hx hb))
        · have hp : (prodM t 0 ops).testBit j = true := by have := prod_spec (t := t) ops 0 j oj hj hdst; rwa [Nat.zero_add] at this
          have h0 : subT1 ops (maskE anc o.after.toList) e.j t = true := by
            rcases ht with ht | ht
            · exact subP_spec h3 t ht
            · unfold subG at h4
              rw [ht] at h4
              exact h4
          rcases subT1_spec h0 hj hdst hp with h | h
          · exact .inl fun D hc ha => hmask D hc ha _ h
          · exact .inr h
        · cases e <;> (try (cases he; done))
          have h5 : subM done (maskE anc o.after.toList) = true := h5
          exact hmask D hc ha _ (sub_spec h5 ((hd _).2 ⟨q, hq, rfl⟩))
        · subst he
          have h5 : rdOk o.op (maskE anc o.after.toList) c efs = true := h5
          unfold rdOk at h5
          rw [Bool.or_eq_true, Bool.or_eq_true] at h5
          rcases h5 with h5 | h5 | h5
          · exact .inl h5
          · have := Nat.eq_of_beq_eq_true h5
            rw [hef, List.length_reverse] at this
            exact .inr (.inl this)
          · refine .inr (.inr ?_)
            split at h5
            · rename_i x hx
              rw [hef] at hx
              exact ⟨x, hx, hmask D hc ha _ h5⟩
            · cases h5
        · subst he
          have h5 : subM (needM ops all) (maskE anc o.after.toList) = true := h5
          exact hmask D hc ha _ (sub_spec h5 (need_ef hq hk))
      have step := ih (pre ++ [e]) _ _ _ (by rw [List.append_assoc]; exact hall) h6 (fun j => ?_) (fun D hc j x hj hx => ?_) ?_
      · refine ⟨fun l1 e' l2 he => ?_, step.2⟩
        cases l1 with
        | nil =>
          simp at he
          obtain ⟨rfl, rfl⟩ := he
          rw [List.append_nil]
          exact ⟨o, hent⟩
        | cons a l1 =>
          simp at he
          obtain ⟨rfl, rfl⟩ := he
          have := step.1 l1 e' l2 rfl
          rwa [List.append_assoc] at this
      · rw [lor_test, Bool.or_eq_true, hd, bit_test]
        simp only [List.mem_append, List.mem_singleton]
        constructor
        · rintro (⟨q, hq, rfl⟩ | rfl)
          · exact ⟨q, .inl hq, rfl⟩
          · exact ⟨e, .inr rfl, rfl⟩
        · rintro ⟨q, hq | rfl, rfl⟩
          · exact .inl ⟨q, hq, rfl⟩
          · exact .inr rfl
      · rw [look_cons] at hx
        split at hx
        · rename_i hje
          subst hje
          exact hmask D hc (hc _ _ hj ho) x hx
        · exact hanc D hc j x hj hx
      · rw [hef]
        unfold efsOf
        cases he : e.isEf with
        | true => simp [he]
        | false => simp [he]
theorem planOk_spec {ops : List Oper} {pl : List Pe} (h : planOk ops pl = true) : (∀ l1 e l2, pl = l1 ++ e :: l2 → ∃ o, EntOk ops pl l1 e o) ∧ ∀ i, i < ops.length → ∃ q ∈ pl, q.j = i := by
  unfold planOk at h
  rw [Bool.and_eq_true, Bool.and_eq_true] at h
  have := go_spec ops pl pl [] [] 0 [] rfl h.2.2 (fun j => by simp) (fun D hc j x hj hx => by simp [look] at hx) (by simp [efsOf])
  exact ⟨fun l1 e l2 he => by have := this.1 l1 e l2 he; rwa [List.nil_append] at this, this.2⟩
theorem fresh_spec {d : Nat} : ∀ {l : List Oper}, freshD d l = true → ∀ o ∈ l, o.dst ≠ some d
  | [], _, o, h => by cases h
  | x :: l, h, o, ho => by
    unfold freshD at h
    rw [Bool.and_eq_true] at h
    rcases List.mem_cons.1 ho with rfl | ho
    · intro hd
      rw [hd] at h
      simp at h
    · exact fresh_spec h.2 o ho
theorem dsts_spec : ∀ {ops : List Oper}, dstsOk ops = true → ∀ (i j : Nat) (oi oj : Oper) (t : Tmp), ops[i]? = some oi → ops[j]? = some oj → oi.dst = some t → oj.dst = some t → i = j
  | [], _, i, j, oi, oj, t, hi, _, _, _ => by cases hi
  | o :: l, h, i, j, oi, oj, t, hi, hj, h1, h2 => by
    unfold dstsOk at h
    rw [Bool.and_eq_true] at h
    cases i with
    | zero =>
      cases j with
      | zero => rfl
      | succ j =>
        simp at hi; subst hi
        rw [h1] at h
        exact absurd h2 (fresh_spec h.1 oj (List.mem_of_getElem? (by simpa using hj)))
    | succ i =>
      cases j with
      | zero =>
        simp at hj; subst hj
        rw [h2] at h
        exact absurd h1 (fresh_spec h.1 oi (List.mem_of_getElem? (by simpa using hi)))
      | succ j =>
        have := dsts_spec h.2 i j oi oj t (by simpa using hi) (by simpa using hj) h1 h2
        rw [this]
end Go.Bm

/-! An operation of a region. -/
namespace Go.Bm
open Go Go.RowKit
variable {S : Seat} {γ γ' : Nat → Option G} {C : Ctx} {h h' : Hp} {w w' : World} {σ : Tr BV} {a : Act} {P : Program} {rd : Option Nat}

/-- What a call of a function does. -/
def CallOk (S : Seat) (f : FuncId) (xs : List BV) (h : Hp) (v : BV) (h' : Hp) : Prop := ∀ (C : Ctx) (γ : Nat → Option G) (w : World) (vs : List Value), GtOk S C → Rel C γ h w → BRels γ xs vs →
  (∃ z w', (callFunc f vs.toArray).run S.P w = .ok (.value z) w' ∧ Did C γ h v h' z w') ∨
  ((callFunc f vs.toArray).run S.P w = .ok (.enter f vs.toArray) w ∧ Calls S.P f vs.toArray w fun e w' => ∃ z, e = .returned z ∧ Did C γ h v h' z w')
def RoundOk (S : Seat) (l : Nat) (xs : List BV) (h : Hp) (v : BV) (h' : Hp) : Prop := ∀ (C : Ctx) (γ : Nat → Option G) (w : World) (vs : List Value) (g : G), GtOk S C → Rel C γ h w → BRels γ xs vs → γ l = some g →
  ∃ r, w.heap[g.b]? = some (.loop r) ∧ vs.length = r.params.size ∧
    RoundIn (FW none) 0 S.P g.b r.fn ((r.params.zip vs.toArray).foldl (fun tmps (t, a) => tmps.setIfInBounds t a) r.tmps) r.assign r.body w fun e w' => ∃ z, e = .returned z ∧ Did C γ h v h' z w'
structure CaOk (S : Seat) (A : Ca) : Prop where
  call : ∀ f xs h v h', A.call f xs h = some (v, h') → CallOk S f xs h v h'
  round : ∀ l xs h v h', A.round l xs h = some (v, h') → RoundOk S l xs h v h'

theorem dec_defers : True := trivial
inductive DR (γ : Nat → Option G) : Df → Deferred → Prop
  | call (f : FuncId) (xs : List BV) (args lb : Array Value) (h : BRels γ xs (args ++ lb).toList) : DR γ (.call f xs) { target := .fn (.func f) lb, args }
  | mark (id : Nat) (g : G) (h : γ id = some g) : DR γ (.mark id) (markOf g.b)
inductive DRs (γ : Nat → Option G) : List Df → List Deferred → Prop
  | nil : DRs γ [] []
  | cons {x : Df} {d : Deferred} {l : List Df} {r : List Deferred} (h : DR γ x d) (t : DRs γ l r) : DRs γ (x :: l) (d :: r)
theorem DR.mono (hg : GLe γ γ') {x : Df} {d : Deferred} (h : DR γ x d) : DR γ' x d := by
  cases h with
  | call f xs args lb h => exact .call f xs args lb (BRels.mono hg h)
  | mark id g h => exact .mark id g (hg _ _ h)
theorem DRs.mono (hg : GLe γ γ') {l : List Df} {r : List Deferred} (h : DRs γ l r) : DRs γ' l r := by
  induction h with
  | nil => exact .nil
  | cons h _ ih => exact .cons (h.mono hg) ih

theorem put_rel {dst : Option Nat} (hd : ∀ d, dst = some d → d < a.tmps.size) (h : SRel γ σ a.tmps) {v : BV} {z : Value} (hr : BRel γ v z) : SRel γ (put σ dst v) (a.put dst z).tmps := by
  intro t
  cases dst with
  | none => exact h t
  | some d =>
    have hd := hd d rfl
    show BRel γ ((σ.set d v).get t) _
    rw [Tr.get_set]
    by_cases ht : t = d
    · subst ht
      rw [if_pos rfl]
      have e : (a.put (some t) z).tmps.getD t undef = z := by
        simp [Act.put, Array.getD_eq_getD_getElem?, hd]
      rw [e]; exact hr
    · rw [if_neg ht]
      have e : (a.put (some d) z).tmps.getD t undef = a.tmps.getD t undef := by
        simp only [Act.put, Array.getD_eq_getD_getElem?]
        rw [Array.getElem?_setIfInBounds_ne (fun e => ht e.symm)]
      rw [e]; exact h t

/-- Is it carried out? -/
theorem yes_spec {want b : Bool} {x : BV} (h : isYes want x = some b) {v : Value} (hx : BRel γ x v) : ((match some v with | some (.bool b) => some b | _ => none) == some want) = b := by
  cases x <;> simp only [isYes] at h <;> (try (cases h; done))
  case b x =>
    cases hx
    cases want <;> cases x <;> cases h <;> rfl
  case t l =>
    cases hx with | t _ vs hvs =>
    cases l with
    | nil => cases h; cases want <;> rfl
    | cons _ _ => cases h
theorem guard_spec {ops : Array Oper} (hs : SRel γ σ a.tmps) {o : Oper} {b : Bool} (h : guardV ops.toList σ o.guard = some b) (hnt : ∀ d, (∃ o' ∈ ops.toList, o'.dst = some d) → d < a.tmps.size) : Region.wanted o (yielded ops a.tmps) = b := by
  unfold Region.wanted
  cases hg : o.guard with
  | none => rw [hg] at h; cases h; rfl
  | some jw =>
    obtain ⟨j, want⟩ := jw
    rw [hg] at h
    have h : guardJ ops.toList σ (j, want) = some b := h
    unfold guardJ dstOf at h
    dsimp only at h ⊢
    cases ho : ops.toList[j]? with
    | none => rw [ho] at h; cases h
    | some o' =>
      rw [ho] at h
      dsimp only at h
      cases hd : o'.dst with
      | none => rw [hd] at h; cases h
      | some t =>
        rw [hd] at h
        have h : isYes want (σ.get t) = some b := h
        have hr := hs t
        have hlt := hnt t ⟨o', List.mem_of_getElem? ho, hd⟩
        have hy : yielded ops a.tmps j = match some (a.tmps.getD t undef) with | some (.bool b) => some b | _ => none := by
          unfold yielded
          rw [Array.getElem?_toList] at ho
          rw [ho]
          show (match (o'.dst).bind (a.tmps[·]?) with | some (.bool b) => some b | _ => none) = _
          rw [hd]
          show (match a.tmps[t]? with | some (.bool b) => some b | _ => none) = _
          rw [cell_getD hlt]
        rw [hy]
        exact yes_spec h hr
end Go.Bm
