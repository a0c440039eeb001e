/-
  The abstract machine of these proofs.
-/
import Derived.Test.YtdjlilhdgnogaaaAmBirth2
set_option linter.unusedVariables false
/-! append. -/
namespace Go.Am
open Go Go.RowKit
variable {P : Program} {γ γ' : Nat → Option G} {M M' : Mem} {C : Ctx} {s s' : S} {a a' : Act} {w w' : World}

theorem run_append_room_row (t tx ty e : TypeId) (i : TypeInfo) (ht : P.underlying t = some (.slice e)) (hi : P.info? e = some i) (g sLen sCap : Nat) (cur : Array Value)
    (hg : w.heap[g]? = some (.cells cur e (0, 0))) (x : Value) (n : Nat) (news : List Value) (hs : Src P i.size tx x n news w)
    (hroom : sLen + n ≤ sCap) (hfit : sLen * i.size + news.length ≤ cur.size) :
    (Builtin.append_ #[t, tx] ty #[.slice (some ⟨g, 0, none⟩) sLen sCap, x]).run P w =
      .ok (.slice (some ⟨g, 0, none⟩) (sLen + n) sCap) (w.setRow g (cur.toList.take (sLen * i.size) ++ news ++ cur.toList.drop (sLen * i.size + news.length)).toArray) := by
  have hst := run_storeCells_at P g (sLen * i.size) e news 0 cur w hg (by simpa using hfit) hs.one
  simp only [Nat.add_zero] at hst
  rcases hs.kind with ⟨e', hk⟩ | hk <;> simp [Builtin.append_, run_underlying ht, run_underlying hk, sizeOf, typeInfo, hi, hs.len, hroom, hs.cells, Addr.add_lit, hst]

structure Grew (w w' : World) (a a' : Option Nat) : Prop where
  os : w'.os = w.os
  tape : w'.tape = w.tape
  output : w'.output = w.output
  size : w.heap.size ≤ w'.heap.size
  other : ∀ b, b < w.heap.size → some b ≠ a → w'.heap[b]? = w.heap[b]?
  at_ : a' = a ∨ ∃ g, a' = some g ∧ w.heap.size ≤ g ∧ g < w'.heap.size ∧ ∀ b, b < w.heap.size → w'.heap[b]? = w.heap[b]?

theorem run_append_row {e : TypeId} {mu : Bool} {k n : Nat} {vs : List Value} {ad : Option Nat} {cap : Nat} (hA : ArrOK M w e mu k n vs ad cap)
    (t tx ty : TypeId) (i : TypeInfo) (z : Value) (ht : P.underlying t = some (.slice e)) (hi : P.info? e = some i) (hz : i.zero = some z) (hk : i.size = k) (hzk : z.cells.size = k) (hk0 : 0 < k)
    (x : Value) (m : Nat) (news : List Value) (hs : Src P k tx x m news w) (h63 : n + m ≤ maxLen) (hby : (n + m) * i.bytes ≤ 140737488355328) :
    ∃ a' cap' w', (Builtin.append_ #[t, tx] ty #[arrV ad n cap, x]).run P w = .ok (arrV a' (n + m) cap') w' ∧
      w'.ownsRow 0 e k (arrV a' (n + m) cap') (n + m) (vs ++ news) ∧ Grew w w' ad a' := by
  subst hk
  have h63' : ((n + m : Nat) : Int) ≤ 9223372036854775807 := by unfold maxLen at h63; omega
  have hlenA := hA.own.1
  have hln : news.length = m * i.size := hs.newsLen
  have grow : ∀ (base : Option Addr) (c : Nat), c < n + m → (Builtin.firstCells i.size n (.slice base n c)).run P w.drew = .ok vs.toArray w.drew →
      ∃ a' cap' w', (Builtin.append_ #[t, tx] ty #[.slice base n c, x]).run P w = .ok (arrV a' (n + m) cap') w' ∧
      w'.ownsRow 0 e i.size (arrV a' (n + m) cap') (n + m) (vs ++ news) ∧ Grew w w' ad a' := by
    intro base c hc hold
    have hr := run_append_grow_src (P := P) w t tx ty e i z ht hi hz base n c vs hold x m news hs hc h63' (growslice_fits hc hby)
    have hge := grownCap_ge w (n + m) c e
    have hcm : grownCap w (n + m) c e ≤ maxLen := grownCap_le_maxLen w (n + m) c e h63
    refine ⟨some w.heap.size, _, _, hr, ⟨by rw [List.length_append, hlenA, hln, Nat.add_mul], .inr ⟨w.heap.size, _, _, rfl, Nat.zero_le _, heap_alloc_new w.drew _, hge, hcm, ?_, ?_⟩⟩,
      ⟨rfl, rfl, rfl, by simp, fun b hb _ => heap_alloc_old w.drew _ hb, .inr ⟨w.heap.size, rfl, Nat.le_refl _, by simp, fun b hb => heap_alloc_old w.drew _ hb⟩⟩⟩
    · simp only [Array.size_append, List.size_toArray, size_zeroCells, hzk, List.length_append, hlenA, hln, ← Nat.add_mul]
      congr 1
      omega
    · simp only [Array.toList_append]
      have : (vs ++ news).length = (n + m) * i.size := by rw [List.length_append, hlenA, hln, Nat.add_mul]
      rw [← this]
      exact List.take_left
  rcases hA.own.2 with ⟨hv, hn⟩ | ⟨g, cap', cur, hv, _, hg, hnc, hcm, hcs, htake⟩
  · subst hn
    have hx : vs = [] := List.eq_nil_of_length_eq_zero (by simpa using hlenA)
    subst hx
    have had : ad = none ∧ cap = 0 := by
      cases ad with
      | none => simp [arrV] at hv; exact ⟨rfl, hv⟩
      | some g => simp [arrV] at hv
    obtain ⟨rfl, rfl⟩ := had
    by_cases hm : m = 0
    · subst hm
      have hnw : news = [] := List.eq_nil_of_length_eq_zero (by simpa using hln)
      subst hnw
      refine ⟨none, 0, w, ?_, ⟨by simp, .inl ⟨rfl, rfl⟩⟩, ⟨rfl, rfl, rfl, Nat.le_refl _, fun _ _ _ => rfl, .inl rfl⟩⟩
      rcases hs.kind with ⟨e', hk⟩ | hk <;> simp [Builtin.append_, arrV, run_underlying ht, run_underlying hk, sizeOf, typeInfo, hi, hs.len, hs.cells]
    · exact grow none 0 (by omega) (by simp [Builtin.firstCells])
  · have had : ad = some g ∧ cap = cap' := by
      cases ad with
      | none => simp [arrV] at hv
      | some g' => simp [arrV] at hv; exact ⟨by rw [hv.1], hv.2⟩
    obtain ⟨rfl, rfl⟩ := had
    by_cases hroom : n + m ≤ cap
    · have hfit : n * i.size + news.length ≤ cur.size := by rw [hln, hcs, ← Nat.add_mul]; exact Nat.mul_le_mul_right _ hroom
      have hr := run_append_room_row (P := P) t tx ty e i ht hi g n cap cur hg x m news hs hroom hfit
      refine ⟨some g, cap, _, hr, ⟨by rw [List.length_append, hlenA, hln, Nat.add_mul], .inr ⟨g, cap, _, rfl, Nat.zero_le _, setRow_heap w g cur _ e _ hg, hroom, hcm, ?_, ?_⟩⟩,
        ⟨rfl, rfl, rfl, by simp, fun b _ hb => setRow_other w g b _ (fun e => hb (by rw [e])), .inl rfl⟩⟩
      · simp only [List.size_toArray, List.length_append, List.length_take, List.length_drop, Array.length_toList]
        omega
      · rw [htake]
        have : (vs ++ news).length = (n + m) * i.size := by rw [List.length_append, hlenA, hln, Nat.add_mul]
        rw [← this]
        exact List.take_left
    · refine grow (some ⟨g, 0, none⟩) cap (by omega) ?_
      have hc : ∀ j u, vs[j]? = some u → w.drew.cell? ((⟨g, 0, none⟩ : Addr).add j) = some u := fun j u hu => by
        have := hA.cell j u hu
        rw [addr_add, Nat.zero_add]
        simpa using this
      exact run_firstCells_some (P := P) w.drew i.size n ⟨g, 0, none⟩ n cap vs hlenA hc

def aSrcB (P : Program) (ob : Nat → Option AObj) (tx : TypeId) : AV → Option (List UInt8)
  | .p .nil => bool? (isSliceT P tx) []
  | .p (.bytes l) => bool? (isSliceT P tx) l
  | .p (.str l) => bool? (isStrT P tx) l
  | .arr id => match ob id with
    | some (.barr _ _ l) => bool? (isSliceT P tx) l
    | _ => none
  | _ => none

def aSrcL (P : Program) (ob : Nat → Option AObj) (tx : TypeId) (k : Nat) : AV → Option (Nat × (Nat → Nat → PV))
  | .p .nil => bool? (isSliceT P tx) (0, fun _ _ => .bad)
  | .p (.list k' n f) => bool? (isSliceT P tx && Nat.beq k k') (n, f)
  | .arr id => match ob id with
    | some (.larr _ _ k' n f) => bool? (isSliceT P tx && Nat.beq k k') (n, f)
    | _ => none
  | _ => none

theorem src_slice {k : Nat} {tx : TypeId} (ht : isSliceT P tx = true) {ad : Addr} {n cap : Nat} {news : List Value} (hl : news.length = n * k)
    (hc : ∀ j u, news[j]? = some u → w.cell? (ad.add j) = some u) (h1 : ∀ u ∈ news, u.oneCell' = true) : Src P k tx (.slice (some ad) n cap) n news w := by
  obtain ⟨e, he⟩ := isSliceT_spec ht
  exact Src.ofSlice w he ad n cap news hl hc h1

theorem byteV_one (l : List UInt8) : ∀ u ∈ l.map byteV, u.oneCell' = true := by
  intro u hu
  obtain ⟨c, _, rfl⟩ := List.mem_map.1 hu
  rfl

theorem aSrcB_sound (hs : StG C γ M s a w) {tx : TypeId} {y : AV} {l : List UInt8} (h : aSrcB P s.ob tx y = some l) {v : Value} (hy : ARel γ M y v) :
    Src P 1 tx v l.length (l.map byteV) w := by
  have nilS : ∀ {ht : isSliceT P tx = true}, Src P 1 tx (.slice none 0 0) 0 [] w := fun {ht} => by
    obtain ⟨e, he⟩ := isSliceT_spec ht
    exact Src.ofNil w he 0
  cases y with
  | p q =>
    cases q with
    | nil =>
      obtain ⟨ht, rfl⟩ := bool?_some h
      cases hy.p_inv
      exact nilS (ht := ht)
    | bytes l' =>
      obtain ⟨ht, rfl⟩ := bool?_some h
      rcases bytes_inv hy.p_inv with ⟨rfl, rfl⟩ | ⟨b, off, cap, rfl, hm, hc, hM⟩
      · exact nilS (ht := ht)
      · refine src_slice ht (by simp) (fun j u hu => ?_) (byteV_one _)
        rw [addr_add]
        rw [List.getElem?_map] at hu
        cases hc' : l'[j]? with
        | none => rw [hc'] at hu; cases hu
        | some c => rw [hc'] at hu; cases hu; exact hs.mem _ _ _ (hM j c hc')
    | str l' =>
      obtain ⟨ht, rfl⟩ := bool?_some h
      obtain ⟨rfl, _⟩ := hy.str_inv
      have := Src.ofString (P := P) w (isStrT_spec ht) ⟨l'.toArray⟩
      have e1 : byteCells ⟨l'.toArray⟩ = l'.map byteV := rfl
      rw [e1] at this
      exact this
    | _ => cases h
  | arr id =>
    dsimp only [aSrcB] at h
    cases ho : s.ob id with
    | none => rw [ho] at h; cases h
    | some o =>
      rw [ho] at h
      cases o with
      | barr e mu l' =>
        obtain ⟨ht, rfl⟩ := bool?_some h
        obtain ⟨ad, k, n, cap, hg, rfl⟩ := hy.arr_inv
        obtain ⟨a2, cap2, hg', hA⟩ := hs.ob id _ ho
        rw [hg] at hg'; cases hg'
        cases ad with
        | none =>
          have h0 := hA.none
          have hl : l' = [] := List.eq_nil_of_length_eq_zero h0.1
          subst hl
          rw [h0.2]
          exact nilS (ht := ht)
        | some g =>
          refine src_slice ht (by simp) (fun j u hu => ?_) (byteV_one _)
          rw [addr_add, Nat.zero_add]
          exact hA.cell j u hu
      | _ => cases h
  | _ => cases h

theorem aSrcL_sound (hs : StG C γ M s a w) {tx : TypeId} {y : AV} {k n : Nat} {f : Nat → Nat → PV} (h : aSrcL P s.ob tx k y = some (n, f)) {v : Value} (hy : ARel γ M y v) :
    ∃ news, Src P k tx v n news w ∧ ∀ i j, i < n → j < k → ∃ u, news[i * k + j]? = some u ∧ PRel M (f i j) u := by
  have nilS : ∀ {ht : isSliceT P tx = true}, Src P k tx (.slice none 0 0) 0 [] w := fun {ht} => by
    obtain ⟨e, he⟩ := isSliceT_spec ht
    exact Src.ofNil w he 0
  cases y with
  | p q =>
    cases q with
    | nil =>
      obtain ⟨ht, he⟩ := bool?_some h
      cases he
      cases hy.p_inv
      exact ⟨[], nilS (ht := ht), fun i j hi _ => absurd hi (Nat.not_lt_zero _)⟩
    | list k' n' f' =>
      obtain ⟨ht, he⟩ := bool?_some h
      cases he
      rw [Bool.and_eq_true] at ht
      have hk := Nat.eq_of_beq_eq_true ht.2
      subst hk
      cases hy.p_inv with
      | listNil k f => exact ⟨[], nilS (ht := ht.1), fun i j hi _ => absurd hi (Nat.not_lt_zero _)⟩
      | list k n f b off cap g hm hc hM hf =>
        have hdiv : ∀ q, q < n * k → q / k < n ∧ q % k < k ∧ q / k * k + q % k = q := by
          intro q hq
          have hk0 : 0 < k := by
            rcases Nat.eq_zero_or_pos k with h0 | h0
            · subst h0; simp at hq
            · exact h0
          exact ⟨(Nat.div_lt_iff_lt_mul hk0).2 hq, Nat.mod_lt _ hk0, Nat.div_add_mod' q k⟩
        refine ⟨(List.range (n * k)).map (fun q => g (q / k) (q % k)), src_slice ht.1 (by simp) (fun j u hu => ?_) (fun u hu => ?_), fun i j hi hj => ?_⟩
        · rw [addr_add]
          rw [List.getElem?_map] at hu
          by_cases hj : j < n * k
          · rw [List.getElem?_range hj] at hu
            cases hu
            obtain ⟨h1, h2, h3⟩ := hdiv j hj
            have := hs.mem _ _ _ (hM _ _ h1 h2)
            rw [Nat.add_assoc, h3] at this
            exact this
          · rw [List.getElem?_eq_none (by simp; omega)] at hu; cases hu
        · obtain ⟨q, hq, rfl⟩ := List.mem_map.1 hu
          have hq' : q < n * k := by simpa using hq
          obtain ⟨h1, h2, h3⟩ := hdiv q hq'
          exact (hf _ _ h1 h2).oneCell
        · have hlt : i * k + j < n * k := by
            have : (i + 1) * k ≤ n * k := Nat.mul_le_mul_right k hi
            rw [Nat.add_mul, Nat.one_mul] at this
            omega
          have hk0 : 0 < k := by omega
          refine ⟨g i j, ?_, hf i j hi hj⟩
          rw [List.getElem?_map, List.getElem?_range hlt]
          have e1 : (i * k + j) / k = i := by rw [Nat.mul_comm, Nat.mul_add_div hk0, Nat.div_eq_of_lt hj, Nat.add_zero]
          have e2 : (i * k + j) % k = j := by rw [Nat.mul_comm, Nat.mul_add_mod, Nat.mod_eq_of_lt hj]
          simp [e1, e2]
    | _ => cases h
  | arr id =>
    dsimp only [aSrcL] at h
    cases ho : s.ob id with
    | none => rw [ho] at h; cases h
    | some o =>
      rw [ho] at h
      cases o with
      | larr e mu k' n' f' =>
        obtain ⟨ht, he⟩ := bool?_some h
        cases he
        rw [Bool.and_eq_true] at ht
        have hk := Nat.eq_of_beq_eq_true ht.2
        subst hk
        obtain ⟨ad, k', n', cap, hg, rfl⟩ := hy.arr_inv
        obtain ⟨a2, cap2, vs, hg', hv, hA⟩ := hs.ob id _ ho
        rw [hg] at hg'; cases hg'
        cases ad with
        | none =>
          have h0 := hA.none
          obtain ⟨rfl, rfl⟩ := h0
          exact ⟨[], nilS (ht := ht.1), fun i j hi _ => absurd hi (Nat.not_lt_zero _)⟩
        | some g =>
          refine ⟨vs, src_slice ht.1 hA.len_vs (fun j u hu => ?_) hA.one, hv⟩
          rw [addr_add, Nat.zero_add]
          exact hA.cell j u hu
      | _ => cases h
  | _ => cases h
end Go.Am
