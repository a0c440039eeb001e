/-
  The abstract machine of these proofs.
-/
import Derived.Test.YtdjlilhdgnogaaaAmWrite
set_option linter.unusedVariables false
namespace Go.Am
open Go Go.RowKit
variable {P : Program} {γ γ' : Nat → Option G} {M M' : Mem} {C : Ctx} {s s' : S} {a a' : Act} {w w' : World}

theorem bytesT_spec {t b : Nat} (h : bytesT P t = some b) : ∃ i, P.info? t = some i ∧ i.bytes = b := by
  unfold bytesT at h
  cases hi : P.info? t with
  | none => rw [hi] at h; cases h
  | some i => rw [hi] at h; injection h with h; exact ⟨i, rfl, h⟩
theorem sizeT_spec {t b : Nat} (h : sizeT P t = some b) : ∃ i, P.info? t = some i ∧ i.size = b := by
  unfold sizeT at h
  cases hi : P.info? t with
  | none => rw [hi] at h; cases h
  | some i => rw [hi] at h; injection h with h; exact ⟨i, rfl, h⟩

theorem elemFacts {e k b : Nat} {z : List AV} (h1 : sizeT P e = some k) (h2 : bytesT P e = some b) (h3 : zeroC P e = some z) (h4 : z.length = k) :
    ∃ i zv, P.info? e = some i ∧ i.size = k ∧ i.bytes = b ∧ i.zero = some zv ∧ zv.cells.size = k := by
  obtain ⟨i, hi, hs⟩ := sizeT_spec h1
  obtain ⟨i2, hi2, hb⟩ := bytesT_spec h2
  obtain ⟨i3, zv, hi3, hz, _, rfl⟩ := zeroC_spec h3
  rw [hi] at hi2 hi3; cases hi2; cases hi3
  exact ⟨i, zv, hi, hs, hb, hz, by simpa using h4⟩

theorem arrOK_nil (M : Mem) (w : World) (e : TypeId) (mu : Bool) (k : Nat) : ArrOK M w e mu k 0 [] none 0 :=
  ⟨⟨by simp, .inl ⟨rfl, rfl⟩⟩, (fun v hv => by cases hv), Nat.zero_le _, (fun g hg => by cases hg)⟩

theorem le_maxLen {n b : Nat} (h : n * (b + 1) ≤ 140737488355328) : n ≤ maxLen := by
  have : n * 1 ≤ n * (b + 1) := Nat.mul_le_mul_left n (by omega)
  unfold maxLen; omega

theorem append_core (hs : StG C γ M s a w) {d : Nat} (hd : dstOk C.nt (some d) = true) (hu : s.us d = false) {t tx ty e k b : Nat} {z : List AV} (ht : sliceE P t = some e)
    (h1 : sizeT P e = some (k + 1)) (h2 : bytesT P e = some (b + 1)) (h3 : zeroC P e = some z) (h4 : z.length = k + 1)
    {old : Option Nat} {o : AObj} {n m : Nat} {vs news : List Value} {ad : Option Nat} {cap : Nat} (he : o.elem = e)
    (hold : match old with | some id => ∃ oo, s.ob id = some oo ∧ γ id = some (.arr ad (k + 1) n cap) ∧ oo.mu = o.mu | none => ad = none)
    (hA : ArrOK M w e o.mu (k + 1) n vs ad cap) {v : Value} (hsrc : Src P (k + 1) tx v m news w) (hby : (n + m) * (b + 1) ≤ 140737488355328)
    (hr : ObjRow M o (k + 1) (n + m) (vs ++ news)) :
    ∃ r w' γ' M', (Builtin.append_ #[t, tx] ty #[arrV ad n cap, v]).run P w = .ok r w' ∧ StG C γ' M' (sappend s d old o) (a.put (some d) r) w' := by
  obtain ⟨i, zv, hi, hsz, hb, hz, hzs⟩ := elemFacts h1 h2 h3 h4
  subst he
  have hm := le_maxLen hby
  obtain ⟨a', cap', w', hrun, hown, hg⟩ := run_append_row (P := P) hA t tx ty i zv (sliceE_spec ht) hi hz hsz hzs (by omega) v m news hsrc hm (by rw [hb]; exact hby)
  obtain ⟨γ', M', hst⟩ := hs.appendRow hd hu hold hA hown hg hsrc.one hm hr
  exact ⟨_, w', γ', M', hrun, hst⟩

theorem aBase_spec {ob : Nat → Option AObj} {e : TypeId} {x : AV} {old : Option Nat} {bo : Option AObj} (h : aBase ob e x = some (old, bo)) :
    (x = .p .nil ∧ old = none ∧ bo = none) ∨ ∃ id o, x = .arr id ∧ ob id = some o ∧ o.elem = e ∧ old = some id ∧ bo = some o := by
  unfold aBase at h
  split at h
  · cases h; exact .inl ⟨rfl, rfl, rfl⟩
  · rename_i id
    split at h
    · rename_i o ho
      obtain ⟨hb, he⟩ := bool?_some h
      cases he
      exact .inr ⟨id, o, rfl, ho, Nat.eq_of_beq_eq_true hb, rfl, rfl⟩
    · cases h
  · cases h

theorem evAppend_sound (hs : StG C γ M s a w) {d : Nat} (hd : dstOk C.nt (some d) = true) (hu : s.us d = false) {t tx ty : TypeId} {x y : AV} {o : AObj} {old : Option Nat} {ok : Option Prop}
    (h : evAppend P s.ob t tx [x, y] = some (o, old, ok)) (hok : okP ok) {u v : Value} (hx : ARel γ M x u) (hy : ARel γ M y v) :
    ∃ r w' γ' M', (Builtin.append_ #[t, tx] ty #[u, v]).run P w = .ok r w' ∧ StG C γ' M' (sappend s d old o) (a.put (some d) r) w' := by
  unfold evAppend at h
  split at h
  · rename_i x' y' heq
    cases heq
    split at h
    · rename_i e he
      split at h
      · rename_i k b z old' bo h1 h2 h3 hbase
        split at h
        · rename_i hzl
          have h4 := Nat.eq_of_beq_eq_true hzl
          have hbs := aBase_spec hbase
          split at h
          · rename_i hu8
            rw [Bool.and_eq_true] at hu8
            have hk0 : k = 0 := by have := Nat.eq_of_beq_eq_true hu8.2; omega
            subst hk0
            split at h
            · rename_i l hsrc
              cases h
              have hsrc' := aSrcB_sound (P := P) hs hsrc hy
              rcases hbs with ⟨rfl, rfl, _⟩ | ⟨_, _, _, _, _, _, hc⟩
              · cases hx.p_inv
                exact append_core (ty := ty) hs hd hu he h1 h2 h3 h4 (old := none) (n := 0) (m := l.length) (vs := []) (ad := none) (cap := 0) (o := .barr e false l) rfl rfl (arrOK_nil M w _ _ _) hsrc' (by rw [Nat.zero_add]; exact hok) ⟨rfl, by simp, rfl⟩
              · cases hc
            · rename_i e2 mu l0 l hsrc
              cases h
              have hsrc' := aSrcB_sound (P := P) hs hsrc hy
              rcases hbs with ⟨_, _, hc⟩ | ⟨id, o', rfl, ho, hel, rfl, hc⟩
              · cases hc
              · cases hc
                obtain ⟨ad, k', n, cap, hg, rfl⟩ := hx.arr_inv
                obtain ⟨a2, cap2, hg', hA⟩ := hs.ob id _ ho
                rw [hg] at hg'; cases hg'
                have hel : e2 = e := hel
                subst hel
                exact append_core (ty := ty) hs hd hu he h1 h2 h3 h4 (old := some id) (o := .barr e2 mu (l0 ++ l)) rfl ⟨_, ho, hg, rfl⟩ hA hsrc' hok ⟨rfl, by simp, by simp⟩
            · cases h
          · split at h
            · rename_i n f hsrc
              cases h
              obtain ⟨news, hsrc', hf⟩ := aSrcL_sound (P := P) hs hsrc hy
              rcases hbs with ⟨rfl, rfl, _⟩ | ⟨_, _, _, _, _, _, hc⟩
              · cases hx.p_inv
                exact append_core (ty := ty) hs hd hu he h1 h2 h3 h4 (old := none) (n := 0) (m := n) (vs := []) (ad := none) (cap := 0) (o := .larr e false (k + 1) n f) rfl rfl (arrOK_nil M w _ _ _) hsrc' (by rw [Nat.zero_add]; exact hok) ⟨rfl, by simp, by simpa using hf⟩
              · cases hc
            · rename_i e2 mu k0 n0 f0 n f hsrc
              split at h
              · rename_i hk0
                have hk0 := Nat.eq_of_beq_eq_true hk0
                subst hk0
                cases h
                obtain ⟨news, hsrc', hf⟩ := aSrcL_sound (P := P) hs hsrc hy
                rcases hbs with ⟨_, _, hc⟩ | ⟨id, o', rfl, ho, hel, rfl, hc⟩
                · cases hc
                · cases hc
                  obtain ⟨ad, k', n', cap, hg, rfl⟩ := hx.arr_inv
                  obtain ⟨a2, cap2, vs, hg', hv, hA⟩ := hs.ob id _ ho
                  rw [hg] at hg'; cases hg'
                  have hel : e2 = e := hel
                  subst hel
                  refine append_core (ty := ty) hs hd hu he h1 h2 h3 h4 (old := some id) (o := .larr e2 mu (k + 1) (n0 + n) (catL n0 f0 f)) rfl ⟨_, ho, hg, rfl⟩ hA hsrc' hok ⟨rfl, rfl, ?_⟩
                  intro i j hi hj
                  have hlv := hA.len_vs
                  unfold catL
                  cases hlt : Nat.blt i n0 with
                  | true =>
                    have hlt : i < n0 := Nat.le_of_ble_eq_true hlt
                    obtain ⟨q, hq1, hq2⟩ := hv i j hlt hj
                    refine ⟨q, ?_, hq2⟩
                    rw [List.getElem?_append_left]
                    · exact hq1
                    · rcases Nat.lt_or_ge (i * (k + 1) + j) vs.length with h5 | h5
                      · exact h5
                      · rw [List.getElem?_eq_none h5] at hq1; cases hq1
                  | false =>
                    have hge : n0 ≤ i := by
                      rcases Nat.lt_or_ge i n0 with h5 | h5
                      · have : Nat.blt i n0 = true := Nat.ble_eq_true_of_le h5
                        rw [this] at hlt; cases hlt
                      · exact h5
                    obtain ⟨q, hq1, hq2⟩ := hf (i - n0) j (by omega) hj
                    refine ⟨q, ?_, hq2⟩
                    have e3 : i * (k + 1) + j = vs.length + ((i - n0) * (k + 1) + j) := by
                      rw [hlv, ← Nat.add_assoc, ← Nat.add_mul]
                      congr 2
                      omega
                    rw [e3, List.getElem?_append_right (by omega), Nat.add_sub_cancel_left]
                    exact hq1
              · cases h
            · cases h
        · cases h
      · cases h
    · cases h
  · rename_i hne
    exact absurd rfl (hne x y)

/-- A store into an object of the call's own: the object, and what it is behind the store. -/
def evStore (P : Program) (ob : Nat → Option AObj) (t : TypeId) : List AV → Option (Nat × AObj × Option Prop)
  | [.ref id off, x] => match ob id, x.cells?, sizeT P t with
    | some (.cells cs), some ys, some n => match Nat.beq ys.length n && Nat.ble (off + n) cs.length && ys.all AV.one with
      | true => some (id, .cells (over cs off ys), none)
      | false => none
    | _, _, _ => none
  | [.aptr id i j, x] => match ob id, x, sizeT P t with
    | some (.barr e true l), .p (.int .u8 v), some 1 => match j with
      | 0 => some (id, .barr e true (l.set i (UInt8.ofNat v.toNat)), some (i < l.length))
      | _ => none
    | some (.larr e true k n f), x, some m => match x.cells? with
      | some ys => match allSome toPV ys with
        | some ps => match Nat.beq ys.length m && Nat.ble (j + m) k with
          | true => some (id, .larr e true k n (fun i' j' => match Nat.beq i' i && Nat.ble j j' && Nat.blt j' (j + m) with | true => ps.getD (j' - j) .bad | false => f i' j'), some (i < n))
          | false => none
        | none => none
      | none => none
    | _, _, _ => none
  | _ => none

theorem over_toList (cur : Array Value) (off : Nat) (vs : List Value) (h : off + vs.length ≤ cur.size) :
    ∀ j, (cur.toList.take off ++ vs ++ cur.toList.drop (off + vs.length)).toArray[j]? = if off ≤ j ∧ j < off + vs.length then vs[j - off]? else cur[j]? := by
  intro j
  have hl : (cur.toList.take off).length = off := by simp; omega
  rw [List.getElem?_toArray]
  by_cases h1 : j < off
  · rw [List.append_assoc, List.getElem?_append_left (by omega), if_neg (by omega), List.getElem?_take, if_pos h1, Array.getElem?_toList]
  · rw [List.append_assoc, List.getElem?_append_right (by omega), hl]
    by_cases h2 : j < off + vs.length
    · rw [List.getElem?_append_left (by omega), if_pos (by omega)]
    · rw [List.getElem?_append_right (by omega), if_neg (by omega), List.getElem?_drop, Array.getElem?_toList]
      congr 1
      omega

/-- An object's memory is written; nothing else is. -/
theorem StG.write (h : StG C γ M s a w) {id : Nat} {o o' : AObj} (ho : s.ob id = some o) {g : G} (hg : γ id = some g) {b : Nat} (hb : g.blk = some b)
    {w' : World} (hos : w'.os = w.os) (htape : w'.tape = w.tape) (hout : w'.output = w.output) (hsz : w'.heap.size = w.heap.size)
    (hother : ∀ c, c ≠ b → w'.heap[c]? = w.heap[c]?) (hM : ∀ q, M b q = none) (hn : OM γ M w' id o') :
    StG C γ M { s with ob := upd s.ob id (some o') } a w' := by
  have hne : s.ob id ≠ none := by rw [ho]; simp
  have hblk : ∀ i g' c, i ≠ id → s.ob i ≠ none → γ i = some g' → g'.blk = some c → c ≠ b := by
    intro i g' c hi hob hgi hc e
    subst e
    exact hi (h.sep i id g' g c hob hne hgi hg hc hb)
  have hl := h.lo id g b hne hg hb
  refine h.master (s' := { s with ob := upd s.ob id (some o') }) (GLe.refl γ) (MLe.refl M) h.sl h.nt h.df id
    (fun i hi => .inr (upd_ne _ _ hi)) (fun _ _ => rfl) ?_ ?_ ?_ ?_ ?_ (by omega) ?_ (fun _ _ _ => rfl) ?_
  · intro i hi
    refine ⟨hi, fun e => ?_⟩
    subst e
    rw [h.us i hi] at hg; cases hg
  · intro o2 ho2
    dsimp only at ho2
    rw [upd_same] at ho2; cases ho2; exact hn
  · intro i g' c hi hob hgi hc
    dsimp only at hob
    rw [upd_ne _ _ hi] at hob
    exact ⟨hother c (hblk i g' c hi hob hgi hc), rfl⟩
  · intro i g1 g2 c hi hob _ hg1 hg2 hb1 hb2
    dsimp only at hob
    rw [upd_ne _ _ hi] at hob
    rw [hg] at hg2; cases hg2
    rw [hb] at hb2; cases hb2
    exact hblk i g1 b hi hob hg1 hb1 rfl
  · intro g' c _ hg' hc
    rw [hg] at hg'; cases hg'
    rw [hb] at hc; cases hc
    exact ⟨hl.1, by omega⟩
  · intro c q v hv
    by_cases e : c = b
    · subst e; rw [hM q] at hv; cases hv
    · rw [World.cell?_of_block (w := w) (hother c e)]; exact h.mem c q v hv
  · have hf := h.fr
    refine ⟨hos.trans hf.os, htape.trans hf.tape, hout.trans hf.output, by have := hf.size; omega, fun c hc hno => ?_⟩
    rw [hother c ?_]
    · exact hf.block c hc hno
    · intro e
      subst e
      rcases hl.1 with h2 | h2
      · omega
      · exact hno h2

theorem over_list_get (vs xs : List Value) (off : Nat) (h : off + xs.length ≤ vs.length) (j : Nat) :
    (vs.take off ++ xs ++ vs.drop (off + xs.length))[j]? = if off ≤ j ∧ j < off + xs.length then xs[j - off]? else vs[j]? := by
  have hl : (vs.take off).length = off := by simp; omega
  by_cases h1 : j < off
  · rw [List.append_assoc, List.getElem?_append_left (by omega), if_neg (by omega), List.getElem?_take, if_pos h1]
  · rw [List.append_assoc, List.getElem?_append_right (by omega), hl]
    by_cases h2 : j < off + xs.length
    · rw [List.getElem?_append_left (by omega), if_pos (by omega)]
    · rw [List.getElem?_append_right (by omega), if_neg (by omega), List.getElem?_drop]
      congr 1
      omega

theorem row_store (hs : StG C γ M s a w) {id : Nat} {o o' : AObj} (ho : s.ob id = some o) {g k n cap : Nat} (hg : γ id = some (.arr (some g) k n cap)) {vs : List Value}
    (hA : ArrOK M w o.elem o.mu k n vs (some g) cap) (hmu : o.mu = true) {t m : Nat} (hn : sizeT P t = some m) {v : Value} (hsz : v.cells.size = m)
    (hone : ∀ u ∈ v.cells.toList, u.oneCell' = true) {base : Nat} (hb : base + m ≤ n * k) (he : o'.elem = o.elem) (hmu' : o'.mu = true)
    (hr : ObjRow M o' k n (vs.take base ++ v.cells.toList ++ vs.drop (base + m))) :
    ∃ w', (Instr.storeAt t (.pointer (some ⟨g, base, none⟩)) v).run P w = .ok () w' ∧ StG C γ M { s with ob := upd s.ob id (some o') } a w' := by
  have hM : ∀ q, M g q = none := by have := hA.mem g rfl; rw [hmu] at this; simpa using this
  have hl : v.cells.toList.length = m := by simpa using hsz
  rcases hA.own.2 with ⟨hv, _⟩ | ⟨g', cap', cur, hv, _, hh, hnc, hcm, hcs, htake⟩
  · simp [arrV] at hv
  · simp only [arrV, Option.map_some, Value.slice.injEq, Option.some.injEq, Addr.mk.injEq, and_true, true_and] at hv
    obtain ⟨rfl, rfl⟩ := hv
    have hnk : n * k ≤ cur.size := by rw [hcs]; exact Nat.mul_le_mul_right k hnc
    have hvl := hA.len_vs
    have hrun := run_storeCells_at P g base o.elem v.cells.toList 0 cur w hh (by rw [hl]; omega) hone
    simp only [Nat.add_zero] at hrun
    have hov := over_toList cur base v.cells.toList (by rw [hl]; omega)
    have hov2 := over_list_get vs v.cells.toList base (by rw [hl, hvl]; exact hb)
    rw [hl] at hov hov2 hrun
    refine ⟨w.setRow g (cur.toList.take base ++ v.cells.toList ++ cur.toList.drop (base + m)).toArray, ?_,
      hs.write (w' := w.setRow g (cur.toList.take base ++ v.cells.toList ++ cur.toList.drop (base + m)).toArray) ho hg rfl rfl rfl rfl (by simp) (fun c hc => setRow_other w g c _ hc) hM
        (OM.row hg hr ⟨⟨?_, .inr ⟨g, cap, _, rfl, Nat.zero_le _, by rw [he]; exact setRow_heap w g cur _ _ _ hh, hnc, hcm, ?_, ?_⟩⟩, ?_, hA.len, ?_⟩)⟩
    · simp only [Instr.storeAt, Instr.sureAddr, Sem.run_bind, Sem.run_pure, Result.andThen_ok, storeVar, run_sizeOf hn]
      rw [if_neg (by simp [hsz])]
      exact hrun
    · simp only [List.length_append, List.length_take, List.length_drop, hl]; omega
    · simp only [List.size_toArray, List.length_append, List.length_take, List.length_drop, Array.length_toList, hl]; omega
    · apply List.ext_getElem?
      intro q
      rw [hov2 q, List.getElem?_take]
      by_cases hq : q < n * k
      · rw [if_pos hq, Array.getElem?_toList, hov q]
        by_cases hc : base ≤ q ∧ q < base + m
        · rw [if_pos hc, if_pos hc]
        · rw [if_neg hc, if_neg hc, ← htake, List.getElem?_take, if_pos hq, Array.getElem?_toList]
      · rw [if_neg hq, if_neg (by omega), List.getElem?_eq_none (by omega)]
    · intro u hu
      rw [List.mem_append, List.mem_append] at hu
      rcases hu with (hu | hu) | hu
      · exact hA.one u (List.mem_of_mem_take hu)
      · exact hone u hu
      · exact hA.one u (List.mem_of_mem_drop hu)
    · intro g' hg'
      cases hg'
      rw [hmu']
      simpa using hM

theorem evStore_sound (hs : StG C γ M s a w) {t id : Nat} {x y : AV} {o : AObj} {ok : Option Prop} (h : evStore P s.ob t [x, y] = some (id, o, ok)) (hok : okP ok) {u v : Value}
    (hx : ARel γ M x u) (hy : ARel γ M y v) :
    ∃ w', (Instr.storeAt t u v).run P w = .ok () w' ∧ StG C γ M { s with ob := upd s.ob id (some o) } a w' := by
  cases x with
  | ref id' off =>
    dsimp only [evStore] at h
    split at h
    · rename_i cs ys n ho hc hn
      split at h
      · rename_i hb
        cases h
        rw [Bool.and_eq_true, Bool.and_eq_true] at hb
        have h1 := Nat.eq_of_beq_eq_true hb.1.1
        have h2 := Nat.le_of_ble_eq_true hb.1.2
        have h3 := hb.2
        obtain ⟨b, hg, rfl⟩ := hx.ref_inv
        obtain ⟨b', vs, e, hg', hh, hsz, hcc, hm⟩ := hs.ob id _ ho
        rw [hg] at hg'; cases hg'
        have hr := cells?_rel hc hy
        have hone := over_full hr h3
        have hl : v.cells.toList.length = ys.length := by simpa using hr.1
        have hrun := run_storeCells_at P b off e v.cells.toList 0 vs w hh (by rw [hl]; omega) (by
          intro q hq
          obtain ⟨j, hj, rfl⟩ := List.getElem_of_mem hq
          have hj' : j < v.cells.size := by simpa using hj
          have := hone j (by rw [← hr.1]; exact hj')
          rw [Array.getD_eq_getD_getElem?, Array.getElem?_eq_getElem hj'] at this
          simpa using this)
        simp only [Nat.add_zero] at hrun
        have hov := over_toList vs off v.cells.toList (by rw [hl]; omega)
        have hle : off + ys.length ≤ cs.length := by omega
        refine ⟨w.setRow b (vs.toList.take off ++ v.cells.toList ++ vs.toList.drop (off + v.cells.toList.length)).toArray, ?_,
          hs.write (w' := w.setRow b (vs.toList.take off ++ v.cells.toList ++ vs.toList.drop (off + v.cells.toList.length)).toArray) ho hg rfl rfl rfl rfl (by simp) (fun c hc => setRow_other w b c _ hc) hm ⟨b, _, e, hg, setRow_heap w b vs _ e _ hh, ?_, fun j hj => ?_, hm⟩⟩
        · have hsz2 : v.cells.size = n := by rw [hr.1]; exact h1
          simp only [Instr.storeAt, Instr.sureAddr, Sem.run_bind, Sem.run_pure, Result.andThen_ok, storeVar, run_sizeOf hn]
          rw [if_neg (by simp [hsz2])]
          exact hrun
        · rw [over_length hle]
          simp only [List.size_toArray, List.length_append, List.length_take, List.length_drop, Array.length_toList] at hl ⊢
          omega
        · rw [over_length hle] at hj
          rw [over_get hle, Array.getD_eq_getD_getElem?, hov j, hl]
          by_cases hcnd : off ≤ j ∧ j < off + ys.length
          · rw [if_pos hcnd, if_pos hcnd]
            have q1 := hr.2 (j - off) (by omega)
            have q2 := hone (j - off) (by omega)
            rw [Array.getD_eq_getD_getElem?] at q1 q2
            rw [Array.getElem?_toList]
            exact ⟨q1, q2⟩
          · rw [if_neg hcnd, if_neg hcnd]
            have := hcc j hj
            rw [Array.getD_eq_getD_getElem?] at this
            exact this
      · cases h
    · cases h
  | aptr id' i j =>
    dsimp only [evStore] at h
    obtain ⟨g, k, n, cap, hg, rfl⟩ := hx.aptr_inv
    split at h
    · rename_i e l v' ho hn
      split at h
      · cases h
        have hlt : i < l.length := hok
        obtain ⟨a2, cap2, hg', hA⟩ := hs.ob id _ ho
        rw [hg] at hg'; cases hg'
        obtain ⟨rfl, hv⟩ := hy.int_inv
        refine row_store (P := P) (v := .int .u8 v') hs ho hg hA rfl hn rfl (by simp [Value.cells, Value.oneCell']) (base := i * 1 + 0) (by omega) rfl rfl ⟨rfl, by simp, ?_⟩
        rw [u8_byteV hv]
        have hov2 := over_list_get (l.map byteV) [byteV (UInt8.ofNat v'.toNat)] (i * 1 + 0) (by simp; omega)
        apply List.ext_getElem?
        intro q
        refine (hov2 q).trans ?_
        rw [List.map_set, List.getElem?_set]
        simp only [Nat.mul_one, Nat.add_zero, List.length_singleton, List.length_map]
        by_cases hq : i = q
        · subst hq
          rw [if_pos (by omega), if_pos rfl, if_pos hlt]
          simp
        · rw [if_neg (by omega), if_neg hq]
      · cases h
    · rename_i e k2 n2 f x' m ho hn
      split at h
      · rename_i ys hc
        split at h
        · rename_i ps hps
          split at h
          · rename_i hb
            cases h
            rw [Bool.and_eq_true] at hb
            have h1 := Nat.eq_of_beq_eq_true hb.1
            have h2 := Nat.le_of_ble_eq_true hb.2
            obtain ⟨a2, cap2, vs, hg', hv, hA⟩ := hs.ob id _ ho
            rw [hg] at hg'; cases hg'
            have hr := cells?_rel hc hy
            have hlt : i < n := hok
            obtain ⟨q1, q2⟩ := allSome_get hps
            have hpv : ∀ q, q < ys.length → ∃ p, ps[q]? = some p ∧ PRel M p (v.cells.getD q undef) := by
              intro q hq
              obtain ⟨p, hp, hf⟩ := q2 q _ (List.getElem?_eq_getElem hq)
              refine ⟨p, hp, ?_⟩
              have := hr.2 q hq
              rw [List.getD_eq_getElem?_getD, List.getElem?_eq_getElem hq] at this
              unfold toPV at hf
              split at hf
              · rename_i hx2
                cases hf
                simp only [Option.getD_some] at this
                rw [hx2] at this
                exact this.p_inv
              · cases hf
            have hik : (i + 1) * k ≤ n * k := Nat.mul_le_mul_right k hlt
            rw [Nat.add_mul, Nat.one_mul] at hik
            have hvl := hA.len_vs
            have hsz : v.cells.size = m := by rw [hr.1]; exact h1
            refine row_store (P := P) (v := v) hs ho hg hA rfl hn hsz ?_ (base := i * k + j) (by omega) rfl rfl ⟨rfl, rfl, ?_⟩
            · intro u hu
              obtain ⟨q, hq, rfl⟩ := List.getElem_of_mem hu
              have hq' : q < v.cells.size := by simpa using hq
              obtain ⟨p, _, hp⟩ := hpv q (by rw [← hr.1]; exact hq')
              rw [Array.getD_eq_getD_getElem?, Array.getElem?_eq_getElem hq'] at hp
              exact hp.oneCell
            · intro i' j' hi' hj'
              have hl : v.cells.toList.length = m := by simpa using hsz
              have hov2 := over_list_get vs v.cells.toList (i * k + j) (by rw [hl]; omega) (i' * k + j')
              rw [hl] at hov2
              rw [hov2]
              by_cases hi : i' = i
              · subst hi
                have e1 : Nat.beq i' i' = true := by simp
                by_cases hj : j ≤ j' ∧ j' < j + m
                · have e2 : Nat.ble j j' = true := Nat.ble_eq_true_of_le hj.1
                  have e3 : Nat.blt j' (j + m) = true := Nat.ble_eq_true_of_le hj.2
                  rw [if_pos (by omega)]
                  simp only [e1, e2, e3, Bool.and_self]
                  obtain ⟨p, hp1, hp2⟩ := hpv (j' - j) (by omega)
                  have e4 : i' * k + j' - (i' * k + j) = j' - j := by omega
                  rw [e4, Array.getElem?_toList, Array.getElem?_eq_getElem (by omega)]
                  refine ⟨_, rfl, ?_⟩
                  rw [List.getD_eq_getElem?_getD, hp1]
                  rw [Array.getD_eq_getD_getElem?, Array.getElem?_eq_getElem (by omega)] at hp2
                  exact hp2
                · have e2 : (Nat.beq i' i' && Nat.ble j j' && Nat.blt j' (j + m)) = false := by
                    rw [Bool.and_eq_false_iff]
                    by_cases h5 : j ≤ j'
                    · right
                      cases hb2 : Nat.blt j' (j + m) with
                      | false => rfl
                      | true => exact absurd ⟨h5, Nat.le_of_ble_eq_true hb2⟩ hj
                    · left
                      rw [Bool.and_eq_false_iff]; right
                      cases hb2 : Nat.ble j j' with
                      | false => rfl
                      | true => exact absurd (Nat.le_of_ble_eq_true hb2) h5
                  rw [if_neg (by omega)]
                  simp only [e2]
                  exact hv i' j' hi' hj'
              · have e1 : Nat.beq i' i = false := by
                  cases hb2 : Nat.beq i' i with
                  | false => rfl
                  | true => exact absurd (Nat.eq_of_beq_eq_true hb2) hi
                have hne : ¬ (i * k + j ≤ i' * k + j' ∧ i' * k + j' < i * k + j + m) := by
                  rcases Nat.lt_or_gt_of_ne hi with h5 | h5
                  · have : (i' + 1) * k ≤ i * k := Nat.mul_le_mul_right k h5
                    rw [Nat.add_mul, Nat.one_mul] at this
                    omega
                  · have : (i + 1) * k ≤ i' * k := Nat.mul_le_mul_right k h5
                    rw [Nat.add_mul, Nat.one_mul] at this
                    omega
                rw [if_neg hne]
                simp only [e1, Bool.false_and]
                exact hv i' j' hi' hj'
          · cases h
        · cases h
      · cases h
    · cases h
  | _ => cases h
end Go.Am
