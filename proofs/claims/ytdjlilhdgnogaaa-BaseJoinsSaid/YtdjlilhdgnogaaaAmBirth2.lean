/-
  The abstract machine of these proofs.
-/
import Derived.Test.YtdjlilhdgnogaaaAmBirth
set_option linter.unusedVariables false
namespace Go.Am
open Go Go.RowKit
variable {P : Program} {γ γ' : Nat → Option G} {M M' : Mem} {C : Ctx} {s s' : S} {a a' : Act} {w w' : World}

def bytesT (P : Program) (t : TypeId) : Option Nat := (P.info? t).map (·.bytes)

def evBuildSlice (P : Program) (t n : Nat) (ix : List Nat) (xs : List AV) : Option (AObj × Option Prop) :=
  match sliceE P t with
  | some e => match sizeT P e, zeroC P e with
    | some (k + 1), some z => match Nat.ble (n * (k + 1)) 16777216 with
      | true => match afill (fun i => some (i * (k + 1), k + 1)) ((List.range (n * (k + 1))).map fun i => z.getD (i % z.length) .any) (ix.zip xs) with
        | some cs => (rowObj P e false (k + 1) n cs).map fun o => (o, none)
        | none => none
      | false => none
    | _, _ => none
  | none => none

def isZeroByte : PV → Bool
  | .int .u8 0 => true
  | _ => false

def evMakeSlice (P : Program) (t : TypeId) : List AV → Option (AObj × Option Prop)
  | [.p (.int _ l), .p (.int _ c)] => match sliceE P t with
    | some e => match sizeT P e, zeroC P e, bytesT P e with
      | some 1, some [.p z], some by' => match isU8 P e with
        | true => match isZeroByte z with
          | true => some (.barr e true (List.replicate l.toNat 0), some (0 ≤ l ∧ l ≤ c ∧ (by' : Int) * c ≤ 281474976710656 ∧ c ≤ 9223372036854775807))
          | false => none
        | false => some (.larr e true 1 l.toNat (fun _ _ => z), some (0 ≤ l ∧ l ≤ c ∧ (by' : Int) * c ≤ 281474976710656 ∧ c ≤ 9223372036854775807))
      | _, _, _ => none
    | none => none
  | _ => none

/-- An object that an operation makes. -/
def evB (P : Program) (op : Op) (xs : List AV) : Option (AObj × Option Prop) :=
  match op with
  | .alloc t => (zeroC P t).map fun cs => (.cells cs, none)
  | .box _ _ => match xs with
    | [x] => match x.cells? with
      | some cs => match cs.all AV.one with
        | true => some (.cells cs, none)
        | false => none
      | none => none
    | _ => none
  | .buildSlice t n ps => evBuildSlice P t n (ps.toList.map (·.1)) xs
  | .makeSlice t _ _ => evMakeSlice P t xs
  | _ => none

def AObj.handle (d : Nat) : AObj → AV
  | .cells _ => .ref d 0
  | _ => .arr d

/-- The state behind a birth. -/
def sbirth (s : S) (d : Nat) (o : AObj) : S := { sl := upd s.sl d (o.handle d), ob := upd s.ob d (some o), us := upd s.us d true }

theorem over_full {cs : List AV} {vs : Array Value} (h : CRel γ M cs vs) (h1 : cs.all AV.one = true) : ∀ j, j < cs.length → (vs.getD j undef).oneCell' = true := by
  intro j hj
  have hr := h.2 j hj
  refine hr.oneCell ?_
  rw [List.getD_eq_getElem?_getD, List.getElem?_eq_getElem hj]
  exact (List.all_eq_true.1 h1) _ (List.getElem_mem hj)

theorem zero_one {z : Value} (h : ∀ v ∈ z.cells.toList, v.oneCell' = true) : ∀ j, j < (z.cells.toList.map acst).length → (z.cells.getD j undef).oneCell' = true := by
  intro j hj
  have hj' : j < z.cells.size := by simpa using hj
  rw [Array.getD_eq_getD_getElem?, Array.getElem?_eq_getElem hj']
  exact h _ (by simp)

theorem zeros_rel {z : Value} (n : Nat) (γ : Nat → Option G) (M : Mem) :
    CRel γ M ((List.range n).map fun i => (z.cells.toList.map acst).getD (i % (z.cells.toList.map acst).length) .any) ((Array.range n).map (z.cells[· % z.cells.size]!)) := by
  refine ⟨by simp, fun j hj => ?_⟩
  have hj' : j < n := by simpa using hj
  have e1 : ((List.range n).map fun i => (z.cells.toList.map acst).getD (i % (z.cells.toList.map acst).length) .any).getD j .any = (z.cells.toList.map acst).getD (j % z.cells.size) .any := by
    rw [List.getD_eq_getElem?_getD, List.getElem?_map, List.getElem?_range hj']; simp
  have e2 : ((Array.range n).map (z.cells[· % z.cells.size]!)).getD j undef = z.cells[j % z.cells.size]! := by
    rw [Array.getD_eq_getD_getElem?]; simp [hj']
  rw [e1, e2]
  by_cases hz : j % z.cells.size < z.cells.size
  · have := (map_acst_rel γ M z.cells).2 (j % z.cells.size) (by simpa using hz)
    rw [getElem!_pos z.cells _ hz]
    rw [Array.getD_eq_getD_getElem?, Array.getElem?_eq_getElem hz] at this
    exact this
  · have e3 : (z.cells.toList.map acst).getD (j % z.cells.size) .any = .any := by
      rw [List.getD_eq_getElem?_getD, List.getElem?_eq_none (by simp; omega)]; rfl
    rw [e3]; exact .any _

theorem rowObj_nocells {e : TypeId} {mu : Bool} {k n : Nat} {cs : List AV} {o : AObj} (h : rowObj P e mu k n cs = some o) : ∀ d, o.handle d = .arr d := by
  unfold rowObj at h
  split at h
  · obtain ⟨l, _, rfl⟩ := map_some h; exact fun d => rfl
  · obtain ⟨l, _, rfl⟩ := map_some h; exact fun d => rfl

theorem afill_length (place : Nat → Option (Nat × Nat)) : ∀ (xs : List (Nat × AV)) (cs r : List AV), afill place cs xs = some r → r.length = cs.length := by
  intro xs
  induction xs with
  | nil => intro cs r h; cases h; rfl
  | cons x xs ih =>
    intro cs r h
    obtain ⟨i, x⟩ := x
    simp only [afill] at h
    split at h
    · split at h
      · rename_i hb
        rw [Bool.and_eq_true] at hb
        rw [ih _ _ h, over_length (Nat.le_of_ble_eq_true hb.2)]
      · cases h
    · cases h

theorem evB_sound (hs : StG C γ M s a w) (o : Oper) {d : Nat} (hdst : o.dst = some d) (hd : dstOk C.nt (some d) = true) (hu : s.us d = false)
    {xs : List AV} {ob : AObj} {ok : Option Prop} (h : evB P o.op xs = some (ob, ok)) (hok : okP ok)
    {ρ : Operand → Value} (hx : ARels γ M xs (o.op.operands.toList.map ρ)) :
    ∃ v w' γ' M', (execOp ρ o).run P w = .ok (.value v) w' ∧ StG C γ' M' (sbirth s d ob) (a.put (some d) v) w' := by
  obtain ⟨dst, op, type, pos, after, guard⟩ := o
  dsimp only at hx h hdst
  subst hdst
  cases op <;> simp only [evB, reduceCtorEq] at h <;> simp only [Op.operands, List.map_cons, List.map_nil] at hx
  case alloc t =>
    obtain ⟨cs, hz, he⟩ := map_some h
    cases he
    obtain ⟨i, z, hi, hzv, h1, rfl⟩ := zeroC_spec hz
    refine ⟨_, _, _, _, ?_, hs.cells hd hu t (map_acst_rel γ M z.cells) (zero_one h1)⟩
    simp [execOp, Instr.alloc, zeroValue, typeInfo, hi, hzv, newVar, newRow]
  case box t x =>
    cases hx with
    | cons hx ht =>
      cases ht with
      | nil =>
        rename_i u
        dsimp only at h
        cases hc : u.cells? with
        | none => rw [hc] at h; cases h
        | some cs =>
          rw [hc] at h
          dsimp only at h
          cases hall : cs.all AV.one with
          | false => rw [hall] at h; cases h
          | true =>
            rw [hall] at h
            cases h
            have hr := cells?_rel hc hx
            refine ⟨_, _, _, _, ?_, hs.cells hd hu t hr (over_full hr hall)⟩
            simp [execOp, Instr.box, newVar, newRow]
  case buildSlice t n ps =>
    unfold evBuildSlice at h
    split at h
    · rename_i e0 he
      split at h
      · rename_i k z hk hz
        split at h
        · rename_i hb
          have hb := Nat.le_of_ble_eq_true hb
          split at h
          · rename_i cs hf
            obtain ⟨o', hro, he'⟩ := map_some h
            cases he'
            obtain ⟨i, zv, hi, hzv, h1, rfl⟩ := zeroC_spec hz
            have hx' : ARels γ M xs (ps.toList.map fun p => ρ p.2) := by simpa [Function.comp_def] using hx
            obtain ⟨cells', hc1, hc2⟩ := fill_sound (γ := γ) (M := M) (fun i => some (i * (k + 1), k + 1)) _ _ _ _ _ hf (PRels.of hx' rfl) (zeros_rel (z := zv) _ γ M)
            have hlen : cs.length = n * (k + 1) := by rw [afill_length _ _ _ _ hf]; simp
            obtain ⟨q1, q2, q3⟩ := rowObj_spec (γ := γ) (M := M) hro hlen hc2
            have hsz : cells'.size = n * (k + 1) := by rw [hc2.1, hlen]
            have hnm : n ≤ maxLen := by
              have : n * 1 ≤ n * (k + 1) := Nat.mul_le_mul_left n (by omega)
              unfold maxLen; omega
            have hone : ∀ v ∈ cells'.toList, v.oneCell' = true := by
              intro v hv
              obtain ⟨j, hj, rfl⟩ := List.getElem_of_mem hv
              have hj' : j < cells'.size := by simpa using hj
              have hr := hc2.2 j (by rw [← hc2.1]; exact hj')
              rw [Array.getD_eq_getD_getElem?, Array.getElem?_eq_getElem hj'] at hr
              have : (cs.getD j .any).one = true := by
                unfold rowObj at hro
                have hjc : j < cs.length := by rw [← hc2.1]; exact hj'
                split at hro
                · obtain ⟨l, hl, _⟩ := map_some hro
                  obtain ⟨y, _, hf⟩ := (allSome_get hl).2 j _ (List.getElem?_eq_getElem hjc)
                  rw [List.getD_eq_getElem?_getD, List.getElem?_eq_getElem hjc]
                  unfold toByte at hf
                  split at hf
                  · rename_i hq; simp only [Option.getD_some]; rw [hq]; rfl
                  · cases hf
                · obtain ⟨l, hl, _⟩ := map_some hro
                  obtain ⟨y, _, hf⟩ := (allSome_get hl).2 j _ (List.getElem?_eq_getElem hjc)
                  rw [List.getD_eq_getElem?_getD, List.getElem?_eq_getElem hjc]
                  unfold toPV at hf
                  split at hf
                  · rename_i hq; simp only [Option.getD_some]; rw [hq]; rfl
                  · cases hf
              exact hr.oneCell this
            have hrow := hs.row (w' := w.alloc (.cells cells' e0)) hd hu (o := ob) (k := k + 1) (n := n) (cap := n) (vs := cells'.toList) (cur := cells')
              (by rw [q1]; rfl) rfl rfl rfl (by simp [hsz]) (Nat.le_refl _) hnm hsz (by rw [List.take_of_length_le (by simp [hsz])]) hone q3
            have hh : ob.handle d = .arr d := rowObj_nocells hro d
            have e1 : sbirth s d ob = { sl := upd s.sl d (.arr d), ob := upd s.ob d (some ob), us := upd s.us d true } := by unfold sbirth; rw [hh]
            refine ⟨_, _, _, _, ?_, by rw [e1]; exact hrow⟩
            have hle : ¬ (n * (k + 1) > 2 ^ 24) := by omega
            have hu' := sliceE_spec he
            have e : (ps.map fun (x : Nat × Operand) => (x.1, ρ x.2)).toList = ps.toList.map fun p => (p.1, ρ p.2) := by simp
            by_cases h0 : n * (k + 1) = 0
            · have hc' : Instr.fill (fun i => some (i * (k + 1), k + 1)) #[] (ps.map fun (x : Nat × Operand) => (x.1, ρ x.2)).toList = some cells' := by
                rw [e]
                have := hc1
                rw [h0] at this
                simpa [Array.range_zero'] using this
              have hrun : (Instr.buildSlice t n (ps.map fun (x : Nat × Operand) => (x.1, ρ x.2))).run P w = .ok (arrV (some w.heap.size) n n) (w.alloc (.cells cells' e0)) := by
                simp only [Instr.buildSlice, Sem.run_bind, run_underlying hu', Result.andThen_ok, run_sizeOf hk, h0, if_true, Array.range_zero', Array.map_empty, hc', newRow]
                rfl
              simp only [execOp, Sem.run_bind]
              rw [hrun]
              rfl
            · have hc' : Instr.fill (fun i => some (i * (k + 1), k + 1)) ((Array.range (n * (k + 1))).map (zv.cells[· % zv.cells.size]!)) (ps.map fun (x : Nat × Operand) => (x.1, ρ x.2)).toList = some cells' := by
                rw [e]; exact hc1
              have hrun : (Instr.buildSlice t n (ps.map fun (x : Nat × Operand) => (x.1, ρ x.2))).run P w = .ok (arrV (some w.heap.size) n n) (w.alloc (.cells cells' e0)) := by
                simp only [Instr.buildSlice, Sem.run_bind, run_underlying hu', Result.andThen_ok, run_sizeOf hk, hle, if_false, h0, zeroValue, typeInfo, run_program, hi, Sem.run_pure, hzv, hc', newRow]
                rfl
              simp only [execOp, Sem.run_bind]
              rw [hrun]
              rfl
          · cases h
        · cases h
      · cases h
    · cases h
  case makeSlice t l c =>
    cases hx with
    | cons hx1 ht =>
      cases ht with
      | cons hx2 ht =>
        cases ht with
        | nil =>
          unfold evMakeSlice at h
          split at h
          · rename_i k1 l' k2 c' heq
            cases heq
            split at h
            · rename_i e he
              split at h
              · rename_i z by' hk hz hby
                have e1 := hx1.int_inv.1
                have e2 := hx2.int_inv.1
                obtain ⟨i, zv, hi, hzv, h1, hzz⟩ := zeroC_spec hz
                have hzsz : zv.cells.size = 1 := by have := congrArg List.length hzz; simpa using this.symm
                have hbi : i.bytes = by' := by unfold bytesT at hby; rw [hi] at hby; injection hby
                have hsi : i.size = 1 := by unfold sizeT at hk; rw [hi] at hk; injection hk
                have key : ∀ o' : AObj, o'.elem = e → (∀ d, o'.handle d = .arr d) → (∀ u, zv.cells = #[u] → PRel M z u → ObjRow M o' 1 l'.toNat (List.replicate l'.toNat u)) →
                    (0 ≤ l' ∧ l' ≤ c' ∧ (by' : Int) * c' ≤ 281474976710656 ∧ c' ≤ 9223372036854775807) →
                    ∃ v w' γ' M', (execOp ρ ⟨some d, .makeSlice t l c, type, pos, after, guard⟩).run P w = .ok (.value v) w' ∧ StG C γ' M' (sbirth s d o') (a.put (some d) v) w' := by
                  intro o' hel hha hrw hc
                  obtain ⟨u, hu'⟩ : ∃ u, zv.cells = #[u] := by
                    match hq : zv.cells, hzsz with
                    | ⟨[u]⟩, _ => exact ⟨u, rfl⟩
                  have hzu : PRel M z u := by
                    have := (map_acst_rel (fun _ => none) M zv.cells).2 0 (by simp [hu'])
                    rw [← hzz] at this
                    simp [hu'] at this
                    exact this.p_inv
                  have hrun := run_make (P := P) w t e i zv (sliceE_spec he) hi hzv k1 k2 l' c' hc.1 hc.2.1 (by rw [hbi]; exact hc.2.2.1) hc.2.2.2
                  have hmc : (madeCells zv.cells (c'.toNat * i.size)).toList = List.replicate c'.toNat u := by
                    rw [hsi, Nat.mul_one, hu', toList_madeCells_one]
                  have hrow := hs.row (w' := w.alloc (.cells (madeCells zv.cells (c'.toNat * i.size)) e)) hd hu (o := o') (k := 1) (n := l'.toNat) (cap := c'.toNat) (vs := List.replicate l'.toNat u) (cur := madeCells zv.cells (c'.toNat * i.size))
                    (by rw [hel]; rfl) rfl rfl rfl (by simp) (by omega) (by unfold maxLen; omega) (by rw [size_madeCells, hsi]) (by
                      rw [hmc, List.take_replicate]; congr 1; omega) (by
                      intro v hv; rw [List.mem_replicate] at hv; rw [hv.2]; exact hzu.oneCell) (hrw u hu' hzu)
                  have e3 : sbirth s d o' = { sl := upd s.sl d (.arr d), ob := upd s.ob d (some o'), us := upd s.us d true } := by unfold sbirth; rw [hha]
                  refine ⟨_, _, _, _, ?_, by rw [e3]; exact hrow⟩
                  simp only [execOp, e1, e2, Sem.run_bind, hrun, Result.andThen_ok]
                  rfl
                split at h
                · split at h
                  · rename_i hzb
                    cases h
                    refine key _ rfl (fun d => rfl) (fun u hu' hzu => ⟨rfl, by simp, ?_⟩) hok
                    unfold isZeroByte at hzb
                    split at hzb
                    · have := hzu.int_inv.1
                      rw [this, List.map_replicate]; rfl
                    · cases hzb
                  · cases h
                · cases h
                  refine key _ rfl (fun d => rfl) (fun u hu' hzu => ⟨rfl, rfl, fun i j hi hj => ⟨u, ?_, hzu⟩⟩) hok
                  have : j = 0 := by omega
                  subst this
                  rw [List.getElem?_replicate]; simp [hi]
              · cases h
            · cases h
          · cases h
end Go.Am
