/-
  The abstract machine of these proofs.
-/
import Derived.Test.YtdjlilhdgnogaaaAmPureS
set_option linter.unusedVariables false
namespace Go.Am
open Go Go.RowKit
variable {P : Program} {γ : Nat → Option G} {M : Mem}

theorem abin_sound {op : BinOp} {x y : PV} {r : PV} {ok : Option Prop} (h : abin op x y = some (r, ok)) (hok : okP ok) {a b : Value}
    (ha : PRel M x a) (hb : PRel M y b) (t : TypeId) (hnb : ∀ c, x ≠ .bool c) (w : World) : ∃ v, (binOp op t a b).run P w = .ok v w ∧ PRel M r v := by
  unfold abin at h
  split at h
  · rename_i k m k' n
    obtain ⟨rfl, ha'⟩ := ha.int_inv
    obtain ⟨rfl, hb'⟩ := hb.int_inv
    split at h
    · cases h
      have : ¬ n < 0 := by omega
      exact ⟨_, by simp [binOp, Op.shift, this], .int _ _ (wrap_has _ _)⟩
    · cases h
      have : ¬ n < 0 := by omega
      exact ⟨_, by simp [binOp, Op.shift, this], .int _ _ (fdiv_has ha' _)⟩
    · split at h
      · rename_i hk
        cases kindEq_eq hk
        exact abinInt_sound h hok ha' hb' t w
      · cases h
  · obtain ⟨rfl, _⟩ := ha.str_inv
    obtain ⟨rfl, _⟩ := hb.str_inv
    exact abinStr_sound h hok t w
  · exact absurd rfl (hnb _)
  · cases h

theorem isBoolT_spec {t : TypeId} (h : isBoolT P t = true) : P.underlying t = some .bool := by
  unfold isBoolT at h; split at h
  · assumption
  · cases h

theorem abinBool_sound {op : BinOp} {p q : Bool} {r : PV} {ok : Option Prop} (h : abin op (.bool p) (.bool q) = some (r, ok)) (t : TypeId)
    (ht : isBoolT P t = true) (w : World) : ∃ v, (binOp op t (.bool p) (.bool q)).run P w = .ok v w ∧ PRel M r v := by
  have hu := isBoolT_spec ht
  cases op <;> simp only [abin, reduceCtorEq, Option.some.injEq] at h <;> cases h
  · exact ⟨.bool (p == q), by simp [binOp, run_bool_eq _ _ _ _ hu], .bool _⟩
  · exact ⟨.bool (p != q), by simp [binOp, run_bool_eq _ _ _ _ hu] <;> cases p <;> cases q <;> rfl, .bool _⟩

theorem aconv_sound {d s : TypeId} {x r : PV} (h : aconv P d x = some r) (hd : ∃ e, P.underlying s = some e) {a : Value} (ha : PRel M x a) (w : World) :
    ∃ v, (convert s d a).run P w = .ok v w ∧ PRel M r v := by
  obtain ⟨e, he⟩ := hd
  unfold aconv at h
  split at h
  · rename_i k s' n hu
    obtain ⟨rfl, hn⟩ := ha.int_inv
    split at h
    · rename_i hf
      cases h
      have := fits_has hf hn
      exact ⟨.int k n, by simp [convert, run_underlying he, run_underlying hu, Conv.intToInt, wrap_of_has this], .int _ _ this⟩
    · cases h
      exact ⟨_, by simp [convert, run_underlying he, run_underlying hu, Conv.intToInt], .int _ _ (wrap_has _ _)⟩
  · rename_i l hu
    cases h
    obtain ⟨rfl, hl⟩ := ha.str_inv
    refine ⟨.string ⟨l.toArray⟩, ?_, .str _ hl⟩
    simp [convert, run_underlying he, run_underlying hu]
  · cases h


theorem knownT_spec {t : TypeId} (h : knownT P t = true) : ∃ e, P.underlying t = some e := Option.isSome_iff_exists.1 h

theorem map_some {α β : Type} {x : Option α} {f : α → β} {y : β} (h : x.map f = some y) : ∃ a, x = some a ∧ f a = y := by
  cases x with
  | none => cases h
  | some a => exact ⟨a, rfl, by injection h⟩

theorem evAnd_sound {c : Bool} {x r : AV} {ok : Option Prop} (h : evAnd c x = some (r, ok)) (hok : okP ok) {a b : Value} (ha : ARel γ M x a) (hb : b = .bool false) :
    ARel γ M r (if c then a else b) := by
  subst hb
  unfold evAnd at h
  split at h
  · cases h
    cases c
    · exact .p _ _ (.bool false)
    · have := ha.gd_inv (hok rfl)
      rw [this.bool_inv]; exact .p _ _ (.bool _)
  · cases h
    rw [ha.bool_inv]
    cases c <;> exact .p _ _ (.bool _)
  · cases h
theorem evOr_sound {c : Bool} {x r : AV} {ok : Option Prop} (h : evOr c x = some (r, ok)) (hok : okP ok) {a b : Value} (ha : ARel γ M x a) (hb : b = .bool true) :
    ARel γ M r (if c then b else a) := by
  subst hb
  unfold evOr at h
  split at h
  · cases h
    cases c
    · have := ha.gd_inv (hok rfl)
      rw [this.bool_inv]; exact .p _ _ (.bool _)
    · exact .p _ _ (.bool true)
  · cases h
    rw [ha.bool_inv]
    cases c <;> exact .p _ _ (.bool _)
  · cases h

theorem isConstBool_spec {x : Operand} {b : Bool} (h : isConstBool x = some b) : x = .const (.bool b) := by
  unfold isConstBool at h
  split at h
  · cases h; rfl
  · cases h

/-- What 'ρ' says of a literal. -/
def Lits (ρ : Operand → Value) : Prop := ∀ v, ρ (.const v) = v

theorem shiftAddr_sound {k : Nat} {x r : AV} (h : shiftAddr k x = some r) {v : Value} (hx : ARel γ M x v) :
    ∃ b off, v = .pointer (some ⟨b, off, none⟩) ∧ ARel γ M r (.pointer (some ⟨b, off + k, none⟩)) := by
  unfold shiftAddr at h
  split at h
  · cases h
    cases hx with
    | ref id off b hb => exact ⟨_, _, rfl, .ref _ _ _ hb⟩
  · split at h
    · rename_i hk
      cases h
      have hk := Nat.le_of_ble_eq_true hk
      cases hx.p_inv with
      | box n f b off g hM hf =>
        refine ⟨b, off, rfl, .p _ _ (.box _ _ _ _ (fun j => g (k + j)) (fun j hj => ?_) (fun j hj => hf _ (by omega)))⟩
        have := hM (k + j) (by omega)
        rw [← Nat.add_assoc] at this; exact this
    · cases h
  · rename_i id i off
    cases h
    cases hx with
    | aptr _ _ _ g k' n cap hb => exact ⟨g, _, rfl, by have := ARel.aptr (M := M) id i (off + k) g k' n cap hb; rw [← Nat.add_assoc] at this; exact this⟩
  · cases h

theorem addr_add (b off k : Nat) : (⟨b, off, none⟩ : Addr).add k = ⟨b, off + k, none⟩ := by
  unfold Addr.add
  split
  · simp_all
  · rfl

theorem elemSize_spec {t : TypeId} {k : Nat} (h : elemSize P t = some k) : ∃ e, P.underlying t = some (.slice e) ∧ sizeT P e = some k := by
  unfold elemSize at h
  split at h
  · rename_i e he; exact ⟨e, sliceE_spec he, h⟩
  · cases h

theorem run_indexAt_slice {t : TypeId} {k : Nat} (h : elemSize P t = some k) (b off n cap : Nat) (kk : IntKind) (i : Int) (h0 : 0 ≤ i) (h1 : i < (n : Int)) (w : World) :
    (Instr.indexAt t (.slice (some ⟨b, off, none⟩) n cap) (.int kk i)).run P w = .ok (.pointer (some ⟨b, off + i.toNat * k, none⟩)) w := by
  obtain ⟨e, hu, hs⟩ := elemSize_spec h
  simp [Instr.indexAt, asIntOf, run_underlying hu, h0, h1, run_sizeOf hs, addr_add]

theorem bytes_inv {l : List UInt8} {v : Value} (h : PRel M (.bytes l) v) :
    (l = [] ∧ v = .slice none 0 0) ∨ ∃ b off cap, v = .slice (some ⟨b, off, none⟩) l.length cap ∧ l.length ≤ maxLen ∧ l.length ≤ cap ∧ ∀ i c, l[i]? = some c → M b (off + i) = some (byteV c) := by
  cases h with
  | bytesNil => exact .inl ⟨rfl, rfl⟩
  | bytes l b off cap hm hc h => exact .inr ⟨b, off, cap, rfl, hm, hc, h⟩

theorem run_sliceAt_str {t : TypeId} (ht : isStrT P t = true) (x : Value) (lo hi mx : Option Value) (w : World) :
    (Instr.sliceAt t x lo hi mx).run P w = (Instr.slice t x lo hi mx).run P w := by
  simp [Instr.sliceAt, run_underlying (isStrT_spec ht)]

theorem evBin_sound {op : BinOp} {t : TypeId} {u u' r : AV} {ok : Option Prop} (h : evBin P op t [u, u'] = some (r, ok)) (hok : okP ok) {a b : Value}
    (ha : ARel γ M u a) (hb : ARel γ M u' b) (x y : Operand) (w : World) :
    ∃ v, (do eqGuard op t x y a b; binOp op t a b : Sem Value).run P w = .ok v w ∧ ARel γ M r v := by
  cases u with
  | p p =>
    cases u' with
    | p q =>
      dsimp only [evBin] at h
      cases hbp : isBoolP p with
      | true =>
        rw [hbp] at h
        dsimp only at h
        cases ht : isBoolT P t with
        | false => rw [ht] at h; cases h
        | true =>
          rw [ht] at h
          obtain ⟨⟨r', ok'⟩, hab, hr⟩ := map_some h
          cases hr
          cases p <;> simp only [isBoolP, reduceCtorEq] at hbp
          rename_i p
          cases q with
          | bool q =>
            obtain ⟨v, hv, hrel⟩ := abinBool_sound (P := P) (M := M) hab t ht w
            have e1 := ha.bool_inv
            have e2 := hb.bool_inv
            have hg := run_eqGuard_p (P := P) (op := op) (t := t) (x := x) (y := y) ha.p_inv hb.p_inv (by intro v e; cases e) w
            rw [e1, e2] at hg
            exact ⟨v, by rw [e1, e2, Sem.run_bind, hg]; exact hv, .p _ _ hrel⟩
          | _ => simp [abin] at hab
      | false =>
        rw [hbp] at h
        obtain ⟨⟨r', ok'⟩, hab, hr⟩ := map_some h
        cases hr
        obtain ⟨v, hv, hrel⟩ := abin_sound (P := P) (M := M) hab hok ha.p_inv hb.p_inv t (by intro c e; subst e; cases hbp) w
        have hg := run_eqGuard_p (P := P) (op := op) (t := t) (x := x) (y := y) ha.p_inv hb.p_inv (by intro v e; subst e; simp [abin] at hab) w
        exact ⟨v, by rw [Sem.run_bind, hg]; exact hv, .p _ _ hrel⟩
    | _ => cases h
  | _ => cases h

theorem evSlice_sound {t : TypeId} {lo hi : Option Operand} {x : Operand} {ρ : Operand → Value} {xs : List AV} {r : AV} {ok : Option Prop}
    (h : evSlice P t lo.isSome hi.isSome xs = some (r, ok)) (hok : okP ok)
    (hx : ARels γ M xs (ρ x :: ((lo.toList ++ hi.toList).map ρ))) (w : World) :
    ∃ v, (Instr.sliceAt t (ρ x) (lo.map ρ) (hi.map ρ) none).run P w = .ok v w ∧ ARel γ M r v := by
  unfold evSlice at h
  split at h
  · rename_i l
    cases lo <;> cases hi <;> dsimp only [Option.isSome] at h <;> first | (cases h; done) | skip
    cases hx with
    | cons ha _ =>
      obtain ⟨ht, he⟩ := bool?_some h
      cases he
      obtain ⟨e1, hm⟩ := ha.str_inv
      rw [run_sliceAt_str ht, e1]
      have := run_slice_str (P := P) ht l none none (by simp) (by simp) w
      simp only [Option.map_none, List.take_length, List.drop_zero] at this
      exact ⟨_, this, .p _ _ (.str _ hm)⟩
  · rename_i l kk i
    cases lo <;> cases hi <;> dsimp only [Option.isSome] at h <;> first | (cases h; done) | skip
    · rename_i j
      cases hx with
      | cons ha hx => cases hx with
        | cons hb _ =>
          obtain ⟨ht, he⟩ := bool?_some h
          cases he
          obtain ⟨e1, hm⟩ := ha.str_inv
          have e2 := hb.int_inv.1
          rw [run_sliceAt_str ht, e1]
          have := run_slice_str (P := P) ht l none (some (kk, i)) (by simp) (by intro k i he; cases he; exact hok) w
          simp only [Option.map_none, Option.map_some, List.drop_zero] at this ⊢
          rw [e2]
          refine ⟨_, this, .p _ _ (.str _ ?_)⟩
          simp; omega
    · rename_i j
      cases hx with
      | cons ha hx => cases hx with
        | cons hb _ =>
          obtain ⟨ht, he⟩ := bool?_some h
          cases he
          obtain ⟨e1, hm⟩ := ha.str_inv
          have e2 := hb.int_inv.1
          rw [run_sliceAt_str ht, e1]
          have := run_slice_str (P := P) ht l (some (kk, i)) none (by intro k i he; cases he; exact hok) (by simp) w
          simp only [Option.map_none, Option.map_some, List.take_length] at this ⊢
          rw [e2]
          refine ⟨_, this, .p _ _ (.str _ ?_)⟩
          simp; omega
  · rename_i l k1 i k2 j
    cases lo <;> cases hi <;> dsimp only [Option.isSome] at h <;> first | (cases h; done) | skip
    cases hx with
    | cons ha hx => cases hx with
      | cons hb hx => cases hx with
        | cons hc _ =>
          obtain ⟨ht, he⟩ := bool?_some h
          unfold aslice at he
          cases he
          obtain ⟨e1, hm⟩ := ha.str_inv
          have e2 := hb.int_inv.1
          have e3 := hc.int_inv.1
          rw [run_sliceAt_str ht, e1]
          have := run_slice_str (P := P) ht l (some (k1, i)) (some (k2, j)) (by intro k i he; cases he; exact ⟨hok.1, hok.2.1⟩) (by intro k i he; cases he; exact ⟨by omega, hok.2.2⟩) w
          simp only [Option.map_some] at this ⊢
          rw [e2, e3]
          refine ⟨_, this, .p _ _ (.str _ ?_)⟩
          simp; omega
  · cases h

theorem ARel.tup_inv {cs : List AV} {v : Value} (h : ARel γ M (.tup cs) v) : ∃ vs : Array Value, v = .tuple vs ∧ vs.size = cs.length ∧ ∀ i, i < cs.length → ARel γ M (cs.getD i .any) (vs.getD i undef) := by
  cases h with | tup cs vs hs h => exact ⟨vs, rfl, hs, h⟩
theorem ARel.agg_inv {cs : List AV} {v : Value} (h : ARel γ M (.agg cs) v) : ∃ vs : Array Value, v = .agg vs ∧ vs.size = cs.length ∧ ∀ i, i < cs.length → ARel γ M (cs.getD i .any) (vs.getD i undef) := by
  cases h with | agg cs vs hs h => exact ⟨vs, rfl, hs, h⟩

theorem evP_sound (o : Oper) (ρ : Operand → Value) (hl : Lits ρ) {xs : List AV} {r : AV} {ok : Option Prop} (h : evP P o.op xs = some (r, ok)) (hok : okP ok)
    (hx : ARels γ M xs (o.op.operands.toList.map ρ)) (w : World) : ∃ v, (execOp ρ o).run P w = .ok (.value v) w ∧ ARel γ M r v := by
  obtain ⟨dst, op, type, pos, after, guard⟩ := o
  dsimp only at hx h
  cases op <;> simp only [evP, reduceCtorEq] at h <;> simp only [Op.operands, List.map_cons, List.map_nil] at hx
  case move x =>
    unfold ev1 at h; split at h
    · cases h; cases hx with | cons h1 _ => exact ⟨_, by simp [execOp], h1⟩
    · cases h
  case assign x =>
    unfold ev1 at h; split at h
    · cases h; cases hx with | cons h1 _ => exact ⟨_, by simp [execOp], h1⟩
    · cases h
  case pick c x y =>
    unfold evPick at h
    split at h
    · cases hx with
      | cons hc hx => cases hx with
        | cons ha hx => cases hx with
          | cons hb _ =>
            have hc := hc.bool_inv
            have hrun : ∀ cb, ρ c = .bool cb → (execOp ρ ⟨dst, .pick c x y, type, pos, after, guard⟩).run P w = .ok (.value (if cb then ρ x else ρ y)) w := fun cb hcb => by
              simp [execOp, hcb, asBool]
            split at h
            · rename_i hy
              have := isConstBool_spec hy
              subst this
              exact ⟨_, hrun _ hc, evAnd_sound h hok ha (hl _)⟩
            · split at h
              · rename_i hy
                have := isConstBool_spec hy
                subst this
                exact ⟨_, hrun _ hc, evOr_sound h hok hb (hl _)⟩
              · cases h
    · cases h
  case binOp op t x y yt =>
    cases hx with
    | cons ha hx => cases hx with
      | cons hb hx => cases hx with
        | nil =>
          obtain ⟨v, hv, hrel⟩ := evBin_sound (P := P) h hok ha hb x y w
          exact ⟨v, by simp only [execOp]; rw [Sem.run_bind, hv]; rfl, hrel⟩
  case unOp op t x =>
    unfold evUn at h
    split at h
    · cases hx with
      | cons ha _ =>
        have e := ha.bool_inv
        cases op <;> dsimp only at h <;> first
          | (cases h; done)
          | (cases h; exact ⟨_, by simp [execOp, Op.unary, e], .p _ _ (.bool _)⟩)
    · cases hx with
      | cons ha _ =>
        have e := ha.int_inv.1
        cases op <;> dsimp only at h <;> first
          | (cases h; done)
          | (cases h; exact ⟨_, by simp only [execOp, Op.unary, e, Op.intArith]; rfl, .p _ _ (arith_rel hok)⟩)
    · cases h
  case convert s d x =>
    unfold evConv at h
    split at h
    · cases hx with
      | cons ha _ =>
        split at h
        · rename_i hk
          obtain ⟨r', hab, hr⟩ := map_some h
          cases hr
          obtain ⟨v, hv, hrel⟩ := aconv_sound (P := P) (M := M) hab (knownT_spec hk) ha.p_inv w
          exact ⟨v, by simp [execOp, hv], .p _ _ hrel⟩
        · cases h
    · cases h
  case index t x i =>
    unfold evIndex at h
    split at h
    · cases hx with
      | cons ha hx => cases hx with
        | cons hb _ =>
          obtain ⟨ht, he⟩ := bool?_some h
          cases he
          have e1 := ha.str_inv.1
          have e2 := hb.int_inv.1
          exact ⟨_, by simp [execOp, e1, e2, run_str_index ht _ _ _ hok.1 hok.2], .p _ _ (.int _ _ (has_u8 _))⟩
    · cases h
  case slice t x lo hi mx =>
    cases mx with
    | some m => cases h
    | none =>
      dsimp only at h
      have hx' : ARels γ M xs (ρ x :: ((lo.toList ++ hi.toList).map ρ)) := by
        cases lo <;> cases hi <;> simpa using hx
      obtain ⟨v, hv, hrel⟩ := evSlice_sound (P := P) h hok hx' w
      exact ⟨v, by simp [execOp, hv], hrel⟩
  case extract x i =>
    unfold evExtract at h
    split at h
    · cases hx with
      | cons ha _ =>
        split at h
        · rename_i hb
          have hb : i < _ := Nat.le_of_ble_eq_true hb
          cases h
          obtain ⟨vs, hv, hs, hr⟩ := ha.tup_inv
          obtain ⟨u, hu1, hu2⟩ : ∃ u, vs[i]? = some u ∧ vs.getD i undef = u :=
            ⟨vs[i]'(by omega), Array.getElem?_eq_getElem (by omega), by rw [Array.getD_eq_getD_getElem?, Array.getElem?_eq_getElem (by omega)]; rfl⟩
          exact ⟨u, by simp [execOp, Instr.extract, hv, hu1], hu2 ▸ hr i hb⟩
        · cases h
    · cases h
  case field t x f =>
    unfold evField at h
    split at h
    · cases hx with
      | cons ha _ =>
        split at h
        · rename_i fd hfd
          obtain ⟨r', hab, hr⟩ := map_some h
          cases hr
          obtain ⟨fs, hu, hf⟩ := fieldOf_spec hfd
          obtain ⟨vs, hv, hs, hr⟩ := ha.agg_inv
          obtain ⟨v, hp, hrel⟩ := apart_sound (P := P) hab hs hr w
          exact ⟨v, by simp [execOp, Instr.field, run_underlying hu, hf, hv, asAgg, hp], hrel⟩
        · cases h
    · cases h
  case fieldAddr t x f =>
    unfold evFieldAddr at h
    split at h
    · cases hx with
      | cons ha _ =>
        split at h
        · rename_i fd hfd
          split at h
          · rename_i n hn
            obtain ⟨r', hab, hr⟩ := map_some h
            cases hr
            obtain ⟨fs, hu, hf⟩ := fieldOf_spec hfd
            obtain ⟨b, off, hv, hrel⟩ := shiftAddr_sound hab ha
            exact ⟨_, by simp [execOp, Instr.fieldAt, run_underlying hu, hf, hv, Instr.sureAddr, fieldPlace, run_sizeOf hn, addr_add], hrel⟩
          · cases h
        · cases h
    · cases h
  case indexAddr t x i =>
    unfold evIndexAddr at h
    split at h
    · rename_i k n f kk j
      cases hx with
      | cons ha hx => cases hx with
        | cons hb _ =>
          split at h
          · rename_i k' hk'
            obtain ⟨hbq, he⟩ := bool?_some h
            cases he
            have hkk := Nat.eq_of_beq_eq_true hbq
            subst hkk
            have e2 := hb.int_inv.1
            generalize hv : ρ x = vx at ha
            cases ha.p_inv with
            | listNil k f => exact absurd hok (by omega)
            | list k n f b off cap g hm hc hM hf =>
              exact ⟨.pointer (some ⟨b, off + j.toNat * k, none⟩), by simp [execOp, hv, e2, run_indexAt_slice hk' _ _ _ _ _ _ hok.1 hok.2],
                .p _ _ (.box _ _ _ _ (fun q => g _ q) (fun q hq => hM _ q (by omega) hq) (fun q hq => hf _ q (by omega) hq))⟩
          · cases h
    · rename_i l kk j
      cases hx with
      | cons ha hx => cases hx with
        | cons hb _ =>
          split at h
          · rename_i k' hk'
            obtain ⟨hbq, he⟩ := bool?_some h
            cases he
            have hkk := Nat.eq_of_beq_eq_true hbq
            subst hkk
            have e2 := hb.int_inv.1
            rcases bytes_inv ha.p_inv with ⟨rfl, _⟩ | ⟨b, off, cap, hv, hm, hc, hM⟩
            · exact (by have := hok; simp only [List.length_nil] at this; omega : False).elim
            · have hlt : j.toNat < l.length := by omega
              refine ⟨.pointer (some ⟨b, off + j.toNat * 1, none⟩), by simp only [execOp, hv, e2, Sem.run_bind, run_indexAt_slice hk' _ _ _ _ _ _ hok.1 hok.2]; rfl,
                .p _ _ (.box _ _ _ _ (fun _ => byteV (l.getD j.toNat 0)) (fun q hq => ?_) (fun q hq => .int _ _ (has_u8 _)))⟩
              have hj0 : q = 0 := by omega
              subst hj0
              have := hM _ _ (List.getElem?_eq_getElem hlt)
              simp only [Nat.mul_one, Nat.add_zero]
              rw [this, List.getD_eq_getElem?_getD, List.getElem?_eq_getElem hlt]
              rfl
          · cases h
    · cases h
  case makeFunc fn a b =>
    cases h
    have hx' : ARels γ M xs ((a.toList ++ b.toList).map ρ) := by simpa using hx
    have h1 := hx'.take a.size
    have h2 := hx'.drop a.size
    have e1 : ((a.toList ++ b.toList).map ρ).take a.size = a.toList.map ρ := by rw [List.map_append, List.take_left']; simp
    have e2 : ((a.toList ++ b.toList).map ρ).drop a.size = b.toList.map ρ := by rw [List.map_append, List.drop_left']; simp
    rw [e1] at h1
    rw [e2] at h2
    refine ⟨.func fn (a.map ρ) (b.map ρ), by simp [execOp, Instr.makeFunc], .clo _ _ _ _ _ ?_ ?_ ?_ ?_⟩
    · have := h1.length; simpa using this
    · have := h2.length; simpa using this
    · intro i hi
      have := h1.get i hi
      simpa [Array.getD_eq_getD_getElem?, List.getD_eq_getElem?_getD] using this
    · intro i hi
      have := h2.get i hi
      simpa [Array.getD_eq_getD_getElem?, List.getD_eq_getElem?_getD] using this
  case nilCheck x =>
    unfold evNilCheck at h
    split at h
    · cases h
      cases hx with
      | cons ha _ =>
        generalize hv : ρ x = v at ha
        cases ha with
        | ref id off b hb => exact ⟨_, by simp [execOp, hv], .ref _ _ _ hb⟩
    · cases h
      cases hx with
      | cons ha _ =>
        generalize hv : ρ x = v at ha
        cases ha.p_inv with
        | box n f b off g hM hf => exact ⟨_, by simp [execOp, hv], .p _ _ (.box _ _ _ _ _ hM hf)⟩
    · cases h
  case call c =>
    obtain ⟨callee, args, ts⟩ := c
    cases callee with
    | value f => cases h
    | invoke r m => cases h
    | builtin b =>
      dsimp only [evCallP] at h
      have hx' : ARels γ M xs (args.toList.map ρ) := by simpa [Call.operands] using hx
      have hrun : ∀ v, (builtin b ts type (args.map fun | .const _ => true | _ => false) (args.map ρ)).run P w = .ok (.value v) w →
          (execOp ρ ⟨dst, .call ⟨.builtin b, args, ts⟩, type, pos, after, guard⟩).run P w = .ok (.value v) w := fun v hv => by
        simp only [execOp, resolve, Sem.run_bind, Sem.run_pure, Result.andThen_ok, invoke]
        exact hv
      unfold evBuiltin at h
      cases args with
      | mk al =>
      dsimp only at hx'
      cases b <;> dsimp only at h <;> first | (cases h; done) | skip
      case len =>
        cases hts : ts[0]? with
        | none => rw [hts] at h; cases h
        | some t =>
          rw [hts] at h
          dsimp only at h
          generalize hvs : al.map ρ = vs at hx'
          have hal : (List.toArray al).map ρ = vs.toArray := by rw [← hvs]; simp
          rw [hal] at hrun
          clear hvs hal
          cases hx' with
          | nil => cases h
          | cons ha ht =>
            cases ht with
            | cons _ _ => simp [evLen] at h
            | nil =>
              rename_i u a
              cases u with
              | p y =>
                cases y with
                | str l =>
                  obtain ⟨hk, he⟩ := bool?_some h; cases he
                  obtain ⟨e1, hm⟩ := ha.str_inv
                  have hsz : (⟨l.toArray⟩ : ByteArray).size = l.length := rfl
                  exact ⟨.int .i64 (l.length : Int), hrun _ (by simp only [builtin, Builtin.len_, List.getElem?_toArray, List.getElem?_cons_zero, hts, e1, Sem.run_bind, run_underlying (isStrT_spec hk), Result.andThen_ok, goInt, hsz]; rfl), .p _ _ (.int _ _ (has_nat_i64 hm))⟩
                | bytes l =>
                  obtain ⟨hk, he⟩ := bool?_some h; cases he
                  obtain ⟨e, hu⟩ := isSliceT_spec hk
                  rcases bytes_inv ha.p_inv with ⟨rfl, rfl⟩ | ⟨b, off, cap, rfl, hm, _, _⟩
                  · exact ⟨_, hrun _ (by simp [builtin, Builtin.len_, hts, run_underlying hu, goInt]), .p _ _ (.int _ _ (has_nat_i64 (n := 0) (by simp [maxLen])))⟩
                  · exact ⟨_, hrun _ (by simp [builtin, Builtin.len_, hts, run_underlying hu, goInt]), .p _ _ (.int _ _ (has_nat_i64 hm))⟩
                | list k n f =>
                  obtain ⟨hk, he⟩ := bool?_some h; cases he
                  obtain ⟨e, hu⟩ := isSliceT_spec hk
                  cases ha.p_inv with
                  | listNil k f => exact ⟨_, hrun _ (by simp [builtin, Builtin.len_, hts, run_underlying hu, goInt]), .p _ _ (.int _ _ (has_nat_i64 (n := 0) (by simp [maxLen])))⟩
                  | list k n f b off cap g hm hc hM hf => exact ⟨_, hrun _ (by simp [builtin, Builtin.len_, hts, run_underlying hu, goInt]), .p _ _ (.int _ _ (has_nat_i64 hm))⟩
                | nil =>
                  obtain ⟨hk, he⟩ := bool?_some h; cases he
                  obtain ⟨e, hu⟩ := isSliceT_spec hk
                  cases ha.p_inv
                  exact ⟨_, hrun _ (by simp [builtin, Builtin.len_, hts, run_underlying hu, goInt]), .p _ _ (.int _ _ (has_nat_i64 (n := 0) (by simp [maxLen])))⟩
                | _ => cases h
              | _ => cases h
      case min =>
        generalize hvs : al.map ρ = vs at hx'
        have hal : (List.toArray al).map ρ = vs.toArray := by rw [← hvs]; simp
        rw [hal] at hrun
        clear hvs hal
        cases hx' with
        | nil => cases h
        | cons ha ht =>
          unfold evMin at h
          split at h
          · rename_i heq
            cases heq
            obtain ⟨n, hn, he⟩ := map_some h
            cases he
            obtain ⟨e1, hm⟩ := ha.int_inv
            obtain ⟨h1, h2⟩ := foldMin_sound (P := P) _ _ _ _ hn ht hm w
            exact ⟨_, hrun _ (by simp only [builtin, Builtin.min_, e1, Sem.run_bind]; rw [h1]; rfl), .p _ _ (.int _ _ h2)⟩
          · cases h
      case max =>
        generalize hvs : al.map ρ = vs at hx'
        have hal : (List.toArray al).map ρ = vs.toArray := by rw [← hvs]; simp
        rw [hal] at hrun
        clear hvs hal
        cases hx' with
        | nil => cases h
        | cons ha ht =>
          unfold evMax at h
          split at h
          · rename_i heq
            cases heq
            obtain ⟨n, hn, he⟩ := map_some h
            cases he
            obtain ⟨e1, hm⟩ := ha.int_inv
            obtain ⟨h1, h2⟩ := foldMax_sound (P := P) _ _ _ _ hn ht hm w
            exact ⟨_, hrun _ (by simp only [builtin, Builtin.max_, e1, Sem.run_bind]; rw [h1]; rfl), .p _ _ (.int _ _ h2)⟩
          · cases h
end Go.Am
