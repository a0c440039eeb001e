/-
  The abstract machine of these proofs.
-/
import Derived.Test.YtdjlilhdgnogaaaAmRule
set_option linter.unusedVariables false
/-! Regions whose order is open: every order answers as the text's. -/
namespace Go.Am
open Go Go.RowKit
variable {P : Program} {γ γ' : Nat → Option G} {M M' : Mem} {C : Ctx} {s s' : S} {a a' : Act} {w w' : World}

def birthOp : Op → Bool
  | .alloc _ | .box _ _ | .buildSlice _ _ _ | .makeSlice _ _ _ => true
  | _ => false
def effOp : Op → Bool
  | .store _ _ _ => true
  | .call ⟨.builtin .append, _, _⟩ => true
  | op => birthOp op
/-- Operations that never look at the call's own memory. -/
def pureOp : Op → Bool
  | .move _ | .assign _ | .pick _ _ _ | .binOp _ _ _ _ _ | .unOp _ _ _ | .index _ _ _ | .slice _ _ _ _ _ | .extract _ _ | .field _ _ _ | .fieldAddr _ _ _ | .makeFunc _ _ _ | .nilCheck _ | .build _ _ => true
  | _ => false

def indepB (ops : Array Oper) (y x : Oper) : Bool :=
  Oper.apart ops y x && ((!effOp y.op && !effOp x.op) || (!effOp y.op && birthOp x.op) || (effOp y.op && pureOp x.op) || (pureOp y.op && effOp x.op))

theorem upd_comm {α : Type} (f : Nat → α) {i j : Nat} (x y : α) (h : i ≠ j) : upd (upd f i x) j y = upd (upd f j y) i x := by
  funext t
  by_cases h1 : t = i
  · subst h1; rw [upd_ne _ _ h, upd_same, upd_same]
  · by_cases h2 : t = j
    · subst h2; rw [upd_same, upd_ne _ _ h1, upd_same]
    · rw [upd_ne _ _ h2, upd_ne _ _ h1, upd_ne _ _ h1, upd_ne _ _ h2]

/-- An operation does not see what is written to a slot that it does not name. -/
theorem args_upd {ops : Array Oper} {o : Oper} {d : Nat} (h : d ∉ Oper.looksAt ops o) (σ : Nat → AV) (v : AV) :
    o.op.operands.toList.map (aev (upd σ d v)) = o.op.operands.toList.map (aev σ) := by
  refine List.map_congr_left fun x hx => ?_
  cases x with
  | tmp t =>
    have : t ≠ d := by
      intro e; subst e
      exact h (List.mem_append_left _ (List.mem_filterMap.2 ⟨.tmp t, hx, rfl⟩))
    exact upd_ne _ _ this
  | _ => rfl

theorem guard_upd {ops : Array Oper} {o : Oper} {d : Nat} (h : d ∉ Oper.looksAt ops o) (σ : Nat → AV) (v : AV) : guardOf ops (upd σ d v) o = guardOf ops σ o := by
  unfold guardOf
  cases hg : o.guard with
  | none => rfl
  | some jw =>
    obtain ⟨j, want⟩ := jw
    dsimp only
    cases ht : (ops[j]?).bind (·.dst) with
    | none => rfl
    | some t =>
      have : t ≠ d := by
        intro e; subst e
        exact h (List.mem_append_right _ (by simp [hg, ht]))
      dsimp only
      rw [upd_ne _ _ this]

/-- What an operation does, by kind. -/
structure Res where
  v : AV
  ps : List Prop

/-- A step that yields a value. -/
def vstep (P : Program) (env : Env) (nt : Nat) (ops : Array Oper) (o : Oper) (σ : Nat → AV) (ob : Nat → Option AObj) : Option Res :=
  match guardOf ops σ o, dstOk nt o.dst with
  | some g, true =>
    match evV P env ob o.op (stripOp g o.op (o.op.operands.toList.map (aev σ))).1 with
    | some (r, ok) => some ⟨guarded g r, (stripOp g o.op (o.op.operands.toList.map (aev σ))).2 ++ oks g ok⟩
    | none => none
  | _, _ => none

theorem vstep_upd {env : Env} {nt : Nat} {ops : Array Oper} {o : Oper} {d : Nat} (h : d ∉ Oper.looksAt ops o) (σ : Nat → AV) (v : AV) (ob : Nat → Option AObj) :
    vstep P env nt ops o (upd σ d v) ob = vstep P env nt ops o σ ob := by
  unfold vstep
  rw [guard_upd h, args_upd h]

theorem evV_eff {env : Env} {ob : Nat → Option AObj} {op : Op} (h : effOp op = true) (xs : List AV) : evV P env ob op xs = none := by
  cases op <;> simp only [effOp, birthOp, reduceCtorEq] at h <;> try rfl
  rename_i c
  obtain ⟨callee, args, ts⟩ := c
  cases callee with
  | value f => simp only [reduceCtorEq] at h
  | invoke r m => simp only [reduceCtorEq] at h
  | builtin b => cases b <;> first | rfl | (simp only [reduceCtorEq] at h)

theorem evE_noneff {o : Oper} (h : effOp o.op = false) (s : S) (xs : List AV) : evE P s o xs = none := by
  unfold evE
  split
  · rename_i heq; rw [heq] at h; cases h
  · rename_i heq; rw [heq] at h; cases h
  · have : evB P o.op xs = none := by
      cases hop : o.op <;> rw [hop] at h <;> simp only [effOp, birthOp, reduceCtorEq] at h <;> rfl
    rw [this]

theorem astep_val {env : Env} {nt : Nat} {ops : Array Oper} {o : Oper} (h : effOp o.op = false) (s : S) :
    astep P env nt ops o s = (vstep P env nt ops o s.sl s.ob).map fun r => (aset s o.dst r.v, r.ps) := by
  unfold astep vstep
  cases guardOf ops s.sl o with
  | none => rfl
  | some g =>
    cases dstOk nt o.dst with
    | false => rfl
    | true =>
      dsimp only
      cases evV P env s.ob o.op (stripOp g o.op (o.op.operands.toList.map (aev s.sl))).1 with
      | some q => rfl
      | none =>
        dsimp only
        cases g with
        | some _ => rfl
        | none => rw [evE_noneff h]; rfl

/-- A step that makes or changes memory. -/
def estep (P : Program) (nt : Nat) (ops : Array Oper) (o : Oper) (s : S) : Option (S × List Prop) :=
  match guardOf ops s.sl o, dstOk nt o.dst with
  | some none, true => (evE P s o (stripOp none o.op (o.op.operands.toList.map (aev s.sl))).1).map fun r => (r.1, (stripOp none o.op (o.op.operands.toList.map (aev s.sl))).2 ++ oks none r.2)
  | _, _ => none

theorem astep_eff {env : Env} {nt : Nat} {ops : Array Oper} {o : Oper} (h : effOp o.op = true) (s : S) : astep P env nt ops o s = estep P nt ops o s := by
  unfold astep estep
  cases guardOf ops s.sl o with
  | none => rfl
  | some g =>
    cases dstOk nt o.dst with
    | false => cases g <;> rfl
    | true =>
      dsimp only
      rw [evV_eff h]
      cases g <;> rfl

/-- What is known of fewer objects is known of more. -/
def OLe (ob ob' : Nat → Option AObj) : Prop := ∀ i o, ob i = some o → ob' i = some o

theorem snap1_mono {ob ob' : Nat → Option AObj} (h : OLe ob ob') {x z : AV} (hs : snap1 ob x = some z) : snap1 ob' x = some z := by
  cases x with
  | arr id =>
    dsimp only [snap1] at hs ⊢
    cases ho : ob id with
    | none => rw [ho] at hs; cases hs
    | some o => rw [ho] at hs; rw [h id o ho]; exact hs
  | _ => exact hs
theorem allSome_mono {α β : Type} {f g : α → Option β} (h : ∀ x y, f x = some y → g x = some y) : ∀ {l : List α} {r : List β}, allSome f l = some r → allSome g l = some r := by
  intro l
  induction l with
  | nil => intro r hr; exact hr
  | cons x l ih =>
    intro r hr
    simp only [allSome] at hr ⊢
    cases hx : f x with
    | none => rw [hx] at hr; cases hr
    | some y =>
      cases hl : allSome f l with
      | none => rw [hx, hl] at hr; cases hr
      | some ys => rw [hx, hl] at hr; rw [h x y hx, ih hl]; exact hr
theorem snap_mono {ob ob' : Nat → Option AObj} (h : OLe ob ob') {x z : AV} (hs : snap ob x = some z) : snap ob' x = some z := by
  cases x with
  | agg cs =>
    obtain ⟨zs, hz, he⟩ := map_some hs
    cases he
    show (allSome (snap1 ob') cs).map AV.agg = _
    rw [allSome_mono (fun x y => snap1_mono h) hz]; rfl
  | clo fn fs cs =>
    cases fs with
    | nil => cases cs with
      | nil => exact hs
      | cons _ _ => cases hs
    | cons _ _ => cases hs
  | any => exact snap1_mono h (x := .any) hs
  | p q => exact snap1_mono h (x := .p q) hs
  | ref i j => exact snap1_mono h (x := .ref i j) hs
  | arr i => exact snap1_mono h (x := .arr i) hs
  | aptr i j k => exact snap1_mono h (x := .aptr i j k) hs
  | tup l => exact snap1_mono h (x := .tup l) hs
  | gd c y => exact snap1_mono h (x := .gd c y) hs

theorem evL_mono {ob ob' : Nat → Option AObj} (h : OLe ob ob') {op : Op} {xs : List AV} {r : AV × Option Prop} (he : evL P ob op xs = some r) : evL P ob' op xs = some r := by
  cases op <;> simp only [evL, reduceCtorEq] at he ⊢
  case load t x =>
    unfold evLoad at he ⊢
    split at he
    · rename_i id off
      cases ho : ob id with
      | none => rw [ho] at he; cases he
      | some o => rw [ho] at he; rw [h id o ho]; exact he
    · exact he
    · rename_i id i j
      cases ho : ob id with
      | none => rw [ho] at he; cases he
      | some o => rw [ho] at he; rw [h id o ho]; exact he
    · cases he
  case indexAddr t x i =>
    unfold evIndexAddrL at he ⊢
    split at he
    · rename_i id kk i'
      cases ho : ob id with
      | none => rw [ho] at he; revert he; cases elemSize P t <;> intro he <;> cases he
      | some o => rw [ho] at he; rw [h id o ho]; exact he
    · cases he
  case convert sT d x =>
    unfold evConvL at he ⊢
    split at he
    · rename_i id
      cases ho : ob id with
      | none => rw [ho] at he; cases he
      | some o => rw [ho] at he; rw [h id o ho]; exact he
    · exact he
    · exact he
    · cases he
  case call c =>
    obtain ⟨callee, args, ts⟩ := c
    cases callee with
    | value f => cases he
    | invoke r m => cases he
    | builtin b =>
      cases b <;> dsimp only at he ⊢ <;> first | (cases he; done) | skip
      cases hts : ts[0]? with
      | none => rw [hts] at he; cases he
      | some t =>
        rw [hts] at he
        dsimp only at he ⊢
        unfold evLenL at he ⊢
        split at he
        · rename_i id
          cases ho : ob id with
          | none => rw [ho] at he; cases he
          | some o => rw [ho] at he; rw [h id o ho]; exact he
        · cases he

theorem evC_mono {env : Env} {ob ob' : Nat → Option AObj} (h : OLe ob ob') {op : Op} {xs : List AV} {r : AV × Option Prop} (he : evC env ob op xs = some r) : evC env ob' op xs = some r := by
  unfold evC at he ⊢
  split at he
  · split at he
    · rename_i f fs cs ys
      cases hz : allSome (snap ob) (fs ++ (ys ++ cs)) with
      | none => rw [hz] at he; cases he
      | some zs => rw [hz] at he; rw [allSome_mono (fun x y => snap_mono h) hz]; exact he
    · cases he
  · cases he

/-- With more objects an operation may yield where it did not; where it did, it yields the same. -/
theorem evV_mono {env : Env} {ob ob' : Nat → Option AObj} (h : OLe ob ob') {op : Op} {xs : List AV} {r : AV × Option Prop} (he : evV P env ob op xs = some r) : evV P env ob' op xs = some r := by
  unfold evV at he ⊢
  cases h1 : evP P op xs with
  | some q => rw [h1] at he; exact he
  | none =>
    rw [h1] at he
    dsimp only at he ⊢
    cases h2 : evL P ob op xs with
    | some q => rw [h2] at he; rw [evL_mono h h2]; exact he
    | none =>
      rw [h2] at he
      dsimp only at he
      have h3 : evL P ob' op xs = none ∨ ∃ q, evL P ob' op xs = some q := by cases evL P ob' op xs with | none => exact .inl rfl | some q => exact .inr ⟨q, rfl⟩
      split at he
      · rename_i t ps
        have : evL P ob' (.build t ps) xs = none := rfl
        rw [this]; exact he
      · rename_i hne
        -- a call of a known function is none of the reading operations
        have hc : ∃ f args ts, op = .call ⟨.value f, args, ts⟩ := by
          unfold evC at he
          split at he
          · exact ⟨_, _, _, rfl⟩
          · cases he
        obtain ⟨f, args, ts, rfl⟩ := hc
        have : evL P ob' (.call ⟨.value f, args, ts⟩) xs = none := rfl
        rw [this]
        exact evC_mono h he

theorem evV_pure {env : Env} {ob ob' : Nat → Option AObj} {op : Op} (h : pureOp op = true) (xs : List AV) : evV P env ob op xs = evV P env ob' op xs := by
  unfold evV
  cases op <;> simp only [pureOp, reduceCtorEq] at h <;> rfl

theorem vstep_mono {env : Env} {nt : Nat} {ops : Array Oper} {o : Oper} {σ : Nat → AV} {ob ob' : Nat → Option AObj} (h : OLe ob ob') {r : Res} (he : vstep P env nt ops o σ ob = some r) : vstep P env nt ops o σ ob' = some r := by
  unfold vstep at he ⊢
  split at he
  · rename_i g hg hd
    cases hv : evV P env ob o.op (stripOp g o.op (o.op.operands.toList.map (aev σ))).1 with
    | none => rw [hv] at he; cases he
    | some q => rw [hv] at he; rw [evV_mono h hv]; exact he
  · cases he
theorem vstep_pure {env : Env} {nt : Nat} {ops : Array Oper} {o : Oper} {σ : Nat → AV} {ob ob' : Nat → Option AObj} (h : pureOp o.op = true) : vstep P env nt ops o σ ob = vstep P env nt ops o σ ob' := by
  unfold vstep
  split
  · rw [evV_pure h]
  · rfl

theorem evE_sl {s : S} {o : Oper} {xs : List AV} {ok : Option Prop} (h : evE P s o xs = some (s', ok)) :
    ∃ hv : AV, s'.sl = pset s.sl o.dst hv ∧ (∀ σ, evE P { s with sl := σ } o xs = some ({ s' with sl := pset σ o.dst hv }, ok)) ∧ (birthOp o.op = true → OLe s.ob s'.ob) := by
  unfold evE at h
  split at h
  · rename_i t x y hop
    split at h
    · rename_i hd
      obtain ⟨r, hr, he⟩ := map_some h
      cases he
      refine ⟨.any, by rw [hd]; rfl, fun σ => ?_, fun hb => by rw [hop] at hb; cases hb⟩
      unfold evE
      rw [hop]
      dsimp only
      rw [hd]
      dsimp only
      rw [hr]; rfl
    · cases h
  · rename_i args ts hop
    split at h
    · rename_i t tx d x y ht htx hd
      split at h
      · rename_i hu hsz
        obtain ⟨r, hr, he⟩ := map_some h
        cases he
        refine ⟨.arr d, by rw [hd]; rfl, fun σ => ?_, fun hb => by rw [hop] at hb; cases hb⟩
        unfold evE
        rw [hop]
        dsimp only
        rw [ht, htx, hd]
        dsimp only
        rw [hu, hsz]

        rw [hr]; rfl
      · cases h
    · cases h
  · rename_i hn1 hn2
    split at h
    · rename_i ob ok' d hB hd
      split at h
      · rename_i hu ho
        cases h
        refine ⟨ob.handle d, by rw [hd]; rfl, fun σ => ?_, fun _ i o' hi => ?_⟩
        · unfold evE
          split
          · rename_i heq; exact absurd heq (hn1 _ _ _)
          · rename_i heq; exact absurd heq (hn2 _ _)
          · rw [hB, hd]
            dsimp only
            rw [hu, ho]
            rfl
        · have : i ≠ d := by intro e; subst e; rw [ho] at hi; cases hi
          show upd s.ob d _ i = _
          rw [upd_ne _ _ this]; exact hi
      · cases h
    · cases h

theorem apart_dst {ops : Array Oper} {x y : Oper} (h : x.apart ops y = true) : (∀ d, x.dst = some d → d ∉ y.looksAt ops) ∧ (∀ d, x.dst = some d → y.dst ≠ some d) ∧ (∀ d, y.dst = some d → d ∉ x.looksAt ops) :=
  Oper.apart_spec h

theorem vstep_pset {env : Env} {nt : Nat} {ops : Array Oper} {o : Oper} {dst : Option Nat} (h : ∀ d, dst = some d → d ∉ Oper.looksAt ops o) (σ : Nat → AV) (v : AV) (ob : Nat → Option AObj) :
    vstep P env nt ops o (pset σ dst v) ob = vstep P env nt ops o σ ob := by
  cases dst with
  | none => rfl
  | some d => exact vstep_upd (h d rfl) σ v ob

theorem pset_comm {σ : Nat → AV} {d d' : Option Nat} (v v' : AV) (h : ∀ x, d = some x → d' ≠ some x) : pset (pset σ d v) d' v' = pset (pset σ d' v') d v := by
  cases d with
  | none => rfl
  | some x =>
    cases d' with
    | none => rfl
    | some x' => exact upd_comm σ v v' (fun e => h x rfl (by rw [e]))

theorem guard_pset {ops : Array Oper} {o : Oper} {dst : Option Nat} (h : ∀ d, dst = some d → d ∉ Oper.looksAt ops o) (σ : Nat → AV) (v : AV) : guardOf ops (pset σ dst v) o = guardOf ops σ o := by
  cases dst with
  | none => rfl
  | some d => exact guard_upd (h d rfl) σ v
theorem args_pset {ops : Array Oper} {o : Oper} {dst : Option Nat} (h : ∀ d, dst = some d → d ∉ Oper.looksAt ops o) (σ : Nat → AV) (v : AV) :
    o.op.operands.toList.map (aev (pset σ dst v)) = o.op.operands.toList.map (aev σ) := by
  cases dst with
  | none => rfl
  | some d => exact args_upd (h d rfl) σ v

theorem estep_inv {nt : Nat} {ops : Array Oper} {o : Oper} {p : List Prop} (h : estep P nt ops o s = some (s', p)) :
    ∃ hv : AV, s'.sl = pset s.sl o.dst hv ∧ (∀ σ, guardOf ops σ o = guardOf ops s.sl o → o.op.operands.toList.map (aev σ) = o.op.operands.toList.map (aev s.sl) →
      estep P nt ops o { s with sl := σ } = some ({ s' with sl := pset σ o.dst hv }, p)) ∧ (birthOp o.op = true → OLe s.ob s'.ob) := by
  unfold estep at h
  split at h
  · rename_i hg hd
    obtain ⟨⟨s2, ok⟩, hE, he⟩ := map_some h
    cases he
    obtain ⟨hv, e1, e2, e3⟩ := evE_sl hE
    refine ⟨hv, e1, fun σ h1 h2 => ?_, e3⟩
    unfold estep
    rw [show guardOf ops ({ s with sl := σ } : S).sl o = some none from h1.trans hg, hd]
    show (evE P { s with sl := σ } o (stripOp none o.op (o.op.operands.toList.map (aev σ))).1).map (fun r => (r.1, (stripOp none o.op (o.op.operands.toList.map (aev σ))).2 ++ oks none r.2)) = _
    rw [h2, e2 σ]
    rfl
  · cases h

/-- Two operations of which neither sees the other may be carried out in either order. -/
theorem swap {env : Env} {nt : Nat} {ops : Array Oper} {x y : Oper} {s s1 s2 : S} {p1 p2 : List Prop} (hi : indepB ops y x = true)
    (h1 : astep P env nt ops y s = some (s1, p1)) (h2 : astep P env nt ops x s1 = some (s2, p2)) :
    ∃ s1', astep P env nt ops x s = some (s1', p2) ∧ astep P env nt ops y s1' = some (s2, p1) := by
  unfold indepB at hi
  rw [Bool.and_eq_true] at hi
  obtain ⟨hap, hk⟩ := hi
  obtain ⟨a1, a2, a3⟩ := apart_dst hap
  cases ey : effOp y.op with
  | false =>
    rw [astep_val ey] at h1
    obtain ⟨ry, hy, he⟩ := map_some h1
    cases he
    cases ex : effOp x.op with
    | false =>
      rw [astep_val ex] at h2
      obtain ⟨rx, hx, he⟩ := map_some h2
      cases he
      have hx' : vstep P env nt ops x s.sl s.ob = some rx := by
        rw [← vstep_pset (P := P) (env := env) (nt := nt) a1 s.sl ry.v s.ob]; exact hx
      refine ⟨aset s x.dst rx.v, by rw [astep_val ex, hx']; rfl, ?_⟩
      rw [astep_val ey]
      have : vstep P env nt ops y (pset s.sl x.dst rx.v) s.ob = some ry := by
        rw [vstep_pset (P := P) a3]; exact hy
      show (vstep P env nt ops y (pset s.sl x.dst rx.v) s.ob).map _ = _
      rw [this]
      simp only [Option.map_some, aset]
      rw [pset_comm rx.v ry.v (fun d hd e => a2 d e hd)]
    | true =>
      rw [astep_eff ex] at h2
      obtain ⟨hv, e1, e2, e3⟩ := estep_inv h2
      have hs := e2 s.sl (guard_pset a1 s.sl ry.v).symm (args_pset a1 s.sl ry.v).symm
      refine ⟨{ s2 with sl := pset s.sl x.dst hv }, by rw [astep_eff ex]; exact hs, ?_⟩
      rw [astep_val ey]
      have hmem : vstep P env nt ops y s.sl s2.ob = some ry := by
        cases hp : pureOp y.op with
        | true => rw [vstep_pure (ob' := s.ob) hp]; exact hy
        | false =>
          have hb : birthOp x.op = true := by
            rw [ey, ex, hp] at hk
            simpa using hk
          exact vstep_mono (e3 hb) hy
      have : vstep P env nt ops y (pset s.sl x.dst hv) s2.ob = some ry := by
        rw [vstep_pset (P := P) a3]; exact hmem
      show (vstep P env nt ops y (pset s.sl x.dst hv) s2.ob).map _ = _
      rw [this]
      simp only [Option.map_some, aset]
      have e4 : pset (pset s.sl x.dst hv) y.dst ry.v = s2.sl := by
        rw [e1]
        show _ = pset (pset s.sl y.dst ry.v) x.dst hv
        rw [pset_comm hv ry.v (fun d hd e => a2 d e hd)]
      rw [e4]
  | true =>
    have hp : pureOp x.op = true := by
      rw [ey] at hk
      cases hp : pureOp x.op with
      | true => rfl
      | false =>
        have hpy : pureOp y.op = false := by cases hop : y.op <;> rw [hop] at ey <;> first | rfl | (simp only [effOp, birthOp, reduceCtorEq] at ey)
        rw [hp, hpy] at hk
        simp at hk
    have ex : effOp x.op = false := by cases hop : x.op <;> rw [hop] at hp <;> first | rfl | (simp only [pureOp, reduceCtorEq] at hp)
    rw [astep_eff ey] at h1
    rw [astep_val ex] at h2
    obtain ⟨rx, hx, he⟩ := map_some h2
    cases he
    obtain ⟨hv, e1, e2, _⟩ := estep_inv h1
    have hx' : vstep P env nt ops x s.sl s.ob = some rx := by
      rw [vstep_pure (ob' := s1.ob) hp, ← vstep_pset (P := P) (env := env) (nt := nt) a1 s.sl hv s1.ob, ← e1]; exact hx
    refine ⟨aset s x.dst rx.v, by rw [astep_val ex, hx']; rfl, ?_⟩
    rw [astep_eff ey]
    have := e2 (pset s.sl x.dst rx.v) (guard_pset a3 s.sl rx.v) (args_pset a3 s.sl rx.v)
    refine this.trans ?_
    simp only [aset]
    rw [e1, pset_comm rx.v hv (fun d hd e => a2 d e hd)]
end Go.Am
