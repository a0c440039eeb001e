/-
  The abstract machine of these proofs.
-/
import Derived.Test.YtdjlilhdgnogaaaAmStep
set_option linter.unusedVariables false
/-! One operation; a region. -/
namespace Go.Am
open Go Go.RowKit
variable {P : Program} {γ γ' : Nat → Option G} {M M' : Mem} {C : Ctx} {s s' : S} {a a' : Act} {w w' : World}

def All : List Prop → Prop
  | [] => True
  | p :: r => p ∧ All r

theorem All.append {l r : List Prop} (h : All (l ++ r)) : All l ∧ All r := by
  induction l with
  | nil => exact ⟨trivial, h⟩
  | cons p l ih => exact ⟨⟨h.1, (ih h.2).1⟩, (ih h.2).2⟩
theorem All.mk {l r : List Prop} (h : All l) (k : All r) : All (l ++ r) := by
  induction l with
  | nil => exact k
  | cons p l ih => exact ⟨h.1, ih h.2⟩

/-- Under what an operation is carried out: none: always. -/
abbrev Gd := Option Bool
def Gd.holds : Gd → Prop
  | none => True
  | some c => c = true
def under (g : Gd) (p : Prop) : Prop :=
  match g with
  | none => p
  | some c => c = true → p
theorem under_use {g : Gd} {p : Prop} (h : under g p) (hg : g.holds) : p := by
  cases g with
  | none => exact h
  | some c => exact h hg

def strip1 (g : Gd) : AV → AV × List Prop
  | .gd c y => (y, [under g (c = true)])
  | x => (x, [])
def strip (g : Gd) : List AV → List AV × List Prop
  | [] => ([], [])
  | x :: r => ((strip1 g x).1 :: (strip g r).1, (strip1 g x).2 ++ (strip g r).2)
def stripOp (g : Gd) (op : Op) (xs : List AV) : List AV × List Prop :=
  match op, xs with
  | .pick _ _ _, x :: r => ((strip1 g x).1 :: r, (strip1 g x).2)
  | _, xs => strip g xs

theorem strip1_rel {g : Gd} {x : AV} {v : Value} (h : ARel γ M x v) (hg : g.holds) (ho : All (strip1 g x).2) : ARel γ M (strip1 g x).1 v := by
  cases x with
  | gd c y => exact h.gd_inv (under_use ho.1 hg)
  | _ => exact h
theorem strip_rel {g : Gd} (hg : g.holds) {xs : List AV} {vs : List Value} (h : ARels γ M xs vs) : All (strip g xs).2 → ARels γ M (strip g xs).1 vs := by
  induction h with
  | nil => intro _; exact .nil
  | cons h _ ih =>
    intro ho
    have := All.append ho
    exact .cons (strip1_rel h hg this.1) (ih this.2)
theorem stripOp_rel {g : Gd} (hg : g.holds) {op : Op} {xs : List AV} {vs : List Value} (h : ARels γ M xs vs) (ho : All (stripOp g op xs).2) : ARels γ M (stripOp g op xs).1 vs := by
  unfold stripOp at *
  split at ho
  · cases h with
    | cons h1 h2 => exact .cons (strip1_rel h1 hg ho) h2
  · exact strip_rel hg h ho

def guardOf (ops : Array Oper) (sl : Nat → AV) (o : Oper) : Option Gd :=
  match o.guard with
  | none => some none
  | some (j, want) => match (ops[j]?).bind (·.dst) with
    | some t => match sl t with
      | .p (.bool c) => some (some (match want with | true => c | false => !c))
      | .gd c1 (.p (.bool c)) => some (some (c1 && (match want with | true => c | false => !c)))
      | _ => none
    | none => none

theorem undef_ne_bool (c : Bool) : undef ≠ .bool c := by intro h; cases h

theorem guardOf_spec {ops : Array Oper} {o : Oper} {g : Gd} (hs : StG C γ M s a w) (h : guardOf ops s.sl o = some g) :
    (g.holds → Region.wanted o (yielded ops a.tmps) = true) ∧ (¬ g.holds → Region.wanted o (yielded ops a.tmps) = false) := by
  unfold guardOf at h
  unfold Region.wanted
  cases hg : o.guard with
  | none => rw [hg] at h; cases h; exact ⟨fun _ => rfl, fun hn => absurd trivial hn⟩
  | some jw =>
    obtain ⟨j, want⟩ := jw
    rw [hg] at h
    dsimp only at h ⊢
    cases ht : (ops[j]?).bind (·.dst) with
    | none => rw [ht] at h; cases h
    | some t =>
      rw [ht] at h
      dsimp only at h
      have hr := hs.sl t
      have hy : ∀ v, a.tmps.getD t undef = v → yielded ops a.tmps j = match v with | .bool b => some b | _ => none := by
        intro v hv
        unfold yielded
        rw [ht]
        show (match a.tmps[t]? with | some (.bool b) => some b | _ => none) = _
        rw [Array.getD_eq_getD_getElem?] at hv
        cases hq : a.tmps[t]? with
        | none => rw [hq] at hv; rw [← hv]; rfl
        | some u => rw [hq] at hv; rw [← hv]; cases u <;> rfl
      split at h
      · rename_i c hsl
        cases h
        rw [hsl] at hr
        have := hy _ hr.bool_inv
        rw [this]
        cases want <;> cases c <;> simp [Gd.holds]
      · rename_i c1 c hsl
        cases h
        rw [hsl] at hr
        cases hr with
        | gd _ _ _ h1 h0 =>
          cases c1 with
          | false =>
            have := hy _ (h0 rfl)
            rw [this]
            simp [Gd.holds, undef]
          | true =>
            have := hy _ (h1 rfl).bool_inv
            rw [this]
            cases want <;> cases c <;> simp [Gd.holds]
      · cases h

/-- What an operation yields, if it changes no memory of the call's own. -/
def evV (P : Program) (env : Env) (ob : Nat → Option AObj) (op : Op) (xs : List AV) : Option (AV × Option Prop) :=
  match evP P op xs with
  | some r => some r
  | none => match evL P ob op xs with
    | some r => some r
    | none => match op with
      | .build t ps => evBuild P t (ps.toList.map (·.1)) xs
      | op => evC env ob op xs

def guarded (g : Gd) (r : AV) : AV :=
  match g with
  | none => r
  | some c => .gd c r
def oks (g : Gd) : Option Prop → List Prop
  | none => []
  | some p => [under g p]

/-- What an operation does that changes memory. -/
def evE (P : Program) (s : S) (o : Oper) (xs : List AV) : Option (S × Option Prop) :=
  match o.op with
  | .store t _ _ => match o.dst with
    | none => (evStore P s.ob t xs).map fun r => ({ s with ob := upd s.ob r.1 (some r.2.1) }, r.2.2)
    | some _ => none
  | .call ⟨.builtin .append, _, ts⟩ => match ts[0]?, ts[1]?, o.dst, xs with
    | some t, some tx, some d, [x, y] => match s.us d, ts.size with
      | false, 2 => (evAppend P s.ob t tx [x, y]).map fun r => (sappend s d r.2.1 r.1, r.2.2)
      | _, _ => none
    | _, _, _, _ => none
  | op => match evB P op xs, o.dst with
    | some (ob, ok), some d => match s.us d, s.ob d with
      | false, none => some (sbirth s d ob, ok)
      | _, _ => none
    | _, _ => none

def astep (P : Program) (env : Env) (nt : Nat) (ops : Array Oper) (o : Oper) (s : S) : Option (S × List Prop) :=
  match guardOf ops s.sl o, dstOk nt o.dst with
  | some g, true =>
    match evV P env s.ob o.op (stripOp g o.op (o.op.operands.toList.map (aev s.sl))).1 with
    | some (r, ok) => some (aset s o.dst (guarded g r), (stripOp g o.op (o.op.operands.toList.map (aev s.sl))).2 ++ oks g ok)
    | none => match g with
      | some _ => none
      | none => (evE P s o (stripOp none o.op (o.op.operands.toList.map (aev s.sl))).1).map fun r => (r.1, (stripOp none o.op (o.op.operands.toList.map (aev s.sl))).2 ++ oks none r.2)
  | _, _ => none

theorem lits (a : Act) : Lits a.eval := fun _ => rfl

theorem evV_sound {env : Env} (henv : EnvOk P env) (hs : StG C γ M s a w) (o : Oper) (hd : dstOk C.nt o.dst = true) {xs : List AV} {r : AV} {ok : Option Prop}
    (h : evV P env s.ob o.op xs = some (r, ok)) (hok : okP ok) (hx : ARels γ M xs (o.op.operands.toList.map a.eval)) {next : Act → World → Prop} {Q : Exit → Act → World → Prop}
    (hn : ∀ v M' w', ARel γ M' r v → StG C γ M' (aset s o.dst r) (a.put o.dst v) w' → next (a.put o.dst v) w') : o.wp P a w next Q := by
  have val : ∀ v, (execOp a.eval o).run P w = .ok (.value v) w → ARel γ M r v → o.wp P a w next Q := fun v hv hr => by
    unfold Oper.wp
    rw [hv]
    exact hn v M w hr (hs.put hd (MLe.refl M) (Nat.le_refl _) (fun b _ => ⟨rfl, rfl⟩) hs.mem rfl rfl rfl hr)
  unfold evV at h
  cases h1 : evP P o.op xs with
  | some q =>
    rw [h1] at h; cases h
    obtain ⟨v, hv, hr⟩ := evP_sound (P := P) o a.eval (lits a) h1 hok hx w
    exact val v hv hr
  | none =>
    rw [h1] at h
    cases h2 : evL P s.ob o.op xs with
    | some q =>
      rw [h2] at h; cases h
      obtain ⟨v, hv, hr⟩ := evL_sound (P := P) hs o h2 hok hx
      exact val v hv hr
    | none =>
      rw [h2] at h
      dsimp only at h
      split at h
      · rename_i t ps hop
        rw [hop] at hx
        have hx' : ARels γ M xs (ps.toList.map fun p => a.eval p.2) := by simpa [Op.operands, Function.comp_def] using hx
        obtain ⟨v, hv, hr⟩ := evBuild_sound (P := P) h hx' w
        refine val v ?_ hr
        obtain ⟨dst, op, type, pos, after, guard⟩ := o
        dsimp only at hop
        subst hop
        simp [execOp, hv]
      · exact evC_sound henv hs o hd h hok hx hn

theorem evE_sound (hs : StG C γ M s a w) (o : Oper) (hd : dstOk C.nt o.dst = true) {xs : List AV} {s' : S} {ok : Option Prop}
    (h : evE P s o xs = some (s', ok)) (hok : okP ok) (hx : ARels γ M xs (o.op.operands.toList.map a.eval)) {next : Act → World → Prop} {Q : Exit → Act → World → Prop}
    (hn : ∀ γ' M' a' w', StG C γ' M' s' a' w' → next a' w') : o.wp P a w next Q := by
  unfold evE at h
  obtain ⟨dst, op, type, pos, after, guard⟩ := o
  dsimp only at hx h hd
  split at h
  · rename_i t x y
    cases dst with
    | some d => cases h
    | none =>
      dsimp only at h
      obtain ⟨⟨id, ob', ok'⟩, hst, he⟩ := map_some h
      cases he
      simp only [Op.operands, List.map_cons, List.map_nil] at hx
      cases hx with
      | cons h1 hx => cases hx with
        | cons h2 hx => cases hx with
          | nil =>
            obtain ⟨w', hrun, hst'⟩ := evStore_sound (P := P) hs hst hok h1 h2
            unfold Oper.wp
            have e : (execOp a.eval ⟨none, .store t x y, type, pos, after, guard⟩).run P w = .ok .skip w' := by
              simp only [execOp, Sem.run_bind, hrun, Result.andThen_ok]; rfl
            rw [e]
            exact hn _ _ _ _ hst'
  · rename_i args ts
    split at h
    · rename_i t tx d x y ht htx
      split at h
      · rename_i hus hsz
        obtain ⟨⟨ob', old, ok'⟩, hst, he⟩ := map_some h
        cases he
        have hx' : ARels γ M [x, y] (args.toList.map a.eval) := by simpa [Op.operands, Call.operands] using hx
        cases args with
        | mk al =>
        dsimp only at hx'
        generalize hvs : al.map a.eval = vs at hx'
        have hal : (List.toArray al).map a.eval = vs.toArray := by rw [← hvs]; simp
        cases hx' with
        | cons h1 hx => cases hx with
          | cons h2 hx => cases hx with
            | nil =>
              rename_i u v
              obtain ⟨r, w', γ', M', hrun, hst'⟩ := evAppend_sound (P := P) (ty := type) hs hd hus hst hok h1 h2
              have hts : ts = #[t, tx] := by
                apply Array.ext'
                match hq : ts, hsz with
                | ⟨[p, q]⟩, _ => simp [] at ht htx; simp [ht, htx]
              unfold Oper.wp
              have e : (execOp a.eval ⟨some d, .call ⟨.builtin .append, ⟨al⟩, ts⟩, type, pos, after, guard⟩).run P w = .ok (.value r) w' := by
                simp only [execOp, resolve, Sem.run_bind, Sem.run_pure, Result.andThen_ok, invoke, builtin, hal, hts, hrun]
              rw [e]
              exact hn _ _ _ _ hst'
      · cases h
    · cases h
  · rename_i hne1 hne2
    split at h
    · rename_i ob' ok' d hB
      split at h
      · rename_i hus hob
        cases h
        obtain ⟨v, w', γ', M', hrun, hst'⟩ := evB_sound (P := P) hs ⟨some d, op, type, pos, after, guard⟩ rfl hd hus hB hok hx
        unfold Oper.wp
        rw [hrun]
        exact hn _ _ _ _ hst'
      · cases h
    · cases h

theorem astep_sound {env : Env} (henv : EnvOk P env) {ops : Array Oper} {o : Oper} {ps : List Prop} (h : astep P env C.nt ops o s = some (s', ps)) (hps : All ps)
    (hs : St C s a w) {next : Act → World → Prop} {Q : Exit → Act → World → Prop} (hn : ∀ a' w', St C s' a' w' → next a' w') :
    if Region.wanted o (yielded ops a.tmps) then o.wp P a w next Q else next (a.put o.dst undef) w := by
  obtain ⟨γ, M, hs⟩ := hs
  unfold astep at h
  split at h
  · rename_i g hg hd
    have hargs : ARels γ M (o.op.operands.toList.map (aev s.sl)) (o.op.operands.toList.map a.eval) := ARels.map (aev_rel hs.sl) _
    obtain ⟨hw1, hw2⟩ := guardOf_spec hs hg
    split at h
    · rename_i r ok hV
      cases h
      obtain ⟨p1, p2⟩ := All.append hps
      by_cases hh : g.holds
      · rw [if_pos (hw1 hh)]
        have hok : okP ok := by
          cases ok with
          | none => trivial
          | some p => exact under_use p2.1 hh
        refine evV_sound henv hs o hd hV hok (stripOp_rel hh hargs p1) fun v M' w' hr hst => hn _ _ ⟨γ, M', ?_⟩
        cases g with
        | none => exact hst
        | some c =>
          refine { hst with sl := fun t => ?_ }
          have h1 := hst.sl t
          show ARel γ M' (pset s.sl o.dst (.gd c r) t) _
          have h1' : ARel γ M' (pset s.sl o.dst r t) ((a.put o.dst v).tmps.getD t undef) := h1
          cases hdst : o.dst with
          | none => rw [hdst] at h1'; exact h1'
          | some d =>
            rw [hdst] at h1'
            by_cases e : t = d
            · subst e
              simp only [pset] at h1' ⊢
              rw [upd_same] at h1' ⊢
              exact .gd c r _ (fun _ => h1') (fun hc => absurd (hh.symm.trans hc) (by simp))
            · simp only [pset] at h1' ⊢
              rw [upd_ne _ _ e] at h1' ⊢
              exact h1'
      · rw [if_neg (by rw [hw2 hh]; simp)]
        cases g with
        | none => exact absurd trivial hh
        | some c =>
          have hc : c = false := by cases c with | false => rfl | true => exact absurd rfl hh
          subst hc
          refine hn _ _ ⟨γ, M, hs.put hd (MLe.refl M) (Nat.le_refl _) (fun b _ => ⟨rfl, rfl⟩) hs.mem rfl rfl rfl (.gd false r undef (fun e => by cases e) fun _ => rfl)⟩
    · split at h
      · cases h
      · rw [if_pos (hw1 trivial)]
        obtain ⟨⟨s2, ok⟩, hE, he⟩ := map_some h
        cases he
        obtain ⟨p1, p2⟩ := All.append hps
        have hok : okP ok := by
          cases ok with
          | none => trivial
          | some p => exact p2.1
        exact evE_sound hs o hd hE hok (stripOp_rel (g := none) trivial hargs p1) fun γ' M' a' w' hst => hn _ _ ⟨γ', M', hst⟩
  · cases h
end Go.Am
