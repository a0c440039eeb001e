/-
  The abstract machine of these proofs.
-/
import Derived.Test.YtdjlilhdgnogaaaAmCall2
set_option linter.unusedVariables false
/-! The call itself, in the caller's state. -/
namespace Go.Am
open Go Go.RowKit
variable {P : Program} {γ γ' : Nat → Option G} {M M' : Mem} {C : Ctx} {s s' : S} {a a' : Act} {w w' : World}

/-- A contract, as a computation: which arguments are told by what is in them; what comes of it. -/
structure RSpec where
  sn : List Bool
  sp : List AV → List (Nat × AObj) → Option ((List Nat × AV) × (List (Nat × AObj) × Option Prop))

abbrev EnvR := FuncId → Option RSpec

def SpecROk (P : Program) (f : FuncId) (sp : RSpec) : Prop := ∀ args ib kept r outs ok, sp.sp args ib = some ((kept, r), (outs, ok)) → okP ok → callable P f = true ∧ FnR P f args ib kept r outs
def EnvROk (P : Program) (env : EnvR) : Prop := ∀ f sp, env f = some sp → SpecROk P f sp

def mids (ob : Nat → Option AObj) : List Bool → List AV → Option (List AV)
  | true :: sn, x :: xs => match snap ob x, mids ob sn xs with
    | some y, some ys => some (y :: ys)
    | _, _ => none
  | false :: sn, x :: xs => match mids ob sn xs with
    | some ys => some (x :: ys)
    | none => none
  | [], [] => some []
  | _, _ => none

def elemB (x : Nat) (l : List Nat) : Bool := l.any (Nat.beq x)

def ids1 : AV → List Nat
  | .ref id _ => [id]
  | .arr id => [id]
  | _ => []
def idsA : AV → List Nat
  | .clo _ fs cs => (fs ++ cs).flatMap ids1
  | .agg cs => cs.flatMap ids1
  | .tup cs => cs.flatMap ids1
  | x => ids1 x
def addAll : List Nat → List Nat → List Nat
  | acc, [] => acc
  | acc, x :: r => match elemB x acc with | true => addAll acc r | false => addAll (acc ++ [x]) r
def idsO (ob : Nat → Option AObj) (i : Nat) : List Nat :=
  match ob i with
  | some (.cells cs) => cs.flatMap idsA
  | _ => []
/-- The objects that values reach: first those that they name, then those in them. -/
def collect (ob : Nat → Option AObj) : Nat → List Nat → List Nat
  | 0, acc => acc
  | n + 1, acc => collect ob n (addAll acc (acc.flatMap (idsO ob)))

def number : Nat → List Nat → List (Nat × Nat)
  | _, [] => []
  | n, x :: r => (n, x) :: number (n + 1) r

def freshId (us : Nat → Bool) : Nat → Nat → Nat
  | 0, j => j
  | n + 1, j => match us j with | true => freshId us n (j + 1) | false => j

def outPr (us : Nat → Bool) (ps : List (Nat × Nat)) (kept : List Nat) (i : Nat) : Nat × Nat :=
  match elemB i kept, lookO i ps with
  | true, some j => (j, i)
  | _, _ => match i with
    | 0 => (freshId us 100 1000000, 0)
    | n + 1 => (freshId us 100 (1000000 + 1000 * (n + 2)), n + 1)

def qsOk (us : Nat → Bool) (ps : List (Nat × Nat)) (kept : List Nat) (qs : List (Nat × Nat)) : Bool :=
  qs.all fun q => !us q.1 || (elemB q.2 kept && (match lookO q.2 ps with | some j => Nat.beq j q.1 | none => false))

def merge (ob : Nat → Option AObj) (gone : List Nat) (ob' : List (Nat × AObj)) : Nat → Option AObj := fun j =>
  match lookO j ob' with
  | some o => some o
  | none => match elemB j gone with | true => none | false => ob j

def evR (env : EnvR) (nt : Nat) (o : Oper) (s : S) (xs : List AV) : Option (S × Option Prop) :=
  match o.op, xs, dstOk nt o.dst with
  | .call ⟨.value _, _, _⟩, .clo (.func f) fs cs :: ys, true => match env f with
    | some sp => match mids s.ob sp.sn (fs ++ (ys ++ cs)) with
      | some zs =>
        let ps := number 70000 (collect s.ob 2 (addAll [] (zs.flatMap idsA)))
        match prsOk ps && zs.all (useF (prsFw ps)), handO s.ob ps with
        | true, some ib => match sp.sp (zs.map (renA (prsFw ps))) ib with
          | some ((kept, r), (outs, ok)) =>
            let qs := outs.map fun q => outPr s.us ps kept q.1
            match prsOk qs && useF (prsFw qs) r && qsOk s.us ps kept qs, handO (fun i => lookO i outs) qs with
            | true, some ob' => some ({ sl := pset s.sl o.dst (renA (prsFw qs) r), ob := merge s.ob (ps.map (·.2)) ob', us := fun j => s.us j || (lookO j ob').isSome }, ok)
            | _, _ => none
          | none => none
        | _, _ => none
      | none => none
    | none => none
  | _, _, _ => none

theorem mids_rel (hs : StG C γ M s a w) : ∀ {sn : List Bool} {xs zs : List AV} {vs : List Value}, mids s.ob sn xs = some zs → ARels γ M xs vs → ARels γ M zs vs := by
  intro sn
  induction sn with
  | nil =>
    intro xs zs vs h hx
    cases xs with
    | nil => cases h; exact hx
    | cons _ _ => cases h
  | cons b sn ih =>
    intro xs zs vs h hx
    cases xs with
    | nil => cases b <;> cases h
    | cons x xs =>
      cases hx with
      | cons h1 h2 =>
        cases b with
        | false =>
          simp only [mids] at h
          cases hm : mids s.ob sn xs with
          | none => rw [hm] at h; cases h
          | some ys => rw [hm] at h; cases h; exact .cons h1 (ih hm h2)
        | true =>
          simp only [mids] at h
          cases hp : snap s.ob x with
          | none => rw [hp] at h; cases h
          | some y =>
            cases hm : mids s.ob sn xs with
            | none => rw [hp, hm] at h; cases h
            | some ys => rw [hp, hm] at h; cases h; exact .cons ((snap_rel hs hp h1).mono (fun _ _ hx => by cases hx) (MLe.refl M)) (ih hm h2)

theorem number_ok {l : List Nat} {n : Nat} : (number n l).map (·.2) = l := by
  induction l generalizing n with
  | nil => rfl
  | cons x l ih => simp [number, ih]

theorem elemB_spec {x : Nat} {l : List Nat} : elemB x l = true ↔ x ∈ l := by
  unfold elemB
  rw [List.any_eq_true]
  constructor
  · rintro ⟨y, hy, h⟩; rw [Nat.eq_of_beq_eq_true h]; exact hy
  · intro h; exact ⟨x, h, by simp⟩

/-- WHAT A CALL LEAVES OF THE CALLER'S STATE. -/
theorem StG.called (h : StG C γ M s a w) {dst : Option Nat} (hd : dstOk C.nt dst = true) {ps qs : List (Nat × Nat)} (hps : prsOk ps = true) (hqs : prsOk qs = true)
    {ib outs ob' : List (Nat × AObj)} (hib : handO s.ob ps = some ib) (hob : handO (fun i => lookO i outs) qs = some ob') {kept : List Nat} (hk : qsOk s.us ps kept qs = true)
    {γ2 : Nat → Option G} {M2 : Mem} {w2 : World} {r : AV} {v : Value} (hur : useF (prsFw qs) r = true)
    (hkept : ∀ i ∈ kept, ∀ g, renG γ (idsOf ib) (renF (prsRn ps)) i = some g → γ2 i = some g) (hM : MLe M M2) (hmem : MOk M2 w2) (hr : ARel γ2 M2 r v)
    (hO : Objs γ2 M2 w2 (fun i => lookO i outs) (fun b => (w.heap.size ≤ b ∨ Handed (renG γ (idsOf ib) (renF (prsRn ps))) ib b) ∧ b < w2.heap.size))
    (hold : ∀ b, b < w.heap.size → ¬ Handed (renG γ (idsOf ib) (renF (prsRn ps))) ib b → w2.heap[b]? = w.heap[b]? ∧ M2 b = M b)
    (hsz : w.heap.size ≤ w2.heap.size) (hos : w2.os = w.os) (htape : w2.tape = w.tape) (hout : w2.output = w.output) :
    St C { sl := pset s.sl dst (renA (prsFw qs) r), ob := merge s.ob (ps.map (·.2)) ob', us := fun j => s.us j || (lookO j ob').isSome } (a.put dst v) w2 := by
  obtain ⟨k1, k2, k3⟩ := handO_spec hib
  obtain ⟨o1, o2, o3⟩ := handO_spec hob
  have hidI : (idsOf ib).map (·.1) = ps.map (·.1) := by rw [← k1]; simp [idsOf]
  have hidO : (idsOf ob').map (·.1) = qs.map (·.1) := by rw [← o1]; simp [idsOf]
  have hON := Objs_hand hO hqs hob
  -- a block that was handed over belongs to an object of the caller's that is gone
  have handed : ∀ b, Handed (renG γ (idsOf ib) (renF (prsRn ps))) ib b → ∃ j g, j ∈ ps.map (·.2) ∧ s.ob j ≠ none ∧ γ j = some g ∧ g.blk = some b := by
    rintro b ⟨i, g, _, hg, hb⟩
    obtain ⟨j, hm, hgj⟩ := renG_some hidI hps hg
    exact ⟨j, g, List.mem_map.2 ⟨_, hm, rfl⟩, k3 i j hm, hgj, hb⟩
  let γn : Nat → Option G := fun j => match lookO j ob' with
    | some _ => renG γ2 (idsOf ob') (renF (prsRn qs)) j
    | none => γ j
  have γn_in : ∀ {j o}, lookO j ob' = some o → γn j = renG γ2 (idsOf ob') (renF (prsRn qs)) j := by
    intro j o ho; simp only [γn, ho]
  have γn_out : ∀ {j}, lookO j ob' = none → γn j = γ j := by intro j ho; simp only [γn, ho]
  have hγ : GLe γ γn := by
    intro j g hg
    cases ho : lookO j ob' with
    | none => rw [γn_out ho]; exact hg
    | some o =>
      rw [γn_in ho]
      have : j ∈ qs.map (·.1) := by rw [← o1]; exact lookO_key (by rw [ho]; rfl)
      obtain ⟨q, hq, he⟩ := List.mem_map.1 this
      have hq' : (j, q.2) ∈ qs := by rw [← he]; exact hq
      rw [renG_at hidO hqs hq']
      have hc := List.all_eq_true.1 hk _ hq'
      rw [Bool.or_eq_true] at hc
      rcases hc with hc | hc
      · rw [h.us j (by simpa using hc)] at hg; cases hg
      · rw [Bool.and_eq_true] at hc
        have hkm := elemB_spec.1 hc.1
        have hl := hc.2
        dsimp only at hl hkm
        cases hlp : lookO q.2 ps with
        | none => rw [hlp] at hl; cases hl
        | some j' =>
          rw [hlp] at hl
          have : j' = j := Nat.eq_of_beq_eq_true hl
          subst this
          refine hkept q.2 hkm g ?_
          rw [renG_at hidI hps (lookO_mem hlp)]; exact hg
  have hγ2 : GLe (renG γ2 (idsOf ob') (renF (prsRn qs))) γn := by
    intro j g hg
    cases ho : lookO j ob' with
    | some o => rw [γn_in ho]; exact hg
    | none =>
      exfalso
      obtain ⟨i, hm, _⟩ := renG_some hidO hqs hg
      have : (lookO j ob').isSome = true := lookO_isSome (by rw [o1]; exact List.mem_map.2 ⟨_, hm, rfl⟩)
      rw [ho] at this; cases this
  have hr' : ARel γn M2 (renA (prsFw qs) r) v := by
    obtain ⟨c1, c2⟩ := covBF (hand_inv hqs o1) hur
    exact (c1.rel c2 hr).mono hγ2 (MLe.refl M2)
  have stays : ∀ {j}, lookO j ob' = none → merge s.ob (ps.map (·.2)) ob' j ≠ none → j ∉ ps.map (·.2) ∧ merge s.ob (ps.map (·.2)) ob' j = s.ob j := by
    intro j ho hm
    unfold merge at hm ⊢
    rw [ho] at hm ⊢
    dsimp only at hm ⊢
    cases he : elemB j (ps.map (·.2)) with
    | true => rw [he] at hm; exact absurd rfl hm
    | false => exact ⟨fun hmem => Bool.noConfusion (he.symm.trans (elemB_spec.2 hmem)), rfl⟩
  have inob : ∀ {j o}, lookO j ob' = some o → merge s.ob (ps.map (·.2)) ob' j = some o := by
    intro j o ho; unfold merge; rw [ho]
  have apart : ∀ {j g b}, j ∉ ps.map (·.2) → s.ob j ≠ none → γ j = some g → g.blk = some b → ¬ Handed (renG γ (idsOf ib) (renF (prsRn ps))) ib b := by
    intro j g b hj ho hg hb hh
    obtain ⟨j2, g2, h1, h2, h3, h4⟩ := handed b hh
    exact hj (h.sep j j2 g g2 b ho h2 hg h3 hb h4 ▸ h1)
  refine ⟨γn, M2, put_rel (dst := dst) (by rw [h.nt]; exact hd) (fun t => (h.sl t).mono hγ hM) hr', ?_, ?_, ?_, ?_, hmem, h.le.trans hM, ?_, ?_, by rw [put_defers]; exact h.df, by rw [put_size]; exact h.nt, h.gl.trans hγ⟩
  · intro id o ho
    cases hl : lookO id ob' with
    | some o' =>
      have := inob hl
      have e : o' = o := by have := this.symm.trans ho; cases this; rfl
      subst e
      exact (hON.ob id o' hl).keep hγ2 (MLe.refl M2) fun _ _ _ _ => ⟨rfl, rfl⟩
    | none =>
      obtain ⟨h1, h2⟩ := stays hl (by show merge s.ob (ps.map (·.2)) ob' id ≠ none; rw [show merge s.ob (ps.map (·.2)) ob' id = some o from ho]; simp)
      have ho' : s.ob id = some o := h2.symm.trans ho
      refine (h.ob id o ho').keep hγ hM fun g b hg hb => ?_
      exact hold b (h.lo id g b (by rw [ho']; simp) hg hb).2 (apart h1 (by rw [ho']; simp) hg hb)
  · intro id hu
    have hu' : (s.us id || (lookO id ob').isSome) = false := hu
    rw [Bool.or_eq_false_iff] at hu'
    have hl : lookO id ob' = none := by cases hl : lookO id ob' with | none => rfl | some _ => rw [hl] at hu'; cases hu'.2
    rw [γn_out hl]; exact h.us id hu'.1
  · intro i j g g' b hi hj hg hg' hb hb'
    have hi' : merge s.ob (ps.map (·.2)) ob' i ≠ none := hi
    have hj' : merge s.ob (ps.map (·.2)) ob' j ≠ none := hj
    cases hl : lookO i ob' with
    | some o =>
      rw [γn_in hl] at hg
      cases hl2 : lookO j ob' with
      | some o2 =>
        rw [γn_in hl2] at hg'
        exact hON.sep i j g g' b (by rw [hl]; simp) (by rw [hl2]; simp) hg hg' hb hb'
      | none =>
        exfalso
        rw [γn_out hl2] at hg'
        obtain ⟨h1, h2⟩ := stays hl2 hj'
        rw [h2] at hj'
        have hL := (hON.lo i g b (by rw [hl]; simp) hg hb).1
        rcases hL with hL | hL
        · have := (h.lo j g' b hj' hg' hb').2; omega
        · exact apart h1 hj' hg' hb' hL
    | none =>
      rw [γn_out hl] at hg
      obtain ⟨h1, h2⟩ := stays hl hi'
      rw [h2] at hi'
      cases hl2 : lookO j ob' with
      | some o2 =>
        exfalso
        rw [γn_in hl2] at hg'
        have hL := (hON.lo j g' b (by rw [hl2]; simp) hg' hb').1
        rcases hL with hL | hL
        · have := (h.lo i g b hi' hg hb).2; omega
        · exact apart h1 hi' hg hb hL
      | none =>
        rw [γn_out hl2] at hg'
        obtain ⟨h3, h4⟩ := stays hl2 hj'
        rw [h4] at hj'
        exact h.sep i j g g' b hi' hj' hg hg' hb hb'
  · intro i g b hi hg hb
    have hi' : merge s.ob (ps.map (·.2)) ob' i ≠ none := hi
    cases hl : lookO i ob' with
    | some o =>
      rw [γn_in hl] at hg
      obtain ⟨hL, hlt⟩ := hON.lo i g b (by rw [hl]; simp) hg hb
      refine ⟨?_, hlt⟩
      rcases hL with hL | hL
      · exact .inl (Nat.le_trans h.fr.size hL)
      · obtain ⟨j2, g2, _, h2, h3, h4⟩ := handed b hL
        exact (h.lo j2 g2 b h2 h3 h4).1
    | none =>
      rw [γn_out hl] at hg
      obtain ⟨_, h2⟩ := stays hl hi'
      rw [h2] at hi'
      have := h.lo i g b hi' hg hb
      exact ⟨this.1, by omega⟩
  · intro b hb ho
    have hsz0 := h.fr.size
    refine (hold b (by omega) fun hh => ?_).2.trans (h.new b hb ho)
    obtain ⟨j2, g2, _, h2, h3, h4⟩ := handed b hh
    rcases (h.lo j2 g2 b h2 h3 h4).1 with h5 | h5
    · omega
    · exact ho h5
  · have hf := h.fr
    refine ⟨hos.trans hf.os, htape.trans hf.tape, hout.trans hf.output, Nat.le_trans hf.size hsz, fun b hb ho => ?_⟩
    have hsz0 := hf.size
    refine (hold b (by omega) fun hh => ?_).1.trans (hf.block b hb ho)
    obtain ⟨j2, g2, _, h2, h3, h4⟩ := handed b hh
    rcases (h.lo j2 g2 b h2 h3 h4).1 with h5 | h5
    · omega
    · exact ho h5
theorem evR_sound {env : EnvR} (henv : EnvROk P env) (hs : StG C γ M s a w) (o : Oper) {xs : List AV} {ok : Option Prop}
    (h : evR env C.nt o s xs = some (s', ok)) (hok : okP ok) (hx : ARels γ M xs (o.op.operands.toList.map a.eval)) {next : Act → World → Prop} {Q : Exit → Act → World → Prop}
    (hn : ∀ a' w', St C s' a' w' → next a' w') : o.wp P a w next Q := by
  obtain ⟨dst, op, type, pos, after, guard⟩ := o
  dsimp only at hx
  unfold evR at h
  dsimp only at h
  split at h
  · rename_i fop args ts f fs cs ys hd
    have hx' : ARels γ M (.clo (.func f) fs cs :: ys) (a.eval fop :: args.toList.map a.eval) := by simpa [Op.operands, Call.operands] using hx
    cases hsp : env f with
    | none => rw [hsp] at h; cases h
    | some sp =>
      rw [hsp] at h
      dsimp only at h
      cases hz : mids s.ob sp.sn (fs ++ (ys ++ cs)) with
      | none => rw [hz] at h; cases h
      | some zs =>
        rw [hz] at h
        dsimp only at h
        generalize number 70000 (collect s.ob 2 (addAll [] (zs.flatMap idsA))) = ps at h
        split at h
        · rename_i ib hchk hib
          rw [Bool.and_eq_true] at hchk
          obtain ⟨hps, huse⟩ := hchk
          split at h
          · rename_i kept r outs ok' hr
            split at h
            · rename_i ob' hchk2 hob
              cases h
              rw [Bool.and_eq_true, Bool.and_eq_true] at hchk2
              obtain ⟨⟨hqs, hur⟩, hqok⟩ := hchk2
              obtain ⟨hcall, hfn⟩ := henv f sp hsp _ _ _ _ _ _ hr hok
              cases hx' with
              | cons h1 h2 =>
                generalize hfv : a.eval fop = fv at h1
                cases h1 with
                | clo _ _ _ vf vc hf hc g1 g2 =>
                  have hall : ARels γ M (fs ++ (ys ++ cs)) (vf.toList ++ (args.toList.map a.eval ++ vc.toList)) := by
                    refine (ARels.of_get (by simpa using hf) fun i hi => ?_).append (h2.append (ARels.of_get (by simpa using hc) fun i hi => ?_))
                    · have := g1 i hi; rw [Array.getD_eq_getD_getElem?] at this; simpa [List.getD_eq_getElem?_getD] using this
                    · have := g2 i hi; rw [Array.getD_eq_getD_getElem?] at this; simpa [List.getD_eq_getElem?_getD] using this
                  have hz' := mids_rel hs hz hall
                  obtain ⟨k1, k2, k3⟩ := handO_spec hib
                  have hO0 : Objs γ M w s.ob (fun b => b < w.heap.size) := ⟨hs.ob, hs.sep, fun id g b h1 h2 h3 => (hs.lo id g b h1 h2 h3).2⟩
                  have hOi := Objs_hand hO0 hps hib
                  have hargs := ARels.ren (hand_inv hps k1) huse hz'
                  have hnone : ∀ i, lookO i ib = none → renG γ (idsOf ib) (renF (prsRn ps)) i = none := by
                    intro i hi
                    unfold renG
                    cases hl : lookO i (idsOf ib) with
                    | none => rfl
                    | some k =>
                      have : (lookO i ib).isSome = (lookO i (idsOf ib)).isSome := lookO_keys (by simp [idsOf]) i
                      rw [hi, hl] at this; cases this
                  have hC := hfn _ M w _ hOi hnone hs.mem hargs
                  have hrun : (execOp a.eval ⟨dst, .call ⟨.value fop, args, ts⟩, type, pos, after, guard⟩).run P w = .ok (.enter f (vf.toList ++ (args.toList.map a.eval ++ vc.toList)).toArray) w := by
                    simp only [execOp, resolve, hfv, Deferred.ofValue, Sem.run_bind, Sem.run_pure, Result.andThen_ok, invoke]
                    have e : vf ++ args.map a.eval ++ vc = (vf.toList ++ (args.toList.map a.eval ++ vc.toList)).toArray := by
                      apply Array.ext'; simp
                    rw [e]
                    exact run_callFunc hcall _ w
                  unfold Oper.wp
                  rw [hrun]
                  show Calls P f _ w _
                  refine hC.mono fun e w' ⟨v, γ2, M2, he, hkept, hle, hmem, hrel, hO, hold, hsz, hos, htape, hout⟩ => ?_
                  subst he
                  exact hn _ _ (hs.called hd hps hqs hib hob hqok hur hkept hle hmem hrel hO hold hsz hos htape hout)
            · cases h
          · cases h
        · cases h
  · cases h

/-- One operation by its place: those named are calls that change memory. -/
def astepR (P : Program) (env : Env) (envR : EnvR) (nt : Nat) (ops : Array Oper) (rs : List Nat) (i : Nat) (o : Oper) (s : S) : Option (S × List Prop) :=
  match elemB i rs with
  | false => astep P env nt ops o s
  | true => match o.guard with
    | none => (evR envR nt o s (o.op.operands.toList.map (aev s.sl))).map fun r => (r.1, oks none r.2)
    | some _ => none

def aopsR (P : Program) (env : Env) (envR : EnvR) (nt : Nat) (ops : Array Oper) (rs : List Nat) : List Nat → S → Option (S × List Prop)
  | [], s => some (s, [])
  | i :: r, s => match ops[i]? with
    | none => none
    | some o => match astepR P env envR nt ops rs i o s with
      | none => none
      | some (s1, p1) => match aopsR P env envR nt ops rs r s1 with
        | none => none
        | some (s2, p2) => some (s2, p1 ++ p2)

theorem astepR_sound {env : Env} (henv : EnvOk P env) {envR : EnvR} (henvR : EnvROk P envR) {ops : Array Oper} {rs : List Nat} {i : Nat} {o : Oper} {ps : List Prop}
    (h : astepR P env envR C.nt ops rs i o s = some (s', ps)) (hps : All ps)
    (hs : St C s a w) {next : Act → World → Prop} {Q : Exit → Act → World → Prop} (hn : ∀ a' w', St C s' a' w' → next a' w') :
    if Region.wanted o (yielded ops a.tmps) then o.wp P a w next Q else next (a.put o.dst undef) w := by
  unfold astepR at h
  split at h
  · exact astep_sound henv h hps hs hn
  · split at h
    · rename_i hg
      obtain ⟨⟨s1, ok⟩, he, hh⟩ := map_some h
      cases hh
      obtain ⟨γ, M, hs⟩ := hs
      have hw : Region.wanted o (yielded ops a.tmps) = true := by unfold Region.wanted; rw [hg]
      rw [if_pos hw]
      have hargs : ARels γ M (o.op.operands.toList.map (aev s.sl)) (o.op.operands.toList.map a.eval) := ARels.map (aev_rel hs.sl) _
      refine evR_sound henvR hs o he ?_ hargs hn
      cases ok with
      | none => trivial
      | some p => exact hps.1
    · cases h

theorem aopsR_sound {env : Env} (henv : EnvOk P env) {envR : EnvR} (henvR : EnvROk P envR) {ops : Array Oper} {rs : List Nat} {Q : Exit → Act → World → Prop} : ∀ (l : List Nat) {s s' : S} {ps : List Prop} {a : Act} {w : World},
    aopsR P env envR C.nt ops rs l s = some (s', ps) → All ps → St C s a w → (∀ a' w', St C s' a' w' → Q .normal a' w') → wpOps P ops Q l a w := by
  intro l
  induction l with
  | nil => intro s s' ps a w h hp hs hq; cases h; exact hq a w hs
  | cons i r ih =>
    intro s s' ps a w h hp hs hq
    simp only [aopsR] at h
    simp only [wpOps]
    cases ho : ops[i]? with
    | none => rw [ho] at h; cases h
    | some o =>
      rw [ho] at h
      dsimp only at h ⊢
      cases h1 : astepR P env envR C.nt ops rs i o s with
      | none => rw [h1] at h; cases h
      | some q =>
        obtain ⟨s1, p1⟩ := q
        rw [h1] at h
        dsimp only at h
        cases h2 : aopsR P env envR C.nt ops rs r s1 with
        | none => rw [h2] at h; cases h
        | some q =>
          obtain ⟨s2, p2⟩ := q
          rw [h2] at h
          cases h
          obtain ⟨hp1, hp2⟩ := All.append hp
          have := astepR_sound henv henvR h1 hp1 hs (next := wpOps P ops Q r) (Q := Q) fun a' w' hs' => ih h2 hp2 hs' hq
          split
          · rename_i hw; rw [if_pos hw] at this; exact .inl this
          · rename_i hw; rw [if_neg hw] at this; exact this

def arunR (P : Program) (env : Env) (envR : EnvR) (nt : Nat) (rs : List Nat) (c : Code) (s : S) (rn : Rn) (l : List (Nat × AV)) : Option (Bool × List AV × List (Option AObj) × List Prop) :=
  match region? c with
  | some (_, ops, d) => match aopsR P env envR nt ops rs (List.range ops.size) s with
    | some (s', ps) => some (d, (view rn l s').1, (view rn l s').2, ps)
    | none => none
  | none => none

theorem T_regR {env : Env} (henv : EnvOk P env) {envR : EnvR} (henvR : EnvROk P envR) {nt : Nat} {fx : List Nat} (hC : CtxOk C nt fx) (rs : List Nat) {c : Code} {Q : Exit → S → Prop} (rn : Rn) (l : List (Nat × AV)) (o : List (Nat × AObj)) (ps : List Prop)
    (h : arunR P env envR nt rs c s rn l = some (false, (wants rn l o).1, (wants rn l o).2, ps)) (hk : (o.map (·.1), okB fx rn l o) = (rn.map (·.1), true)) (hp : All ps) (hq : ∀ s', Sub C s' (mkS l o) → Q .normal s') :
    T P C c s Q := by
  have hnt := hC.nt
  subst hnt
  unfold arunR at h
  cases hr : region? c with
  | none => rw [hr] at h; cases h
  | some r =>
    obtain ⟨id, ops, d⟩ := r
    rw [hr] at h
    dsimp only at h
    cases ha : aopsR P env envR C.nt ops rs (List.range ops.size) s with
    | none => rw [ha] at h; cases h
    | some q =>
      obtain ⟨s', ps'⟩ := q
      rw [ha] at h
      simp only [Option.some.injEq, Prod.mk.injEq] at h
      obtain ⟨rfl, h1, h2, rfl⟩ := h
      have hc := region?_spec hr
      rw [hc]
      have hv : view rn l s' = wants rn l o := Prod.ext h1 h2
      simp only [Prod.mk.injEq] at hk
      intro a w hs
      exact wp_region (aopsR_sound henv henvR _ ha hp hs fun _ _ hs' => ⟨s', hq s' (Sub_view hC rn hk.1 hv hk.2), hs'⟩)
end Go.Am
