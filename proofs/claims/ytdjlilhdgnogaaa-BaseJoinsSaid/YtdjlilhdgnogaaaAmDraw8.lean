/-
  The abstract machine of these proofs.
-/
import Derived.Test.YtdjlilhdgnogaaaAmDraw7
set_option linter.unusedVariables false
/-! The rule for drawn regions, with the wider independence. -/
namespace Go.Am
open Go Go.RowKit
variable {P : Program} {C : Ctx} {s s' : S} {a a' : Act} {w w' : World}

def indepM (ops : Array Oper) (y x : Oper) : Bool :=
  Oper.apart ops y x && x.guard.isNone && ((memOp y.op && !effOp x.op) || (memOp y.op && birthOp x.op) || (birthOp y.op && appendOp x.op))
def indepW (ops : Array Oper) (rs : List Nat) (y x : Nat) (oy ox : Oper) : Bool := !elemB y rs && !elemB x rs && (indepB ops oy ox || indepM ops oy ox)

theorem indepW_spec {ops : Array Oper} {rs : List Nat} {y x : Nat} {oy ox : Oper} (h : indepW ops rs y x oy ox = true) : elemB y rs = false ∧ elemB x rs = false ∧ (indepB ops oy ox = true ∨ indepM ops oy ox = true) ∧ Oper.apart ops oy ox = true := by
  unfold indepW at h
  simp only [Bool.and_eq_true, Bool.not_eq_true', Bool.or_eq_true] at h
  obtain ⟨⟨h1, h2⟩, h3⟩ := h
  refine ⟨h1, h2, h3, ?_⟩
  rcases h3 with h3 | h3
  · unfold indepB at h3; rw [Bool.and_eq_true] at h3; exact h3.1
  · unfold indepM at h3; simp only [Bool.and_eq_true] at h3; exact h3.1.1

theorem swapW {env : Env} {envR : EnvR} {rs : List Nat} {nt : Nat} {ops : Array Oper} {x y : Nat} {ox oy : Oper} {s s1 s2 : S} {p1 p2 : List Prop} (hi : indepW ops rs y x oy ox = true) (hsem : SemX s ox)
    (h1 : astepR P env envR nt ops rs y oy s = some (s1, p1)) (h2 : astepR P env envR nt ops rs x ox s1 = some (s2, p2)) (hp : All p2) :
    ∃ s1', astepR P env envR nt ops rs x ox s = some (s1', p2) ∧ astepR P env envR nt ops rs y oy s1' = some (s2, p1) := by
  obtain ⟨hy, hx, hk, hap⟩ := indepW_spec hi
  unfold astepR at *
  rw [hy] at h1 ⊢
  rw [hx] at h2 ⊢
  rcases hk with hk | hk
  · exact swap hk h1 h2
  · unfold indepM at hk
    simp only [Bool.and_eq_true, Bool.or_eq_true, Bool.not_eq_true', Option.isNone_iff_eq_none] at hk
    obtain ⟨⟨_, hg⟩, (⟨hm, hv⟩ | ⟨hm, hb⟩) | ⟨hb, ha⟩⟩ := hk
    · exact swap_mv hap hm hv hg hsem h1 h2 hp
    · exact swap_mb hap hm hb hsem h1 h2
    · exact swap_ba hap hb ha hsem h1 h2 hp

theorem SemX.stepW {env : Env} {envR : EnvR} {rs : List Nat} {nt : Nat} {ops : Array Oper} {x y : Nat} {ox oy : Oper} {s s1 : S} {p1 : List Prop} (hi : indepW ops rs y x oy ox = true)
    (h1 : astepR P env envR nt ops rs y oy s = some (s1, p1)) (hsem : SemX s ox) : SemX s1 ox := by
  obtain ⟨hy, _, _, hap⟩ := indepW_spec hi
  unfold astepR at h1
  rw [hy] at h1
  exact SemX.step hap h1 hsem

def drawOkW (ops : Array Oper) (rs : List Nat) : Bool :=
  (List.range ops.size).all fun x => (List.range x).all fun y =>
    ((masks ops.toList []).getD x 0).testBit y || (match ops[y]?, ops[x]? with
      | some oy, some ox => indepW ops rs y x oy ox
      | _, _ => false)

theorem drawOkW_spec {ops : Array Oper} {rs : List Nat} (h : drawOkW ops rs = true) {x y : Nat} {ox oy : Oper} (hxy : y < x) (hx : ops[x]? = some ox) (hy : ops[y]? = some oy)
    {listed : Nat → Bool} (hc : Closed ops listed) (hd : Done ops listed x) (hny : listed y = false) : indepW ops rs y x oy ox = true := by
  unfold drawOkW at h
  have hlt : x < ops.size := (Array.getElem?_eq_some_iff.1 hx).1
  have h1 := List.all_eq_true.1 h x (List.mem_range.2 hlt)
  have h2 := List.all_eq_true.1 h1 y (List.mem_range.2 hxy)
  rw [hx, hy] at h2
  rw [Bool.or_eq_true] at h2
  rcases h2 with h2 | h2
  · exfalso
    cases hm : (masks ops.toList [])[x]? with
    | none => rw [List.getD_eq_getElem?_getD, hm] at h2; simp at h2
    | some m =>
      rw [List.getD_eq_getElem?_getD, hm] at h2
      have := masks_ok (ops := ops) ops.toList [] (fun i o ho => by simpa using ho) (fun x m hx => by simp at hx) x m hm listed hc hd y h2
      rw [hny] at this; cases this
  · exact h2

/-- An operation that none before it hinders may be carried out first. -/
theorem bubbleW {env : Env} {envR : EnvR} {rs : List Nat} {nt : Nat} {ops : Array Oper} {x : Nat} {ox : Oper} (hx : ops[x]? = some ox) : ∀ (l1 l2 : List Nat) (s s' : S) (ps : List Prop),
    (∀ y ∈ l1, ∀ oy, ops[y]? = some oy → indepW ops rs y x oy ox = true) → SemX s ox → All ps → aopsR P env envR nt ops rs (l1 ++ x :: l2) s = some (s', ps) →
    ∃ s1 p1 p2, astepR P env envR nt ops rs x ox s = some (s1, p1) ∧ aopsR P env envR nt ops rs (l1 ++ l2) s1 = some (s', p2) ∧ (All p1 ∧ All p2)
  | [], l2, s, s', ps, _, _, hps, h => by
    simp only [List.nil_append, aopsR, hx] at h ⊢
    cases h1 : astepR P env envR nt ops rs x ox s with
    | none => rw [h1] at h; cases h
    | some q =>
      obtain ⟨s1, p1⟩ := q
      rw [h1] at h
      dsimp only at h
      cases h2 : aopsR P env envR nt ops rs l2 s1 with
      | none => rw [h2] at h; cases h
      | some q =>
        obtain ⟨s2, p2⟩ := q
        rw [h2] at h; cases h
        exact ⟨s1, p1, p2, rfl, h2, All.append hps⟩
  | y :: l1, l2, s, s', ps, hi, hsem, hps, h => by
    simp only [List.cons_append, aopsR] at h
    cases hy : ops[y]? with
    | none => rw [hy] at h; cases h
    | some oy =>
      rw [hy] at h
      dsimp only at h
      cases h1 : astepR P env envR nt ops rs y oy s with
      | none => rw [h1] at h; cases h
      | some q =>
        obtain ⟨s1, p1⟩ := q
        rw [h1] at h
        dsimp only at h
        cases h2 : aopsR P env envR nt ops rs (l1 ++ x :: l2) s1 with
        | none => rw [h2] at h; cases h
        | some q =>
          obtain ⟨s2, p2⟩ := q
          rw [h2] at h; cases h
          obtain ⟨u1, u2⟩ := All.append hps
          have hind := hi y (List.mem_cons_self ..) oy hy
          have hsem1 := SemX.stepW hind h1 hsem
          obtain ⟨t1, q1, q2, b1, b2, b3, b4⟩ := bubbleW hx l1 l2 s1 s' p2 (fun y' hy' => hi y' (List.mem_cons_of_mem _ hy')) hsem1 u2 h2
          obtain ⟨t0, c1, c2⟩ := swapW hind hsem h1 b1 b3
          refine ⟨t0, q1, p1 ++ q2, c1, ?_, b3, All.mk u1 b4⟩
          simp only [List.cons_append, aopsR, hy, c2, b2]

theorem aopsW_any {env : Env} (henv : EnvOk P env) {envR : EnvR} (henvR : EnvROk P envR) {rs : List Nat} {ops : Array Oper} (hk : drawOkW ops rs = true) {Q : Exit → Act → World → Prop} {s' : S}
    (hq : ∀ a' w', St C s' a' w' → Q .normal a' w') : ∀ (fuel : Nat) (listed : Array Bool) (l : List Nat) (s : S) (ps : List Prop) (a : Act) (w : World),
    listed.size = ops.size → (∀ i, i ∈ l ↔ i < ops.size ∧ listed.getD i true = false) → l.Pairwise (· < ·) → Closed ops (lsF listed) → l.length ≤ fuel →
    aopsR P env envR C.nt ops rs l s = some (s', ps) → All ps → St C s a w → (∀ (x : Nat) (o : Oper), ops[x]? = some o → ∀ e ∈ o.after, Region.binds .any e = true → e.on < x) → wpAny P .any ops Q fuel listed a w := by
  intro fuel
  induction fuel with
  | zero =>
    intro listed l s ps a w hsz hl hsort hcl hle h hps hs hbk
    have : l = [] := List.length_eq_zero_iff.1 (Nat.le_zero.1 hle)
    subst this
    cases h
    refine ⟨?_, hq a w hs⟩
    refine List.eq_nil_iff_forall_not_mem.2 fun j hj => ?_
    obtain ⟨h0, o, ho, _⟩ := mem_ready.1 hj
    exact absurd ((hl j).2 ⟨(Array.getElem?_eq_some_iff.1 ho).1, h0⟩) (by simp)
  | succ fuel ih =>
    intro listed l s ps a w hsz hl hsort hcl hle h hps hs hbk
    refine ⟨fun hr => ?_, fun x hx => ?_⟩
    · cases l with
      | nil => cases h; exact hq a w hs
      | cons x r =>
        exfalso
        have hxm := (hl x).1 (List.mem_cons_self ..)
        have hox : ops[x]? = some ops[x] := Array.getElem?_eq_getElem hxm.1
        have : x ∈ Region.ready .any ops listed := by
          refine mem_ready.2 ⟨hxm.2, _, hox, fun e he hbi => ?_⟩
          have hlt := hbk x _ hox e he hbi
          cases hle' : listed.getD e.on false with
          | true => rfl
          | false =>
            exfalso
            have he2 : e.on < ops.size := Nat.lt_trans hlt hxm.1
            have hmem : e.on ∈ x :: r := by
              refine (hl e.on).2 ⟨he2, ?_⟩
              have hlt3 : e.on < listed.size := by rw [hsz]; exact he2
              simpa [Array.getD, hlt3] using hle'
            rcases List.mem_cons.1 hmem with h3 | h3
            · omega
            · have := List.rel_of_pairwise_cons hsort h3
              omega
        rw [hr] at this; cases this
    · obtain ⟨h0, ox, hox, hall⟩ := mem_ready.1 hx
      have hlt := (Array.getElem?_eq_some_iff.1 hox).1
      obtain ⟨l1, l2, rfl, hl1⟩ := sublist_split hsort ((hl x).2 ⟨hlt, h0⟩)
      have hind : ∀ y ∈ l1, ∀ oy, ops[y]? = some oy → indepW ops rs y x oy ox = true := fun y hy oy hoy => by
        refine drawOkW_spec hk (hl1 y hy) hox hoy hcl ?_ ?_
        · intro o ho e he hb
          rw [hox] at ho; cases ho
          exact hall e he hb
        · have := ((hl y).1 (List.mem_append_left _ hy)).2
          have hy2 : y < listed.size := by rw [hsz]; exact ((hl y).1 (List.mem_append_left _ hy)).1
          simp only [lsF]
          simpa [Array.getD, hy2] using this
      obtain ⟨s1, p1, p2, b1, b2, hp1, hp2⟩ := bubbleW hox l1 l2 s s' ps hind (hs.sem ox) hps h
      have step := astepR_sound henv henvR b1 hp1 hs (next := wpAny P .any ops Q fuel (listed.setIfInBounds x true)) (Q := Q) fun a' w' hs' => by
        have hpw := List.pairwise_append.1 hsort
        refine ih (listed.setIfInBounds x true) (l1 ++ l2) s1 p2 a' w' (by simpa using hsz) (fun i => ?_) ?_ ?_ ?_ b2 hp2 hs' hbk
        · have hi := hl i
          by_cases hix : x = i
          · subst hix
            have hxs : x < listed.size := by rw [hsz]; exact hlt
            constructor
            · intro hm
              exfalso
              rcases List.mem_append.1 hm with hm | hm
              · exact absurd (hl1 x hm) (by omega)
              · have := List.rel_of_pairwise_cons hpw.2.1 hm
                omega
            · rintro ⟨_, hh⟩
              simp [hxs] at hh
          · rw [getD_set_ne true hix, ← hi]
            simp only [List.mem_append, List.mem_cons]
            constructor
            · rintro (h | h)
              · exact .inl h
              · exact .inr (.inr h)
            · rintro (h | h | h)
              · exact .inl h
              · exact absurd h.symm hix
              · exact .inr h
        · exact List.Pairwise.sublist (List.Sublist.append (List.Sublist.refl _) (List.sublist_cons_self ..)) hsort
        · intro y hy o ho e he hb
          simp only [lsF] at hy ⊢
          by_cases hyx : x = y
          · subst hyx
            rw [hox] at ho; cases ho
            exact getD_set_true (hall e he hb)
          · rw [getD_set_ne false hyx] at hy
            exact getD_set_true (hcl y hy o ho e he hb)
        · simp only [List.length_append, List.length_cons] at hle ⊢
          omega
      unfold wpOp
      rw [hox]
      dsimp only
      split
      · rename_i hw; rw [if_pos hw] at step; exact .inl step
      · rename_i hw; rw [if_neg hw] at step; exact step

def backOkW (ops : Array Oper) : Bool := (List.range ops.size).all fun x => match ops[x]? with
  | some o => o.after.all fun e => !Region.binds .any e || Nat.blt e.on x
  | none => true
theorem backOkW_spec {ops : Array Oper} (h : backOkW ops = true) : ∀ (x : Nat) (o : Oper), ops[x]? = some o → ∀ e ∈ o.after, Region.binds .any e = true → e.on < x := by
  intro x o ho e he hb
  have h1 := List.all_eq_true.1 h x (List.mem_range.2 (Array.getElem?_eq_some_iff.1 ho).1)
  rw [ho] at h1
  have := Array.all_eq_true_iff_forall_mem.1 h1 e he
  rw [hb] at this
  simpa [Nat.blt_eq] using this

theorem T_regiondW {env : Env} (henv : EnvOk P env) {envR : EnvR} (henvR : EnvROk P envR) {rs : List Nat} (hm : P.follows .mixedOrders = true) {id : Nat} {ops : Array Oper} {Q : Exit → S → Prop} {ps : List Prop}
    (hk : drawOkW ops rs = true) (hb : backOkW ops = true)
    (h : aopsR P env envR C.nt ops rs (List.range ops.size) s = some (s', ps)) (hp : All ps) (hq : Q .normal s') : T P C (.region id ops true) s Q := by
  intro a w hs
  refine wp_region_any hm ?_
  refine aopsW_any henv henvR hk (fun a' w' hs' => ⟨s', hq, hs'⟩) ops.size _ (List.range ops.size) s ps a _ (by simp) (fun i => ?_) List.pairwise_lt_range ?_ (by simp) h hp hs.drew (backOkW_spec hb)
  · simp only [List.mem_range]
    constructor
    · intro hi; exact ⟨hi, by simp [hi]⟩
    · exact fun h => h.1
  · intro x hx
    exfalso
    simp only [lsF] at hx
    rw [Array.getD_eq_getD_getElem?, Array.getElem?_replicate] at hx
    split at hx <;> simp at hx


def drawCW (c : Code) (rs : List Nat) : Bool := match region? c with
  | some (_, ops, true) => drawOkW ops rs && backOkW ops
  | _ => false

theorem T_regdW {env : Env} (henv : EnvOk P env) {envR : EnvR} (henvR : EnvROk P envR) (hm : P.follows .mixedOrders = true) {nt : Nat} {fx : List Nat} (hC : CtxOk C nt fx) (rs : List Nat) {c : Code} {Q : Exit → S → Prop} (rn : Rn) (l : List (Nat × AV)) (o : List (Nat × AObj)) (ps : List Prop)
    (h : arunR P env envR nt rs c s rn l = some (true, (wants rn l o).1, (wants rn l o).2, ps)) (hd : drawCW c rs = true) (hk : (o.map (·.1), okB fx rn l o) = (rn.map (·.1), true)) (hp : All ps) (hq : ∀ s', Sub C s' (mkS l o) → Q .normal s') :
    T P C c s Q := by
  have hnt := hC.nt
  subst hnt
  unfold arunR at h
  unfold drawCW at hd
  cases hr : region? c with
  | none => rw [hr] at h; cases h
  | some r =>
    obtain ⟨id, ops, d⟩ := r
    rw [hr] at h hd
    dsimp only at h
    cases ha : aopsR P env envR C.nt ops rs (List.range ops.size) s with
    | none => rw [ha] at h; cases h
    | some q =>
      obtain ⟨s', ps'⟩ := q
      rw [ha] at h
      simp only [Option.some.injEq, Prod.mk.injEq] at h
      obtain ⟨rfl, h1, h2, rfl⟩ := h
      have hc := region?_spec hr
      rw [hc]
      have hv : view rn l s' = wants rn l o := Prod.ext h1 h2
      simp only [Prod.mk.injEq] at hk
      simp only [Bool.and_eq_true] at hd
      exact T_regiondW henv henvR hm hd.1 hd.2 ha hp (hq s' (Sub_view hC rn hk.1 hv hk.2))
end Go.Am
