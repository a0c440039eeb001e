/-
  The abstract machine of these proofs.
-/
import Derived.Test.YtdjlilhdgnogaaaAmDraw
set_option linter.unusedVariables false
/-! The rule for regions whose order is open. -/
namespace Go.Am
open Go Go.RowKit
variable {P : Program} {C : Ctx} {s s' : S} {a a' : Act} {w w' : World}

def emask (acc : List Nat) : List Edge → Nat
  | [] => 0
  | e :: r => (if Region.binds .any e then (1 <<< e.on) ||| acc.getD e.on 0 else 0) ||| emask acc r
def masks : List Oper → List Nat → List Nat
  | [], acc => acc
  | o :: r, acc => masks r (acc ++ [emask acc o.after.toList])
def drawOk (ops : Array Oper) : Bool :=
  (List.range ops.size).all fun x => (List.range x).all fun y =>
    ((masks ops.toList []).getD x 0).testBit y || (match ops[y]?, ops[x]? with
      | some oy, some ox => indepB ops oy ox
      | _, _ => false)

def Done (ops : Array Oper) (listed : Nat → Bool) (x : Nat) : Prop := ∀ o, ops[x]? = some o → ∀ e ∈ o.after, Region.binds .any e = true → listed e.on = true
def Closed (ops : Array Oper) (listed : Nat → Bool) : Prop := ∀ x, listed x = true → Done ops listed x
def MaskOk (ops : Array Oper) (x m : Nat) : Prop := ∀ listed, Closed ops listed → Done ops listed x → ∀ y, m.testBit y = true → listed y = true

theorem emask_ok {ops : Array Oper} {acc : List Nat} (hacc : ∀ x m, acc[x]? = some m → MaskOk ops x m) : ∀ (l : List Edge) (listed : Nat → Bool), Closed ops listed →
    (∀ e ∈ l, Region.binds .any e = true → listed e.on = true) → ∀ y, (emask acc l).testBit y = true → listed y = true
  | [], _, _, _, y, h => by simp [emask] at h
  | e :: r, listed, hc, hd, y, h => by
    simp only [emask, Nat.testBit_or, Bool.or_eq_true] at h
    rcases h with h | h
    · split at h
      · rename_i hb
        have he := hd e (List.mem_cons_self ..) hb
        simp only [Nat.testBit_or, Bool.or_eq_true] at h
        rcases h with h | h
        · rw [Nat.one_shiftLeft, Nat.testBit_two_pow] at h
          rw [← of_decide_eq_true h]; exact he
        · cases hx : acc[e.on]? with
          | none => rw [List.getD_eq_getElem?_getD, hx] at h; simp at h
          | some m =>
            rw [List.getD_eq_getElem?_getD, hx] at h
            exact hacc _ _ hx listed hc (hc _ he) y h
      · simp at h
    · exact emask_ok hacc r listed hc (fun e' he' => hd e' (List.mem_cons_of_mem _ he')) y h

theorem masks_ok {ops : Array Oper} : ∀ (l : List Oper) (acc : List Nat), (∀ i o, l[i]? = some o → ops[acc.length + i]? = some o) → (∀ x m, acc[x]? = some m → MaskOk ops x m) →
    ∀ x m, (masks l acc)[x]? = some m → MaskOk ops x m
  | [], acc, _, h2, x, m, hm => h2 x m hm
  | o :: r, acc, h1, h2, x, m, hm => by
    refine masks_ok r (acc ++ [emask acc o.after.toList]) (fun i o' ho => ?_) (fun x' m' hx => ?_) x m hm
    · have := h1 (i + 1) o' (by simpa using ho)
      simp only [List.length_append, List.length_singleton]
      rw [show acc.length + 1 + i = acc.length + (i + 1) by omega]; exact this
    · rw [List.getElem?_append] at hx
      split at hx
      · exact h2 x' m' hx
      · rename_i hlt
        have hx0 : x' - acc.length = 0 := by
          cases hk : x' - acc.length with
          | zero => rfl
          | succ k => rw [hk] at hx; simp at hx
        rw [hx0] at hx
        simp only [List.getElem?_cons_zero, Option.some.injEq] at hx
        subst hx
        intro listed hc hd y hy
        have ho := h1 0 o rfl
        rw [show acc.length + 0 = x' by omega] at ho
        exact emask_ok h2 o.after.toList listed hc (fun e he hb => hd o ho e (by simpa using he) hb) y hy

theorem drawOk_spec {ops : Array Oper} (h : drawOk ops = true) {x y : Nat} {ox oy : Oper} (hxy : y < x) (hx : ops[x]? = some ox) (hy : ops[y]? = some oy)
    {listed : Nat → Bool} (hc : Closed ops listed) (hd : Done ops listed x) (hny : listed y = false) : indepB ops oy ox = true := by
  unfold drawOk at h
  have hlt : x < ops.size := (Array.getElem?_eq_some_iff.1 hx).1
  have h1 := List.all_eq_true.1 h x (List.mem_range.2 hlt)
  have h2 := List.all_eq_true.1 h1 y (List.mem_range.2 hxy)
  rw [hx, hy] at h2
  rw [Bool.or_eq_true] at h2
  rcases h2 with h2 | h2
  · exfalso
    cases hm : (masks ops.toList [])[x]? with
    | none => rw [List.getD_eq_getElem?_getD, hm] at h2; simp at h2
    | some m =>
      rw [List.getD_eq_getElem?_getD, hm] at h2
      have := masks_ok (ops := ops) ops.toList [] (fun i o ho => by simpa using ho) (fun x m hx => by simp at hx) x m hm listed hc hd y h2
      rw [hny] at this; cases this
  · exact h2

/-- An operation that none before it hinders may be carried out first. -/
theorem bubble {env : Env} {nt : Nat} {ops : Array Oper} {x : Nat} {ox : Oper} (hx : ops[x]? = some ox) : ∀ (l1 l2 : List Nat) (s s' : S) (ps : List Prop),
    (∀ y ∈ l1, ∀ oy, ops[y]? = some oy → indepB ops oy ox = true) → aops P env nt ops (l1 ++ x :: l2) s = some (s', ps) →
    ∃ s1 p1 p2, astep P env nt ops ox s = some (s1, p1) ∧ aops P env nt ops (l1 ++ l2) s1 = some (s', p2) ∧ (All ps → All p1 ∧ All p2)
  | [], l2, s, s', ps, _, h => by
    simp only [List.nil_append, aops, hx] at h ⊢
    cases h1 : astep P env nt ops ox s with
    | none => rw [h1] at h; cases h
    | some q =>
      obtain ⟨s1, p1⟩ := q
      rw [h1] at h
      dsimp only at h
      cases h2 : aops P env nt ops l2 s1 with
      | none => rw [h2] at h; cases h
      | some q =>
        obtain ⟨s2, p2⟩ := q
        rw [h2] at h; cases h
        exact ⟨s1, p1, p2, rfl, h2, fun h => All.append h⟩
  | y :: l1, l2, s, s', ps, hi, h => by
    simp only [List.cons_append, aops] at h
    cases hy : ops[y]? with
    | none => rw [hy] at h; cases h
    | some oy =>
      rw [hy] at h
      dsimp only at h
      cases h1 : astep P env nt ops oy s with
      | none => rw [h1] at h; cases h
      | some q =>
        obtain ⟨s1, p1⟩ := q
        rw [h1] at h
        dsimp only at h
        cases h2 : aops P env nt ops (l1 ++ x :: l2) s1 with
        | none => rw [h2] at h; cases h
        | some q =>
          obtain ⟨s2, p2⟩ := q
          rw [h2] at h; cases h
          obtain ⟨t1, q1, q2, b1, b2, b3⟩ := bubble hx l1 l2 s1 s' p2 (fun y' hy' => hi y' (List.mem_cons_of_mem _ hy')) h2
          obtain ⟨t0, c1, c2⟩ := swap (hi y (List.mem_cons_self ..) oy hy) h1 b1
          refine ⟨t0, q1, p1 ++ q2, c1, ?_, fun hps => ?_⟩
          · simp only [List.cons_append, aops, hy, c2, b2]
          · obtain ⟨u1, u2⟩ := All.append hps
            exact ⟨(b3 u2).1, All.mk u1 (b3 u2).2⟩

theorem sublist_split {l : List Nat} (hs : l.Pairwise (· < ·)) {x : Nat} (hx : x ∈ l) : ∃ l1 l2, l = l1 ++ x :: l2 ∧ ∀ y ∈ l1, y < x := by
  obtain ⟨l1, l2, rfl⟩ := List.append_of_mem hx
  refine ⟨l1, l2, rfl, fun y hy => ?_⟩
  exact (List.pairwise_append.1 hs).2.2 y hy x (List.mem_cons_self ..)

def lsF (listed : Array Bool) : Nat → Bool := fun i => listed.getD i false

theorem aops_any {env : Env} (henv : EnvOk P env) {ops : Array Oper} (hk : drawOk ops = true) {Q : Exit → Act → World → Prop} {s' : S}
    (hq : ∀ a' w', St C s' a' w' → Q .normal a' w') : ∀ (fuel : Nat) (listed : Array Bool) (l : List Nat) (s : S) (ps : List Prop) (a : Act) (w : World),
    listed.size = ops.size → (∀ i, i ∈ l ↔ i < ops.size ∧ listed.getD i true = false) → l.Pairwise (· < ·) → Closed ops (lsF listed) → l.length ≤ fuel →
    aops P env C.nt ops l s = some (s', ps) → All ps → St C s a w → (∀ (x : Nat) (o : Oper), ops[x]? = some o → ∀ e ∈ o.after, e.on < x) → wpAny P .any ops Q fuel listed a w := by
  intro fuel
  induction fuel with
  | zero =>
    intro listed l s ps a w hsz hl hsort hcl hle h hps hs hbk
    have : l = [] := List.length_eq_zero_iff.1 (Nat.le_zero.1 hle)
    subst this
    cases h
    refine ⟨?_, hq a w hs⟩
    refine List.eq_nil_iff_forall_not_mem.2 fun j hj => ?_
    obtain ⟨h0, o, ho, _⟩ := mem_ready.1 hj
    exact absurd ((hl j).2 ⟨(Array.getElem?_eq_some_iff.1 ho).1, h0⟩) (by simp)
  | succ fuel ih =>
    intro listed l s ps a w hsz hl hsort hcl hle h hps hs hbk
    refine ⟨fun hr => ?_, fun x hx => ?_⟩
    · cases l with
      | nil => cases h; exact hq a w hs
      | cons x r =>
        exfalso
        have hxm := (hl x).1 (List.mem_cons_self ..)
        have hox : ops[x]? = some ops[x] := Array.getElem?_eq_getElem hxm.1
        have : x ∈ Region.ready .any ops listed := by
          refine mem_ready.2 ⟨hxm.2, _, hox, fun e he _ => ?_⟩
          have hlt := hbk x _ hox e he
          cases hle' : listed.getD e.on false with
          | true => rfl
          | false =>
            exfalso
            have he2 : e.on < ops.size := Nat.lt_trans hlt hxm.1
            have hmem : e.on ∈ x :: r := by
              refine (hl e.on).2 ⟨he2, ?_⟩
              have hlt3 : e.on < listed.size := by rw [hsz]; exact he2
              simpa [Array.getD, hlt3] using hle'
            rcases List.mem_cons.1 hmem with h3 | h3
            · omega
            · have := List.rel_of_pairwise_cons hsort h3
              omega
        rw [hr] at this; cases this
    · obtain ⟨h0, ox, hox, hall⟩ := mem_ready.1 hx
      have hlt := (Array.getElem?_eq_some_iff.1 hox).1
      obtain ⟨l1, l2, rfl, hl1⟩ := sublist_split hsort ((hl x).2 ⟨hlt, h0⟩)
      have hind : ∀ y ∈ l1, ∀ oy, ops[y]? = some oy → indepB ops oy ox = true := fun y hy oy hoy => by
        refine drawOk_spec hk (hl1 y hy) hox hoy hcl ?_ ?_
        · intro o ho e he hb
          rw [hox] at ho; cases ho
          exact hall e he hb
        · have := ((hl y).1 (List.mem_append_left _ hy)).2
          have hy2 : y < listed.size := by rw [hsz]; exact ((hl y).1 (List.mem_append_left _ hy)).1
          simp only [lsF]
          simpa [Array.getD, hy2] using this
      obtain ⟨s1, p1, p2, b1, b2, b3⟩ := bubble hox l1 l2 s s' ps hind h
      obtain ⟨hp1, hp2⟩ := b3 hps
      have step := astep_sound henv b1 hp1 hs (next := wpAny P .any ops Q fuel (listed.setIfInBounds x true)) (Q := Q) fun a' w' hs' => by
        have hpw := List.pairwise_append.1 hsort
        refine ih (listed.setIfInBounds x true) (l1 ++ l2) s1 p2 a' w' (by simpa using hsz) (fun i => ?_) ?_ ?_ ?_ b2 hp2 hs' hbk
        · have hi := hl i
          by_cases hix : x = i
          · subst hix
            have hxs : x < listed.size := by rw [hsz]; exact hlt
            constructor
            · intro hm
              exfalso
              rcases List.mem_append.1 hm with hm | hm
              · exact absurd (hl1 x hm) (by omega)
              · have := List.rel_of_pairwise_cons hpw.2.1 hm
                omega
            · rintro ⟨_, hh⟩
              simp [hxs] at hh
          · rw [getD_set_ne true hix, ← hi]
            simp only [List.mem_append, List.mem_cons]
            constructor
            · rintro (h | h)
              · exact .inl h
              · exact .inr (.inr h)
            · rintro (h | h | h)
              · exact .inl h
              · exact absurd h.symm hix
              · exact .inr h
        · exact List.Pairwise.sublist (List.Sublist.append (List.Sublist.refl _) (List.sublist_cons_self ..)) hsort
        · intro y hy o ho e he hb
          simp only [lsF] at hy ⊢
          by_cases hyx : x = y
          · subst hyx
            rw [hox] at ho; cases ho
            exact getD_set_true (hall e he hb)
          · rw [getD_set_ne false hyx] at hy
            exact getD_set_true (hcl y hy o ho e he hb)
        · simp only [List.length_append, List.length_cons] at hle ⊢
          omega
      unfold wpOp
      rw [hox]
      dsimp only
      split
      · rename_i hw; rw [if_pos hw] at step; exact .inl step
      · rename_i hw; rw [if_neg hw] at step; exact step

def backOk (ops : Array Oper) : Bool := (List.range ops.size).all fun x => match ops[x]? with
  | some o => o.after.all fun e => Nat.blt e.on x
  | none => true
theorem backOk_spec {ops : Array Oper} (h : backOk ops = true) : ∀ (x : Nat) (o : Oper), ops[x]? = some o → ∀ e ∈ o.after, e.on < x := by
  intro x o ho e he
  have h1 := List.all_eq_true.1 h x (List.mem_range.2 (Array.getElem?_eq_some_iff.1 ho).1)
  rw [ho] at h1
  have := Array.all_eq_true_iff_forall_mem.1 h1 e he
  rwa [Nat.blt_eq] at this

theorem T_regiond {env : Env} (henv : EnvOk P env) (hm : P.follows .mixedOrders = true) {id : Nat} {ops : Array Oper} {Q : Exit → S → Prop} {ps : List Prop}
    (hk : drawOk ops = true) (hb : backOk ops = true)
    (h : aops P env C.nt ops (List.range ops.size) s = some (s', ps)) (hp : All ps) (hq : Q .normal s') : T P C (.region id ops true) s Q := by
  intro a w hs
  refine wp_region_any hm ?_
  refine aops_any henv hk (fun a' w' hs' => ⟨s', hq, hs'⟩) ops.size _ (List.range ops.size) s ps a _ (by simp) (fun i => ?_) List.pairwise_lt_range ?_ (by simp) h hp hs.drew (backOk_spec hb)
  · simp only [List.mem_range]
    constructor
    · intro hi; exact ⟨hi, by simp [hi]⟩
    · exact fun h => h.1
  · intro x hx
    exfalso
    simp only [lsF] at hx
    rw [Array.getD_eq_getD_getElem?, Array.getElem?_replicate] at hx
    split at hx <;> simp at hx

/-- What a drawn region must pass. -/
def drawC (c : Code) : Bool := match region? c with
  | some (_, ops, true) => drawOk ops && backOk ops
  | _ => false

theorem T_regd {env : Env} (henv : EnvOk P env) (hm : P.follows .mixedOrders = true) {nt : Nat} {fx : List Nat} (hC : CtxOk C nt fx) {c : Code} {Q : Exit → S → Prop} (rn : Rn) (l : List (Nat × AV)) (o : List (Nat × AObj)) (ps : List Prop)
    (h : arun P env nt c s rn l = some (true, (wants rn l o).1, (wants rn l o).2, ps)) (hd : drawC c = true) (hk : (o.map (·.1), okB fx rn l o) = (rn.map (·.1), true)) (hp : All ps) (hq : ∀ s', Sub C s' (mkS l o) → Q .normal s') :
    T P C c s Q := by
  have hnt := hC.nt
  subst hnt
  unfold arun at h
  unfold drawC at hd
  cases hr : region? c with
  | none => rw [hr] at h; cases h
  | some r =>
    obtain ⟨id, ops, d⟩ := r
    rw [hr] at h hd
    dsimp only at h
    cases ha : aops P env C.nt ops (List.range ops.size) s with
    | none => rw [ha] at h; cases h
    | some q =>
      obtain ⟨s', ps'⟩ := q
      rw [ha] at h
      simp only [Option.some.injEq, Prod.mk.injEq] at h
      obtain ⟨rfl, h1, h2, rfl⟩ := h
      have hc := region?_spec hr
      rw [hc]
      have hv : view rn l s' = wants rn l o := Prod.ext h1 h2
      simp only [Prod.mk.injEq] at hk
      simp only [Bool.and_eq_true] at hd
      exact T_regiond henv hm hd.1 hd.2 ha hp (hq s' (Sub_view hC rn hk.1 hv hk.2))
end Go.Am
