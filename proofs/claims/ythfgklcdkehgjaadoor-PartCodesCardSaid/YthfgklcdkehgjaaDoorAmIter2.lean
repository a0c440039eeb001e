/-
  The abstract machine of these proofs.
-/
import Derived.Test.YthfgklcdkehgjaaDoorAmLend
set_option linter.unusedVariables false
/-! A range over a function: small laws for putting the pieces together. -/
namespace Go.Am
open Go Go.RowKit
variable {P : Program} {C C' : Ctx} {s s' : S} {a a' : Act} {w w' w1 w2 : World} {γ γ' γ1 γ2 : Nat → Option G} {M M' M1 M2 : Mem} {o o' o1 o2 : List (Nat × AObj)}

theorem Hold.of_st {l : List (Nat × AV)} (h : StG C γ M (mkS l o) a w) : Hold γ M w o := by
  refine ⟨h.ob, fun id hu => h.us id ?_, h.sep, fun id g b h1 h2 h3 => (h.lo id g b h1 h2 h3).2, h.mem⟩
  show (lookO id o).isSome = false
  rw [hu]; rfl

theorem aops_then {env : Env} (henv : EnvOk P env) {ops : Array Oper} {Q : Exit → Act → World → Prop} {l2 : List Nat} : ∀ (l : List Nat) {s s' : S} {ps : List Prop} {a : Act} {w : World},
    aops P env C.nt ops l s = some (s', ps) → All ps → St C s a w → (∀ a' w', St C s' a' w' → wpOpsIn (FW C.rd) 0 P ops Q l2 a' w') → wpOpsIn (FW C.rd) 0 P ops Q (l ++ l2) a w := by
  intro l
  induction l with
  | nil => intro s s' ps a w h hp hs hq; cases h; exact hq a w hs
  | cons i r ih =>
    intro s s' ps a w h hp hs hq
    simp only [aops] at h
    simp only [List.cons_append, wpOpsIn]
    cases ho : ops[i]? with
    | none => rw [ho] at h; cases h
    | some o =>
      rw [ho] at h
      dsimp only at h ⊢
      cases h1 : astep P env C.nt ops o s with
      | none => rw [h1] at h; cases h
      | some q =>
        obtain ⟨s1, p1⟩ := q
        rw [h1] at h
        dsimp only at h
        cases h2 : aops P env C.nt ops r s1 with
        | none => rw [h2] at h; cases h
        | some q =>
          obtain ⟨s2, p2⟩ := q
          rw [h2] at h
          cases h
          obtain ⟨hp1, hp2⟩ := All.append hp
          have := astep_sound henv h1 hp1 hs (next := wpOpsIn (FW C.rd) 0 P ops Q (r ++ l2)) (Q := Q) fun a' w' hs' => ih h2 hp2 hs' hq
          split
          · rename_i hw; rw [if_pos hw] at this; exact this
          · rename_i hw; rw [if_neg hw] at this; exact ⟨fun _ _ => trivial, this⟩

/-- The operations of a list, and what is kept of the state behind them. -/
def aopsK (P : Program) (env : Env) (nt : Nat) (ops : Array Oper) (l : List Nat) (s : S) (fx : List Nat) (c : Cut) : Option (Ans × List Prop) :=
  match aops P env nt ops l s with
  | some (s', ps) => match kTag fx c .normal s' with
    | some r => some (r, ps)
    | none => none
  | none => none
theorem aopsK_get {nt : Nat} {fx : List Nat} (hC : CtxOk C nt fx) {env : Env} (henv : EnvOk P env) {ops : Array Oper} {Q : Exit → Act → World → Prop} {l l2 : List Nat} {c : Cut} {t : AV} {xs : List AV} {ps : List Prop}
    (h : aopsK P env nt ops l s fx c = some ((.tup (t :: xs), o), ps)) (hp : All ps) (hs : St C s a w) (hq : ∀ a' w', St C (mkS (List.zip c.slots xs) o) a' w' → wpOpsIn (FW C.rd) 0 P ops Q l2 a' w') : wpOpsIn (FW C.rd) 0 P ops Q (l ++ l2) a w := by
  unfold aopsK at h
  split at h
  · rename_i s' ps' he
    split at h
    · rename_i r hk
      cases h
      rw [← hC.nt] at he
      exact aops_then henv l he hp hs fun a' w' hs' => hq a' w' ((kTag_get hC hk).2 _ _ hs')
    · cases h
  · cases h
theorem ops_cons {F : Fence} {n : Nat} {ops : Array Oper} {Q : Exit → Act → World → Prop} {i : Nat} {rest : List Nat} {o : Oper} (ho : ops[i]? = some o) (hg : o.guard = none) (h : o.wpIn F n P a w (wpOpsIn F n P ops Q rest) Q) : wpOpsIn F n P ops Q (i :: rest) a w := by
  unfold wpOpsIn
  rw [ho]
  dsimp only
  rw [if_pos (by simp [Region.wanted, hg])]
  exact h

theorem sl_nil {f : Nat → Value} : ∀ t, ARel γ M (look t .any []) (f t) := fun _ => .any _
theorem sl_cons {f : Nat → Value} {k : Nat} {x : AV} {l : List (Nat × AV)} (h : ARel γ M x (f k)) (hr : ∀ t, ARel γ M (look t .any l) (f t)) : ∀ t, ARel γ M (look t .any ((k, x) :: l)) (f t) := by
  intro t
  unfold look
  cases hb : Nat.beq t k with
  | true => rw [Nat.eq_of_beq_eq_true hb]; exact h
  | false => exact hr t
theorem lookO_ne {id : Nat} {x y : AObj} {r : List (Nat × AObj)} : ∀ i, i ≠ id → lookO i ((id, x) :: r) = lookO i ((id, y) :: r) := by
  intro i hi
  unfold lookO
  cases hb : Nat.beq i id with
  | true => exact absurd (Nat.eq_of_beq_eq_true hb) hi
  | false => rfl
theorem lookO_hd {id : Nat} {x : AObj} {r : List (Nat × AObj)} : lookO id ((id, x) :: r) = some x := by
  unfold lookO
  rw [Nat.beq_refl]
theorem ARel.ref_kept {γ γ' : Nat → Option G} {M M' : Mem} {id off : Nat} {v : Value} (h : ARel γ M (.ref id off) v) (k : ∀ g, γ id = some g → γ' id = some g) : ARel γ' M' (.ref id off) v := by
  cases h with | ref _ _ b hb => exact .ref _ _ b (k _ hb)
theorem ARel.p_any {γ γ' : Nat → Option G} {M M' : Mem} (hM : MLe M M') {x : PV} {v : Value} (h : ARel γ M (.p x) v) : ARel γ' M' (.p x) v := .p _ _ (h.p_inv.mono hM)
theorem ARel.clo0 {fn : Fn} {v : Value} (h : ARel γ M (.clo fn [] []) v) : v = .func fn #[] #[] := by
  cases h with
  | clo _ _ _ vf vc hf hc _ _ =>
    have e1 : vf = #[] := Array.eq_empty_of_size_eq_zero hf
    have e2 : vc = #[] := Array.eq_empty_of_size_eq_zero hc
    rw [e1, e2]
theorem arr3 {v : Array Value} (h : v.size = 3) : ∃ x y z, v = #[x, y, z] := by
  obtain ⟨l⟩ := v
  match l, h with
  | [x, y, z], _ => exact ⟨x, y, z, rfl⟩
theorem ARel.clo3 {fn : Fn} {x y z : AV} {v : Value} (h : ARel γ M (.clo fn [] [x, y, z]) v) : ∃ p q r, v = .func fn #[] #[p, q, r] ∧ ARel γ M x p ∧ ARel γ M y q ∧ ARel γ M z r := by
  cases h with
  | clo _ _ _ vf vc hf hc _ h2 =>
    have e1 : vf = #[] := Array.eq_empty_of_size_eq_zero hf
    obtain ⟨p, q, r, rfl⟩ := arr3 hc
    exact ⟨p, q, r, by rw [e1], h2 0 (by simp), h2 1 (by simp), h2 2 (by simp)⟩
theorem Hold.raw_at (h : Hold γ M w o) {id b : Nat} {x : Obj} (hid : lookO id o = some (.raw x)) (hb : γ id = some (.cell b)) : w.heap[b]? = some x ∧ b < w.heap.size := by
  obtain ⟨b', hg', hx, _⟩ := h.ob id _ hid
  rw [hb] at hg'; cases hg'
  exact ⟨hx, h.lt id _ b (by rw [hid]; simp) hb rfl⟩
theorem gset {tm : Array Value} {k t : Nat} {v : Value} (hk : k < tm.size) : (tm.setIfInBounds k v).getD t undef = if k = t then v else tm.getD t undef := by
  rw [Array.getD_eq_getD_getElem?, Array.getElem?_setIfInBounds]
  split
  · rename_i h; subst h; simp []
  · rw [Array.getD_eq_getD_getElem?]
theorem st_init {nt : Nat} {l : List (Nat × AV)} {tm : Array Value} (hM : MOk M w) (hsl : ∀ t, ARel γ0 M (look t .any l) (tm.getD t undef)) (hn : tm.size = nt) :
    StG { w0 := w, M0 := M, own := fun _ => False, nt := nt, g0 := γ0 } γ0 M (mkS l []) { tmps := tm, defers := [] } w := by
  refine ⟨hsl, ?_, fun _ _ => rfl, ?_, ?_, hM, MLe.refl M, fun _ _ _ => rfl, ⟨rfl, rfl, rfl, Nat.le_refl _, fun _ _ _ => rfl⟩, rfl, hn, GLe.refl γ0⟩
  · intro id o ho; cases ho
  · intro id id' g g' b h1; exact absurd rfl h1
  · intro id g b h1; exact absurd rfl h1
theorem chain3 {G : Cfg} (hG : CfgOk G P C) {nt : Nat} {fx : List Nat} (hC : CtxOk C nt fx) {c1 c2 c3 c4 : Code} {c : Cut} {t : AV} {xs : List AV} {Q : Exit → Act → World → Prop} {b : Nat}
    (hv : runC G agNone [] c1 s (kNext G c2 (kNext G c3 (kTag fx c))) = some (.tup (t :: xs), o)) (hs : St C s a w)
    (hn : ∀ a w, t = .p (.int .i64 (-1)) → St C (mkS (List.zip c.slots xs) o) a w → c4.wpIn (FW C.rd) 0 P (Exit.inBlock b Q) a w)
    (he : ∀ e a w, e ≠ .normal → tagOf e = t → St C (mkS (List.zip c.slots xs) o) a w → Q e a w ∧ Exit.inBlock b Q e a w) :
    (Code.seq c1 (.block b (.seq c2 (.seq c3 c4)))).wpIn (FW C.rd) 0 P Q a w := by
  have key : ∀ e s' a' w', e ≠ .normal → kTag fx c e s' = some (.tup (t :: xs), o) → St C s' a' w' → Q e a' w' ∧ Exit.inBlock b Q e a' w' := by
    intro e s' a' w' hne hk hs'
    obtain ⟨h1, h2⟩ := kTag_get hC hk
    exact he e a' w' hne h1 (h2 _ _ hs')
  refine wpIn_seq (wpIn_piece hG hv hs fun e s1 a1 w1 hk1 hs1 => ?_)
  cases e with
  | normal =>
    refine wpIn_block (wpIn_seq (wpIn_piece hG (s := s1) hk1 hs1 fun e s2 a2 w2 hk2 hs2 => ?_))
    cases e with
    | normal =>
      refine wpIn_seq (wpIn_piece hG (s := s2) hk2 hs2 fun e s3 a3 w3 hk3 hs3 => ?_)
      cases e with
      | normal =>
        obtain ⟨h1, h2⟩ := kTag_get hC hk3
        exact hn a3 w3 h1.symm (h2 _ _ hs3)
      | exit i => exact (key (.exit i) s3 a3 w3 (by simp) hk3 hs3).2
      | ret => exact (key .ret s3 a3 w3 (by simp) hk3 hs3).2
      | goto i => exact (key (.goto i) s3 a3 w3 (by simp) hk3 hs3).2
      | panic i => exact (key (.panic i) s3 a3 w3 (by simp) hk3 hs3).2
      | outgrown => exact (key .outgrown s3 a3 w3 (by simp) hk3 hs3).2
    | exit i => exact (key (.exit i) s2 a2 w2 (by simp) hk2 hs2).2
    | ret => exact (key .ret s2 a2 w2 (by simp) hk2 hs2).2
    | goto i => exact (key (.goto i) s2 a2 w2 (by simp) hk2 hs2).2
    | panic i => exact (key (.panic i) s2 a2 w2 (by simp) hk2 hs2).2
    | outgrown => exact (key .outgrown s2 a2 w2 (by simp) hk2 hs2).2
  | exit i => exact (key (.exit i) s1 a1 w1 (by simp) hk1 hs1).1
  | ret => exact (key .ret s1 a1 w1 (by simp) hk1 hs1).1
  | goto i => exact (key (.goto i) s1 a1 w1 (by simp) hk1 hs1).1
  | panic i => exact (key (.panic i) s1 a1 w1 (by simp) hk1 hs1).1
  | outgrown => exact (key .outgrown s1 a1 w1 (by simp) hk1 hs1).1
theorem wpIn_pieceLp {G : Cfg} (hG : CfgOk G P C) (F : Nat) (p : List Nat) {c : Code} {s : S} {k : K} {r : Ans} {R : Exit → Act → World → Prop} (h : runC G (runL G F) p c s k = some r) (hs : St C s a w) (hk : ∀ e s' a' w', k e s' = some r → St C s' a' w' → R e a' w') : c.wpIn (FW C.rd) 0 P R a w :=
  wpIn_mono ((runC_sound hG (fun p b s k Q => runL_sound hG F p b s k Q) c p s k (fun e s' => k e s' = some r) h (fun _ _ h => h) : T P C c s _) a w hs) fun e a' w' ⟨s', h1, h2⟩ => hk e s' a' w' h1 h2
end Go.Am
