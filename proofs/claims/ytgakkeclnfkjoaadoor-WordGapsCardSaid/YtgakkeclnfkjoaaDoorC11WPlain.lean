/-
  Lifted functions, and facts about them.
-/
import Derived.Test.YtgakkeclnfkjoaaDoorRows
import Derived.Test.YtgakkeclnfkjoaaDoorAmC
import Derived.Test.YtgakkeclnfkjoaaDoorC11Words
namespace Go.Proofs.YtgakkeclnfkjoaaDoor
open Go Go.Am
set_option linter.unusedVariables false
/-! What Words answers at texts that are made. -/
theorem drop_shift (p r : List UInt8) (i : Nat) : (p ++ r).drop (p.length + i) = r.drop i := by
  rw [← List.drop_drop, List.drop_left' rfl]
theorem getD_shift (p r : List UInt8) (i : Nat) : (p ++ r).getD (p.length + i) 0 = r.getD i 0 := by
  rw [List.getD_eq_getElem?_getD, List.getD_eq_getElem?_getD, List.getElem?_append_right (by omega), Nat.add_sub_cancel_left]
theorem runN_shift (p r : List UInt8) (i : Nat) : runN (p ++ r) (p.length + i) = p.length + runN r i := by
  unfold runN; rw [drop_shift]; omega
theorem blN_shift (p r : List UInt8) (i : Nat) : blN (p ++ r) (p.length + i) = p.length + blN r i := by
  unfold blN; rw [drop_shift]; omega
theorem mid_shift (p r : List UInt8) (b a : Nat) : ((p ++ r).take (p.length + b)).drop (p.length + a) = (r.take b).drop a := by
  rw [List.take_append, List.take_of_length_le (by omega), Nat.add_sub_cancel_left, drop_shift]
theorem parse_shift (p r : List UInt8) (i : Nat) : parse (p ++ r) (p.length + i) = (parse r i).map fun q => (p.length + q.1, p.length + q.2) := by
  unfold parse
  rw [drop_shift, Nat.add_assoc p.length i 2, runN_shift, Nat.add_assoc p.length (runN r (i + 2)) 2, Nat.add_assoc p.length (runN r (i + 2)) 3, getD_shift, getD_shift, runN_shift, drop_shift]
  split
  · rfl
  · have e : (p.length + runN r (i + 2) = p.length + (i + 2) ∨ (p ++ r).length < p.length + (runN r (i + 2) + 3) ∨ r.getD (runN r (i + 2)) 0 ≠ 63 ∨ r.getD (runN r (i + 2) + 2) 0 ≠ 63) ↔
        (runN r (i + 2) = i + 2 ∨ r.length < runN r (i + 2) + 3 ∨ r.getD (runN r (i + 2)) 0 ≠ 63 ∨ r.getD (runN r (i + 2) + 2) 0 ≠ 63) := by
      rw [List.length_append]
      refine or_congr (by omega) (or_congr (by omega) Iff.rfl)
    by_cases h : (runN r (i + 2) = i + 2 ∨ r.length < runN r (i + 2) + 3 ∨ r.getD (runN r (i + 2)) 0 ≠ 63 ∨ r.getD (runN r (i + 2) + 2) 0 ≠ 63)
    · rw [if_pos h, if_pos (e.2 h)]; rfl
    · rw [if_neg h, if_neg (fun h' => h (e.1 h'))]
      split <;> rfl
theorem pick_eq (m : List UInt8 × Int × Bool) : (if m.2.2 = true then some (m.1, m.2.1.toNat) else none) = bif m.2.2 then some (m.1, m.2.1.toNat) else none := by cases m.2.2 <;> rfl
theorem okAt_eq (s : List UInt8) (i : Nat) : okAt s i = (parse s i).bind fun q => (bodyS (s.getD (q.1 + 1) 0) ((s.take q.2).drop (q.1 + 3))).bind fun u =>
    bif (saysS ((s.take q.1).drop (i + 2)) u).2 then some ((saysS ((s.take q.1).drop (i + 2)) u).1, q.2 + 2) else none := by
  unfold okAt
  rw [pick_eq]
  unfold oneS
  rw [show ((i : Int)).toNat = i from rfl]
  cases parse s i with
  | none => rfl
  | some q =>
    obtain ⟨a, b⟩ := q
    dsimp only [Option.bind_some]
    cases bodyS (s.getD (a + 1) 0) ((s.take b).drop (a + 3)) with
    | none => rfl
    | some u =>
      dsimp only [Option.bind_some]
      cases (saysS ((s.take a).drop (i + 2)) u).2 <;> rfl
theorem okAt_shift (p r : List UInt8) (i : Nat) : okAt (p ++ r) (p.length + i) = (okAt r i).map fun q => (q.1, p.length + q.2) := by
  rw [okAt_eq, okAt_eq, parse_shift]
  cases parse r i with
  | none => rfl
  | some q =>
    obtain ⟨a, b⟩ := q
    simp only [Option.map_some, Option.bind_some]
    rw [Nat.add_assoc p.length a 1, Nat.add_assoc p.length a 3, getD_shift, mid_shift]
    cases bodyS (r.getD (a + 1) 0) ((r.take b).drop (a + 3)) with
    | none => rfl
    | some u =>
      simp only [Option.bind_some]
      rw [Nat.add_assoc p.length i 2, mid_shift]
      cases (saysS ((r.take a).drop (i + 2)) u).2 with
      | false => rfl
      | true => simp only [cond_true, Option.map_some, Nat.add_assoc]
theorem contN_shift (p r : List UInt8) (i : Nat) : contN (p ++ r) (p.length + i) = p.length + contN r i := by
  unfold contN
  rw [blN_shift, okAt_shift, List.length_append, Option.isSome_map]
  by_cases h : blN r i < r.length ∧ (okAt r (blN r i)).isSome = true
  · rw [if_pos h, if_pos ⟨by omega, h.2⟩]
  · rw [if_neg h, if_neg (fun q => h ⟨by omega, q.2⟩)]
theorem dec_shift (p r : List UInt8) : ∀ (k i : Nat), r.length - i ≤ k → dec (p ++ r) (p.length + i) = dec r i := by
  intro k
  induction k with
  | zero => intro i h; rw [dec_end (by simp; omega), dec_end (by omega)]
  | succ k ih =>
    intro i h
    by_cases hi : i < r.length
    · have hi' : p.length + i < (p ++ r).length := by simp; omega
      cases ho : okAt r i with
      | none =>
        rw [dec_none hi ho, dec_none hi' (by rw [okAt_shift, ho]; rfl), getD_shift, Nat.add_assoc, ih (i + 1) (by omega)]
      | some q =>
        obtain ⟨t, n⟩ := q
        obtain ⟨_, h1, h2, _⟩ := okAt_some ho
        have := contN_le h2
        rw [dec_some hi ho, dec_some (t := t) (n := p.length + n) hi' (by rw [okAt_shift, ho]; rfl), contN_shift, ih (contN r n) (by omega)]
    · rw [dec_end (by simp; omega), dec_end (by omega)]
/-- Behind a word. -/
def contW (r : List UInt8) : List UInt8 := dec r (contN r 0)
theorem word_nil : wordS [] = [] := dec_end (by simp)
theorem word_cons {c : UInt8} {r : List UInt8} (h : okAt (c :: r) 0 = none) : wordS (c :: r) = c :: wordS r := by
  rw [wordS, dec_none (by simp) h]
  have := dec_shift [c] r r.length 0 (by omega)
  rw [show [c] ++ r = c :: r from rfl, show [c].length + 0 = 0 + 1 from rfl] at this
  rw [this]; rfl
theorem word_ne {c : UInt8} {r : List UInt8} (h : c ≠ 61) : wordS (c :: r) = c :: wordS r := by
  refine word_cons ?_
  cases ho : okAt (c :: r) 0 with
  | none => rfl
  | some q => obtain ⟨t, n⟩ := q; exact absurd (okAt_some ho).2.2.2.1 h
theorem word_app {p : List UInt8} (h : ∀ c ∈ p, c ≠ 61) (r : List UInt8) : wordS (p ++ r) = p ++ wordS r := by
  induction p with
  | nil => rfl
  | cons c p ih => rw [List.cons_append, word_ne (h c (by simp)), ih (fun d hd => h d (by simp [hd]))]; rfl
theorem word_id {p : List UInt8} (h : ∀ c ∈ p, c ≠ 61) : wordS p = p := by
  have := word_app h []
  rw [List.append_nil, word_nil, List.append_nil] at this; exact this
theorem word_ok {x r t : List UInt8} (h : okAt (x ++ r) 0 = some (t, x.length)) : wordS (x ++ r) = t ++ contW r := by
  have h1 := okAt_some h
  have hp : 0 < (x ++ r).length := by have := h1.2.1; have := h1.2.2.1; omega
  rw [wordS, dec_some hp h]
  have e := contN_shift x r 0
  rw [Nat.add_zero] at e
  rw [e, dec_shift x r r.length _ (by omega)]; rfl
theorem bl_ne {c : UInt8} (h : isBl c = true) : c ≠ 61 := fun e => by subst e; cases h
theorem contW_eq {g r : List UInt8} (hg : ∀ c ∈ g, isBl c = true) (hr : ∀ c r', r = c :: r' → isBl c = false) : contW (g ++ r) = if (okAt r 0).isSome = true then wordS r else g ++ wordS r := by
  have hb : blN (g ++ r) 0 = g.length := by
    have h1 := blN_at (s := g ++ r) (i := g.length) (fun h => ?_) g.length 0 (by omega) (by simp) (fun j h1 h2 => ?_)
    · exact h1
    · have := getD_shift g r 0
      rw [Nat.add_zero] at this
      rw [this]
      cases r with
      | nil => simp at h
      | cons c r' => exact hr c r' rfl
    · rw [List.getD_eq_getElem?_getD, List.getElem?_append_left h2, List.getElem?_eq_getElem h2]
      exact hg _ (List.getElem_mem h2)
  have e := okAt_shift g r 0
  rw [Nat.add_zero] at e
  unfold contW contN
  rw [hb, e, Option.isSome_map]
  by_cases ho : (okAt r 0).isSome = true
  · have hl : g.length < (g ++ r).length := by
      cases r with
      | nil =>
        have : okAt [] 0 = none := by
          cases ho : okAt [] 0 with
          | none => rfl
          | some q => obtain ⟨t, n⟩ := q; have := okAt_some ho; simp at this
        rw [this] at ho; cases ho
      | cons c r' => simp
    rw [if_pos ⟨hl, ho⟩, if_pos ho]
    have := dec_shift g r r.length 0 (by omega)
    rw [Nat.add_zero] at this; exact this
  · rw [if_neg (fun h => ho h.2), if_neg ho]
    exact word_app (fun c hc => bl_ne (hg c hc)) r
theorem contW_nil : contW [] = [] := by
  have := contW_eq (g := []) (r := []) (by simp) (by simp)
  simp only [List.append_nil, List.nil_append] at this
  rw [this, word_nil]; split <;> rfl
theorem contW_bl {g : List UInt8} (hg : ∀ c ∈ g, isBl c = true) : contW g = g := by
  have := contW_eq (g := g) (r := []) hg (by simp)
  rw [List.append_nil] at this
  rw [this, word_nil, List.append_nil]
  split
  · rename_i h
    have : okAt [] 0 = none := by
      cases ho : okAt [] 0 with
      | none => rfl
      | some q => obtain ⟨t, n⟩ := q; have := okAt_some ho; simp at this
    rw [this] at h; cases h
  · rfl
theorem contW_ne {g : List UInt8} {c : UInt8} {r : List UInt8} (hg : ∀ c ∈ g, isBl c = true) (hc : isBl c = false) (h61 : c ≠ 61) : contW (g ++ c :: r) = g ++ c :: wordS r := by
  rw [contW_eq hg (fun d r' e => by cases e; exact hc), word_ne h61, if_neg]
  cases ho : okAt (c :: r) 0 with
  | none => simp
  | some q => obtain ⟨t, n⟩ := q; exact absurd (okAt_some ho).2.2.2.1 h61
theorem contW_ok {g x r t : List UInt8} (hg : ∀ c ∈ g, isBl c = true) (h : okAt (x ++ r) 0 = some (t, x.length)) : contW (g ++ (x ++ r)) = t ++ contW r := by
  rw [contW_eq hg (fun d r' e => ?_), if_pos (by rw [h]; rfl), word_ok h]
  have h61 := (okAt_some h).2.2.2.1
  rw [e] at h61
  have : d = 61 := h61
  subst this; rfl
/-- A word, made. -/
theorem runN_app {p w : List UInt8} {c : UInt8} {r : List UInt8} (hw : ∀ c ∈ w, inW c = true) (hc : inW c = false) : runN (p ++ (w ++ c :: r)) p.length = p.length + w.length := by
  have := runN_shift p (w ++ c :: r) 0
  rw [Nat.add_zero] at this
  rw [this]
  unfold runN
  rw [List.drop_zero, Nat.zero_add, List.takeWhile_append_of_pos hw, List.takeWhile_cons, if_neg (by rw [hc]; simp), List.append_nil]
def mkW (cs : List UInt8) (k : UInt8) (t : List UInt8) : List UInt8 := sOpen ++ (cs ++ (63 :: k :: 63 :: (t ++ sShut)))
theorem parse_mk {cs t : List UInt8} {k : UInt8} (hc : cs ≠ []) (h1 : ∀ c ∈ cs, inW c = true) (h2 : ∀ c ∈ t, inW c = true) (r : List UInt8) :
    parse (mkW cs k t ++ r) 0 = some (2 + cs.length, 2 + cs.length + 3 + t.length) := by
  have e0 : mkW cs k t ++ r = sOpen ++ (cs ++ 63 :: (k :: 63 :: (t ++ sShut) ++ r)) := by simp [mkW]
  have e1 : mkW cs k t ++ r = (sOpen ++ cs ++ [63, k, 63]) ++ (t ++ 63 :: (61 :: r)) := by simp [mkW]
  have e2 : mkW cs k t ++ r = (sOpen ++ cs) ++ (63 :: k :: 63 :: (t ++ sShut ++ r)) := by simp [mkW]
  have e3 : mkW cs k t ++ r = (sOpen ++ cs ++ [63, k, 63] ++ t) ++ (sShut ++ r) := by simp [mkW]
  have hr1 : runN (mkW cs k t ++ r) 2 = 2 + cs.length := by rw [e0]; exact runN_app (p := sOpen) h1 rfl
  have hr2 : runN (mkW cs k t ++ r) (2 + cs.length + 3) = 2 + cs.length + 3 + t.length := by
    have := runN_app (p := sOpen ++ cs ++ [63, k, 63]) (c := 63) (r := 61 :: r) h2 rfl
    rw [← e1] at this
    have hl : (sOpen ++ cs ++ [63, k, 63]).length = 2 + cs.length + 3 := by simp; omega
    rw [hl] at this; exact this
  have hl2 : (sOpen ++ cs).length = 2 + cs.length := by simp; omega
  have g0 := getD_shift (sOpen ++ cs) (63 :: k :: 63 :: (t ++ sShut ++ r)) 0
  have g2 := getD_shift (sOpen ++ cs) (63 :: k :: 63 :: (t ++ sShut ++ r)) 2
  rw [← e2, hl2] at g0 g2
  have hd := drop_shift (sOpen ++ cs ++ [63, k, 63] ++ t) (sShut ++ r) 0
  have hl3 : (sOpen ++ cs ++ [63, k, 63] ++ t).length + 0 = 2 + cs.length + 3 + t.length := by simp; omega
  rw [← e3, hl3] at hd
  have hlen : (mkW cs k t ++ r).length = 2 + cs.length + 3 + t.length + 2 + r.length := by simp [mkW]; omega
  have hne : cs.length ≠ 0 := by simpa using hc
  unfold parse
  rw [Nat.zero_add, hr1, hr2, hd, List.drop_zero, if_neg (by rw [e0]; simp [hasP]), if_neg, if_neg (by simp [hasP])]
  rintro (h | h | h | h)
  · omega
  · omega
  · exact h g0
  · exact h g2
theorem ok_mk {cs t u : List UInt8} {k : UInt8} (hc : cs ≠ []) (h1 : ∀ c ∈ cs, inW c = true) (h2 : ∀ c ∈ t, inW c = true) (hb : bodyS k t = some u) (r : List UInt8) :
    okAt (mkW cs k t ++ r) 0 = if (saysS cs u).2 = true then some ((saysS cs u).1, (mkW cs k t).length) else none := by
  have e2 : mkW cs k t ++ r = (sOpen ++ cs) ++ (63 :: k :: 63 :: (t ++ sShut ++ r)) := by simp [mkW]
  have e1 : mkW cs k t ++ r = (sOpen ++ cs ++ [63, k, 63]) ++ (t ++ 63 :: (61 :: r)) := by simp [mkW]
  have e0 : mkW cs k t ++ r = sOpen ++ (cs ++ 63 :: (k :: 63 :: (t ++ sShut) ++ r)) := by simp [mkW]
  have hl2 : (sOpen ++ cs).length = 2 + cs.length := by simp; omega
  have hl1 : (sOpen ++ cs ++ [63, k, 63]).length = 2 + cs.length + 3 := by simp; omega
  have g1 := getD_shift (sOpen ++ cs) (63 :: k :: 63 :: (t ++ sShut ++ r)) 1
  rw [← e2, hl2] at g1
  have g2 := mid_shift (sOpen ++ cs ++ [63, k, 63]) (t ++ 63 :: (61 :: r)) t.length 0
  rw [← e1, hl1, List.take_left' rfl, List.drop_zero, Nat.add_zero] at g2
  have g3 := mid_shift sOpen (cs ++ 63 :: (k :: 63 :: (t ++ sShut) ++ r)) cs.length 0
  rw [← e0, List.take_left' rfl, List.drop_zero, Nat.add_zero] at g3
  have g3 : ((mkW cs k t ++ r).take (2 + cs.length)).drop 2 = cs := g3
  have hk : (63 :: k :: 63 :: (t ++ sShut ++ r)).getD 1 0 = k := rfl
  have hlen : (mkW cs k t).length = 2 + cs.length + 3 + t.length + 2 := by simp [mkW]; omega
  rw [okAt_eq, parse_mk hc h1 h2 r]
  simp only [Option.bind_some]
  rw [g1, hk, g2, hb]
  simp only [Option.bind_some]
  rw [Nat.zero_add, g3, hlen]
  cases (saysS cs u).2 <;> rfl
end Go.Proofs.YtgakkeclnfkjoaaDoor
