/-
  Lifted functions, and facts about them.
-/
import Derived.Test.YtmnkkliibjlefaaDoorRows
import Derived.Test.YtmnkkliibjlefaaDoorAmC
import Derived.Test.YtmnkkliibjlefaaDoorC5DecLaw
namespace Go.Proofs.YtmnkkliibjlefaaDoor
open Go Go.Am
set_option linter.unusedVariables false
/-! The statements of chapter 5. -/
theorem u8_bounds {n : Int} (h : IntKind.u8.has n) : 0 ≤ n ∧ n < 256 := by
  have := wrap_of_has h
  rw [u8_wrap] at this
  omega
theorem take_app {p q : List UInt8} {n : Nat} (h : p.length = n) : (p ++ q).take n = p := by rw [← h]; simp
theorem getD_zero {s : List UInt8} {i : Nat} {c : UInt8} {r : List UInt8} (h : s.drop i = c :: r) : s.getD i 0 = c ∧ s.drop (i + 1) = r := ⟨(drop_cons h).1, (drop_cons h).2.1⟩
theorem to8 {n : Nat} (h : n < 256) : (UInt8.ofNat n).toNat = n := by rw [UInt8.toNat_ofNat']; omega
theorem get_put {s : List UInt8} {i r : Nat} {w : List UInt8} (hs : scal r) (hd : s.drop i = putN r ++ w) : getS s (i : Int) = ((r : Int), ((i + putL r : Nat) : Int)) := by
  have hl := putN_l r
  refine get_mk hs (by rw [hd, take_app hl]) ?_
  unfold scal at hs
  unfold putN putL at *
  by_cases h1 : r < 128
  · rw [if_pos h1] at *
    obtain ⟨g, d⟩ := getD_zero hd
    rw [g]
    have e := to8 (n := r) (by omega)
    refine ⟨by rw [szN, e, if_neg (by omega), if_neg (by omega), if_neg (by omega)], ?_⟩
    rw [v0, e, if_neg (by omega), if_neg (by omega), if_neg (by omega)]
    rfl
  · rw [if_neg h1] at *
    by_cases h2 : r < 2048
    · rw [if_pos h2] at *
      obtain ⟨g, d⟩ := getD_zero hd
      rw [g, d]
      have e := to8 (n := 192 + r / 64) (by omega)
      have e1 := to8 (n := 128 + r % 64) (by omega)
      refine ⟨by rw [szN, e, if_neg (by omega), if_neg (by omega), if_pos (by omega)], ?_⟩
      rw [v0, e, if_neg (by omega), if_neg (by omega), if_pos (by omega)]
      show foldV _ [UInt8.ofNat (128 + r % 64)] = r
      rw [foldV, foldV, e1]; omega
    · rw [if_neg h2] at *
      by_cases h3 : r < 65536
      · rw [if_pos h3] at *
        obtain ⟨g, d⟩ := getD_zero hd
        rw [g, d]
        have e := to8 (n := 224 + r / 4096) (by omega)
        have e1 := to8 (n := 128 + r / 64 % 64) (by omega)
        have e2 := to8 (n := 128 + r % 64) (by omega)
        refine ⟨by rw [szN, e, if_neg (by omega), if_pos (by omega)], ?_⟩
        rw [v0, e, if_neg (by omega), if_pos (by omega)]
        show foldV _ [UInt8.ofNat (128 + r / 64 % 64), UInt8.ofNat (128 + r % 64)] = r
        rw [foldV, foldV, foldV, e1, e2]; omega
      · rw [if_neg h3] at *
        obtain ⟨g, d⟩ := getD_zero hd
        rw [g, d]
        have e := to8 (n := 240 + r / 262144) (by omega)
        have e1 := to8 (n := 128 + r / 4096 % 64) (by omega)
        have e2 := to8 (n := 128 + r / 64 % 64) (by omega)
        have e3 := to8 (n := 128 + r % 64) (by omega)
        refine ⟨by rw [szN, e, if_pos (by omega)], ?_⟩
        rw [v0, e, if_pos (by omega)]
        show foldV _ [UInt8.ofNat (128 + r / 4096 % 64), UInt8.ofNat (128 + r / 64 % 64), UInt8.ofNat (128 + r % 64)] = r
        rw [foldV, foldV, foldV, foldV, e1, e2, e3]; omega
theorem drop_put {s : List UInt8} {i r : Nat} {w : List UInt8} (hd : s.drop i = putN r ++ w) : s.drop (i + putL r) = w ∧ i + putL r ≤ s.length := by
  have hl := putN_l r
  have h1 := putL_pos r
  refine ⟨by rw [← List.drop_drop, hd, ← hl]; simp, ?_⟩
  have := congrArg List.length hd
  simp at this; omega
theorem ptsAt_mk {s : List UInt8} : ∀ {t : List Nat} {i : Nat}, (∀ r ∈ t, scal r) → s.drop i = t.flatMap putN → i ≤ s.length → PtsAt s i t
  | [], i, _, hd, hi => by
    show i = s.length
    have := congrArg List.length hd
    simp at this; omega
  | r :: t, i, hs, hd, hi => by
    rw [List.flatMap_cons] at hd
    have hr := hs r (by simp)
    obtain ⟨h1, h2⟩ := drop_put hd
    exact ⟨hr, get_put hr hd, by rw [hd, take_app (putN_l r)], h2, ptsAt_mk (fun x hx => hs x (List.mem_cons_of_mem _ hx)) h1 h2⟩
theorem flat_valid {t : List Nat} (hs : ∀ r ∈ t, scal r) : validS (t.flatMap putN) = true ∧ pts (t.flatMap putN) = t := valid_pts (ptsAt_mk hs rfl (by omega))
theorem enc_flat {t : List Nat} (hs : ∀ r ∈ t, scal r) : enc7S (t.flatMap putN) = (encP [] t, 0) := by rw [enc7S, if_pos (flat_valid hs).1, (flat_valid hs).2]
theorem enc_valid {a : List UInt8} (h : validS a = true) : enc7S a = (encP [] (pts a), 0) := by rw [enc7S, if_pos h]
/-- Behind points, bytes that are none. -/
theorem bad_at {s w : List UInt8} : ∀ {t : List Nat} {i f : Nat}, (∀ r ∈ t, scal r) → s.drop i = t.flatMap putN ++ w → w ≠ [] → (∀ j, s.drop j = w → (getS s (j : Int)).1 < 0) → t.length < f → validF f s (i : Int) = false
  | [], i, 0, _, _, _, _, hf => by cases hf
  | [], i, f + 1, _, hd, hw, hg, _ => by
    have hl := List.length_pos_iff.2 hw
    have hlen := congrArg List.length hd
    simp at hlen
    rw [validF, if_pos (by omega), if_pos (hg i hd)]
  | r :: t, i, 0, _, _, _, _, hf => by simp at hf
  | r :: t, i, f + 1, hs, hd, hw, hg, hf => by
    rw [List.flatMap_cons, List.append_assoc] at hd
    have hr := hs r (by simp)
    obtain ⟨h1, h2⟩ := drop_put hd
    have hp := putL_pos r
    have c1 : (i : Int) < s.length := by omega
    rw [validF, if_pos c1, get_put hr hd, if_neg (by dsimp only; omega)]
    exact bad_at (fun x hx => hs x (List.mem_cons_of_mem _ hx)) h1 hw hg (by simp at hf; omega)
theorem flat_len : ∀ (t : List Nat), t.length ≤ (t.flatMap putN).length
  | [] => by simp
  | r :: t => by have := flat_len t; have := putL_pos r; rw [List.flatMap_cons, List.length_append, putN_l, List.length_cons]; omega
theorem putN_high {r : Nat} (h : 128 ≤ r) (h2 : r ≤ 1114111) : ∃ a b q, putN r = a :: b :: q ∧ 128 ≤ b.toNat := by
  unfold putN
  rw [if_neg (by omega)]
  split
  · exact ⟨_, _, _, rfl, by rw [to8 (by omega)]; omega⟩
  · split
    · exact ⟨_, _, _, rfl, by rw [to8 (by omega)]; omega⟩
    · exact ⟨_, _, _, rfl, by rw [to8 (by omega)]; omega⟩
/-- A byte above 127, and none behind it: no code point. -/
theorem get_high {s : List UInt8} {j : Nat} {x : UInt8} {w : List UInt8} (hd : s.drop j = x :: w) (hx : 128 ≤ x.toNat) (hw : ∀ c ∈ w, c.toNat < 128) : (getS s (j : Int)).1 < 0 := by
  refine Classical.byContradiction fun h => ?_
  obtain ⟨r, hg, hsc, hp, hle⟩ := get_spec h
  rw [hd] at hp
  unfold scal at hsc
  by_cases h1 : r < 128
  · rw [putN, if_pos h1, putL, if_pos h1, List.take_succ_cons, List.take_zero] at hp
    have := congrArg UInt8.toNat (List.cons.inj hp).1
    rw [to8 (by omega)] at this
    omega
  · obtain ⟨a, b, q, e, hb⟩ := putN_high (r := r) (by omega) hsc.1
    rw [e] at hp
    have hm : b ∈ w := by
      have : b ∈ (a :: b :: q).drop 1 := by simp
      rw [hp] at this
      have h2 := putL_pos r
      obtain ⟨k, hk⟩ : ∃ k, putL r = k + 1 := ⟨putL r - 1, by omega⟩
      rw [hk, List.take_succ_cons] at this
      simp only [List.drop_succ_cons, List.drop_zero] at this
      exact List.mem_of_mem_take this
    have := hw b hm
    omega
theorem encP_len : ∀ (t : List Nat) (o : List UInt8), (encP o t).length ≤ 2 * o.length + 6 + 8 * (t.flatMap putN).length
  | [], o => by rw [encP]; have := flushP_len o; simp; omega
  | r :: t, o => by
    have hp := putL_pos r
    have hf := flushP_len o
    have hu := units_len r
    have i1 := encP_len t (o ++ unitsS (r : Int))
    have i2 := encP_len t []
    rw [List.flatMap_cons, List.length_append, putN_l, encP]
    rw [List.length_append] at i1
    simp only [List.length_nil] at i2
    split
    · omega
    · split
      · simp only [List.length_append, List.length_cons]; omega
      · simp only [List.length_append, List.length_cons]; omega
theorem enc_len (a : List UInt8) : (enc7S a).1.length ≤ 6 + 8 * a.length := by
  unfold enc7S
  split
  · rename_i h
    have := encP_len (pts a) []
    rw [pts_flat h] at this
    simpa using this
  · simp
def shown (c : UInt8) : Prop := 32 ≤ c.toNat ∧ c.toNat ≤ 126
theorem al_shown : ∀ c : UInt8, al c = true → shown c := by
  intro c
  have h := c.toNat_lt
  have key : ∀ n : Fin 256, al (UInt8.ofNat n.val) = true → 32 ≤ n.val ∧ n.val ≤ 126 := by decide +kernel
  have := key ⟨c.toNat, h⟩
  rw [UInt8.ofNat_toNat] at this
  exact this
theorem flushP_shown (o : List UInt8) : ∀ c ∈ flushP o, shown c := by
  intro c hc
  unfold flushP at hc
  split at hc
  · cases hc
  · rw [rowS_eq] at hc
    rcases List.mem_cons.1 hc with rfl | hc
    · exact ⟨by decide, by decide⟩
    · rcases List.mem_append.1 hc with hc | hc
      · unfold repS at hc
        obtain ⟨d, hd, e⟩ := List.mem_map.1 hc
        split at e
        · subst e; exact ⟨by decide, by decide⟩
        · subst e; exact al_shown _ (al_encL _ o (Nat.le_refl _) _ hd)
      · rw [List.mem_singleton.1 hc]; exact ⟨by decide, by decide⟩
theorem encP_shown : ∀ (t : List Nat) (o : List UInt8), ∀ c ∈ encP o t, shown c
  | [], o, c, hc => by rw [encP] at hc; exact flushP_shown o c hc
  | r :: t, o, c, hc => by
    rw [encP] at hc
    split at hc
    · exact encP_shown t _ c hc
    · rename_i hr
      rcases List.mem_append.1 hc with hc | hc
      · exact flushP_shown o c hc
      · rcases List.mem_cons.1 hc with rfl | hc
        · unfold shown; rw [to8 (by omega)]; omega
        · split at hc
          · rcases List.mem_cons.1 hc with rfl | hc
            · exact ⟨by decide, by decide⟩
            · exact encP_shown t _ c hc
          · exact encP_shown t _ c hc
theorem encP_mid {r : Nat} (h : ¬ (r < 32 ∨ r > 126)) (h38 : r ≠ 38) (u : List Nat) : ∀ (t : List Nat) (o : List UInt8), encP o (t ++ r :: u) = encP o t ++ UInt8.ofNat r :: encP [] u
  | [], o => by
    rw [List.nil_append]
    conv => lhs; rw [encP, if_neg h, if_neg h38]
    rw [encP]
  | x :: t, o => by
    rw [List.cons_append, encP, encP, encP_mid h h38 u t, encP_mid h h38 u t]
    split
    · rfl
    · split <;> simp
theorem plain_flat : ∀ {s : List UInt8}, (∀ c ∈ s, shown c) → (s.map UInt8.toNat).flatMap putN = s
  | [], _ => rfl
  | c :: s, h => by
    have hc := h c (by simp)
    rw [List.map_cons, List.flatMap_cons, plain_flat (fun x hx => h x (List.mem_cons_of_mem _ hx)), putN, if_pos (by unfold shown at hc; omega), UInt8.ofNat_toNat]
    rfl
theorem plain_scal {s : List UInt8} (h : ∀ c ∈ s, shown c) : ∀ r ∈ s.map UInt8.toNat, scal r := by
  intro r hr
  obtain ⟨c, hc, rfl⟩ := List.mem_map.1 hr
  have := h c hc
  unfold shown at this
  unfold scal; omega
theorem encP_plain (u : List Nat) : ∀ {s : List UInt8}, (∀ c ∈ s, shown c ∧ c ≠ 38) → encP [] (s.map UInt8.toNat ++ u) = s ++ encP [] u
  | [], _ => rfl
  | c :: s, h => by
    obtain ⟨hc, h38⟩ := h c (by simp)
    unfold shown at hc
    have hn : c.toNat ≠ 38 := fun e => h38 (UInt8.toNat_inj.1 e)
    rw [List.map_cons, List.cons_append, encP, if_neg (by omega), if_neg hn, encP_plain u (fun x hx => h x (List.mem_cons_of_mem _ hx)), UInt8.ofNat_toNat]
    rfl
end Go.Proofs.YtmnkkliibjlefaaDoor
