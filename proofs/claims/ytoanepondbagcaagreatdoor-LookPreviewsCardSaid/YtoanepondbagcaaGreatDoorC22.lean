/-
  Lifted functions, and facts about them.
-/
import Derived.Test.YtoanepondbagcaaGreatDoorRows
import Derived.Test.YtoanepondbagcaaGreatDoorAmC
import Derived.Test.YtoanepondbagcaaGreatDoorC16
import Derived.Test.YtoanepondbagcaaGreatDoorC01
import Derived.Test.YtoanepondbagcaaGreatDoorC21
import Derived.Deep.Slices
import Derived.Carry
namespace Go.Proofs.YtoanepondbagcaaGreatDoor
open Go Go.Am
set_option linter.unusedVariables false
/-! The code points of a text. -/
def ptsF : Nat → List UInt8 → Int → List Nat
  | 0, _, _ => []
  | f + 1, s, i => if i < s.length then (getS s i).1.toNat :: ptsF f s (getS s i).2 else []
def pts (s : List UInt8) : List Nat := ptsF (s.length + 1) s 0
abbrev scal (r : Nat) : Prop := r ≤ 1114111 ∧ ¬ (55296 ≤ r ∧ r ≤ 57343)
theorem not_bad {r : Nat} (h : scal r) : ¬ badR (r : Int) := by unfold badR; unfold scal at h; omega
theorem putS_nat {r : Nat} (h : scal r) : putS (r : Int) = putN r := by rw [putS, if_neg (not_bad h)]; rfl
def putL (r : Nat) : Nat := if r < 128 then 1 else if r < 2048 then 2 else if r < 65536 then 3 else 4
theorem putL_pos (r : Nat) : 1 ≤ putL r ∧ putL r ≤ 4 := by
  unfold putL
  split
  · decide
  · split
    · decide
    · split <;> decide
theorem putN_l (r : Nat) : (putN r).length = putL r := by
  unfold putN putL
  repeat' (split; rfl)
  rfl
/-- What Get answers of a place where a code point is. -/
theorem get_spec {s : List UInt8} {i : Nat} (h : ¬ (getS s (i : Int)).1 < 0) : ∃ r : Nat, getS s (i : Int) = ((r : Int), ((i + putL r : Nat) : Int)) ∧ scal r ∧ putN r = (s.drop i).take (putL r) ∧ i + putL r ≤ s.length := by
  unfold getS at *
  by_cases hb : ((i : Int) < 0 ∨ (i : Int) ≥ s.length)
  · rw [if_pos hb] at h; exact absurd (show (-1 : Int) < 0 by decide) h
  · rw [if_neg hb] at *
    rw [show ((i : Int)).toNat = i from rfl] at *
    dsimp only at *
    by_cases hl : szN (s.getD i 0) > s.length - i
    · rw [if_pos hl] at h; exact absurd (show (-1 : Int) < 0 by decide) h
    · rw [if_neg hl] at *
      generalize hv : foldV (v0 (s.getD i 0)) ((s.drop (i + 1)).take (szN (s.getD i 0) - 1)) = v at *
      have hp1 := szN_pos (s.getD i 0)
      generalize hn : szN (s.getD i 0) = n at *
      unfold finV at *
      split at h
      · rename_i hp
        have hlen : ((s.drop i).take n).length = n := by simp; omega
        have hbad : ¬ badR (v : Int) := by
          intro hb2
          rw [putS, if_pos hb2] at hp
          rw [← hp] at hlen; simp at hlen; omega
        have hsc : scal v := by unfold badR at hbad; unfold scal; omega
        rw [putS_nat hsc] at hp
        have hnl : n = putL v := by rw [← putN_l v, hp, hlen]
        refine ⟨v, ?_, hsc, by rw [hp, hnl], by omega⟩
        rw [if_pos (by rw [putS_nat hsc, hp]), hnl]
        rfl
      · exact absurd (show (-1 : Int) < 0 by decide) h
theorem get_mk {s : List UInt8} {i r : Nat} (hs : scal r) (hp : putN r = (s.drop i).take (putL r)) (hv : szN (s.getD i 0) = putL r ∧ foldV (v0 (s.getD i 0)) ((s.drop (i + 1)).take (putL r - 1)) = r) : getS s (i : Int) = ((r : Int), ((i + putL r : Nat) : Int)) := by
  have hl : (putN r).length = putL r := putN_l r
  have h1 := (putL_pos r).1
  have hlen : i + putL r ≤ s.length := by rw [hp] at hl; simp at hl; omega
  unfold getS
  rw [if_neg (by omega), show ((i : Int)).toNat = i from rfl]
  dsimp only
  rw [hv.1, if_neg (by omega), hv.2, finV, putS_nat hs, if_pos hp]
  rfl
/-- The points from a place on. -/
def PtsAt (s : List UInt8) : Nat → List Nat → Prop
  | i, [] => i = s.length
  | i, r :: t => scal r ∧ getS s (i : Int) = ((r : Int), ((i + putL r : Nat) : Int)) ∧ putN r = (s.drop i).take (putL r) ∧ i + putL r ≤ s.length ∧ PtsAt s (i + putL r) t
theorem ptsF_at (s : List UInt8) : ∀ (f i : Nat), s.length - i < f → i ≤ s.length → validF f s (i : Int) = true → PtsAt s i (ptsF f s (i : Int)) := by
  intro f
  induction f with
  | zero => intro i h; omega
  | succ f ih =>
    intro i hf hi hv
    rw [validF] at hv
    rw [ptsF]
    by_cases h1 : (i : Int) < s.length
    · rw [if_pos h1] at hv ⊢
      by_cases h2 : (getS s (i : Int)).1 < 0
      · rw [if_pos h2] at hv; cases hv
      · rw [if_neg h2] at hv
        obtain ⟨r, hg, hsc, hp, hle⟩ := get_spec h2
        have hpos := putL_pos r
        rw [hg] at hv ⊢
        have := ih (i + putL r) (by omega) hle hv
        exact ⟨hsc, hg, hp, hle, this⟩
    · rw [if_neg h1]
      show i = s.length
      omega
theorem pts_at {s : List UInt8} (h : validS s = true) : PtsAt s 0 (pts s) := ptsF_at s _ 0 (by omega) (by omega) h
theorem ptsAt_le {s : List UInt8} : ∀ {t : List Nat} {i : Nat}, PtsAt s i t → i + t.length ≤ s.length
  | [], i, h => by rw [show i = s.length from h]; simp
  | r :: t, i, ⟨_, _, _, _, h⟩ => by have := ptsAt_le h; have := putL_pos r; simp; omega
theorem ptsAt_flat {s : List UInt8} : ∀ {t : List Nat} {i : Nat}, PtsAt s i t → t.flatMap putN = s.drop i
  | [], i, h => by rw [show i = s.length from h]; simp
  | r :: t, i, ⟨_, _, hp, hle, h⟩ => by
    rw [List.flatMap_cons, ptsAt_flat h, hp, ← List.drop_drop, List.take_append_drop]
theorem ptsAt_scal {s : List UInt8} : ∀ {t : List Nat} {i : Nat}, PtsAt s i t → ∀ r ∈ t, scal r
  | [], _, _, _, h => by cases h
  | x :: t, i, ⟨h0, _, _, _, h⟩, r, hr => by
    rcases List.mem_cons.1 hr with rfl | hr
    · exact h0
    · exact ptsAt_scal h r hr
theorem valid_of_pts {s : List UInt8} : ∀ {t : List Nat} {i f : Nat}, PtsAt s i t → t.length < f → validF f s (i : Int) = true ∧ ptsF f s (i : Int) = t
  | [], i, 0, _, hf => by cases hf
  | [], i, f + 1, h, _ => by
    have h : i = s.length := h
    rw [validF, ptsF, if_neg (by omega), if_neg (by omega)]; exact ⟨rfl, rfl⟩
  | r :: t, i, 0, _, hf => by simp at hf
  | r :: t, i, f + 1, ⟨_, hg, _, hle, h⟩, hf => by
    have hpos := putL_pos r
    have ih := valid_of_pts (f := f) h (by simp at hf; omega)
    have c1 : (i : Int) < s.length := by omega
    rw [validF, ptsF, if_pos c1, if_pos c1, hg]
    dsimp only
    rw [if_neg (by omega), ih.1, ih.2]
    exact ⟨rfl, rfl⟩
theorem valid_pts {s : List UInt8} {t : List Nat} (h : PtsAt s 0 t) : validS s = true ∧ pts s = t := valid_of_pts h (by have := ptsAt_le h; omega)
theorem pts_flat {s : List UInt8} (h : validS s = true) : (pts s).flatMap putN = s := ptsAt_flat (pts_at h)
theorem take_app {p q : List UInt8} {n : Nat} (h : p.length = n) : (p ++ q).take n = p := by rw [← h]; simp
theorem getD_zero {s : List UInt8} {i : Nat} {c : UInt8} {r : List UInt8} (h : s.drop i = c :: r) : s.getD i 0 = c ∧ s.drop (i + 1) = r := ⟨(drop_cons h).1, (drop_cons h).2.1⟩
theorem to8 {n : Nat} (h : n < 256) : (UInt8.ofNat n).toNat = n := by rw [UInt8.toNat_ofNat']; omega
theorem get_put {s : List UInt8} {i r : Nat} {w : List UInt8} (hs : scal r) (hd : s.drop i = putN r ++ w) : getS s (i : Int) = ((r : Int), ((i + putL r : Nat) : Int)) := by
  have hl := putN_l r
  refine get_mk hs (by rw [hd, take_app hl]) ?_
  unfold scal at hs
  unfold putN putL at *
  by_cases h1 : r < 128
  · rw [if_pos h1] at *
    obtain ⟨g, d⟩ := getD_zero hd
    rw [g]
    have e := to8 (n := r) (by omega)
    refine ⟨by rw [szN, e, if_neg (by omega), if_neg (by omega), if_neg (by omega)], ?_⟩
    rw [v0, e, if_neg (by omega), if_neg (by omega), if_neg (by omega)]
    rfl
  · rw [if_neg h1] at *
    by_cases h2 : r < 2048
    · rw [if_pos h2] at *
      obtain ⟨g, d⟩ := getD_zero hd
      rw [g, d]
      have e := to8 (n := 192 + r / 64) (by omega)
      have e1 := to8 (n := 128 + r % 64) (by omega)
      refine ⟨by rw [szN, e, if_neg (by omega), if_neg (by omega), if_pos (by omega)], ?_⟩
      rw [v0, e, if_neg (by omega), if_neg (by omega), if_pos (by omega)]
      show foldV _ [UInt8.ofNat (128 + r % 64)] = r
      rw [foldV, foldV, e1]; omega
    · rw [if_neg h2] at *
      by_cases h3 : r < 65536
      · rw [if_pos h3] at *
        obtain ⟨g, d⟩ := getD_zero hd
        rw [g, d]
        have e := to8 (n := 224 + r / 4096) (by omega)
        have e1 := to8 (n := 128 + r / 64 % 64) (by omega)
        have e2 := to8 (n := 128 + r % 64) (by omega)
        refine ⟨by rw [szN, e, if_neg (by omega), if_pos (by omega)], ?_⟩
        rw [v0, e, if_neg (by omega), if_pos (by omega)]
        show foldV _ [UInt8.ofNat (128 + r / 64 % 64), UInt8.ofNat (128 + r % 64)] = r
        rw [foldV, foldV, foldV, e1, e2]; omega
      · rw [if_neg h3] at *
        obtain ⟨g, d⟩ := getD_zero hd
        rw [g, d]
        have e := to8 (n := 240 + r / 262144) (by omega)
        have e1 := to8 (n := 128 + r / 4096 % 64) (by omega)
        have e2 := to8 (n := 128 + r / 64 % 64) (by omega)
        have e3 := to8 (n := 128 + r % 64) (by omega)
        refine ⟨by rw [szN, e, if_pos (by omega)], ?_⟩
        rw [v0, e, if_pos (by omega)]
        show foldV _ [UInt8.ofNat (128 + r / 4096 % 64), UInt8.ofNat (128 + r / 64 % 64), UInt8.ofNat (128 + r % 64)] = r
        rw [foldV, foldV, foldV, foldV, e1, e2, e3]; omega
theorem drop_put {s : List UInt8} {i r : Nat} {w : List UInt8} (hd : s.drop i = putN r ++ w) : s.drop (i + putL r) = w ∧ i + putL r ≤ s.length := by
  have hl := putN_l r
  have h1 := putL_pos r
  refine ⟨by rw [← List.drop_drop, hd, ← hl]; simp, ?_⟩
  have := congrArg List.length hd
  simp at this; omega
theorem ptsAt_mk {s : List UInt8} : ∀ {t : List Nat} {i : Nat}, (∀ r ∈ t, scal r) → s.drop i = t.flatMap putN → i ≤ s.length → PtsAt s i t
  | [], i, _, hd, hi => by
    show i = s.length
    have := congrArg List.length hd
    simp at this; omega
  | r :: t, i, hs, hd, hi => by
    rw [List.flatMap_cons] at hd
    have hr := hs r (by simp)
    obtain ⟨h1, h2⟩ := drop_put hd
    exact ⟨hr, get_put hr hd, by rw [hd, take_app (putN_l r)], h2, ptsAt_mk (fun x hx => hs x (List.mem_cons_of_mem _ hx)) h1 h2⟩
theorem flat_valid {t : List Nat} (hs : ∀ r ∈ t, scal r) : validS (t.flatMap putN) = true ∧ pts (t.flatMap putN) = t := valid_pts (ptsAt_mk hs rfl (by omega))
end Go.Proofs.YtoanepondbagcaaGreatDoor
namespace Go.Proofs.YtoanepondbagcaaGreatDoor
open Go Go.Am
set_option linter.unusedVariables false
/-! A preview is valid, short, and its blanks stand alone. -/
def vT (s : List UInt8) : Prop := ∃ t : List Nat, (∀ r ∈ t, scal r) ∧ s = t.flatMap putN
theorem vT_valid {s : List UInt8} : validS s = true ↔ vT s := by
  constructor
  · intro h; exact ⟨pts s, ptsAt_scal (pts_at h), (pts_flat h).symm⟩
  · rintro ⟨t, ht, rfl⟩; exact (flat_valid ht).1
theorem vT_nil : vT [] := ⟨[], by simp, rfl⟩
theorem vT_app {a b : List UInt8} (ha : vT a) (hb : vT b) : vT (a ++ b) := by
  obtain ⟨t, h1, rfl⟩ := ha
  obtain ⟨u, h2, rfl⟩ := hb
  exact ⟨t ++ u, (fun r hr => (List.mem_append.1 hr).elim (h1 r) (h2 r)), by simp⟩
theorem vT_put {r : Nat} (h : scal r) : vT (putN r) := ⟨[r], by simpa using h, by simp⟩
theorem scal_u8 (c : UInt8) : scal c.toNat := by have := c.toNat_lt; unfold scal; omega
theorem vT_bytes : ∀ s : List UInt8, vT (bytesS s)
  | [] => vT_nil
  | c :: r => by
    have := vT_bytes r
    unfold bytesS at *
    rw [List.flatMap_cons, putS_nat (scal_u8 c)]
    exact vT_app (vT_put (scal_u8 c)) this
theorem vT_shown (s : List UInt8) : vT (shownS s) := by
  unfold shownS
  split
  · rename_i h; exact vT_valid.1 h
  · exact vT_bytes s
theorem putN_big {r : Nat} (h : 32 < r) (hs : scal r) : ∀ c ∈ putN r, 32 < c.toNat := by
  unfold scal at hs
  have key : ∀ n, n < 256 → 32 < n → ∀ c, c = UInt8.ofNat n → 32 < c.toNat := fun n h1 h2 c hc => by rw [hc, to8 h1]; exact h2
  unfold putN
  intro c hc
  split at hc
  · exact key _ (by omega) h c (List.mem_singleton.1 hc)
  · split at hc
    · rcases List.mem_cons.1 hc with h1 | hc
      · exact key _ (by omega) (by omega) c h1
      · exact key _ (by omega) (by omega) c (List.mem_singleton.1 hc)
    · split at hc
      · rcases List.mem_cons.1 hc with h1 | hc
        · exact key _ (by omega) (by omega) c h1
        · rcases List.mem_cons.1 hc with h1 | hc
          · exact key _ (by omega) (by omega) c h1
          · exact key _ (by omega) (by omega) c (List.mem_singleton.1 hc)
      · rcases List.mem_cons.1 hc with h1 | hc
        · exact key _ (by omega) (by omega) c h1
        · rcases List.mem_cons.1 hc with h1 | hc
          · exact key _ (by omega) (by omega) c h1
          · rcases List.mem_cons.1 hc with h1 | hc
            · exact key _ (by omega) (by omega) c h1
            · exact key _ (by omega) (by omega) c (List.mem_singleton.1 hc)
theorem vT_fld : ∀ (t : List Nat) (cur : List UInt8), (∀ r ∈ t, scal r) → vT cur → ∀ x ∈ fldF (t.flatMap putN) cur, vT x
  | [], cur, _, hc, x, hx => by
    rw [List.flatMap_nil, fldF] at hx
    split at hx
    · cases hx
    · have : x = cur := by simpa using hx
      rw [this]; exact hc
  | r :: t, cur, ht, hc, x, hx => by
    have hr := ht r (List.mem_cons_self ..)
    have ht' : ∀ q ∈ t, scal q := fun q hq => ht q (List.mem_cons_of_mem _ hq)
    rw [List.flatMap_cons] at hx
    by_cases h : r ≤ 32
    · have e : putN r = [UInt8.ofNat r] := by unfold putN; rw [if_pos (by omega)]
      rw [e, List.cons_append, List.nil_append, fldF, if_pos (by rw [to8 (by omega)]; exact h)] at hx
      split at hx
      · exact vT_fld t [] ht' vT_nil x hx
      · rcases List.mem_cons.1 hx with rfl | hx
        · exact hc
        · exact vT_fld t [] ht' vT_nil x hx
    · rw [fldF_skip _ _ _ (putN_big (by omega) hr)] at hx
      exact vT_fld t _ ht' (vT_app hc (vT_put hr)) x hx
theorem vT_flds {s : List UInt8} (h : vT s) : ∀ x ∈ fldS s, vT x := by
  obtain ⟨t, ht, rfl⟩ := h
  exact vT_fld t [] ht vT_nil
theorem vT_join : ∀ {l : List (List UInt8)}, (∀ x ∈ l, vT x) → vT (joinS [32] l)
  | [], _ => vT_nil
  | x :: r, h => by
    have h2 : ∀ q : List (List UInt8), (∀ x ∈ q, vT x) → vT (q.flatMap ([32] ++ ·)) := by
      intro q
      induction q with
      | nil => exact fun _ => vT_nil
      | cons y q ih =>
        intro hq
        rw [List.flatMap_cons]
        exact vT_app (vT_app (vT_put (r := 32) (by decide)) (hq y (List.mem_cons_self ..))) (ih fun z hz => hq z (List.mem_cons_of_mem _ hz))
    exact vT_app (h x (List.mem_cons_self ..)) (h2 r fun z hz => h z (List.mem_cons_of_mem _ hz))
theorem ucut_at (s : List UInt8) : ∀ (n : Nat) (t : List Nat) (a : Nat), (∀ r ∈ t, scal r) → s.drop a = t.flatMap putN → a ≤ s.length → ucutN s n a = a + ((t.take n).flatMap putN).length
  | 0, t, a, _, _, _ => by simp [ucutN]
  | n + 1, [], a, _, hd, ha => by
    have : a = s.length := by have := congrArg List.length hd; simp at this; omega
    rw [ucutN, if_neg (by omega)]; simp
  | n + 1, r :: t, a, ht, hd, ha => by
    rw [List.flatMap_cons] at hd
    have hr := ht r (List.mem_cons_self ..)
    obtain ⟨h1, h2⟩ := drop_put hd
    have h3 := putL_pos r
    have hlt : a < s.length := by omega
    rw [ucutN, if_pos hlt, get_put hr hd]
    dsimp only
    rw [if_neg (by omega), Int.toNat_natCast, ucut_at s n t _ (fun q hq => ht q (List.mem_cons_of_mem _ hq)) h1 h2]
    rw [List.take_succ_cons, List.flatMap_cons, List.length_append, putN_l]; omega
theorem cutU_flat {t : List Nat} (ht : ∀ r ∈ t, scal r) (n : Nat) : cutU (t.flatMap putN) n = (t.take n).flatMap putN := by
  unfold cutU
  rw [ucut_at (t.flatMap putN) n t 0 ht rfl (by omega), Nat.zero_add]
  have e : t.flatMap putN = (t.take n).flatMap putN ++ (t.drop n).flatMap putN := by rw [← List.flatMap_append, List.take_append_drop]
  conv => lhs; arg 2; rw [e]
  exact take_app rfl
theorem cut_valid {s : List UInt8} (h : vT s) (n : Nat) : vT (cutU s n) ∧ cutU (cutU s n) n = cutU s n := by
  obtain ⟨t, ht, rfl⟩ := h
  have ht' : ∀ r ∈ t.take n, scal r := fun r hr => ht r (List.mem_of_mem_take hr)
  rw [cutU_flat ht, cutU_flat ht', List.take_take, Nat.min_self]
  exact ⟨⟨_, ht', rfl⟩, rfl⟩
/-! ### Blanks -/
def nb : Bool → List UInt8 → Bool
  | _, [] => true
  | b, c :: r => decide (32 ≤ c.toNat) && (if c = 32 then !b && nb true r else nb false r)
theorem nb_take : ∀ (l : List UInt8) (n : Nat) (b : Bool), nb b l = true → nb b (l.take n) = true
  | [], n, b, _ => by simp [nb]
  | c :: r, 0, b, _ => rfl
  | c :: r, n + 1, b, h => by
    rw [nb, Bool.and_eq_true] at h
    rw [List.take_succ_cons, nb, Bool.and_eq_true]
    refine ⟨h.1, ?_⟩
    have h2 := h.2
    split at h2
    · rename_i hc
      rw [if_pos hc]
      rw [Bool.and_eq_true] at h2 ⊢
      exact ⟨h2.1, nb_take r n true h2.2⟩
    · rename_i hc
      rw [if_neg hc]
      exact nb_take r n false h2
theorem nb_word : ∀ (x r : List UInt8) (b : Bool), x ≠ [] → (∀ c ∈ x, 32 < c.toNat) → nb b (x ++ r) = nb false r
  | [], r, b, h, _ => absurd rfl h
  | [c], r, b, _, h => by
    have hc := h c (List.mem_cons_self ..)
    rw [List.cons_append, nb, if_neg (fun e => by subst e; exact absurd hc (by decide)), show decide (32 ≤ c.toNat) = true by simp; omega]
    rfl
  | c :: d :: x, r, b, _, h => by
    have hc := h c (List.mem_cons_self ..)
    rw [List.cons_append, nb, if_neg (fun e => by subst e; exact absurd hc (by decide)), show decide (32 ≤ c.toNat) = true by simp; omega, Bool.true_and]
    exact nb_word (d :: x) r false (by simp) fun y hy => h y (List.mem_cons_of_mem _ hy)
theorem nb_join : ∀ {l : List (List UInt8)}, (∀ x ∈ l, x ≠ [] ∧ ∀ c ∈ x, 32 < c.toNat) → nb true (joinS [32] l) = true
  | [], _ => rfl
  | x :: r, h => by
    have h2 : ∀ q : List (List UInt8), (∀ x ∈ q, x ≠ [] ∧ ∀ c ∈ x, 32 < c.toNat) → nb false (q.flatMap ([32] ++ ·)) = true := by
      intro q
      induction q with
      | nil => exact fun _ => rfl
      | cons y q ih =>
        intro hq
        have hy := hq y (List.mem_cons_self ..)
        rw [List.flatMap_cons, List.append_assoc, List.cons_append, List.nil_append, nb, if_pos rfl, nb_word y _ true hy.1 hy.2, ih fun z hz => hq z (List.mem_cons_of_mem _ hz)]
        rfl
    have hx := h x (List.mem_cons_self ..)
    rw [joinS, nb_word x _ true hx.1 hx.2]
    exact h2 r fun z hz => h z (List.mem_cons_of_mem _ hz)
theorem fldF_good : ∀ (s cur : List UInt8), (∀ c ∈ cur, 32 < c.toNat) → ∀ x ∈ fldF s cur, x ≠ [] ∧ ∀ c ∈ x, 32 < c.toNat
  | [], cur, hc, x, hx => by
    rw [fldF] at hx
    split at hx
    · cases hx
    · rename_i h
      have : x = cur := by simpa using hx
      subst this; exact ⟨h, hc⟩
  | c :: r, cur, hc, x, hx => by
    rw [fldF] at hx
    split at hx
    · split at hx
      · exact fldF_good r [] (by simp) x hx
      · rename_i h
        rcases List.mem_cons.1 hx with rfl | hx
        · exact ⟨h, hc⟩
        · exact fldF_good r [] (by simp) x hx
    · refine fldF_good r (cur ++ [c]) (fun d hd => ?_) x hx
      rcases List.mem_append.1 hd with h | h
      · exact hc d h
      · have : d = c := by simpa using h
        subst this; omega
theorem nb_at : ∀ (l : List UInt8) (b : Bool), nb b l = true → ∀ (i : Nat) (c : UInt8), l[i]? = some c → 32 ≤ c.toNat ∧ (c = 32 → (i = 0 → b = false) ∧ ∀ j, i = j + 1 → l[j]? ≠ some 32)
  | [], b, _, i, c, hi => by simp at hi
  | d :: r, b, h, 0, c, hi => by
    have : d = c := by simpa using hi
    subst this
    rw [nb, Bool.and_eq_true, decide_eq_true_iff] at h
    refine ⟨h.1, fun hc => ⟨fun _ => ?_, fun j hj => by omega⟩⟩
    have h2 := h.2
    rw [if_pos hc, Bool.and_eq_true] at h2
    simpa using h2.1
  | d :: r, b, h, i + 1, c, hi => by
    have hi' : r[i]? = some c := by simpa using hi
    rw [nb, Bool.and_eq_true] at h
    have h2 := h.2
    split at h2
    · rename_i hd
      rw [Bool.and_eq_true] at h2
      obtain ⟨k1, k2⟩ := nb_at r true h2.2 i c hi'
      refine ⟨k1, fun hc => ⟨fun h => by omega, fun j hj => ?_⟩⟩
      obtain ⟨k3, k4⟩ := k2 hc
      have hji : j = i := by omega
      subst hji
      cases j with
      | zero => exact absurd (k3 rfl) (by decide)
      | succ j => have := k4 j rfl; simpa using this
    · rename_i hd
      obtain ⟨k1, k2⟩ := nb_at r false h2 i c hi'
      refine ⟨k1, fun hc => ⟨fun h => by omega, fun j hj => ?_⟩⟩
      obtain ⟨k3, k4⟩ := k2 hc
      have hji : j = i := by omega
      subst hji
      cases j with
      | zero => simpa using hd
      | succ j => have := k4 j rfl; simpa using this
theorem prevL_good (s : List UInt8) : ∀ l : List Part, vT (prevL s l) ∧ cutU (prevL s l) 100 = prevL s l ∧ nb true (prevL s l) = true
  | [] => ⟨vT_nil, rfl, rfl⟩
  | p :: r => by
    rw [prevL]
    split
    · exact prevL_good s r
    · have hv : vT (wordsP s p) := vT_join (vT_flds (vT_shown _))
      obtain ⟨h1, h2⟩ := cut_valid hv 100
      exact ⟨h1, h2, nb_take _ _ _ (nb_join (fldF_good _ [] (by simp)))⟩
noncomputable def cLookPreviews : Code := bodyOf Tryz.f8

noncomputable def GLookPreviews : Cfg := ⟨Tryz.prog, mkEnv [(10, sp_awake), (14, sp_subject), (19, sp_preview), (20, sp_rvalid), (21, sp_rcut)], mkEnvR [], 54, [], [([0, 1, 0, 1, 1, 1], ⟨[0, 3, 4], []⟩), ([1, 0, 0, 1, 0, 0, 1, 0, 1, 1, 1], ⟨[0, 3, 4, 37], []⟩)], []⟩

noncomputable def BLookPreviews_1 (F f1 : Nat) (s vs1 : List UInt8) (vi2 : Int) : Option Ans := runR GLookPreviews cLookPreviews (kP Tryz.prog Tryz.f8.results.toList) F [] [1, 1, 1, 0, 1, 0] f1 [(0, .p (.str s)), (3, .p (.str vs1)), (4, .p (.int .i64 vi2))] []

noncomputable def BLookPreviews_2 (F f1 : Nat) (s vs1 : List UInt8) (vi2 : Int) (vc3 : Bool) : Option Ans := runB GLookPreviews cLookPreviews (kP Tryz.prog Tryz.f8.results.toList) F [f1] [1, 1, 1, 0, 1, 0, 0, 1, 0, 0, 1] [(0, .p (.str s)), (3, .p (.str vs1)), (4, .p (.int .i64 vi2)), (37, .p (.bool vc3))] []

noncomputable def FLookPreviews (F : Nat) (s : List UInt8) : Option Ans := runF GLookPreviews Tryz.f8 F [.p (.str s)]

theorem BLookPreviews_1_eq (F f1 : Nat) (s vs1 : List UInt8) (vi2 : Int) : BLookPreviews_1 F (f1 + 1) s vs1 vi2 = cond (decide (vi2 < (vs1.length : Int))) (need (0 ≤ vi2 ∧ vi2 < (vs1.length : Int)) (need ((!(decide (((vs1.getD (vi2).toNat 0).toNat : Int) < (32 : Int)))) = true → 0 ≤ vi2 ∧ vi2 < (vs1.length : Int)) (need ((((!(decide (((vs1.getD (vi2).toNat 0).toNat : Int) < (32 : Int)))) && (((vs1.getD (vi2).toNat 0).toNat : Int) == (32 : Int))) && (!(vi2 == (0 : Int)))) = true → i64ok (vi2 - (1 : Int))) (need ((((!(decide (((vs1.getD (vi2).toNat 0).toNat : Int) < (32 : Int)))) && (((vs1.getD (vi2).toNat 0).toNat : Int) == (32 : Int))) && (!(vi2 == (0 : Int)))) = true → 0 ≤ (vi2 - (1 : Int)) ∧ (vi2 - (1 : Int)) < (vs1.length : Int)) (BLookPreviews_2 F f1 s vs1 vi2 ((decide (((vs1.getD (vi2).toNat 0).toNat : Int) < (32 : Int))) || ((((vs1.getD (vi2).toNat 0).toNat : Int) == (32 : Int)) && ((vi2 == (0 : Int)) || (((vs1.getD (vi2 - (1 : Int)).toNat 0).toNat : Int) == (32 : Int)))))))))) (need (vs1.length ≤ 1000000) (need ((validS vs1) = true → vs1.length ≤ 1000000 ∧ 0 ≤ (100 : Int) ∧ (100 : Int) ≤ 1000000) (need (((validS vs1) && ((cutU vs1 ((100 : Int)).toNat) == vs1)) = true → s.length ≤ 50000) (need (((validS vs1) && ((cutU vs1 ((100 : Int)).toNat) == vs1)) = true → (subjS s).length ≤ 1000000) (some (.p (.bool ((((validS vs1) && ((cutU vs1 ((100 : Int)).toNat) == vs1)) && (validS (subjS s))) && true)), [])))))) :=
  Eq.trans (show BLookPreviews_1 F (f1 + 1) s vs1 vi2 = cond (decide (vi2 < (vs1.length : Int))) (need (0 ≤ vi2 ∧ vi2 < (vs1.length : Int)) (need ((!(decide (((vs1.getD (vi2).toNat 0).toNat : Int) < (32 : Int)))) = true → (!(decide (((vs1.getD (vi2).toNat 0).toNat : Int) < (32 : Int)))) = true) (need ((!(decide (((vs1.getD (vi2).toNat 0).toNat : Int) < (32 : Int)))) = true → (!(decide (((vs1.getD (vi2).toNat 0).toNat : Int) < (32 : Int)))) = true) (need ((!(decide (((vs1.getD (vi2).toNat 0).toNat : Int) < (32 : Int)))) = true → 0 ≤ vi2 ∧ vi2 < (vs1.length : Int)) (need ((!(decide (((vs1.getD (vi2).toNat 0).toNat : Int) < (32 : Int)))) = true → (!(decide (((vs1.getD (vi2).toNat 0).toNat : Int) < (32 : Int)))) = true) (need ((!(decide (((vs1.getD (vi2).toNat 0).toNat : Int) < (32 : Int)))) = true → (!(decide (((vs1.getD (vi2).toNat 0).toNat : Int) < (32 : Int)))) = true) (need (((!(decide (((vs1.getD (vi2).toNat 0).toNat : Int) < (32 : Int)))) && (((vs1.getD (vi2).toNat 0).toNat : Int) == (32 : Int))) = true → ((!(decide (((vs1.getD (vi2).toNat 0).toNat : Int) < (32 : Int)))) && (((vs1.getD (vi2).toNat 0).toNat : Int) == (32 : Int))) = true) (need (((!(decide (((vs1.getD (vi2).toNat 0).toNat : Int) < (32 : Int)))) && (((vs1.getD (vi2).toNat 0).toNat : Int) == (32 : Int))) = true → ((!(decide (((vs1.getD (vi2).toNat 0).toNat : Int) < (32 : Int)))) && (((vs1.getD (vi2).toNat 0).toNat : Int) == (32 : Int))) = true) (need ((((!(decide (((vs1.getD (vi2).toNat 0).toNat : Int) < (32 : Int)))) && (((vs1.getD (vi2).toNat 0).toNat : Int) == (32 : Int))) && (!(vi2 == (0 : Int)))) = true → (((!(decide (((vs1.getD (vi2).toNat 0).toNat : Int) < (32 : Int)))) && (((vs1.getD (vi2).toNat 0).toNat : Int) == (32 : Int))) && (!(vi2 == (0 : Int)))) = true) (need ((((!(decide (((vs1.getD (vi2).toNat 0).toNat : Int) < (32 : Int)))) && (((vs1.getD (vi2).toNat 0).toNat : Int) == (32 : Int))) && (!(vi2 == (0 : Int)))) = true → i64ok (vi2 - (1 : Int))) (need ((((!(decide (((vs1.getD (vi2).toNat 0).toNat : Int) < (32 : Int)))) && (((vs1.getD (vi2).toNat 0).toNat : Int) == (32 : Int))) && (!(vi2 == (0 : Int)))) = true → (((!(decide (((vs1.getD (vi2).toNat 0).toNat : Int) < (32 : Int)))) && (((vs1.getD (vi2).toNat 0).toNat : Int) == (32 : Int))) && (!(vi2 == (0 : Int)))) = true) (need ((((!(decide (((vs1.getD (vi2).toNat 0).toNat : Int) < (32 : Int)))) && (((vs1.getD (vi2).toNat 0).toNat : Int) == (32 : Int))) && (!(vi2 == (0 : Int)))) = true → (((!(decide (((vs1.getD (vi2).toNat 0).toNat : Int) < (32 : Int)))) && (((vs1.getD (vi2).toNat 0).toNat : Int) == (32 : Int))) && (!(vi2 == (0 : Int)))) = true) (need ((((!(decide (((vs1.getD (vi2).toNat 0).toNat : Int) < (32 : Int)))) && (((vs1.getD (vi2).toNat 0).toNat : Int) == (32 : Int))) && (!(vi2 == (0 : Int)))) = true → 0 ≤ (vi2 - (1 : Int)) ∧ (vi2 - (1 : Int)) < (vs1.length : Int)) (need ((((!(decide (((vs1.getD (vi2).toNat 0).toNat : Int) < (32 : Int)))) && (((vs1.getD (vi2).toNat 0).toNat : Int) == (32 : Int))) && (!(vi2 == (0 : Int)))) = true → (((!(decide (((vs1.getD (vi2).toNat 0).toNat : Int) < (32 : Int)))) && (((vs1.getD (vi2).toNat 0).toNat : Int) == (32 : Int))) && (!(vi2 == (0 : Int)))) = true) (need (((!(decide (((vs1.getD (vi2).toNat 0).toNat : Int) < (32 : Int)))) && (((vs1.getD (vi2).toNat 0).toNat : Int) == (32 : Int))) = true → ((!(decide (((vs1.getD (vi2).toNat 0).toNat : Int) < (32 : Int)))) && (((vs1.getD (vi2).toNat 0).toNat : Int) == (32 : Int))) = true) (need (((!(decide (((vs1.getD (vi2).toNat 0).toNat : Int) < (32 : Int)))) && (((vs1.getD (vi2).toNat 0).toNat : Int) == (32 : Int))) = true → (vi2 == (0 : Int)) = false → (((!(decide (((vs1.getD (vi2).toNat 0).toNat : Int) < (32 : Int)))) && (((vs1.getD (vi2).toNat 0).toNat : Int) == (32 : Int))) && (!(vi2 == (0 : Int)))) = true) (need ((!(decide (((vs1.getD (vi2).toNat 0).toNat : Int) < (32 : Int)))) = true → (!(decide (((vs1.getD (vi2).toNat 0).toNat : Int) < (32 : Int)))) = true) (need ((!(decide (((vs1.getD (vi2).toNat 0).toNat : Int) < (32 : Int)))) = true → (((vs1.getD (vi2).toNat 0).toNat : Int) == (32 : Int)) = true → ((!(decide (((vs1.getD (vi2).toNat 0).toNat : Int) < (32 : Int)))) && (((vs1.getD (vi2).toNat 0).toNat : Int) == (32 : Int))) = true) (need ((decide (((vs1.getD (vi2).toNat 0).toNat : Int) < (32 : Int))) = false → (!(decide (((vs1.getD (vi2).toNat 0).toNat : Int) < (32 : Int)))) = true) (BLookPreviews_2 F f1 s vs1 vi2 ((decide (((vs1.getD (vi2).toNat 0).toNat : Int) < (32 : Int))) || ((((vs1.getD (vi2).toNat 0).toNat : Int) == (32 : Int)) && ((vi2 == (0 : Int)) || (((vs1.getD (vi2 - (1 : Int)).toNat 0).toNat : Int) == (32 : Int))))))))))))))))))))))))) (need (vs1.length ≤ 1000000) (need ((validS vs1) = true → (validS vs1) = true) (need ((validS vs1) = true → vs1.length ≤ 1000000 ∧ 0 ≤ (100 : Int) ∧ (100 : Int) ≤ 1000000) (need ((validS vs1) = true → (validS vs1) = true) (need ((validS vs1) = true → (validS vs1) = true) (need ((validS vs1) = true → (validS vs1) = true) (need (((validS vs1) && ((cutU vs1 ((100 : Int)).toNat) == vs1)) = true → ((validS vs1) && ((cutU vs1 ((100 : Int)).toNat) == vs1)) = true) (need (((validS vs1) && ((cutU vs1 ((100 : Int)).toNat) == vs1)) = true → s.length ≤ 50000) (need (((validS vs1) && ((cutU vs1 ((100 : Int)).toNat) == vs1)) = true → ((validS vs1) && ((cutU vs1 ((100 : Int)).toNat) == vs1)) = true) (need (((validS vs1) && ((cutU vs1 ((100 : Int)).toNat) == vs1)) = true → (subjS s).length ≤ 1000000) (need (((validS vs1) && ((cutU vs1 ((100 : Int)).toNat) == vs1)) = true → ((validS vs1) && ((cutU vs1 ((100 : Int)).toNat) == vs1)) = true) (need ((((validS vs1) && ((cutU vs1 ((100 : Int)).toNat) == vs1)) && (validS (subjS s))) = true → (((validS vs1) && ((cutU vs1 ((100 : Int)).toNat) == vs1)) && (validS (subjS s))) = true) (some (.p (.bool ((((validS vs1) && ((cutU vs1 ((100 : Int)).toNat) == vs1)) && (validS (subjS s))) && true)), [])))))))))))))) by kernel_rfl) (cond_congr (need_congr (need_strike (show (!(decide (((vs1.getD (vi2).toNat 0).toNat : Int) < (32 : Int)))) = true → (!(decide (((vs1.getD (vi2).toNat 0).toNat : Int) < (32 : Int)))) = true from (fun q0 => q0)) (need_strike (show (!(decide (((vs1.getD (vi2).toNat 0).toNat : Int) < (32 : Int)))) = true → (!(decide (((vs1.getD (vi2).toNat 0).toNat : Int) < (32 : Int)))) = true from (fun q0 => q0)) (need_congr (need_strike (show (!(decide (((vs1.getD (vi2).toNat 0).toNat : Int) < (32 : Int)))) = true → (!(decide (((vs1.getD (vi2).toNat 0).toNat : Int) < (32 : Int)))) = true from (fun q0 => q0)) (need_strike (show (!(decide (((vs1.getD (vi2).toNat 0).toNat : Int) < (32 : Int)))) = true → (!(decide (((vs1.getD (vi2).toNat 0).toNat : Int) < (32 : Int)))) = true from (fun q0 => q0)) (need_strike (show ((!(decide (((vs1.getD (vi2).toNat 0).toNat : Int) < (32 : Int)))) && (((vs1.getD (vi2).toNat 0).toNat : Int) == (32 : Int))) = true → ((!(decide (((vs1.getD (vi2).toNat 0).toNat : Int) < (32 : Int)))) && (((vs1.getD (vi2).toNat 0).toNat : Int) == (32 : Int))) = true from (fun q0 => q0)) (need_strike (show ((!(decide (((vs1.getD (vi2).toNat 0).toNat : Int) < (32 : Int)))) && (((vs1.getD (vi2).toNat 0).toNat : Int) == (32 : Int))) = true → ((!(decide (((vs1.getD (vi2).toNat 0).toNat : Int) < (32 : Int)))) && (((vs1.getD (vi2).toNat 0).toNat : Int) == (32 : Int))) = true from (fun q0 => q0)) (need_strike (show (((!(decide (((vs1.getD (vi2).toNat 0).toNat : Int) < (32 : Int)))) && (((vs1.getD (vi2).toNat 0).toNat : Int) == (32 : Int))) && (!(vi2 == (0 : Int)))) = true → (((!(decide (((vs1.getD (vi2).toNat 0).toNat : Int) < (32 : Int)))) && (((vs1.getD (vi2).toNat 0).toNat : Int) == (32 : Int))) && (!(vi2 == (0 : Int)))) = true from (fun q0 => q0)) (need_congr (need_strike (show (((!(decide (((vs1.getD (vi2).toNat 0).toNat : Int) < (32 : Int)))) && (((vs1.getD (vi2).toNat 0).toNat : Int) == (32 : Int))) && (!(vi2 == (0 : Int)))) = true → (((!(decide (((vs1.getD (vi2).toNat 0).toNat : Int) < (32 : Int)))) && (((vs1.getD (vi2).toNat 0).toNat : Int) == (32 : Int))) && (!(vi2 == (0 : Int)))) = true from (fun q0 => q0)) (need_strike (show (((!(decide (((vs1.getD (vi2).toNat 0).toNat : Int) < (32 : Int)))) && (((vs1.getD (vi2).toNat 0).toNat : Int) == (32 : Int))) && (!(vi2 == (0 : Int)))) = true → (((!(decide (((vs1.getD (vi2).toNat 0).toNat : Int) < (32 : Int)))) && (((vs1.getD (vi2).toNat 0).toNat : Int) == (32 : Int))) && (!(vi2 == (0 : Int)))) = true from (fun q0 => q0)) (need_congr (need_strike (show (((!(decide (((vs1.getD (vi2).toNat 0).toNat : Int) < (32 : Int)))) && (((vs1.getD (vi2).toNat 0).toNat : Int) == (32 : Int))) && (!(vi2 == (0 : Int)))) = true → (((!(decide (((vs1.getD (vi2).toNat 0).toNat : Int) < (32 : Int)))) && (((vs1.getD (vi2).toNat 0).toNat : Int) == (32 : Int))) && (!(vi2 == (0 : Int)))) = true from (fun q0 => q0)) (need_strike (show ((!(decide (((vs1.getD (vi2).toNat 0).toNat : Int) < (32 : Int)))) && (((vs1.getD (vi2).toNat 0).toNat : Int) == (32 : Int))) = true → ((!(decide (((vs1.getD (vi2).toNat 0).toNat : Int) < (32 : Int)))) && (((vs1.getD (vi2).toNat 0).toNat : Int) == (32 : Int))) = true from (fun q0 => q0)) (need_strike (show ((!(decide (((vs1.getD (vi2).toNat 0).toNat : Int) < (32 : Int)))) && (((vs1.getD (vi2).toNat 0).toNat : Int) == (32 : Int))) = true → (vi2 == (0 : Int)) = false → (((!(decide (((vs1.getD (vi2).toNat 0).toNat : Int) < (32 : Int)))) && (((vs1.getD (vi2).toNat 0).toNat : Int) == (32 : Int))) && (!(vi2 == (0 : Int)))) = true from (fun q0 q1 => (and_mk q0 (not_mk q1)))) (need_strike (show (!(decide (((vs1.getD (vi2).toNat 0).toNat : Int) < (32 : Int)))) = true → (!(decide (((vs1.getD (vi2).toNat 0).toNat : Int) < (32 : Int)))) = true from (fun q0 => q0)) (need_strike (show (!(decide (((vs1.getD (vi2).toNat 0).toNat : Int) < (32 : Int)))) = true → (((vs1.getD (vi2).toNat 0).toNat : Int) == (32 : Int)) = true → ((!(decide (((vs1.getD (vi2).toNat 0).toNat : Int) < (32 : Int)))) && (((vs1.getD (vi2).toNat 0).toNat : Int) == (32 : Int))) = true from (fun q0 q1 => (and_mk q0 q1))) (need_strike (show (decide (((vs1.getD (vi2).toNat 0).toNat : Int) < (32 : Int))) = false → (!(decide (((vs1.getD (vi2).toNat 0).toNat : Int) < (32 : Int)))) = true from (fun q0 => (not_mk q0))) (rfl)))))))))))))))))))) (need_congr (need_strike (show (validS vs1) = true → (validS vs1) = true from (fun q0 => q0)) (need_congr (need_strike (show (validS vs1) = true → (validS vs1) = true from (fun q0 => q0)) (need_strike (show (validS vs1) = true → (validS vs1) = true from (fun q0 => q0)) (need_strike (show (validS vs1) = true → (validS vs1) = true from (fun q0 => q0)) (need_strike (show ((validS vs1) && ((cutU vs1 ((100 : Int)).toNat) == vs1)) = true → ((validS vs1) && ((cutU vs1 ((100 : Int)).toNat) == vs1)) = true from (fun q0 => q0)) (need_congr (need_strike (show ((validS vs1) && ((cutU vs1 ((100 : Int)).toNat) == vs1)) = true → ((validS vs1) && ((cutU vs1 ((100 : Int)).toNat) == vs1)) = true from (fun q0 => q0)) (need_congr (need_strike (show ((validS vs1) && ((cutU vs1 ((100 : Int)).toNat) == vs1)) = true → ((validS vs1) && ((cutU vs1 ((100 : Int)).toNat) == vs1)) = true from (fun q0 => q0)) (need_strike (show (((validS vs1) && ((cutU vs1 ((100 : Int)).toNat) == vs1)) && (validS (subjS s))) = true → (((validS vs1) && ((cutU vs1 ((100 : Int)).toNat) == vs1)) && (validS (subjS s))) = true from (fun q0 => q0)) (rfl))))))))))))))

theorem BLookPreviews_2_eq (F f1 : Nat) (s vs1 : List UInt8) (vi2 : Int) (vc3 : Bool) : BLookPreviews_2 F f1 s vs1 vi2 vc3 = cond (vc3) (some (.p (.bool false), [])) (need (i64ok (vi2 + (1 : Int))) (BLookPreviews_1 F f1 s vs1 (vi2 + (1 : Int)))) := by kernel_rfl

theorem FLookPreviews_eq (F : Nat) (s : List UInt8) : FLookPreviews F s = cond (decide ((s.length : Int) > (3000 : Int))) (some (.p (.bool true), [])) (need (s.length ≤ 20000) (BLookPreviews_1 F F s (prevS s) (0 : Int))) := by kernel_rfl

theorem fn_LookPreviews (F : Nat) (s : List UInt8) (r : AV) (h : (∃ M vs, ARels γ0 M [.p (.str s)] vs) → FLookPreviews F s = some (r, [])) : FnP Tryz.prog 8 [.p (.str s)] r :=
  FnP_run GLookPreviews F rfl (EnvOk_mk (l := [(10, sp_awake), (14, sp_subject), (19, sp_preview), (20, sp_rvalid), (21, sp_rcut)]) ⟨ok_awake.any, ok_subject.any, ok_preview.any, ok_rvalid.any, ok_rcut.any, trivial⟩) (EnvROk_mk (l := []) trivial) (Checked.mixed Tryz.checked) (fn := Tryz.f8) (by kernel_rfl) (by kernel_rfl) rfl h
theorem ne_u8 {c d : UInt8} (h : c ≠ d) : c.toNat ≠ d.toNat := fun e => h (UInt8.toNat_inj.1 e)
theorem BLookPreviews_spec (F : Nat) (s p : List UInt8) (hs : s.length ≤ 3000) (hl : p.length ≤ 1000000) (hn : nb true p = true) (hv : validS p = true) (hc : cutU p 100 = p) (hq : validS (subjS s) = true) (hq2 : (subjS s).length ≤ 1000000) :
    ∀ (m f i : Nat), i + m = p.length → m < f → BLookPreviews_1 F f s p (i : Int) = some (.p (.bool true), []) := by
  intro m
  induction m with
  | zero =>
    intro f i hi hf
    cases f with
    | zero => omega
    | succ f =>
      rw [BLookPreviews_1_eq]
      refine cond_f (by simp; omega) (need_mk hl (need_mk (fun _ => ⟨hl, by omega, by omega⟩) (need_mk (fun _ => by omega) (need_mk (fun _ => hq2) ?_))))
      rw [hv, hq, show cutU p ((100 : Int)).toNat = p from hc, beq_self_eq_true]; rfl
  | succ m ih =>
    intro f i hi hf
    have hlt : i < p.length := by omega
    cases f with
    | zero => omega
    | succ f =>
      have hc2 : p[i]? = some (p.getD i 0) := by rw [List.getD_eq_getElem?_getD, List.getElem?_eq_getElem hlt]; rfl
      obtain ⟨k1, k2⟩ := nb_at p true hn i _ hc2
      rw [BLookPreviews_1_eq]
      refine cond_t (by simp; omega) (need_mk ⟨by omega, by omega⟩ (need_mk (fun _ => ⟨by omega, by omega⟩) (need_mk (fun h => by unfold i64ok; omega) (need_mk (fun h => ?_) ?_))))
      · simp only [Bool.and_eq_true, Bool.not_eq_true', beq_eq_false_iff_ne] at h
        omega
      · rw [Int.toNat_natCast, BLookPreviews_2_eq]
        refine cond_f ?_ (need_mk (by unfold i64ok; omega) ?_)
        · rw [show decide (((p.getD i 0).toNat : Int) < 32) = false by simp only [decide_eq_false_iff_not]; omega, Bool.false_or]
          by_cases h32 : p.getD i 0 = 32
          · obtain ⟨k3, k4⟩ := k2 h32
            have hi0 : i ≠ 0 := fun e => absurd (k3 e) (by decide)
            obtain ⟨j, rfl⟩ : ∃ j, i = j + 1 := ⟨i - 1, by omega⟩
            have hj := k4 j rfl
            have hj2 : p.getD j 0 ≠ 32 := by
              intro e
              apply hj
              rw [← e, List.getD_eq_getElem?_getD, List.getElem?_eq_getElem (by omega)]; rfl
            have h5 := ne_u8 hj2
            have h6 : (32 : UInt8).toNat = 32 := rfl
            rw [show (((j + 1 : Nat) : Int) - 1).toNat = j by omega]
            rw [Bool.and_eq_false_iff]; right
            rw [Bool.or_eq_false_iff]
            exact ⟨by rw [beq_eq_false_iff_ne]; omega, by rw [beq_eq_false_iff_ne]; omega⟩
          · have h5 := ne_u8 h32
            have h6 : (32 : UInt8).toNat = 32 := rfl
            rw [Bool.and_eq_false_iff]; left
            rw [beq_eq_false_iff_ne]; omega
        · rw [show (i : Int) + 1 = ((i + 1 : Nat) : Int) by omega]
          exact ih f (i + 1) (by omega) (by omega)
theorem subjS_len (s : List UInt8) : (subjS s).length ≤ 48 * s.length := by
  have h1 := subjV_len s
  have h2 := wordS_len (subjV s)
  have h3 := shownS_len (wordS (subjV s))
  unfold subjS
  omega
theorem prevL_len (s : List UInt8) (hs : s.length ≤ 20000) : ∀ l : List Part, (prevL s l).length ≤ 1000000
  | [] => by simp [prevL]
  | p :: r => by
    rw [prevL]
    split
    · exact prevL_len s hs r
    · have l1 := contP_len s p
      have l2 := shownS_len (contP s p)
      have l3 : (fldS (shownS (contP s p))).length ≤ (shownS (contP s p)).length + 1 := (fldF_len (shownS (contP s p)) []).1
      have l4 : totL (fldS (shownS (contP s p))) ≤ (shownS (contP s p)).length := fldF_tot (shownS (contP s p)) []
      have l5 := joinS_len [32] (fldS (shownS (contP s p)))
      simp only [List.length_cons, List.length_nil] at l5
      unfold cutU wordsP
      rw [List.length_take]
      omega
theorem LookPreviews_true (s : List UInt8) : FLookPreviews ((prevS s).length + 1) s = some (.p (.bool true), []) := by
  rw [FLookPreviews_eq]
  by_cases h : s.length > 3000
  · exact cond_t (by simp; omega) rfl
  · obtain ⟨h1, h2, h3⟩ := prevL_good s (allP 7 (treeT s))
    have h4 := subjS_len s
    refine cond_f (by simp; omega) (need_mk (by omega) ?_)
    exact BLookPreviews_spec _ s (prevS s) (by omega) (prevL_len s (by omega) _) h3 (vT_valid.2 h1) h2 (vT_valid.2 (vT_shown _)) (by omega) (prevS s).length _ 0 (by omega) (by omega)
end Go.Proofs.YtoanepondbagcaaGreatDoor
/-! Slices among the arguments of a row. -/
namespace Go.Am
open Go Go.RowKit Go.ChangeShapes Go.WideShapes

def memOf (w : World) : Mem := fun b o => w.cell? ⟨b, o, none⟩
theorem memOf_ok (w : World) : MOk (memOf w) w := fun _ _ _ h => h



section
variable {H : Type} {enc : TypeId × Value → H} {P : Program} {w : World} {spare : Nat → Bool} {held : Bool} {M : Mem}





end

theorem walk_of_FnP2 {P : Program} {f : FuncId} {args : List AV} (h : FnP P f args (.p (.bool true))) {vs : List Value} (w : World) (hv : ARels γ0 (memOf w) args vs) :
    Calls P f vs.toArray w fun e w' => e = .returned (.bool true) ∧ Below w.heap.size w w' := by
  refine (h (memOf w) w vs (memOf_ok w) hv).mono fun e w' ⟨v, M', he, _, _, _, hr, hb⟩ => ?_
  rw [hr.bool_inv] at he
  exact ⟨he, hb⟩
theorem str_argM (M : Mem) (a : ByteArray) (h : a.size ≤ maxLen) : ARel γ0 M (.p (.str a.data.toList)) (.string a) :=
  .p _ _ (.str a.data.toList (by rw [Array.length_toList]; exact h))
end Go.Am
