/-
  Lifted functions, and facts about them.
-/
import Derived.Test.YtmnkkliibjlefaaDoorRows
import Derived.Test.YtmnkkliibjlefaaDoorAmC
import Derived.Test.YtmnkkliibjlefaaDoorC5Row7
import Derived.Test.YtmnkkliibjlefaaDoorC5Valid
namespace Go.Proofs.YtmnkkliibjlefaaDoor
open Go Go.Am
set_option linter.unusedVariables false
/-! The code points of a text. -/
def ptsF : Nat → List UInt8 → Int → List Nat
  | 0, _, _ => []
  | f + 1, s, i => if i < s.length then (getS s i).1.toNat :: ptsF f s (getS s i).2 else []
def pts (s : List UInt8) : List Nat := ptsF (s.length + 1) s 0
abbrev scal (r : Nat) : Prop := r ≤ 1114111 ∧ ¬ (55296 ≤ r ∧ r ≤ 57343)
theorem not_bad {r : Nat} (h : scal r) : ¬ badR (r : Int) := by unfold badR; unfold scal at h; omega
theorem putS_nat {r : Nat} (h : scal r) : putS (r : Int) = putN r := by rw [putS, if_neg (not_bad h)]; rfl
def putL (r : Nat) : Nat := if r < 128 then 1 else if r < 2048 then 2 else if r < 65536 then 3 else 4
theorem putL_pos (r : Nat) : 1 ≤ putL r ∧ putL r ≤ 4 := by
  unfold putL
  split
  · decide
  · split
    · decide
    · split <;> decide
theorem putN_l (r : Nat) : (putN r).length = putL r := by
  unfold putN putL
  repeat' (split; rfl)
  rfl
/-- What Get answers of a place where a code point is. -/
theorem get_spec {s : List UInt8} {i : Nat} (h : ¬ (getS s (i : Int)).1 < 0) : ∃ r : Nat, getS s (i : Int) = ((r : Int), ((i + putL r : Nat) : Int)) ∧ scal r ∧ putN r = (s.drop i).take (putL r) ∧ i + putL r ≤ s.length := by
  unfold getS at *
  by_cases hb : ((i : Int) < 0 ∨ (i : Int) ≥ s.length)
  · rw [if_pos hb] at h; exact absurd (show (-1 : Int) < 0 by decide) h
  · rw [if_neg hb] at *
    rw [show ((i : Int)).toNat = i from rfl] at *
    dsimp only at *
    by_cases hl : szN (s.getD i 0) > s.length - i
    · rw [if_pos hl] at h; exact absurd (show (-1 : Int) < 0 by decide) h
    · rw [if_neg hl] at *
      generalize hv : foldV (v0 (s.getD i 0)) ((s.drop (i + 1)).take (szN (s.getD i 0) - 1)) = v at *
      have hp1 := szN_pos (s.getD i 0)
      generalize hn : szN (s.getD i 0) = n at *
      unfold finV at *
      split at h
      · rename_i hp
        have hlen : ((s.drop i).take n).length = n := by simp; omega
        have hbad : ¬ badR (v : Int) := by
          intro hb2
          rw [putS, if_pos hb2] at hp
          rw [← hp] at hlen; simp at hlen; omega
        have hsc : scal v := by unfold badR at hbad; unfold scal; omega
        rw [putS_nat hsc] at hp
        have hnl : n = putL v := by rw [← putN_l v, hp, hlen]
        refine ⟨v, ?_, hsc, by rw [hp, hnl], by omega⟩
        rw [if_pos (by rw [putS_nat hsc, hp]), hnl]
        rfl
      · exact absurd (show (-1 : Int) < 0 by decide) h
theorem get_mk {s : List UInt8} {i r : Nat} (hs : scal r) (hp : putN r = (s.drop i).take (putL r)) (hv : szN (s.getD i 0) = putL r ∧ foldV (v0 (s.getD i 0)) ((s.drop (i + 1)).take (putL r - 1)) = r) : getS s (i : Int) = ((r : Int), ((i + putL r : Nat) : Int)) := by
  have hl : (putN r).length = putL r := putN_l r
  have h1 := (putL_pos r).1
  have hlen : i + putL r ≤ s.length := by rw [hp] at hl; simp at hl; omega
  unfold getS
  rw [if_neg (by omega), show ((i : Int)).toNat = i from rfl]
  dsimp only
  rw [hv.1, if_neg (by omega), hv.2, finV, putS_nat hs, if_pos hp]
  rfl
/-- The points from a place on. -/
def PtsAt (s : List UInt8) : Nat → List Nat → Prop
  | i, [] => i = s.length
  | i, r :: t => scal r ∧ getS s (i : Int) = ((r : Int), ((i + putL r : Nat) : Int)) ∧ putN r = (s.drop i).take (putL r) ∧ i + putL r ≤ s.length ∧ PtsAt s (i + putL r) t
theorem ptsF_at (s : List UInt8) : ∀ (f i : Nat), s.length - i < f → i ≤ s.length → validF f s (i : Int) = true → PtsAt s i (ptsF f s (i : Int)) := by
  intro f
  induction f with
  | zero => intro i h; omega
  | succ f ih =>
    intro i hf hi hv
    rw [validF] at hv
    rw [ptsF]
    by_cases h1 : (i : Int) < s.length
    · rw [if_pos h1] at hv ⊢
      by_cases h2 : (getS s (i : Int)).1 < 0
      · rw [if_pos h2] at hv; cases hv
      · rw [if_neg h2] at hv
        obtain ⟨r, hg, hsc, hp, hle⟩ := get_spec h2
        have hpos := putL_pos r
        rw [hg] at hv ⊢
        have := ih (i + putL r) (by omega) hle hv
        exact ⟨hsc, hg, hp, hle, this⟩
    · rw [if_neg h1]
      show i = s.length
      omega
theorem pts_at {s : List UInt8} (h : validS s = true) : PtsAt s 0 (pts s) := ptsF_at s _ 0 (by omega) (by omega) h
theorem ptsAt_le {s : List UInt8} : ∀ {t : List Nat} {i : Nat}, PtsAt s i t → i + t.length ≤ s.length
  | [], i, h => by rw [show i = s.length from h]; simp
  | r :: t, i, ⟨_, _, _, _, h⟩ => by have := ptsAt_le h; have := putL_pos r; simp; omega
theorem ptsAt_flat {s : List UInt8} : ∀ {t : List Nat} {i : Nat}, PtsAt s i t → t.flatMap putN = s.drop i
  | [], i, h => by rw [show i = s.length from h]; simp
  | r :: t, i, ⟨_, _, hp, hle, h⟩ => by
    rw [List.flatMap_cons, ptsAt_flat h, hp, ← List.drop_drop, List.take_append_drop]
theorem ptsAt_scal {s : List UInt8} : ∀ {t : List Nat} {i : Nat}, PtsAt s i t → ∀ r ∈ t, scal r
  | [], _, _, _, h => by cases h
  | x :: t, i, ⟨h0, _, _, _, h⟩, r, hr => by
    rcases List.mem_cons.1 hr with rfl | hr
    · exact h0
    · exact ptsAt_scal h r hr
theorem ptsAt_uniq {s : List UInt8} : ∀ {t u : List Nat} {i : Nat}, PtsAt s i t → PtsAt s i u → t = u
  | [], [], _, _, _ => rfl
  | [], r :: u, i, h, ⟨_, _, _, hle, _⟩ => by have h : i = s.length := h; have := putL_pos r; omega
  | r :: t, [], i, ⟨_, _, _, hle, _⟩, h => by have h : i = s.length := h; have := putL_pos r; omega
  | r :: t, x :: u, i, ⟨_, h1, _, _, h2⟩, ⟨_, h3, _, _, h4⟩ => by
    rw [h1] at h3
    have e : r = x := by have := congrArg Prod.fst h3; dsimp only at this; omega
    subst e
    rw [ptsAt_uniq h2 h4]
theorem valid_of_pts {s : List UInt8} : ∀ {t : List Nat} {i f : Nat}, PtsAt s i t → t.length < f → validF f s (i : Int) = true ∧ ptsF f s (i : Int) = t
  | [], i, 0, _, hf => by cases hf
  | [], i, f + 1, h, _ => by
    have h : i = s.length := h
    rw [validF, ptsF, if_neg (by omega), if_neg (by omega)]; exact ⟨rfl, rfl⟩
  | r :: t, i, 0, _, hf => by simp at hf
  | r :: t, i, f + 1, ⟨_, hg, _, hle, h⟩, hf => by
    have hpos := putL_pos r
    have ih := valid_of_pts (f := f) h (by simp at hf; omega)
    have c1 : (i : Int) < s.length := by omega
    rw [validF, ptsF, if_pos c1, if_pos c1, hg]
    dsimp only
    rw [if_neg (by omega), ih.1, ih.2]
    exact ⟨rfl, rfl⟩
theorem valid_pts {s : List UInt8} {t : List Nat} (h : PtsAt s 0 t) : validS s = true ∧ pts s = t := valid_of_pts h (by have := ptsAt_le h; omega)
theorem pts_flat {s : List UInt8} (h : validS s = true) : (pts s).flatMap putN = s := ptsAt_flat (pts_at h)
end Go.Proofs.YtmnkkliibjlefaaDoor
