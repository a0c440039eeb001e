/-
  Lifted functions, and facts about them.
-/
import Derived.Test.YtoanepondbagcaaGreatDoorRows
import Derived.Test.YtoanepondbagcaaGreatDoorAmC
import Derived.Test.YtoanepondbagcaaGreatDoorC16
import Derived.Test.YtoanepondbagcaaGreatDoorC01
import Derived.Test.YtoanepondbagcaaGreatDoorC21
import Derived.Test.YtoanepondbagcaaGreatDoorC14
import Derived.Test.YtoanepondbagcaaGreatDoorC17
namespace Go.Proofs.YtoanepondbagcaaGreatDoor
open Go Go.Am
set_option linter.unusedVariables false
/-! The code points of a text. -/
def ptsF : Nat → List UInt8 → Int → List Nat
  | 0, _, _ => []
  | f + 1, s, i => if i < s.length then (getS s i).1.toNat :: ptsF f s (getS s i).2 else []
def pts (s : List UInt8) : List Nat := ptsF (s.length + 1) s 0
abbrev scal (r : Nat) : Prop := r ≤ 1114111 ∧ ¬ (55296 ≤ r ∧ r ≤ 57343)
theorem not_bad {r : Nat} (h : scal r) : ¬ badR (r : Int) := by unfold badR; unfold scal at h; omega
theorem putS_nat {r : Nat} (h : scal r) : putS (r : Int) = putN r := by rw [putS, if_neg (not_bad h)]; rfl
def putL (r : Nat) : Nat := if r < 128 then 1 else if r < 2048 then 2 else if r < 65536 then 3 else 4
theorem putL_pos (r : Nat) : 1 ≤ putL r ∧ putL r ≤ 4 := by
  unfold putL
  split
  · decide
  · split
    · decide
    · split <;> decide
theorem putN_l (r : Nat) : (putN r).length = putL r := by
  unfold putN putL
  repeat' (split; rfl)
  rfl
/-- What Get answers of a place where a code point is. -/
theorem get_spec {s : List UInt8} {i : Nat} (h : ¬ (getS s (i : Int)).1 < 0) : ∃ r : Nat, getS s (i : Int) = ((r : Int), ((i + putL r : Nat) : Int)) ∧ scal r ∧ putN r = (s.drop i).take (putL r) ∧ i + putL r ≤ s.length := by
  unfold getS at *
  by_cases hb : ((i : Int) < 0 ∨ (i : Int) ≥ s.length)
  · rw [if_pos hb] at h; exact absurd (show (-1 : Int) < 0 by decide) h
  · rw [if_neg hb] at *
    rw [show ((i : Int)).toNat = i from rfl] at *
    dsimp only at *
    by_cases hl : szN (s.getD i 0) > s.length - i
    · rw [if_pos hl] at h; exact absurd (show (-1 : Int) < 0 by decide) h
    · rw [if_neg hl] at *
      generalize hv : foldV (v0 (s.getD i 0)) ((s.drop (i + 1)).take (szN (s.getD i 0) - 1)) = v at *
      have hp1 := szN_pos (s.getD i 0)
      generalize hn : szN (s.getD i 0) = n at *
      unfold finV at *
      split at h
      · rename_i hp
        have hlen : ((s.drop i).take n).length = n := by simp; omega
        have hbad : ¬ badR (v : Int) := by
          intro hb2
          rw [putS, if_pos hb2] at hp
          rw [← hp] at hlen; simp at hlen; omega
        have hsc : scal v := by unfold badR at hbad; unfold scal; omega
        rw [putS_nat hsc] at hp
        have hnl : n = putL v := by rw [← putN_l v, hp, hlen]
        refine ⟨v, ?_, hsc, by rw [hp, hnl], by omega⟩
        rw [if_pos (by rw [putS_nat hsc, hp]), hnl]
        rfl
      · exact absurd (show (-1 : Int) < 0 by decide) h
theorem get_mk {s : List UInt8} {i r : Nat} (hs : scal r) (hp : putN r = (s.drop i).take (putL r)) (hv : szN (s.getD i 0) = putL r ∧ foldV (v0 (s.getD i 0)) ((s.drop (i + 1)).take (putL r - 1)) = r) : getS s (i : Int) = ((r : Int), ((i + putL r : Nat) : Int)) := by
  have hl : (putN r).length = putL r := putN_l r
  have h1 := (putL_pos r).1
  have hlen : i + putL r ≤ s.length := by rw [hp] at hl; simp at hl; omega
  unfold getS
  rw [if_neg (by omega), show ((i : Int)).toNat = i from rfl]
  dsimp only
  rw [hv.1, if_neg (by omega), hv.2, finV, putS_nat hs, if_pos hp]
  rfl
/-- The points from a place on. -/
def PtsAt (s : List UInt8) : Nat → List Nat → Prop
  | i, [] => i = s.length
  | i, r :: t => scal r ∧ getS s (i : Int) = ((r : Int), ((i + putL r : Nat) : Int)) ∧ putN r = (s.drop i).take (putL r) ∧ i + putL r ≤ s.length ∧ PtsAt s (i + putL r) t
theorem ptsF_at (s : List UInt8) : ∀ (f i : Nat), s.length - i < f → i ≤ s.length → validF f s (i : Int) = true → PtsAt s i (ptsF f s (i : Int)) := by
  intro f
  induction f with
  | zero => intro i h; omega
  | succ f ih =>
    intro i hf hi hv
    rw [validF] at hv
    rw [ptsF]
    by_cases h1 : (i : Int) < s.length
    · rw [if_pos h1] at hv ⊢
      by_cases h2 : (getS s (i : Int)).1 < 0
      · rw [if_pos h2] at hv; cases hv
      · rw [if_neg h2] at hv
        obtain ⟨r, hg, hsc, hp, hle⟩ := get_spec h2
        have hpos := putL_pos r
        rw [hg] at hv ⊢
        have := ih (i + putL r) (by omega) hle hv
        exact ⟨hsc, hg, hp, hle, this⟩
    · rw [if_neg h1]
      show i = s.length
      omega
theorem pts_at {s : List UInt8} (h : validS s = true) : PtsAt s 0 (pts s) := ptsF_at s _ 0 (by omega) (by omega) h
theorem ptsAt_le {s : List UInt8} : ∀ {t : List Nat} {i : Nat}, PtsAt s i t → i + t.length ≤ s.length
  | [], i, h => by rw [show i = s.length from h]; simp
  | r :: t, i, ⟨_, _, _, _, h⟩ => by have := ptsAt_le h; have := putL_pos r; simp; omega
theorem ptsAt_flat {s : List UInt8} : ∀ {t : List Nat} {i : Nat}, PtsAt s i t → t.flatMap putN = s.drop i
  | [], i, h => by rw [show i = s.length from h]; simp
  | r :: t, i, ⟨_, _, hp, hle, h⟩ => by
    rw [List.flatMap_cons, ptsAt_flat h, hp, ← List.drop_drop, List.take_append_drop]
theorem ptsAt_scal {s : List UInt8} : ∀ {t : List Nat} {i : Nat}, PtsAt s i t → ∀ r ∈ t, scal r
  | [], _, _, _, h => by cases h
  | x :: t, i, ⟨h0, _, _, _, h⟩, r, hr => by
    rcases List.mem_cons.1 hr with rfl | hr
    · exact h0
    · exact ptsAt_scal h r hr
theorem valid_of_pts {s : List UInt8} : ∀ {t : List Nat} {i f : Nat}, PtsAt s i t → t.length < f → validF f s (i : Int) = true ∧ ptsF f s (i : Int) = t
  | [], i, 0, _, hf => by cases hf
  | [], i, f + 1, h, _ => by
    have h : i = s.length := h
    rw [validF, ptsF, if_neg (by omega), if_neg (by omega)]; exact ⟨rfl, rfl⟩
  | r :: t, i, 0, _, hf => by simp at hf
  | r :: t, i, f + 1, ⟨_, hg, _, hle, h⟩, hf => by
    have hpos := putL_pos r
    have ih := valid_of_pts (f := f) h (by simp at hf; omega)
    have c1 : (i : Int) < s.length := by omega
    rw [validF, ptsF, if_pos c1, if_pos c1, hg]
    dsimp only
    rw [if_neg (by omega), ih.1, ih.2]
    exact ⟨rfl, rfl⟩
theorem valid_pts {s : List UInt8} {t : List Nat} (h : PtsAt s 0 t) : validS s = true ∧ pts s = t := valid_of_pts h (by have := ptsAt_le h; omega)
theorem pts_flat {s : List UInt8} (h : validS s = true) : (pts s).flatMap putN = s := ptsAt_flat (pts_at h)
theorem take_app {p q : List UInt8} {n : Nat} (h : p.length = n) : (p ++ q).take n = p := by rw [← h]; simp
theorem getD_zero {s : List UInt8} {i : Nat} {c : UInt8} {r : List UInt8} (h : s.drop i = c :: r) : s.getD i 0 = c ∧ s.drop (i + 1) = r := ⟨(drop_cons h).1, (drop_cons h).2.1⟩
theorem to8 {n : Nat} (h : n < 256) : (UInt8.ofNat n).toNat = n := by rw [UInt8.toNat_ofNat']; omega
theorem get_put {s : List UInt8} {i r : Nat} {w : List UInt8} (hs : scal r) (hd : s.drop i = putN r ++ w) : getS s (i : Int) = ((r : Int), ((i + putL r : Nat) : Int)) := by
  have hl := putN_l r
  refine get_mk hs (by rw [hd, take_app hl]) ?_
  unfold scal at hs
  unfold putN putL at *
  by_cases h1 : r < 128
  · rw [if_pos h1] at *
    obtain ⟨g, d⟩ := getD_zero hd
    rw [g]
    have e := to8 (n := r) (by omega)
    refine ⟨by rw [szN, e, if_neg (by omega), if_neg (by omega), if_neg (by omega)], ?_⟩
    rw [v0, e, if_neg (by omega), if_neg (by omega), if_neg (by omega)]
    rfl
  · rw [if_neg h1] at *
    by_cases h2 : r < 2048
    · rw [if_pos h2] at *
      obtain ⟨g, d⟩ := getD_zero hd
      rw [g, d]
      have e := to8 (n := 192 + r / 64) (by omega)
      have e1 := to8 (n := 128 + r % 64) (by omega)
      refine ⟨by rw [szN, e, if_neg (by omega), if_neg (by omega), if_pos (by omega)], ?_⟩
      rw [v0, e, if_neg (by omega), if_neg (by omega), if_pos (by omega)]
      show foldV _ [UInt8.ofNat (128 + r % 64)] = r
      rw [foldV, foldV, e1]; omega
    · rw [if_neg h2] at *
      by_cases h3 : r < 65536
      · rw [if_pos h3] at *
        obtain ⟨g, d⟩ := getD_zero hd
        rw [g, d]
        have e := to8 (n := 224 + r / 4096) (by omega)
        have e1 := to8 (n := 128 + r / 64 % 64) (by omega)
        have e2 := to8 (n := 128 + r % 64) (by omega)
        refine ⟨by rw [szN, e, if_neg (by omega), if_pos (by omega)], ?_⟩
        rw [v0, e, if_neg (by omega), if_pos (by omega)]
        show foldV _ [UInt8.ofNat (128 + r / 64 % 64), UInt8.ofNat (128 + r % 64)] = r
        rw [foldV, foldV, foldV, e1, e2]; omega
      · rw [if_neg h3] at *
        obtain ⟨g, d⟩ := getD_zero hd
        rw [g, d]
        have e := to8 (n := 240 + r / 262144) (by omega)
        have e1 := to8 (n := 128 + r / 4096 % 64) (by omega)
        have e2 := to8 (n := 128 + r / 64 % 64) (by omega)
        have e3 := to8 (n := 128 + r % 64) (by omega)
        refine ⟨by rw [szN, e, if_pos (by omega)], ?_⟩
        rw [v0, e, if_pos (by omega)]
        show foldV _ [UInt8.ofNat (128 + r / 4096 % 64), UInt8.ofNat (128 + r / 64 % 64), UInt8.ofNat (128 + r % 64)] = r
        rw [foldV, foldV, foldV, foldV, e1, e2, e3]; omega
theorem drop_put {s : List UInt8} {i r : Nat} {w : List UInt8} (hd : s.drop i = putN r ++ w) : s.drop (i + putL r) = w ∧ i + putL r ≤ s.length := by
  have hl := putN_l r
  have h1 := putL_pos r
  refine ⟨by rw [← List.drop_drop, hd, ← hl]; simp, ?_⟩
  have := congrArg List.length hd
  simp at this; omega
theorem ptsAt_mk {s : List UInt8} : ∀ {t : List Nat} {i : Nat}, (∀ r ∈ t, scal r) → s.drop i = t.flatMap putN → i ≤ s.length → PtsAt s i t
  | [], i, _, hd, hi => by
    show i = s.length
    have := congrArg List.length hd
    simp at this; omega
  | r :: t, i, hs, hd, hi => by
    rw [List.flatMap_cons] at hd
    have hr := hs r (by simp)
    obtain ⟨h1, h2⟩ := drop_put hd
    exact ⟨hr, get_put hr hd, by rw [hd, take_app (putN_l r)], h2, ptsAt_mk (fun x hx => hs x (List.mem_cons_of_mem _ hx)) h1 h2⟩
theorem flat_valid {t : List Nat} (hs : ∀ r ∈ t, scal r) : validS (t.flatMap putN) = true ∧ pts (t.flatMap putN) = t := valid_pts (ptsAt_mk hs rfl (by omega))
end Go.Proofs.YtoanepondbagcaaGreatDoor
namespace Go.Proofs.YtoanepondbagcaaGreatDoor
open Go Go.Am
set_option linter.unusedVariables false
/-! A preview is valid, short, and its blanks stand alone. -/
def vT (s : List UInt8) : Prop := ∃ t : List Nat, (∀ r ∈ t, scal r) ∧ s = t.flatMap putN
theorem vT_valid {s : List UInt8} : validS s = true ↔ vT s := by
  constructor
  · intro h; exact ⟨pts s, ptsAt_scal (pts_at h), (pts_flat h).symm⟩
  · rintro ⟨t, ht, rfl⟩; exact (flat_valid ht).1
theorem ucut_at (s : List UInt8) : ∀ (n : Nat) (t : List Nat) (a : Nat), (∀ r ∈ t, scal r) → s.drop a = t.flatMap putN → a ≤ s.length → ucutN s n a = a + ((t.take n).flatMap putN).length
  | 0, t, a, _, _, _ => by simp [ucutN]
  | n + 1, [], a, _, hd, ha => by
    have : a = s.length := by have := congrArg List.length hd; simp at this; omega
    rw [ucutN, if_neg (by omega)]; simp
  | n + 1, r :: t, a, ht, hd, ha => by
    rw [List.flatMap_cons] at hd
    have hr := ht r (List.mem_cons_self ..)
    obtain ⟨h1, h2⟩ := drop_put hd
    have h3 := putL_pos r
    have hlt : a < s.length := by omega
    rw [ucutN, if_pos hlt, get_put hr hd]
    dsimp only
    rw [if_neg (by omega), Int.toNat_natCast, ucut_at s n t _ (fun q hq => ht q (List.mem_cons_of_mem _ hq)) h1 h2]
    rw [List.take_succ_cons, List.flatMap_cons, List.length_append, putN_l]; omega
theorem cutU_flat {t : List Nat} (ht : ∀ r ∈ t, scal r) (n : Nat) : cutU (t.flatMap putN) n = (t.take n).flatMap putN := by
  unfold cutU
  rw [ucut_at (t.flatMap putN) n t 0 ht rfl (by omega), Nat.zero_add]
  have e : t.flatMap putN = (t.take n).flatMap putN ++ (t.drop n).flatMap putN := by rw [← List.flatMap_append, List.take_append_drop]
  conv => lhs; arg 2; rw [e]
  exact take_app rfl
/-! ### Blanks -/
def nb : Bool → List UInt8 → Bool
  | _, [] => true
  | b, c :: r => decide (32 ≤ c.toNat) && (if c = 32 then !b && nb true r else nb false r)








end Go.Proofs.YtoanepondbagcaaGreatDoor
namespace Go.Proofs.YtoanepondbagcaaGreatDoor
open Go Go.Am
set_option linter.unusedVariables false
/-! What was encoded is told as it was. -/
theorem whole_lines (s : List UInt8) : linesN s 0 s.length = lnF [] 0 s := by unfold linesN; rw [List.take_length]; rfl
theorem whole_split (s : List UInt8) : splitS s 0 s.length = (fieldsS (gathS (lnF [] 0 s) s.length []).1, (gathS (lnF [] 0 s) s.length []).2) := by
  unfold splitS
  rw [if_neg (by omega), Int.toNat_natCast, show ((0 : Int)).toNat = 0 from rfl, whole_lines]
def textP : List UInt8 := [116, 101, 120, 116, 47, 112, 108, 97, 105, 110]
theorem u8pl {n : Int} (h : IntKind.u8.has n) : 0 ≤ n ∧ n < 256 := by
  unfold IntKind.has at h
  simp [IntKind.min, IntKind.max, IntKind.bits, IntKind.signed] at h
  omega
end Go.Proofs.YtoanepondbagcaaGreatDoor
