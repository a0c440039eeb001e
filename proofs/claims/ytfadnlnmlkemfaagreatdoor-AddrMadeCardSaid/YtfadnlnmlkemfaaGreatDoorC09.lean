/-
  Lifted functions, and facts about them.
-/
import Derived.Test.YtfadnlnmlkemfaaGreatDoorRows
import Derived.Test.YtfadnlnmlkemfaaGreatDoorAmC
import Derived.Test.YtfadnlnmlkemfaaGreatDoorC01
import Derived.Test.YtfadnlnmlkemfaaGreatDoorC08
namespace Go.Proofs.YtfadnlnmlkemfaaGreatDoor
open Go Go.Am
set_option linter.unusedVariables false
/-! addr.List: the addresses of a text. -/
def isAt (c : UInt8) : Bool := !([34, 40, 60, 58, 44, 59, 32, 9, 13, 10] : List UInt8).contains c
def adF : Nat → List UInt8 → List (List UInt8) → List UInt8 → Bool → List AddrT → List AddrT
  | 0, _, ws, an, hs, out => tellS ws an hs out
  | _ + 1, [], ws, an, hs, out => tellS ws an hs out
  | f + 1, c :: r, ws, an, hs, out =>
    if c = 34 then adF f (r.drop (wiF r).2) (ws ++ [(wiF r).1]) an hs out
    else if c = 40 then adF f (r.drop (rmF 1 r)) ws an hs out
    else if c = 60 then adF f (r.drop ((cutS r 62).1.length + 1)) ws (unbS (cutS r 62).1) true out
    else if c = 58 then adF f r [] [] false out
    else if c = 44 ∨ c = 59 then adF f r [] [] false (tellS ws an hs out)
    else if c = 32 ∨ c = 9 ∨ c = 13 ∨ c = 10 then adF f r ws an hs out
    else adF f (r.dropWhile isAt) (ws ++ [c :: r.takeWhile isAt]) an hs out
def listA (s : List UInt8) : List AddrT := adF (s.length + 1) s [] [] false []
theorem wiF_le : ∀ (n : Nat) (r : List UInt8), r.length ≤ n → (wiF r).1.length ≤ (wiF r).2 ∧ (wiF r).2 ≤ r.length
  | _, [], _ => by simp [wiF]
  | _, [c], _ => by rw [wiF]; split <;> simp
  | 0, c :: d :: r, h => by simp at h
  | n + 1, c :: d :: r, h => by
    have h1 := wiF_le n r (by simp at h; omega)
    have h2 := wiF_le n (d :: r) (by simp at h ⊢; omega)
    rw [wiF]
    split
    · simp
    · split
      · simp only [List.length_cons]; omega
      · simp only [List.length_cons] at h2 ⊢; omega
theorem rmF_le : ∀ (n k : Nat) (r : List UInt8), r.length ≤ n → rmF k r ≤ r.length
  | _, 0, _, _ => by simp [rmF]
  | _, _ + 1, [], _ => by simp [rmF]
  | _, _ + 1, [_], _ => by simp [rmF]
  | 0, _ + 1, c :: d :: r, h => by simp at h
  | n + 1, k + 1, c :: d :: r, h => by
    have h1 := rmF_le n (k + 2) (d :: r) (by simp at h ⊢; omega)
    have h2 := rmF_le n k (d :: r) (by simp at h ⊢; omega)
    have h3 := rmF_le n (k + 1) r (by simp at h; omega)
    have h4 := rmF_le n (k + 1) (d :: r) (by simp at h ⊢; omega)
    rw [rmF]
    simp only [List.length_cons] at h1 h2 h4 ⊢
    split
    · omega
    · split
      · omega
      · split <;> omega
theorem takeW_le (p : UInt8 → Bool) (r : List UInt8) : (r.takeWhile p).length + (r.dropWhile p).length = r.length := by
  rw [← List.length_append, List.takeWhile_append_dropWhile]
theorem adF_fuel : ∀ (f g : Nat) (r : List UInt8) (ws : List (List UInt8)) (an : List UInt8) (hs : Bool) (out : List AddrT), r.length < f → r.length < g → adF f r ws an hs out = adF g r ws an hs out
  | 0, _, r, _, _, _, _, h, _ => by omega
  | _, 0, r, _, _, _, _, _, h => by omega
  | f + 1, g + 1, [], ws, an, hs, out, _, _ => rfl
  | f + 1, g + 1, c :: r, ws, an, hs, out, hf, hg => by
    rw [List.length_cons] at hf hg
    have hw := takeW_le isAt r
    have ih : ∀ (q : List UInt8) ws an hs out, q.length ≤ r.length → adF f q ws an hs out = adF g q ws an hs out := fun q ws an hs out hq => adF_fuel f g q ws an hs out (by omega) (by omega)
    rw [adF, adF]
    rw [ih _ _ _ _ _ (by simp), ih _ _ _ _ _ (by simp), ih _ _ _ _ _ (by simp), ih r [] [] false out (Nat.le_refl _), ih r [] [] false (tellS ws an hs out) (Nat.le_refl _), ih r ws an hs out (Nat.le_refl _), ih _ (ws ++ [c :: r.takeWhile isAt]) _ _ _ (by omega)]
theorem joinS_one (ws : List (List UInt8)) (n : Nat) (h : totL ws + ws.length ≤ n) : (joinS [32] ws).length ≤ n ∧ (joinS [] ws).length ≤ n := by
  have h1 := joinS_len [32] ws
  have h2 := joinS_len [] ws
  simp at h1 h2
  omega
theorem totL_app (ws : List (List UInt8)) (x : List UInt8) : totL (ws ++ [x]) = totL ws + x.length := by simp [totL]
noncomputable def calist : Code := bodyOf Tryz.f7

noncomputable def Galist : Cfg := ⟨Tryz.prog, mkEnv [(11, sp_cut), (16, sp_ixb)], mkEnvR [(9, sp_within_), (10, sp_remark), (12, sp_newrep), (13, sp_repl), (14, sp_drop), (15, sp_tell)], 153, [], [([0, 0, 1, 1], ⟨[0, 3], [⟨.slot 3, 3, .cells []⟩, ⟨.cell 3 2, 4002, (.larr 9 false 1 (.dat .str ([] : List (List UInt8))))⟩, ⟨.cell 3 5, 4005, (.larr 27 false 3 (.dat (.pair .str (.pair .str .str)) ([] : List (List UInt8 × List UInt8 × List UInt8))))⟩]⟩), ([1, 1, 1, 1, 1, 1, 1, 0, 0, 0, 0, 0, 0, 0, 0, 0, 0, 0, 0, 0, 0, 0, 0, 0, 1, 1, 1, 0, 1, 0, 0, 0, 1, 1], ⟨[0, 3, 45], [⟨.slot 3, 3, .cells []⟩, ⟨.cell 3 2, 4002, (.larr 9 false 1 (.dat .str ([] : List (List UInt8))))⟩, ⟨.cell 3 5, 4005, (.larr 27 false 3 (.dat (.pair .str (.pair .str .str)) ([] : List (List UInt8 × List UInt8 × List UInt8))))⟩]⟩), ([1, 1, 0, 1, 0, 0, 0, 0, 0, 0, 0, 0, 0, 0, 1, 1, 1, 0, 1, 0, 0, 0, 1, 1], ⟨[0, 3, 5], [⟨.slot 3, 3, .cells []⟩, ⟨.cell 3 2, 4002, (.larr 9 false 1 (.dat .str ([] : List (List UInt8))))⟩, ⟨.cell 3 5, 4005, (.larr 27 false 3 (.dat (.pair .str (.pair .str .str)) ([] : List (List UInt8 × List UInt8 × List UInt8))))⟩]⟩), ([1, 0, 0, 0, 0, 0, 1, 1, 1, 0, 1, 0, 0, 0, 1, 1], ⟨[0, 3], [⟨.slot 3, 3, .cells []⟩, ⟨.cell 3 2, 4002, (.larr 9 false 1 (.dat .str ([] : List (List UInt8))))⟩, ⟨.cell 3 5, 4005, (.larr 27 false 3 (.dat (.pair .str (.pair .str .str)) ([] : List (List UInt8 × List UInt8 × List UInt8))))⟩]⟩), ([0, 0, 1, 0, 1, 0, 1, 1, 1, 0, 1, 0, 0, 0, 1, 1], ⟨[0, 3, 8], [⟨.slot 3, 3, .cells []⟩, ⟨.cell 3 2, 4002, (.larr 9 false 1 (.dat .str ([] : List (List UInt8))))⟩, ⟨.cell 3 5, 4005, (.larr 27 false 3 (.dat (.pair .str (.pair .str .str)) ([] : List (List UInt8 × List UInt8 × List UInt8))))⟩]⟩), ([1, 0, 0, 0, 0, 1, 0, 1, 0, 1, 1, 1, 0, 1, 0, 0, 0, 1, 1], ⟨[0, 3, 8, 123], [⟨.slot 3, 3, .cells []⟩, ⟨.cell 3 2, 4002, (.larr 9 false 1 (.dat .str ([] : List (List UInt8))))⟩, ⟨.cell 3 5, 4005, (.larr 27 false 3 (.dat (.pair .str (.pair .str .str)) ([] : List (List UInt8 × List UInt8 × List UInt8))))⟩]⟩)], [([0, 1, 0, 0, 0, 0, 0, 0, 0, 0, 0, 0, 0, 0, 0, 0, 1, 1, 1, 0, 1, 0, 0, 0, 1, 1], [6]), ([0, 1, 0, 0, 0, 0, 0, 0, 0, 0, 0, 0, 0, 0, 1, 1, 1, 0, 1, 0, 0, 0, 1, 1], [1]), ([1, 1, 0, 1, 0, 0, 0, 0, 0, 0, 0, 0, 0, 0, 1, 1, 1, 0, 1, 0, 0, 0, 1, 1], [3, 5]), ([0, 1, 0, 0, 0, 0, 0, 0, 0, 0, 1, 1, 1, 0, 1, 0, 0, 0, 1, 1], [1]), ([0, 1, 0, 0, 0, 0, 0, 1, 1, 1, 0, 1, 0, 0, 0, 1, 1], [1]), ([0, 1, 1, 1], [1]), ([999999, 0, 1, 0, 0, 0, 0, 0, 0, 0, 0, 0, 0, 0, 0, 0, 0, 1, 1, 1, 0, 1, 0, 0, 0, 1, 1], [4, 6, 0, 1, 2, 3, 5, 6, 4, 7, 8, 9, 10, 11])]⟩

noncomputable def Balist_1 (F f1 : Nat) (s vs1 : List UInt8) (vi2 : Int) (vs3 : List UInt8) (vc4 : Bool) (vl5 : List (List UInt8)) (vl6 : List (List UInt8 × List UInt8 × List UInt8)) : Option Ans := runR Galist calist (kP Tryz.prog Tryz.f7.results.toList) F [] [1, 1, 0, 0] f1 [(0, .p (.str s)), (3, .ref 3 0)] [(3, .cells [.p (.str vs1), .p (.int .i64 vi2), .arr 4002, .p (.str vs3), .p (.bool vc4), .arr 4005]), (4002, .larr 9 false 1 (.dat .str vl5)), (4005, .larr 27 false 3 (.dat (.pair .str (.pair .str .str)) vl6))]

noncomputable def Balist_2 (F f1 : Nat) (s vs7 vs1 : List UInt8) (vi8 : Int) (vs3 : List UInt8) (vc4 : Bool) (vl5 : List (List UInt8)) (vl6 : List (List UInt8 × List UInt8 × List UInt8)) : Option Ans := runB Galist calist (kP Tryz.prog Tryz.f7.results.toList) F [f1] [1, 1, 0, 0, 0, 1, 0, 1, 1, 1, 0, 0, 0, 0, 0, 0, 0, 0, 0, 0, 1, 0, 1, 1] [(0, .p (.str s)), (3, .ref 3 0), (5, .p (.str vs7))] [(3, .cells [.p (.str vs1), .p (.int .i64 vi8), .arr 4002, .p (.str vs3), .p (.bool vc4), .arr 4005]), (4002, .larr 9 false 1 (.dat .str vl5)), (4005, .larr 27 false 3 (.dat (.pair .str (.pair .str .str)) vl6))]

noncomputable def Balist_3 (F f1 : Nat) (s vs9 : List UInt8) (vi10 : Int) (vs11 : List UInt8) (vc12 : Bool) (vl13 : List (List UInt8)) (vl14 : List (List UInt8 × List UInt8 × List UInt8)) : Option Ans := runB Galist calist (kP Tryz.prog Tryz.f7.results.toList) F [f1] [1, 1, 0, 0, 0, 1, 0, 1, 1, 1, 0, 0, 0, 0, 0, 1] [(0, .p (.str s)), (3, .ref 3 0)] [(3, .cells [.p (.str vs9), .p (.int .i64 vi10), .arr 4002, .p (.str vs11), .p (.bool vc12), .arr 4005]), (4002, .larr 9 false 1 (.dat .str vl13)), (4005, .larr 27 false 3 (.dat (.pair .str (.pair .str .str)) vl14))]

noncomputable def Balist_4 (F f1 : Nat) (s : List UInt8) (vc15 : Bool) (vs1 : List UInt8) (vi16 : Int) (vs3 : List UInt8) (vc4 : Bool) (vl5 : List (List UInt8)) (vl6 : List (List UInt8 × List UInt8 × List UInt8)) : Option Ans := runB Galist calist (kP Tryz.prog Tryz.f7.results.toList) F [f1] [1, 1, 0, 0, 0, 1, 0, 1, 1, 1, 0, 0, 0, 0, 0, 0, 0, 0, 0, 0, 0, 0, 0, 0, 0, 0, 0, 1, 1, 1, 1, 1, 1, 1] [(0, .p (.str s)), (3, .ref 3 0), (45, .p (.bool vc15))] [(3, .cells [.p (.str vs1), .p (.int .i64 vi16), .arr 4002, .p (.str vs3), .p (.bool vc4), .arr 4005]), (4002, .larr 9 false 1 (.dat .str vl5)), (4005, .larr 27 false 3 (.dat (.pair .str (.pair .str .str)) vl6))]

noncomputable def Balist_5 (F f1 f2 : Nat) (s : List UInt8) (vi17 : Int) (vs18 : List UInt8) (vi19 : Int) (vs20 : List UInt8) (vc21 : Bool) (vl22 : List (List UInt8)) (vl23 : List (List UInt8 × List UInt8 × List UInt8)) : Option Ans := runR Galist calist (kP Tryz.prog Tryz.f7.results.toList) F [f1] [1, 1, 0, 0, 0, 1, 0, 1, 1, 1, 0, 1, 0, 1, 0, 0] f2 [(0, .p (.str s)), (3, .ref 3 0), (8, .p (.int .i64 vi17))] [(3, .cells [.p (.str vs18), .p (.int .i64 vi19), .arr 4002, .p (.str vs20), .p (.bool vc21), .arr 4005]), (4002, .larr 9 false 1 (.dat .str vl22)), (4005, .larr 27 false 3 (.dat (.pair .str (.pair .str .str)) vl23))]

noncomputable def Balist_6 (F f1 f2 : Nat) (s : List UInt8) (vi17 : Int) (vc24 : Bool) (vs18 : List UInt8) (vi19 : Int) (vs20 : List UInt8) (vc21 : Bool) (vl22 : List (List UInt8)) (vl23 : List (List UInt8 × List UInt8 × List UInt8)) : Option Ans := runB Galist calist (kP Tryz.prog Tryz.f7.results.toList) F [f1, f2] [1, 1, 0, 0, 0, 1, 0, 1, 1, 1, 0, 1, 0, 1, 0, 0, 0, 0, 1] [(0, .p (.str s)), (3, .ref 3 0), (8, .p (.int .i64 vi17)), (123, .p (.bool vc24))] [(3, .cells [.p (.str vs18), .p (.int .i64 vi19), .arr 4002, .p (.str vs20), .p (.bool vc21), .arr 4005]), (4002, .larr 9 false 1 (.dat .str vl22)), (4005, .larr 27 false 3 (.dat (.pair .str (.pair .str .str)) vl23))]

noncomputable def Falist (F : Nat) (s : List UInt8) : Option Ans := runF Galist Tryz.f7 F [.p (.str s)]

theorem Balist_1_eq (F f1 : Nat) (s vs1 : List UInt8) (vi2 : Int) (vs3 : List UInt8) (vc4 : Bool) (vl5 : List (List UInt8)) (vl6 : List (List UInt8 × List UInt8 × List UInt8)) : Balist_1 F (f1 + 1) s vs1 vi2 vs3 vc4 vl5 vl6 = cond (decide (vi2 < (s.length : Int))) (need (0 ≤ vi2 ∧ vi2 < (s.length : Int)) (need (i64ok (vi2 + (1 : Int))) (cond (((s.getD (vi2).toNat 0).toNat : Int) == (34 : Int)) (need (rdok vs1 (vi2 + (1 : Int))) (need ((vl5.length + [(wiF (vs1.drop (vi2 + (1 : Int)).toNat)).1].length) * 16 ≤ 140737488355328) (need (rdok vs1 (vi2 + (1 : Int))) (need ((vl5.length + [(wiF (vs1.drop (vi2 + (1 : Int)).toNat)).1].length) * 16 ≤ 140737488355328) ((Balist_1 F f1 s vs1 ((vi2 + (1 : Int)) + ((wiF (vs1.drop (vi2 + (1 : Int)).toNat)).2 : Int)) vs3 vc4 (vl5 ++ [(wiF (vs1.drop (vi2 + (1 : Int)).toNat)).1]) vl6)))))) (cond (((s.getD (vi2).toNat 0).toNat : Int) == (40 : Int)) (need (rdok vs1 (vi2 + (1 : Int))) (Balist_1 F f1 s vs1 ((vi2 + (1 : Int)) + (rmF 1 (vs1.drop (vi2 + (1 : Int)).toNat) : Int)) vs3 vc4 vl5 vl6)) (cond (((s.getD (vi2).toNat 0).toNat : Int) == (60 : Int)) (need (0 ≤ (vi2 + (1 : Int)) ∧ (vi2 + (1 : Int)) ≤ (s.length : Int)) (need ((s.drop (vi2 + (1 : Int)).toNat).length ≤ 1000000) (need (i64ok ((vi2 + (1 : Int)) + (((cutS (s.drop (vi2 + (1 : Int)).toNat) 62).1).length : Int))) (need (i64ok (((vi2 + (1 : Int)) + (((cutS (s.drop (vi2 + (1 : Int)).toNat) 62).1).length : Int)) + (1 : Int))) (Balist_2 F f1 s ((cutS (s.drop (vi2 + (1 : Int)).toNat) 62).1) vs1 (if (s.length : Int) < (((vi2 + (1 : Int)) + (((cutS (s.drop (vi2 + (1 : Int)).toNat) 62).1).length : Int)) + (1 : Int)) then (s.length : Int) else (((vi2 + (1 : Int)) + (((cutS (s.drop (vi2 + (1 : Int)).toNat) 62).1).length : Int)) + (1 : Int))) vs3 vc4 vl5 vl6))))) (cond (((s.getD (vi2).toNat 0).toNat : Int) == (58 : Int)) (Balist_1 F f1 s vs1 (vi2 + (1 : Int)) ([] : List UInt8) false ([] : List (List UInt8)) vl6) (cond (((s.getD (vi2).toNat 0).toNat : Int) == (44 : Int)) (Balist_3 F f1 s vs1 (vi2 + (1 : Int)) vs3 vc4 vl5 vl6) (cond (((s.getD (vi2).toNat 0).toNat : Int) == (59 : Int)) (Balist_3 F f1 s vs1 (vi2 + (1 : Int)) vs3 vc4 vl5 vl6) (cond (((s.getD (vi2).toNat 0).toNat : Int) == (32 : Int)) (Balist_4 F f1 s (((s.getD (vi2).toNat 0).toNat : Int) == (32 : Int)) vs1 (vi2 + (1 : Int)) vs3 vc4 vl5 vl6) (cond (((s.getD (vi2).toNat 0).toNat : Int) == (9 : Int)) (Balist_4 F f1 s (((s.getD (vi2).toNat 0).toNat : Int) == (9 : Int)) vs1 (vi2 + (1 : Int)) vs3 vc4 vl5 vl6) (cond (((s.getD (vi2).toNat 0).toNat : Int) == (13 : Int)) (Balist_4 F f1 s (((s.getD (vi2).toNat 0).toNat : Int) == (13 : Int)) vs1 (vi2 + (1 : Int)) vs3 vc4 vl5 vl6) (Balist_4 F f1 s (((s.getD (vi2).toNat 0).toNat : Int) == (10 : Int)) vs1 (vi2 + (1 : Int)) vs3 vc4 vl5 vl6)))))))))))) (need (tellok vl5 vs3 vl6) (some (.p (.list 3 (.dat (.pair .str (.pair .str .str)) (tellS vl5 vs3 vc4 vl6))), []))) := by
  have h : Balist_1 F (f1 + 1) s vs1 vi2 vs3 vc4 vl5 vl6 = cond (decide (vi2 < (s.length : Int))) (need (0 ≤ vi2 ∧ vi2 < (s.length : Int)) (need (i64ok (vi2 + (1 : Int))) (cond (((s.getD (vi2).toNat 0).toNat : Int) == (34 : Int)) (need (rdok vs1 (vi2 + (1 : Int))) (need ((vl5.length + [(wiF (vs1.drop (vi2 + (1 : Int)).toNat)).1].length) * 16 ≤ 140737488355328) (need (rdok vs1 (vi2 + (1 : Int))) (need ((vl5.length + [(wiF (vs1.drop (vi2 + (1 : Int)).toNat)).1].length) * 16 ≤ 140737488355328) (agree (Balist_1 F f1 s vs1 ((vi2 + (1 : Int)) + ((wiF (vs1.drop (vi2 + (1 : Int)).toNat)).2 : Int)) vs3 vc4 (vl5 ++ [(wiF (vs1.drop (vi2 + (1 : Int)).toNat)).1]) vl6) (Balist_1 F f1 s vs1 ((vi2 + (1 : Int)) + ((wiF (vs1.drop (vi2 + (1 : Int)).toNat)).2 : Int)) vs3 vc4 (vl5 ++ [(wiF (vs1.drop (vi2 + (1 : Int)).toNat)).1]) vl6)))))) (cond (((s.getD (vi2).toNat 0).toNat : Int) == (40 : Int)) (need (rdok vs1 (vi2 + (1 : Int))) (Balist_1 F f1 s vs1 ((vi2 + (1 : Int)) + (rmF 1 (vs1.drop (vi2 + (1 : Int)).toNat) : Int)) vs3 vc4 vl5 vl6)) (cond (((s.getD (vi2).toNat 0).toNat : Int) == (60 : Int)) (need (0 ≤ (vi2 + (1 : Int)) ∧ (vi2 + (1 : Int)) ≤ (s.length : Int)) (need ((s.drop (vi2 + (1 : Int)).toNat).length ≤ 1000000) (need (i64ok ((vi2 + (1 : Int)) + (((cutS (s.drop (vi2 + (1 : Int)).toNat) 62).1).length : Int))) (need (i64ok (((vi2 + (1 : Int)) + (((cutS (s.drop (vi2 + (1 : Int)).toNat) 62).1).length : Int)) + (1 : Int))) (Balist_2 F f1 s ((cutS (s.drop (vi2 + (1 : Int)).toNat) 62).1) vs1 (if (s.length : Int) < (((vi2 + (1 : Int)) + (((cutS (s.drop (vi2 + (1 : Int)).toNat) 62).1).length : Int)) + (1 : Int)) then (s.length : Int) else (((vi2 + (1 : Int)) + (((cutS (s.drop (vi2 + (1 : Int)).toNat) 62).1).length : Int)) + (1 : Int))) vs3 vc4 vl5 vl6))))) (cond (((s.getD (vi2).toNat 0).toNat : Int) == (58 : Int)) (Balist_1 F f1 s vs1 (vi2 + (1 : Int)) ([] : List UInt8) false ([] : List (List UInt8)) vl6) (cond (((s.getD (vi2).toNat 0).toNat : Int) == (44 : Int)) (Balist_3 F f1 s vs1 (vi2 + (1 : Int)) vs3 vc4 vl5 vl6) (cond (((s.getD (vi2).toNat 0).toNat : Int) == (59 : Int)) (Balist_3 F f1 s vs1 (vi2 + (1 : Int)) vs3 vc4 vl5 vl6) (cond (((s.getD (vi2).toNat 0).toNat : Int) == (32 : Int)) (Balist_4 F f1 s (((s.getD (vi2).toNat 0).toNat : Int) == (32 : Int)) vs1 (vi2 + (1 : Int)) vs3 vc4 vl5 vl6) (cond (((s.getD (vi2).toNat 0).toNat : Int) == (9 : Int)) (Balist_4 F f1 s (((s.getD (vi2).toNat 0).toNat : Int) == (9 : Int)) vs1 (vi2 + (1 : Int)) vs3 vc4 vl5 vl6) (cond (((s.getD (vi2).toNat 0).toNat : Int) == (13 : Int)) (Balist_4 F f1 s (((s.getD (vi2).toNat 0).toNat : Int) == (13 : Int)) vs1 (vi2 + (1 : Int)) vs3 vc4 vl5 vl6) (Balist_4 F f1 s (((s.getD (vi2).toNat 0).toNat : Int) == (10 : Int)) vs1 (vi2 + (1 : Int)) vs3 vc4 vl5 vl6)))))))))))) (need (tellok vl5 vs3 vl6) (some (.p (.list 3 (.dat (.pair .str (.pair .str .str)) (tellS vl5 vs3 vc4 vl6))), []))) := by kernel_rfl
  rw [h]; simp only [agree_self]

theorem Balist_2_eq (F f1 : Nat) (s vs7 vs1 : List UInt8) (vi8 : Int) (vs3 : List UInt8) (vc4 : Bool) (vl5 : List (List UInt8)) (vl6 : List (List UInt8 × List UInt8 × List UInt8)) : Balist_2 F f1 s vs7 vs1 vi8 vs3 vc4 vl5 vl6 = need (vs7.length ≤ 1000000) (Balist_1 F f1 s vs1 vi8 (unbS vs7) true vl5 vl6) := by kernel_rfl

theorem Balist_3_eq (F f1 : Nat) (s vs9 : List UInt8) (vi10 : Int) (vs11 : List UInt8) (vc12 : Bool) (vl13 : List (List UInt8)) (vl14 : List (List UInt8 × List UInt8 × List UInt8)) : Balist_3 F f1 s vs9 vi10 vs11 vc12 vl13 vl14 = need (tellok vl13 vs11 vl14) (Balist_1 F f1 s vs9 vi10 ([] : List UInt8) false ([] : List (List UInt8)) (tellS vl13 vs11 vc12 vl14)) := by kernel_rfl

theorem Balist_4_eq (F f1 : Nat) (s : List UInt8) (vc15 : Bool) (vs1 : List UInt8) (vi16 : Int) (vs3 : List UInt8) (vc4 : Bool) (vl5 : List (List UInt8)) (vl6 : List (List UInt8 × List UInt8 × List UInt8)) : Balist_4 F f1 s vc15 vs1 vi16 vs3 vc4 vl5 vl6 = cond (vc15) (Balist_1 F f1 s vs1 vi16 vs3 vc4 vl5 vl6) (need (i64ok (vi16 - (1 : Int))) (Balist_5 F f1 f1 s (vi16 - (1 : Int)) vs1 vi16 vs3 vc4 vl5 vl6)) := by kernel_rfl

theorem Balist_5_eq (F f1 f2 : Nat) (s : List UInt8) (vi17 : Int) (vs18 : List UInt8) (vi19 : Int) (vs20 : List UInt8) (vc21 : Bool) (vl22 : List (List UInt8)) (vl23 : List (List UInt8 × List UInt8 × List UInt8)) : Balist_5 F f1 (f2 + 1) s vi17 vs18 vi19 vs20 vc21 vl22 vl23 = need ((decide (vi19 < (s.length : Int))) = true → 0 ≤ vi19 ∧ vi19 < (s.length : Int)) (Balist_6 F f1 f2 s vi17 ((decide (vi19 < (s.length : Int))) && (decide ((ixS ([34, 40, 60, 58, 44, 59, 32, 9, 13, 10] : List UInt8) ((s.getD (vi19).toNat 0).toNat : Int)) < (0 : Int)))) vs18 vi19 vs20 vc21 vl22 vl23) :=
  Eq.trans (show Balist_5 F f1 (f2 + 1) s vi17 vs18 vi19 vs20 vc21 vl22 vl23 = need ((decide (vi19 < (s.length : Int))) = true → (decide (vi19 < (s.length : Int))) = true) (need ((decide (vi19 < (s.length : Int))) = true → (decide (vi19 < (s.length : Int))) = true) (need ((decide (vi19 < (s.length : Int))) = true → (decide (vi19 < (s.length : Int))) = true) (need ((decide (vi19 < (s.length : Int))) = true → (decide (vi19 < (s.length : Int))) = true) (need ((decide (vi19 < (s.length : Int))) = true → (decide (vi19 < (s.length : Int))) = true) (need ((decide (vi19 < (s.length : Int))) = true → 0 ≤ vi19 ∧ vi19 < (s.length : Int)) (need ((decide (vi19 < (s.length : Int))) = true → (decide (vi19 < (s.length : Int))) = true) (need ((decide (vi19 < (s.length : Int))) = true → (decide (vi19 < (s.length : Int))) = true) (need ((decide (vi19 < (s.length : Int))) = true → (decide (vi19 < (s.length : Int))) = true) (Balist_6 F f1 f2 s vi17 ((decide (vi19 < (s.length : Int))) && (decide ((ixS ([34, 40, 60, 58, 44, 59, 32, 9, 13, 10] : List UInt8) ((s.getD (vi19).toNat 0).toNat : Int)) < (0 : Int)))) vs18 vi19 vs20 vc21 vl22 vl23))))))))) by kernel_rfl) (need_strike (show (decide (vi19 < (s.length : Int))) = true → (decide (vi19 < (s.length : Int))) = true from (fun q0 => q0)) (need_strike (show (decide (vi19 < (s.length : Int))) = true → (decide (vi19 < (s.length : Int))) = true from (fun q0 => q0)) (need_strike (show (decide (vi19 < (s.length : Int))) = true → (decide (vi19 < (s.length : Int))) = true from (fun q0 => q0)) (need_strike (show (decide (vi19 < (s.length : Int))) = true → (decide (vi19 < (s.length : Int))) = true from (fun q0 => q0)) (need_strike (show (decide (vi19 < (s.length : Int))) = true → (decide (vi19 < (s.length : Int))) = true from (fun q0 => q0)) (need_congr (need_strike (show (decide (vi19 < (s.length : Int))) = true → (decide (vi19 < (s.length : Int))) = true from (fun q0 => q0)) (need_strike (show (decide (vi19 < (s.length : Int))) = true → (decide (vi19 < (s.length : Int))) = true from (fun q0 => q0)) (need_strike (show (decide (vi19 < (s.length : Int))) = true → (decide (vi19 < (s.length : Int))) = true from (fun q0 => q0)) (rfl))))))))))

theorem Balist_6_eq (F f1 f2 : Nat) (s : List UInt8) (vi17 : Int) (vc24 : Bool) (vs18 : List UInt8) (vi19 : Int) (vs20 : List UInt8) (vc21 : Bool) (vl22 : List (List UInt8)) (vl23 : List (List UInt8 × List UInt8 × List UInt8)) : Balist_6 F f1 f2 s vi17 vc24 vs18 vi19 vs20 vc21 vl22 vl23 = cond (vc24) (need (i64ok (vi19 + (1 : Int))) (Balist_5 F f1 f2 s vi17 vs18 (vi19 + (1 : Int)) vs20 vc21 vl22 vl23)) (need (0 ≤ vi17 ∧ vi17 ≤ vi19 ∧ vi19 ≤ (s.length : Int)) (need ((vl22.length + [(s.take (vi19).toNat).drop (vi17).toNat].length) * 16 ≤ 140737488355328) (Balist_1 F f1 s vs18 vi19 vs20 vc21 (vl22 ++ [(s.take (vi19).toNat).drop (vi17).toNat]) vl23))) := by kernel_rfl

theorem Falist_eq (F : Nat) (s : List UInt8) : Falist F s = Balist_1 F F s s (0 : Int) ([] : List UInt8) false ([] : List (List UInt8)) ([] : List (List UInt8 × List UInt8 × List UInt8)) := by kernel_rfl

theorem fn_alist (F : Nat) (s : List UInt8) (r : AV) (h : (∃ M vs, ARels γ0 M [.p (.str s)] vs) → Falist F s = some (r, [])) : FnP Tryz.prog 7 [.p (.str s)] r :=
  FnP_run Galist F rfl (EnvOk_mk (l := [(11, sp_cut), (16, sp_ixb)]) ⟨ok_cut.any, ok_ixb.any, trivial⟩) (EnvROk_mk (l := [(9, sp_within_), (10, sp_remark), (12, sp_newrep), (13, sp_repl), (14, sp_drop), (15, sp_tell)]) ⟨ok_within_, ok_remark, ok_newrep, ok_repl, ok_drop, ok_tell, trivial⟩) (Checked.mixed Tryz.checked) (fn := Tryz.f7) (by kernel_rfl) (by kernel_rfl) rfl h
theorem ix_at (c : UInt8) : decide ((ixS ([34, 40, 60, 58, 44, 59, 32, 9, 13, 10] : List UInt8) ((c.toNat : Nat) : Int)) < (0 : Int)) = isAt c := by
  revert c
  have h : ∀ k, k < 256 → decide ((ixS ([34, 40, 60, 58, 44, 59, 32, 9, 13, 10] : List UInt8) (((UInt8.ofNat k).toNat : Nat) : Int)) < (0 : Int)) = isAt (UInt8.ofNat k) := by
    have : ((List.range 256).all fun k => decide ((ixS ([34, 40, 60, 58, 44, 59, 32, 9, 13, 10] : List UInt8) (((UInt8.ofNat k).toNat : Nat) : Int)) < (0 : Int)) == isAt (UInt8.ofNat k)) = true := by kernel_rfl
    intro k hk
    exact beq_iff_eq.1 (List.all_eq_true.1 this k (List.mem_range.2 hk))
  intro c
  have := h c.toNat c.toNat_lt
  rwa [UInt8.ofNat_toNat] at this
theorem al_word (F f1 : Nat) (s an : List UInt8) (hs : Bool) (ws : List (List UInt8)) (out : List AddrT) (b : Nat) (hS : s.length ≤ 1000000) (hw : ws.length ≤ 1000000) : ∀ (r : List UInt8) (i f2 : Nat), s.drop i = r → b ≤ i → i + r.length = s.length → r.length < f2 →
    Balist_5 F f1 f2 s (b : Int) s (i : Int) an hs ws out = Balist_1 F f1 s s ((i + (r.takeWhile isAt).length : Nat) : Int) an hs (ws ++ [(s.drop b).take (i + (r.takeWhile isAt).length - b)]) out
  | [], i, f2, hd, hb, hl, hf => by
    obtain ⟨f2, rfl⟩ : ∃ k, f2 = k + 1 := ⟨f2 - 1, by omega⟩
    have hl : i = s.length := by simpa using hl
    rw [Balist_5_eq]
    refine need_mk (fun h => absurd h (by simp; omega)) ?_
    rw [Balist_6_eq]
    refine cond_f (by rw [Bool.and_eq_false_iff]; exact .inl (decide_eq_false (by omega))) (need_mk ⟨by omega, by omega, by omega⟩ (need_mk (by simp; omega) ?_))
    simp only [List.takeWhile_nil, List.length_nil, Nat.add_zero, Int.toNat_natCast, List.drop_take]
  | c :: r, i, f2, hd, hb, hl, hf => by
    obtain ⟨f2, rfl⟩ : ∃ k, f2 = k + 1 := ⟨f2 - 1, by omega⟩
    obtain ⟨hg, hd2, hi⟩ := adr_drop hd
    rw [List.length_cons] at hl hf
    rw [Balist_5_eq, Int.toNat_natCast, hg, ix_at]
    refine need_mk (fun _ => ⟨by omega, by omega⟩) ?_
    rw [Balist_6_eq]
    cases hc : isAt c with
    | true =>
      refine cond_t (by rw [Bool.and_true]; exact decide_eq_true (by omega)) (need_mk ⟨by omega, by omega⟩ ?_)
      rw [show ((i : Int) + 1) = ((i + 1 : Nat) : Int) by omega, al_word F f1 s an hs ws out b hS hw r (i + 1) f2 hd2 (by omega) (by omega) (by omega)]
      rw [List.takeWhile_cons_of_pos hc, List.length_cons, show i + ((r.takeWhile isAt).length + 1) = i + 1 + (r.takeWhile isAt).length by omega]
    | false =>
      refine cond_f (by rw [Bool.and_false]) (need_mk ⟨by omega, by omega, by omega⟩ (need_mk (by simp; omega) ?_))
      rw [List.takeWhile_cons_of_neg (by simp [hc])]
      simp only [List.length_nil, Nat.add_zero, Int.toNat_natCast, List.drop_take]
theorem tellok_of {ws : List (List UInt8)} {an : List UInt8} {out : List AddrT} (h1 : totL ws + ws.length ≤ 80000) (h2 : an.length ≤ 40000) (h3 : out.length ≤ 40000) : tellok ws an out := by
  have hj := joinS_one ws 80000 h1
  exact ⟨⟨by simp, by omega, by omega⟩, ⟨by simp, by omega, by omega⟩, by omega, by omega, by omega, by omega⟩
theorem tellS_len (ws : List (List UInt8)) (an : List UInt8) (hs : Bool) (out : List AddrT) : (tellS ws an hs out).length ≤ out.length + 1 := by
  unfold tellS; split <;> simp
theorem al_loop (F : Nat) (s : List UInt8) (hS : s.length ≤ 40000) : ∀ (n : Nat) (r : List UInt8) (i f : Nat) (ws : List (List UInt8)) (an : List UInt8) (hs : Bool) (out : List AddrT), r.length ≤ n → s.drop i = r → i + r.length = s.length → totL ws + ws.length ≤ 2 * i → an.length ≤ s.length → out.length ≤ i → r.length < f →
    Balist_1 F f s s (i : Int) an hs ws out = some (.p (.list 3 (.dat addrC (adF (r.length + 1) r ws an hs out))), []) := by
  intro n
  induction n with
  | zero =>
    intro r i f ws an hs out hn hd hl hw ha ho hf
    obtain rfl : r = [] := List.eq_nil_of_length_eq_zero (by omega)
    obtain ⟨f, rfl⟩ : ∃ k, f = k + 1 := ⟨f - 1, by omega⟩
    have hl : i = s.length := by simpa using hl
    rw [Balist_1_eq]
    exact cond_f (decide_eq_false (by omega)) (need_mk (tellok_of (by omega) (by omega) (by omega)) rfl)
  | succ n ih =>
    intro r i f ws an hs out hn hd hl hw ha ho hf
    obtain ⟨f, rfl⟩ : ∃ k, f = k + 1 := ⟨f - 1, by omega⟩
    cases r with
    | nil =>
      have hl : i = s.length := by simpa using hl
      rw [Balist_1_eq]
      exact cond_f (decide_eq_false (by omega)) (need_mk (tellok_of (by omega) (by omega) (by omega)) rfl)
    | cons c r =>
      obtain ⟨hg, hd2, hi⟩ := adr_drop hd
      rw [List.length_cons] at hn hl hf
      have e1 : ((i : Int) + 1) = ((i + 1 : Nat) : Int) := by omega
      have e2 : ((i + 1 : Nat) : Int).toNat = i + 1 := Int.toNat_natCast _
      have hdd : ∀ k, s.drop (i + 1 + k) = r.drop k := fun k => by rw [← hd2, List.drop_drop]
      have key : ∀ (k : Nat) (ws' : List (List UInt8)) (an' : List UInt8) (hs' : Bool) (out' : List AddrT), k ≤ r.length → totL ws' + ws'.length ≤ 2 * (i + 1 + k) → an'.length ≤ s.length → out'.length ≤ i + 1 →
          Balist_1 F f s s ((i + 1 + k : Nat) : Int) an' hs' ws' out' = some (.p (.list 3 (.dat addrC (adF (r.length + 1) (r.drop k) ws' an' hs' out'))), []) := fun k ws' an' hs' out' hk h1 h2 h3 => by
        have hlen : (r.drop k).length = r.length - k := List.length_drop
        rw [ih (r.drop k) (i + 1 + k) f ws' an' hs' out' (by omega) (hdd k) (by omega) h1 h2 (by omega) (by omega)]
        rw [adF_fuel ((r.drop k).length + 1) (r.length + 1) (r.drop k) ws' an' hs' out' (by omega) (by omega)]
      have key0 := fun ws' an' hs' out' => key 0 ws' an' hs' out' (Nat.zero_le _)
      simp only [Nat.add_zero, List.drop_zero] at key0
      have hrd : rdok s (i + 1 : Nat) := ⟨by omega, by omega, by omega⟩
      rw [Balist_1_eq]
      refine cond_t (decide_eq_true (by omega)) (need_mk ⟨by omega, by omega⟩ (need_mk ⟨by omega, by omega⟩ ?_))
      rw [Int.toNat_natCast, hg, e1, e2, hd2, adr_u8 c 34 34 34 rfl rfl, adr_u8 c 40 40 40 rfl rfl, adr_u8 c 60 60 60 rfl rfl, adr_u8 c 58 58 58 rfl rfl, adr_u8 c 44 44 44 rfl rfl, adr_u8 c 59 59 59 rfl rfl, adr_u8 c 32 32 32 rfl rfl, adr_u8 c 9 9 9 rfl rfl, adr_u8 c 13 13 13 rfl rfl, adr_u8 c 10 10 10 rfl rfl]
      rw [List.length_cons, adF]
      by_cases h34 : c = 34
      · rw [if_pos h34]
        refine cond_t (decide_eq_true h34) ?_
        have hwi := wiF_le r.length r (Nat.le_refl _)
        refine need_mk hrd (need_mk (by simp; omega) (need_mk hrd (need_mk (by simp; omega) ?_)))
        rw [show (((i + 1 : Nat) : Int) + ((wiF r).2 : Int)) = ((i + 1 + (wiF r).2 : Nat) : Int) by omega]
        exact key (wiF r).2 (ws ++ [(wiF r).1]) an hs out hwi.2 (by rw [totL_app, List.length_append, List.length_singleton]; omega) ha (by omega)
      rw [if_neg h34]
      refine cond_f (decide_eq_false h34) ?_
      by_cases h40 : c = 40
      · rw [if_pos h40]
        refine cond_t (decide_eq_true h40) ?_
        have hrm := rmF_le r.length 1 r (Nat.le_refl _)
        refine need_mk hrd ?_
        rw [show (((i + 1 : Nat) : Int) + (rmF 1 r : Int)) = ((i + 1 + rmF 1 r : Nat) : Int) by omega]
        exact key (rmF 1 r) ws an hs out hrm (by omega) ha (by omega)
      rw [if_neg h40]
      refine cond_f (decide_eq_false h40) ?_
      by_cases h60 : c = 60
      · rw [if_pos h60]
        refine cond_t (decide_eq_true h60) ?_
        have hcl := cutS_len r 62
        have hun := bk_len (cutS r 62).1
        refine need_mk ⟨by omega, by omega⟩ (need_mk (by omega) (need_mk ⟨by omega, by omega⟩ (need_mk ⟨by omega, by omega⟩ ?_)))
        rw [Balist_2_eq]
        refine need_mk (by omega) ?_
        by_cases hm : (s.length : Int) < (((i + 1 : Nat) : Int) + ((cutS r 62).1.length : Int)) + 1
        · rw [if_pos hm]
          have hk : (cutS r 62).1.length = r.length := by omega
          rw [show ((s.length : Nat) : Int) = ((i + 1 + r.length : Nat) : Int) by omega, key r.length ws _ true out (Nat.le_refl _) (by omega) (by omega) (by omega), List.drop_eq_nil_of_le (by omega), List.drop_eq_nil_of_le (show r.length ≤ (cutS r 62).1.length + 1 by omega)]
          rfl
        · rw [if_neg hm]
          rw [show (((i + 1 : Nat) : Int) + ((cutS r 62).1.length : Int)) + 1 = ((i + 1 + ((cutS r 62).1.length + 1) : Nat) : Int) by omega]
          exact key ((cutS r 62).1.length + 1) ws _ true out (by omega) (by omega) (by omega) (by omega)
      rw [if_neg h60]
      refine cond_f (decide_eq_false h60) ?_
      by_cases h58 : c = 58
      · rw [if_pos h58]
        refine cond_t (decide_eq_true h58) ?_
        exact key0 [] [] false out (by simp [totL]) (by simp) (by omega)
      rw [if_neg h58]
      refine cond_f (decide_eq_false h58) ?_
      have htl := tellS_len ws an hs out
      have htk : tellok ws an out := tellok_of (by omega) (by omega) (by omega)
      by_cases h44 : c = 44
      · rw [if_pos (.inl h44)]
        refine cond_t (decide_eq_true h44) ?_
        rw [Balist_3_eq]
        exact need_mk htk (key0 [] [] false _ (by simp [totL]) (by simp) (by omega))
      refine cond_f (decide_eq_false h44) ?_
      by_cases h59 : c = 59
      · rw [if_pos (.inr h59)]
        refine cond_t (decide_eq_true h59) ?_
        rw [Balist_3_eq]
        exact need_mk htk (key0 [] [] false _ (by simp [totL]) (by simp) (by omega))
      refine cond_f (decide_eq_false h59) ?_
      rw [if_neg (by rintro (h | h) <;> contradiction)]
      have hskip : ∀ b : Bool, b = true → Balist_4 F f s b s ((i + 1 : Nat) : Int) an hs ws out = some (.p (.list 3 (.dat addrC (adF (r.length + 1) r ws an hs out))), []) := fun b hb => by
        rw [Balist_4_eq]
        exact cond_t hb (key0 ws an hs out (by omega) ha (by omega))
      by_cases h32 : c = 32
      · rw [if_pos (.inl h32)]
        exact cond_t (decide_eq_true h32) (hskip _ (decide_eq_true h32))
      refine cond_f (decide_eq_false h32) ?_
      by_cases h9 : c = 9
      · rw [if_pos (.inr (.inl h9))]
        exact cond_t (decide_eq_true h9) (hskip _ (decide_eq_true h9))
      refine cond_f (decide_eq_false h9) ?_
      by_cases h13 : c = 13
      · rw [if_pos (.inr (.inr (.inl h13)))]
        exact cond_t (decide_eq_true h13) (hskip _ (decide_eq_true h13))
      refine cond_f (decide_eq_false h13) ?_
      by_cases h10 : c = 10
      · rw [if_pos (.inr (.inr (.inr h10)))]
        exact hskip _ (decide_eq_true h10)
      rw [if_neg (by rintro (h | h | h | h) <;> contradiction), Balist_4_eq]
      refine cond_f (decide_eq_false h10) (need_mk ⟨by omega, by omega⟩ ?_)
      rw [show ((i + 1 : Nat) : Int) - 1 = (i : Int) by omega]
      have htw := takeW_le isAt r
      rw [al_word F f s an hs ws out i (by omega) (by omega) r (i + 1) f hd2 (by omega) (by omega) (by omega)]
      have ewd : (s.drop i).take (i + 1 + (r.takeWhile isAt).length - i) = c :: r.takeWhile isAt := by
        rw [hd, show i + 1 + (r.takeWhile isAt).length - i = (r.takeWhile isAt).length + 1 by omega, List.take_succ_cons]
        congr 1
        conv => lhs; rw [← List.takeWhile_append_dropWhile (p := isAt) (l := r)]
        rw [List.take_left']
        simp
      have edw : r.drop (r.takeWhile isAt).length = r.dropWhile isAt := by
        conv => lhs; rw [← List.takeWhile_append_dropWhile (p := isAt) (l := r)]
        rw [List.drop_left']
        simp
      rw [ewd, key (r.takeWhile isAt).length (ws ++ [c :: r.takeWhile isAt]) an hs out (by omega) (by rw [totL_app, List.length_append, List.length_singleton, List.length_cons]; omega) ha (by omega), edw]
      rfl
theorem alist_eq (s : List UInt8) (hS : s.length ≤ 40000) : Falist (s.length + 1) s = some (.p (.list 3 (.dat addrC (listA s))), []) := by
  rw [Falist_eq]
  exact al_loop (s.length + 1) s hS s.length s 0 (s.length + 1) [] [] false [] (Nat.le_refl _) rfl (by simp) (by simp [totL]) (by simp) (by simp) (by omega)
def sp_alist : List AV → Option (AV × Option Prop)
  | [.p (.str s)] => some (.p (.list 3 (.dat addrC (listA s))), some (s.length ≤ 40000))
  | _ => none
theorem ok_alist : SpecOk Tryz.prog 7 sp_alist := by
  intro zs r ok he hok
  unfold sp_alist at he
  split at he
  · cases he; exact ⟨by kernel_rfl, fn_alist _ _ _ fun _ => alist_eq _ hok⟩
  · cases he
end Go.Proofs.YtfadnlnmlkemfaaGreatDoor
namespace Go.Proofs.YtfadnlnmlkemfaaGreatDoor
open Go Go.Am
set_option linter.unusedVariables false
/-! addr.List, its row the caller's own. -/
















end Go.Proofs.YtfadnlnmlkemfaaGreatDoor
namespace Go.Proofs.YtfadnlnmlkemfaaGreatDoor
open Go Go.Am
set_option linter.unusedVariables false
/-! The addresses of two texts, a comma between. -/
def sameA (l q : List AddrT) : Bool := decide (l = q)
end Go.Proofs.YtfadnlnmlkemfaaGreatDoor
