/-
  Lifted functions, and facts about them.
-/
import Derived.Test.YtoanepondbagcaaGreatDoorRows
import Derived.Test.YtoanepondbagcaaGreatDoorAmC
import Derived.Test.YtoanepondbagcaaGreatDoorC01
import Derived.Test.YtoanepondbagcaaGreatDoorC18
import Derived.Test.YtoanepondbagcaaGreatDoorC02
namespace Go.Proofs.YtoanepondbagcaaGreatDoor
open Go Go.Am
set_option linter.unusedVariables false
/-! strings: CutSuffix; Split at one byte. Numbers. -/
def sufS (s p : List UInt8) : List UInt8 × Bool := if hasSuf s p = true then (s.take (s.length - p.length), true) else (s, false)

noncomputable def Gcsl : Cfg := ⟨Tryz.prog, mkEnv [(106, sp_hsl)], mkEnvR [], 18, [], [], []⟩

noncomputable def Fcsl (F : Nat) (s p : List UInt8) : Option Ans := runF Gcsl Tryz.f67 F [.p (.str s), .p (.str p)]

theorem Fcsl_eq (F : Nat) (s p : List UInt8) : Fcsl F s p = need (s.length ≤ 1000000) (cond (!(hasSuf s p)) (some (.tup [.p (.str s), .p (.bool false)], [])) (need (i64ok ((s.length : Int) - (p.length : Int))) (need (0 ≤ ((s.length : Int) - (p.length : Int)) ∧ ((s.length : Int) - (p.length : Int)) ≤ (s.length : Int)) (some (.tup [.p (.str (s.take ((s.length : Int) - (p.length : Int)).toNat)), .p (.bool true)], []))))) := by kernel_rfl

theorem fn_csl (F : Nat) (s p : List UInt8) (r : AV) (h : (∃ M vs, ARels γ0 M [.p (.str s), .p (.str p)] vs) → Fcsl F s p = some (r, [])) : FnP Tryz.prog 67 [.p (.str s), .p (.str p)] r :=
  FnP_run Gcsl F rfl (EnvOk_mk (l := [(106, sp_hsl)]) ⟨ok_hsl.any, trivial⟩) (EnvROk_mk (l := []) trivial) (Checked.mixed Tryz.checked) (fn := Tryz.f67) (by kernel_rfl) (by kernel_rfl) rfl h
theorem csl_eq (s p : List UInt8) (hs : s.length ≤ 1000000) : Fcsl 0 s p = some (.tup [.p (.str (sufS s p).1), .p (.bool (sufS s p).2)], []) := by
  rw [Fcsl_eq, sufS]
  refine need_mk hs ?_
  by_cases h : hasSuf s p = true
  · have hl : p.length ≤ s.length := by
      have h1 := h
      unfold hasSuf at h1
      simp only [Bool.and_eq_true, decide_eq_true_iff] at h1
      omega
    rw [if_pos h]
    refine cond_f (by rw [h]; rfl) (need_mk (by unfold i64ok; omega) (need_mk (by omega) ?_))
    rw [show ((s.length : Int) - (p.length : Int)).toNat = s.length - p.length by omega]
  · rw [if_neg h]
    exact cond_t (by simpa using h) rfl
def sp_csl : List AV → Option (AV × Option Prop)
  | [.p (.str s), .p (.str p)] => some (.tup [.p (.str ((sufS s p).1)), .p (.bool ((sufS s p).2))], some (s.length ≤ 1000000))
  | _ => none
theorem ok_csl : SpecOk Tryz.prog 67 sp_csl := by
  intro zs r ok he hok
  unfold sp_csl at he
  split at he
  · cases he; exact ⟨by kernel_rfl, fn_csl 0 _ _ _ fun hx => csl_eq _ _ hok⟩
  · cases he

noncomputable def Gcsf : Cfg := ⟨Tryz.prog, mkEnv [(67, sp_csl)], mkEnvR [], 11, [], [], []⟩

noncomputable def Fcsf (F : Nat) (s p : List UInt8) : Option Ans := runF Gcsf Tryz.f34 F [.p (.str s), .p (.str p)]

theorem Fcsf_eq (F : Nat) (s p : List UInt8) : Fcsf F s p = need (s.length ≤ 1000000) (some (.tup [.p (.str ((sufS s p).1)), .p (.bool ((sufS s p).2))], [])) := by kernel_rfl

theorem fn_csf (F : Nat) (s p : List UInt8) (r : AV) (h : (∃ M vs, ARels γ0 M [.p (.str s), .p (.str p)] vs) → Fcsf F s p = some (r, [])) : FnP Tryz.prog 34 [.p (.str s), .p (.str p)] r :=
  FnP_run Gcsf F rfl (EnvOk_mk (l := [(67, sp_csl)]) ⟨ok_csl.any, trivial⟩) (EnvROk_mk (l := []) trivial) (Checked.mixed Tryz.checked) (fn := Tryz.f34) (by kernel_rfl) (by kernel_rfl) rfl h
theorem csf_eq (s p : List UInt8) (hs : s.length ≤ 1000000) : Fcsf 0 s p = some (.tup [.p (.str (sufS s p).1), .p (.bool (sufS s p).2)], []) := by
  rw [Fcsf_eq]; exact need_mk hs rfl
def sp_csf : List AV → Option (AV × Option Prop)
  | [.p (.str s), .p (.str p)] => some (.tup [.p (.str ((sufS s p).1)), .p (.bool ((sufS s p).2))], some (s.length ≤ 1000000))
  | _ => none
theorem ok_csf : SpecOk Tryz.prog 34 sp_csf := by
  intro zs r ok he hok
  unfold sp_csf at he
  split at he
  · cases he; exact ⟨by kernel_rfl, fn_csf 0 _ _ _ fun hx => csf_eq _ _ hok⟩
  · cases he
/-- The pieces between a byte. -/
def splB (c : UInt8) : List UInt8 → List (List UInt8)
  | [] => [[]]
  | x :: r => if x = c then [] :: splB c r else match splB c r with
    | h :: t => (x :: h) :: t
    | [] => [[x]]
theorem splB_none {c : UInt8} : ∀ {s : List UInt8}, (∀ x ∈ s, x ≠ c) → splB c s = [s] ∧ s.count c = 0
  | [], _ => ⟨rfl, rfl⟩
  | x :: r, h => by
    obtain ⟨h1, h2⟩ := splB_none (s := r) fun y hy => h y (List.mem_cons_of_mem _ hy)
    have hx := h x (List.mem_cons_self ..)
    exact ⟨by rw [splB, if_neg hx, h1], by rw [List.count_cons, h2]; simp [hx]⟩
theorem splB_some {c : UInt8} (q : List UInt8) : ∀ {p : List UInt8}, (∀ x ∈ p, x ≠ c) → splB c (p ++ c :: q) = p :: splB c q ∧ (p ++ c :: q).count c = q.count c + 1
  | [], _ => ⟨by rw [List.nil_append, splB, if_pos rfl], by simp⟩
  | x :: r, h => by
    obtain ⟨h1, h2⟩ := splB_some q (p := r) fun y hy => h y (List.mem_cons_of_mem _ hy)
    have hx := h x (List.mem_cons_self ..)
    exact ⟨by rw [List.cons_append, splB, if_neg hx, h1], by rw [List.cons_append, List.count_cons, h2]; simp [hx]⟩
noncomputable def cgspl : Code := bodyOf Tryz.f69

noncomputable def Ggspl : Cfg := ⟨Tryz.prog, mkEnv [(55, sp_cnt), (94, sp_ix1)], mkEnvR [], 66, [], [([1, 1, 1, 1], ⟨[0, 1, 2, 3], []⟩), ([1, 1, 1, 1, 1, 1], ⟨[0, 1, 2, 3, 9], [⟨.slot 9, 9, .cells []⟩]⟩), ([0, 0, 1, 1, 1, 1, 1, 1, 1, 1], ⟨[0, 1, 2, 3, 9, 10], [⟨.slot 9, 9, .cells []⟩]⟩), ([1, 1, 1, 1, 1, 1, 1, 1, 1], ⟨[0, 9, 10], [⟨.slot 9, 9, .cells []⟩]⟩)], [([0, 1, 1, 1, 1, 1, 1, 1, 1, 1, 1], [3]), ([888888, 1, 1, 1, 1, 1, 1, 1, 1, 1, 1, 1], [65, 0])]⟩

noncomputable def Bgspl_1 (F : Nat) (s : List UInt8) (c : UInt8) (vi1 : Int) : Option Ans := runB Ggspl cgspl (kP Tryz.prog Tryz.f69.results.toList) F [] [1, 1, 1, 1] [(0, .p (.str s)), (1, .p (.str [c])), (2, .p (.int .i64 (0 : Int))), (3, .p (.int .i64 vi1))] []

noncomputable def Bgspl_2 (F : Nat) (s : List UInt8) (c : UInt8) (vi2 : Int) (vl3 : List (List UInt8)) : Option Ans := runB Ggspl cgspl (kP Tryz.prog Tryz.f69.results.toList) F [] [1, 1, 1, 1, 1, 1] [(0, .p (.str s)), (1, .p (.str [c])), (2, .p (.int .i64 (0 : Int))), (3, .p (.int .i64 vi2)), (9, .arr 9)] [(9, .larr 9 true 1 (.dat .str vl3))]

noncomputable def Bgspl_3 (F f1 : Nat) (vs4 : List UInt8) (c : UInt8) (vi5 vi6 : Int) (vl7 : List (List UInt8)) : Option Ans := runR Ggspl cgspl (kP Tryz.prog Tryz.f69.results.toList) F [] [1, 1, 1, 1, 1, 1, 1, 1, 0, 0] f1 [(0, .p (.str vs4)), (1, .p (.str [c])), (2, .p (.int .i64 (0 : Int))), (3, .p (.int .i64 vi5)), (9, .arr 9), (10, .p (.int .i64 vi6))] [(9, .larr 9 true 1 (.dat .str vl7))]

noncomputable def Bgspl_4 (F : Nat) (vs8 : List UInt8) (vi9 : Int) (vl10 : List (List UInt8)) : Option Ans := runB Ggspl cgspl (kP Tryz.prog Tryz.f69.results.toList) F [] [1, 1, 1, 1, 1, 1, 1, 1, 1] [(0, .p (.str vs8)), (9, .arr 9), (10, .p (.int .i64 vi9))] [(9, .larr 9 true 1 (.dat .str vl10))]

noncomputable def Fgspl (F : Nat) (s : List UInt8) (c : UInt8) : Option Ans := runF Ggspl Tryz.f69 F [.p (.str s), .p (.str [c]), .p (.int .i64 (0 : Int)), .p (.int .i64 (-1 : Int))]

theorem Bgspl_1_eq (F : Nat) (s : List UInt8) (c : UInt8) (vi1 : Int) : Bgspl_1 F s c vi1 = need (i64ok ((s.length : Int) + (1 : Int))) (need (0 ≤ (if ((s.length : Int) + (1 : Int)) < vi1 then ((s.length : Int) + (1 : Int)) else vi1) ∧ (if ((s.length : Int) + (1 : Int)) < vi1 then ((s.length : Int) + (1 : Int)) else vi1) ≤ (if ((s.length : Int) + (1 : Int)) < vi1 then ((s.length : Int) + (1 : Int)) else vi1) ∧ (16 : Int) * (if ((s.length : Int) + (1 : Int)) < vi1 then ((s.length : Int) + (1 : Int)) else vi1) ≤ 281474976710656 ∧ (if ((s.length : Int) + (1 : Int)) < vi1 then ((s.length : Int) + (1 : Int)) else vi1) ≤ 9223372036854775807) (Bgspl_2 F s c (if ((s.length : Int) + (1 : Int)) < vi1 then ((s.length : Int) + (1 : Int)) else vi1) (List.replicate (if ((s.length : Int) + (1 : Int)) < vi1 then ((s.length : Int) + (1 : Int)) else vi1).toNat ([] : List UInt8)))) := by kernel_rfl

theorem Bgspl_2_eq (F : Nat) (s : List UInt8) (c : UInt8) (vi2 : Int) (vl3 : List (List UInt8)) : Bgspl_2 F s c vi2 vl3 = need (i64ok (vi2 - (1 : Int))) (Bgspl_3 F F s c (vi2 - (1 : Int)) (0 : Int) vl3) := by kernel_rfl

theorem Bgspl_3_eq (F f1 : Nat) (vs4 : List UInt8) (c : UInt8) (vi5 vi6 : Int) (vl7 : List (List UInt8)) : Bgspl_3 F (f1 + 1) vs4 c vi5 vi6 vl7 = cond (decide (vi6 < vi5)) (cond (decide ((ixS vs4 (c.toNat : Int)) < (0 : Int))) (Bgspl_4 F vs4 vi6 vl7) (need (i64ok ((ixS vs4 (c.toNat : Int)) + (0 : Int))) (need (0 ≤ ((ixS vs4 (c.toNat : Int)) + (0 : Int)) ∧ ((ixS vs4 (c.toNat : Int)) + (0 : Int)) ≤ (vs4.length : Int)) (need (0 ≤ vi6 ∧ vi6 < (vl7.length : Int)) (need ((vi6).toNat < vl7.length) (need (i64ok ((ixS vs4 (c.toNat : Int)) + (1 : Int))) (need (0 ≤ ((ixS vs4 (c.toNat : Int)) + (1 : Int)) ∧ ((ixS vs4 (c.toNat : Int)) + (1 : Int)) ≤ (vs4.length : Int)) (need (i64ok (vi6 + (1 : Int))) (Bgspl_3 F f1 (vs4.drop ((ixS vs4 (c.toNat : Int)) + (1 : Int)).toNat) c vi5 (vi6 + (1 : Int)) (vl7.set ((vi6).toNat) (vs4.take ((ixS vs4 (c.toNat : Int)) + (0 : Int)).toNat))))))))))) (Bgspl_4 F vs4 vi6 vl7) := by kernel_rfl

theorem Bgspl_4_eq (F : Nat) (vs8 : List UInt8) (vi9 : Int) (vl10 : List (List UInt8)) : Bgspl_4 F vs8 vi9 vl10 = need (0 ≤ vi9 ∧ vi9 < (vl10.length : Int)) (need ((vi9).toNat < vl10.length) (need (i64ok (vi9 + (1 : Int))) (need (0 ≤ (vi9 + (1 : Int)) ∧ (vi9 + (1 : Int)) ≤ ((vl10.set ((vi9).toNat) vs8).length : Int)) (some (.p (.list 1 (.dat .str ((vl10.set ((vi9).toNat) vs8).take (vi9 + (1 : Int)).toNat))), []))))) := by kernel_rfl

theorem Fgspl_eq (F : Nat) (s : List UInt8) (c : UInt8) : Fgspl F s c = need (i64ok ((cntS s (c.toNat : Int)) + (1 : Int))) (Bgspl_1 F s c ((cntS s (c.toNat : Int)) + (1 : Int))) := by kernel_rfl

theorem fn_gspl (F : Nat) (s : List UInt8) (c : UInt8) (r : AV) (h : (∃ M vs, ARels γ0 M [.p (.str s), .p (.str [c]), .p (.int .i64 (0 : Int)), .p (.int .i64 (-1 : Int))] vs) → Fgspl F s c = some (r, [])) : FnP Tryz.prog 69 [.p (.str s), .p (.str [c]), .p (.int .i64 (0 : Int)), .p (.int .i64 (-1 : Int))] r :=
  FnP_run Ggspl F rfl (EnvOk_mk (l := [(55, sp_cnt), (94, sp_ix1)]) ⟨ok_cnt.any, ok_ix1.any, trivial⟩) (EnvROk_mk (l := []) trivial) (Checked.mixed Tryz.checked) (fn := Tryz.f69) (by kernel_rfl) (by kernel_rfl) rfl h
theorem set_take {α : Type} (l : List α) (i : Nat) (x : α) (h : i < l.length) : (l.set i x).take (i + 1) = l.take i ++ [x] := by
  rw [List.take_add_one, List.take_set]
  have h1 : (l.take i).length = i := by simp; omega
  rw [List.set_eq_of_length_le (by omega)]
  simp [h]
theorem Bgspl_end (F : Nat) (s : List UInt8) (i : Nat) (l : List (List UInt8)) (hi : i < l.length) (hl : l.length ≤ 10000000) : Bgspl_4 F s (i : Int) l = some (.p (.list 1 (.dat .str (l.take i ++ [s]))), []) := by
  rw [Bgspl_4_eq]
  refine need_mk (by omega) (need_mk (by omega) (need_mk (by unfold i64ok; omega) (need_mk (by simp; omega) ?_)))
  rw [show ((i : Int) + 1).toNat = i + 1 by omega, Int.toNat_natCast, set_take l i s hi]
theorem Bgspl_spec (F : Nat) (c : UInt8) : ∀ (n : Nat) (s : List UInt8), s.count c = n → s.length ≤ 1000000 → ∀ (f i : Nat) (l : List (List UInt8)), n < f → l.length = i + n + 1 → l.length ≤ 10000000 →
    Bgspl_3 F f s c ((i + n : Nat) : Int) (i : Int) l = some (.p (.list 1 (.dat .str (l.take i ++ splB c s))), []) := by
  intro n
  induction n with
  | zero =>
    intro s hc hs f i l hf hl hl2
    cases f with
    | zero => omega
    | succ f =>
      have hn : ∀ x ∈ s, x ≠ c := fun x hx e => by subst e; exact (List.count_eq_zero.1 hc) hx
      rw [Bgspl_3_eq]
      refine cond_f (by simp) ?_
      rw [Bgspl_end F s i l (by omega) hl2, (splB_none hn).1]
  | succ n ih =>
    intro s hc hs f i l hf hl hl2
    cases f with
    | zero => omega
    | succ f =>
      rw [Bgspl_3_eq]
      refine cond_t (by simp only [decide_eq_true_iff]; omega) ?_
      rcases ixb_split c s with ⟨p, q, e, hp, hix⟩ | ⟨hn, hix⟩
      · have hlen : s.length = p.length + q.length + 1 := by rw [e]; simp; omega
        obtain ⟨h1, h2⟩ := splB_some q hp
        rw [ixS_u8, hix]
        refine cond_f (by simp) (need_mk (by unfold i64ok; omega) (need_mk (by omega) (need_mk (by omega) (need_mk (by omega) (need_mk (by unfold i64ok; omega) (need_mk (by omega) (need_mk (by unfold i64ok; omega) ?_)))))))
        have ed : s.drop ((p.length : Int) + 1).toNat = q := by
          rw [show ((p.length : Int) + 1).toNat = p.length + 1 by omega, e]; simp
        have et : s.take ((p.length : Int) + 0).toNat = p := by
          rw [show ((p.length : Int) + 0).toNat = p.length by omega, e]; simp
        rw [ed, et, show (i : Int) + 1 = ((i + 1 : Nat) : Int) by omega, show ((i + (n + 1) : Nat) : Int) = ((i + 1 + n : Nat) : Int) by omega, Int.toNat_natCast]
        rw [ih q (by rw [e] at hc; omega) (by omega) f (i + 1) (l.set i p) (by omega) (by simp; omega) (by simpa using hl2)]
        rw [set_take l i p (by omega), e, h1]
        simp
      · rw [(splB_none hn).2] at hc; omega
theorem gspl_eq (s : List UInt8) (c : UInt8) (hs : s.length ≤ 1000000) : Fgspl (s.length + 2) s c = some (.p (.list 1 (.dat .str (splB c s))), []) := by
  have hc := List.count_le_length (a := c) (l := s)
  have e1 : cntS s (c.toNat : Int) = (s.count c : Int) := by unfold cntS; rw [u8c]
  rw [Fgspl_eq, e1]
  refine need_mk (by unfold i64ok; omega) ?_
  rw [Bgspl_1_eq, if_neg (by omega)]
  refine need_mk (by unfold i64ok; omega) (need_mk (by omega) ?_)
  rw [Bgspl_2_eq]
  refine need_mk (by unfold i64ok; omega) ?_
  rw [show ((s.count c : Int) + 1).toNat = s.count c + 1 by omega, show (s.count c : Int) + 1 - 1 = ((0 + s.count c : Nat) : Int) by omega]
  exact Bgspl_spec _ c (s.count c) s rfl hs (s.length + 2) 0 _ (by omega) (by simp) (by simp; omega)
def sp_gspl : List AV → Option (AV × Option Prop)
  | [.p (.str s), .p (.str [c]), .p (.int .i64 (0 : Int)), .p (.int .i64 (-1 : Int))] => some (.p (.list 1 (.dat .str (splB c s))), some (s.length ≤ 1000000))
  | _ => none
theorem ok_gspl : SpecOk Tryz.prog 69 sp_gspl := by
  intro zs r ok he hok
  unfold sp_gspl at he
  split at he
  · cases he; exact ⟨by kernel_rfl, fn_gspl (_) _ _ _ fun hx => gspl_eq _ _ hok⟩
  · cases he

noncomputable def Gspl : Cfg := ⟨Tryz.prog, mkEnv [(69, sp_gspl)], mkEnvR [], 8, [], [], []⟩

noncomputable def Fspl (F : Nat) (s : List UInt8) (c : UInt8) : Option Ans := runF Gspl Tryz.f36 F [.p (.str s), .p (.str [c])]

theorem Fspl_eq (F : Nat) (s : List UInt8) (c : UInt8) : Fspl F s c = need (s.length ≤ 1000000) (some (.p (.list 1 (.dat .str (splB c s))), [])) := by kernel_rfl

theorem fn_spl (F : Nat) (s : List UInt8) (c : UInt8) (r : AV) (h : (∃ M vs, ARels γ0 M [.p (.str s), .p (.str [c])] vs) → Fspl F s c = some (r, [])) : FnP Tryz.prog 36 [.p (.str s), .p (.str [c])] r :=
  FnP_run Gspl F rfl (EnvOk_mk (l := [(69, sp_gspl)]) ⟨ok_gspl.any, trivial⟩) (EnvROk_mk (l := []) trivial) (Checked.mixed Tryz.checked) (fn := Tryz.f36) (by kernel_rfl) (by kernel_rfl) rfl h
theorem spl_eq (s : List UInt8) (c : UInt8) (hs : s.length ≤ 1000000) : Fspl 0 s c = some (.p (.list 1 (.dat .str (splB c s))), []) := by
  rw [Fspl_eq]; exact need_mk hs rfl
def sp_spl : List AV → Option (AV × Option Prop)
  | [.p (.str s), .p (.str [c])] => some (.p (.list 1 (.dat .str (splB c s))), some (s.length ≤ 1000000))
  | _ => none
theorem ok_spl : SpecOk Tryz.prog 36 sp_spl := by
  intro zs r ok he hok
  unfold sp_spl at he
  split at he
  · cases he; exact ⟨by kernel_rfl, fn_spl 0 _ _ _ fun hx => spl_eq _ _ hok⟩
  · cases he
def numL : List UInt8 → Nat → Option Nat
  | [], n => some n
  | c :: r, n => if c.toNat < 48 ∨ 57 < c.toNat then none else numL r (n * 10 + (c.toNat - 48))
def numE : Option Nat → Int × Bool
  | none => (0, false)
  | some n => if n > 4294967295 then (0, false) else ((n : Int), true)
def numS (s : List UInt8) : Int × Bool := if s = [] ∨ 10 < s.length ∨ (s.getD 0 0 = 48 ∧ 1 < s.length) then (0, false) else numE (numL s 0)
def numT (p : Int × Bool) : AV := .tup [.p (.int .i64 p.1), .p (.bool p.2)]
theorem numE_big {n : Nat} : (cond (decide ((n : Int) > (4294967295 : Int))) (some (.tup [.p (.int .i64 (0 : Int)), .p (.bool false)], [])) (some (.tup [.p (.int .i64 (n : Int)), .p (.bool true)], [])) : Option Ans) = some (numT (numE (some n)), []) := by
  show _ = some (numT (if n > 4294967295 then (0, false) else ((n : Int), true)), [])
  by_cases h : n > 4294967295
  · rw [if_pos h]; exact cond_t (by simp only [decide_eq_true_iff]; omega) rfl
  · rw [if_neg h]; exact cond_f (by simp only [decide_eq_false_iff_not]; omega) rfl
theorem digit_bad (c : UInt8) : ((decide ((c.toNat : Int) < (48 : Int))) || (decide ((c.toNat : Int) > (57 : Int)))) = decide (c.toNat < 48 ∨ 57 < c.toNat) := by
  rw [Bool.decide_or]
  congr 1
  · exact decide_eq_decide.2 (by omega)
  · exact decide_eq_decide.2 (by omega)
theorem digit_val {c : UInt8} (h : ¬ (c.toNat < 48 ∨ 57 < c.toNat)) : IntKind.u8.wrap ((c.toNat : Int) - (48 : Int)) = ((c.toNat - 48 : Nat) : Int) := by
  rw [u8_wrap]; omega
noncomputable def cnumber : Code := bodyOf Tryz.f68

noncomputable def Gnumber : Cfg := ⟨Tryz.prog, mkEnv [], mkEnvR [], 50, [], [([1, 0, 1], ⟨[0, 22], []⟩), ([0, 1, 0, 1, 1, 1], ⟨[0, 4, 24, 25], []⟩), ([1, 0, 1, 0, 0, 1, 1, 0, 0, 1, 0, 1, 1, 1], ⟨[0, 4, 5, 24, 25, 37], []⟩)], []⟩

noncomputable def Bnumber_1 (F : Nat) (s : List UInt8) (vc1 : Bool) : Option Ans := runB Gnumber cnumber (kP Tryz.prog Tryz.f68.results.toList) F [] [1, 0, 1] [(0, .p (.str s)), (22, .p (.bool vc1))] []

noncomputable def Bnumber_2 (F f1 : Nat) (s : List UInt8) (vi2 vi3 vi4 : Int) : Option Ans := runR Gnumber cnumber (kP Tryz.prog Tryz.f68.results.toList) F [] [1, 1, 1, 0, 1, 0] f1 [(0, .p (.str s)), (4, .p (.int .i64 vi2)), (24, .p (.int .i64 vi3)), (25, .p (.int .i64 vi4))] []

noncomputable def Bnumber_3 (F f1 : Nat) (s : List UInt8) (vi2 vi4 vi3 : Int) (vc5 : Bool) : Option Ans := runB Gnumber cnumber (kP Tryz.prog Tryz.f68.results.toList) F [f1] [1, 1, 1, 0, 1, 0, 0, 1, 1, 0, 0, 1, 0, 1] [(0, .p (.str s)), (4, .p (.int .i64 vi2)), (5, .p (.int .i64 vi4)), (24, .p (.int .i64 vi3)), (25, .p (.int .i64 vi4)), (37, .p (.bool vc5))] []

noncomputable def Fnumber (F : Nat) (s : List UInt8) : Option Ans := runF Gnumber Tryz.f68 F [.p (.str s)]

theorem Bnumber_1_eq (F : Nat) (s : List UInt8) (vc1 : Bool) : Bnumber_1 F s vc1 = cond (vc1) (some (.tup [.p (.int .i64 (0 : Int)), .p (.bool false)], [])) (Bnumber_2 F F s (0 : Int) (s.length : Int) (0 : Int)) := by kernel_rfl

theorem Bnumber_2_eq (F f1 : Nat) (s : List UInt8) (vi2 vi3 vi4 : Int) : Bnumber_2 F (f1 + 1) s vi2 vi3 vi4 = cond (decide (vi4 < vi3)) (need (0 ≤ vi4 ∧ vi4 < (s.length : Int)) (((need ((!(decide (((s.getD (vi4).toNat 0).toNat : Int) < (48 : Int)))) = true → 0 ≤ vi4 ∧ vi4 < (s.length : Int)) (((Bnumber_3 F f1 s vi2 vi4 vi3 ((decide (((s.getD (vi4).toNat 0).toNat : Int) < (48 : Int))) || (decide (((s.getD (vi4).toNat 0).toNat : Int) > (57 : Int))))))))))) (cond (decide (vi2 > (4294967295 : Int))) (some (.tup [.p (.int .i64 (0 : Int)), .p (.bool false)], [])) (some (.tup [.p (.int .i64 vi2), .p (.bool true)], []))) := by
  have h : Bnumber_2 F (f1 + 1) s vi2 vi3 vi4 = cond (decide (vi4 < vi3)) (need (0 ≤ vi4 ∧ vi4 < (s.length : Int)) (need ((!(decide (((s.getD (vi4).toNat 0).toNat : Int) < (48 : Int)))) = true → (!(decide (((s.getD (vi4).toNat 0).toNat : Int) < (48 : Int)))) = true) (need ((!(decide (((s.getD (vi4).toNat 0).toNat : Int) < (48 : Int)))) = true → (!(decide (((s.getD (vi4).toNat 0).toNat : Int) < (48 : Int)))) = true) (need ((!(decide (((s.getD (vi4).toNat 0).toNat : Int) < (48 : Int)))) = true → 0 ≤ vi4 ∧ vi4 < (s.length : Int)) (need ((!(decide (((s.getD (vi4).toNat 0).toNat : Int) < (48 : Int)))) = true → (!(decide (((s.getD (vi4).toNat 0).toNat : Int) < (48 : Int)))) = true) (need ((decide (((s.getD (vi4).toNat 0).toNat : Int) < (48 : Int))) = false → (!(decide (((s.getD (vi4).toNat 0).toNat : Int) < (48 : Int)))) = true) (Bnumber_3 F f1 s vi2 vi4 vi3 ((decide (((s.getD (vi4).toNat 0).toNat : Int) < (48 : Int))) || (decide (((s.getD (vi4).toNat 0).toNat : Int) > (57 : Int))))))))))) (cond (decide (vi2 > (4294967295 : Int))) (some (.tup [.p (.int .i64 (0 : Int)), .p (.bool false)], [])) (some (.tup [.p (.int .i64 vi2), .p (.bool true)], []))) := by kernel_rfl
  rw [h, need_pos (show (decide (((s.getD (vi4).toNat 0).toNat : Int) < (48 : Int))) = false → (!(decide (((s.getD (vi4).toNat 0).toNat : Int) < (48 : Int)))) = true from (fun q0 => (not_mk q0))), need_pos (show (!(decide (((s.getD (vi4).toNat 0).toNat : Int) < (48 : Int)))) = true → (!(decide (((s.getD (vi4).toNat 0).toNat : Int) < (48 : Int)))) = true from (fun q0 => q0)), need_pos (show (!(decide (((s.getD (vi4).toNat 0).toNat : Int) < (48 : Int)))) = true → (!(decide (((s.getD (vi4).toNat 0).toNat : Int) < (48 : Int)))) = true from (fun q0 => q0)), need_pos (show (!(decide (((s.getD (vi4).toNat 0).toNat : Int) < (48 : Int)))) = true → (!(decide (((s.getD (vi4).toNat 0).toNat : Int) < (48 : Int)))) = true from (fun q0 => q0))]

theorem Bnumber_3_eq (F f1 : Nat) (s : List UInt8) (vi2 vi4 vi3 : Int) (vc5 : Bool) : Bnumber_3 F f1 s vi2 vi4 vi3 vc5 = cond (vc5) (some (.tup [.p (.int .i64 (0 : Int)), .p (.bool false)], [])) (need (i64ok (vi2 * (10 : Int))) (need (0 ≤ vi4 ∧ vi4 < (s.length : Int)) (need (i64ok ((vi2 * (10 : Int)) + (IntKind.u8.wrap (((s.getD (vi4).toNat 0).toNat : Int) - (48 : Int))))) (need (i64ok (vi4 + (1 : Int))) (Bnumber_2 F f1 s ((vi2 * (10 : Int)) + (IntKind.u8.wrap (((s.getD (vi4).toNat 0).toNat : Int) - (48 : Int)))) vi3 (vi4 + (1 : Int))))))) := by kernel_rfl

theorem Fnumber_eq (F : Nat) (s : List UInt8) : Fnumber F s = need ((!((s == ([] : List UInt8)) || (decide ((s.length : Int) > (10 : Int))))) = true → 0 ≤ (0 : Int) ∧ (0 : Int) < (s.length : Int)) (Bnumber_1 F s (((s == ([] : List UInt8)) || (decide ((s.length : Int) > (10 : Int)))) || ((((s.getD ((0 : Int)).toNat 0).toNat : Int) == (48 : Int)) && (decide ((s.length : Int) > (1 : Int)))))) :=
  Eq.trans (show Fnumber F s = need ((!(s == ([] : List UInt8))) = true → (!(s == ([] : List UInt8))) = true) (need ((!(s == ([] : List UInt8))) = true → (!(s == ([] : List UInt8))) = true) (need ((s == ([] : List UInt8)) = false → (!(s == ([] : List UInt8))) = true) (need ((!((s == ([] : List UInt8)) || (decide ((s.length : Int) > (10 : Int))))) = true → (!((s == ([] : List UInt8)) || (decide ((s.length : Int) > (10 : Int))))) = true) (need ((!((s == ([] : List UInt8)) || (decide ((s.length : Int) > (10 : Int))))) = true → 0 ≤ (0 : Int) ∧ (0 : Int) < (s.length : Int)) (need ((!((s == ([] : List UInt8)) || (decide ((s.length : Int) > (10 : Int))))) = true → (!((s == ([] : List UInt8)) || (decide ((s.length : Int) > (10 : Int))))) = true) (need ((!((s == ([] : List UInt8)) || (decide ((s.length : Int) > (10 : Int))))) = true → (!((s == ([] : List UInt8)) || (decide ((s.length : Int) > (10 : Int))))) = true) (need (((!((s == ([] : List UInt8)) || (decide ((s.length : Int) > (10 : Int))))) && (((s.getD ((0 : Int)).toNat 0).toNat : Int) == (48 : Int))) = true → ((!((s == ([] : List UInt8)) || (decide ((s.length : Int) > (10 : Int))))) && (((s.getD ((0 : Int)).toNat 0).toNat : Int) == (48 : Int))) = true) (need (((!((s == ([] : List UInt8)) || (decide ((s.length : Int) > (10 : Int))))) && (((s.getD ((0 : Int)).toNat 0).toNat : Int) == (48 : Int))) = true → ((!((s == ([] : List UInt8)) || (decide ((s.length : Int) > (10 : Int))))) && (((s.getD ((0 : Int)).toNat 0).toNat : Int) == (48 : Int))) = true) (need ((!((s == ([] : List UInt8)) || (decide ((s.length : Int) > (10 : Int))))) = true → (!((s == ([] : List UInt8)) || (decide ((s.length : Int) > (10 : Int))))) = true) (need ((!((s == ([] : List UInt8)) || (decide ((s.length : Int) > (10 : Int))))) = true → (((s.getD ((0 : Int)).toNat 0).toNat : Int) == (48 : Int)) = true → ((!((s == ([] : List UInt8)) || (decide ((s.length : Int) > (10 : Int))))) && (((s.getD ((0 : Int)).toNat 0).toNat : Int) == (48 : Int))) = true) (need (((s == ([] : List UInt8)) || (decide ((s.length : Int) > (10 : Int)))) = false → (!((s == ([] : List UInt8)) || (decide ((s.length : Int) > (10 : Int))))) = true) (Bnumber_1 F s (((s == ([] : List UInt8)) || (decide ((s.length : Int) > (10 : Int)))) || ((((s.getD ((0 : Int)).toNat 0).toNat : Int) == (48 : Int)) && (decide ((s.length : Int) > (1 : Int))))))))))))))))) by kernel_rfl) (need_strike (show (!(s == ([] : List UInt8))) = true → (!(s == ([] : List UInt8))) = true from (fun q0 => q0)) (need_strike (show (!(s == ([] : List UInt8))) = true → (!(s == ([] : List UInt8))) = true from (fun q0 => q0)) (need_strike (show (s == ([] : List UInt8)) = false → (!(s == ([] : List UInt8))) = true from (fun q0 => (not_mk q0))) (need_strike (show (!((s == ([] : List UInt8)) || (decide ((s.length : Int) > (10 : Int))))) = true → (!((s == ([] : List UInt8)) || (decide ((s.length : Int) > (10 : Int))))) = true from (fun q0 => q0)) (need_congr (need_strike (show (!((s == ([] : List UInt8)) || (decide ((s.length : Int) > (10 : Int))))) = true → (!((s == ([] : List UInt8)) || (decide ((s.length : Int) > (10 : Int))))) = true from (fun q0 => q0)) (need_strike (show (!((s == ([] : List UInt8)) || (decide ((s.length : Int) > (10 : Int))))) = true → (!((s == ([] : List UInt8)) || (decide ((s.length : Int) > (10 : Int))))) = true from (fun q0 => q0)) (need_strike (show ((!((s == ([] : List UInt8)) || (decide ((s.length : Int) > (10 : Int))))) && (((s.getD ((0 : Int)).toNat 0).toNat : Int) == (48 : Int))) = true → ((!((s == ([] : List UInt8)) || (decide ((s.length : Int) > (10 : Int))))) && (((s.getD ((0 : Int)).toNat 0).toNat : Int) == (48 : Int))) = true from (fun q0 => q0)) (need_strike (show ((!((s == ([] : List UInt8)) || (decide ((s.length : Int) > (10 : Int))))) && (((s.getD ((0 : Int)).toNat 0).toNat : Int) == (48 : Int))) = true → ((!((s == ([] : List UInt8)) || (decide ((s.length : Int) > (10 : Int))))) && (((s.getD ((0 : Int)).toNat 0).toNat : Int) == (48 : Int))) = true from (fun q0 => q0)) (need_strike (show (!((s == ([] : List UInt8)) || (decide ((s.length : Int) > (10 : Int))))) = true → (!((s == ([] : List UInt8)) || (decide ((s.length : Int) > (10 : Int))))) = true from (fun q0 => q0)) (need_strike (show (!((s == ([] : List UInt8)) || (decide ((s.length : Int) > (10 : Int))))) = true → (((s.getD ((0 : Int)).toNat 0).toNat : Int) == (48 : Int)) = true → ((!((s == ([] : List UInt8)) || (decide ((s.length : Int) > (10 : Int))))) && (((s.getD ((0 : Int)).toNat 0).toNat : Int) == (48 : Int))) = true from (fun q0 q1 => (and_mk q0 q1))) (need_strike (show ((s == ([] : List UInt8)) || (decide ((s.length : Int) > (10 : Int)))) = false → (!((s == ([] : List UInt8)) || (decide ((s.length : Int) > (10 : Int))))) = true from (fun q0 => (not_mk q0))) (rfl)))))))))))))

theorem fn_number (F : Nat) (s : List UInt8) (r : AV) (h : (∃ M vs, ARels γ0 M [.p (.str s)] vs) → Fnumber F s = some (r, [])) : FnP Tryz.prog 68 [.p (.str s)] r :=
  FnP_run Gnumber F rfl (EnvOk_mk (l := []) trivial) (EnvROk_mk (l := []) trivial) (Checked.mixed Tryz.checked) (fn := Tryz.f68) (by kernel_rfl) (by kernel_rfl) rfl h
theorem Bnumber_spec (F : Nat) (s : List UInt8) (hs : s.length ≤ 10) : ∀ (r : List UInt8) (f i n : Nat), s.drop i = r → r.length < f → i ≤ s.length → n < 10 ^ i →
    Bnumber_2 F f s (n : Int) (s.length : Int) (i : Int) = some (numT (numE (numL r n)), []) := by
  intro r
  induction r with
  | nil =>
    intro f i n hd hf hi hn
    have : i = s.length := by have := congrArg List.length hd; simp at this; omega
    cases f with
    | zero => omega
    | succ f =>
      rw [Bnumber_2_eq]
      exact cond_f (by simp; omega) numE_big
  | cons c r ih =>
    intro f i n hd hf hi hn
    obtain ⟨h1, h2, h3⟩ := drop_cons hd
    have hp : 10 ^ i ≤ 10 ^ 10 := Nat.pow_le_pow_right (by decide) (by omega)
    have hp' : (10 : Nat) ^ 10 = 10000000000 := by decide
    cases f with
    | zero => omega
    | succ f =>
      rw [Bnumber_2_eq]
      refine cond_t (by simp; omega) (need_mk ⟨by omega, by omega⟩ (need_mk (fun _ => ⟨by omega, by omega⟩) ?_))
      rw [Int.toNat_natCast, h1, digit_bad, Bnumber_3_eq, numL]
      by_cases hc : c.toNat < 48 ∨ 57 < c.toNat
      · rw [if_pos hc]; exact cond_t (by simpa using hc) rfl
      · rw [if_neg hc]
        refine cond_f (by simpa using hc) ?_
        rw [Int.toNat_natCast, h1, digit_val hc]
        have hc9 : c.toNat - 48 ≤ 9 := by omega
        refine need_mk (by unfold i64ok; omega) (need_mk ⟨by omega, by omega⟩ (need_mk (by unfold i64ok; omega) (need_mk (by unfold i64ok; omega) ?_)))
        rw [show (n : Int) * 10 + ((c.toNat - 48 : Nat) : Int) = ((n * 10 + (c.toNat - 48) : Nat) : Int) by omega, show (i : Int) + 1 = ((i + 1 : Nat) : Int) by omega]
        exact ih f (i + 1) _ h2 (by simp at hf; omega) (by omega) (by rw [Nat.pow_succ]; omega)
theorem num_nil (s : List UInt8) : (s == ([] : List UInt8)) = decide (s = []) := by cases s <;> rfl
theorem number_eq (s : List UInt8) : Fnumber 11 s = some (numT (numS s), []) := by
  rw [Fnumber_eq, num_nil]
  refine need_mk (fun h => ?_) ?_
  · have : s ≠ [] := by
      intro e; subst e; simp at h
    have := List.length_pos_iff.2 this
    omega
  rw [Bnumber_1_eq, numS]
  by_cases hb : s = [] ∨ 10 < s.length ∨ (s.getD 0 0 = 48 ∧ 1 < s.length)
  · rw [if_pos hb]
    refine cond_t ?_ rfl
    rw [show ((0 : Int)).toNat = 0 from rfl]
    rcases hb with h | h | ⟨h, h'⟩
    · simp [h]
    · simp; left; right; omega
    · rw [h]; simp; right; omega
  · rw [if_neg hb]
    have h1 : s ≠ [] := fun e => hb (.inl e)
    have h2 : s.length ≤ 10 := by
      rcases Nat.lt_or_ge 10 s.length with h | h
      · exact absurd (.inr (.inl h)) hb
      · exact h
    refine cond_f ?_ (Bnumber_spec _ s h2 s 11 0 0 rfl (by omega) (by omega) (by decide))
    rw [show ((0 : Int)).toNat = 0 from rfl]
    rw [show decide (s = []) = false by simpa using h1, show decide ((s.length : Int) > 10) = false by simp; omega, Bool.false_or, Bool.false_or]
    rw [Bool.and_eq_false_iff]
    by_cases h3 : s.getD 0 0 = 48
    · right
      simp only [decide_eq_false_iff_not]
      intro h4
      exact hb (.inr (.inr ⟨h3, by omega⟩))
    · left
      have : (s.getD 0 0).toNat ≠ 48 := fun e => h3 (UInt8.toNat_inj.1 e)
      simp only [beq_eq_false_iff_ne, ne_eq]; omega
def sp_number : List AV → Option (AV × Option Prop)
  | [.p (.str s)] => some (.tup [.p (.int .i64 ((numS s).1)), .p (.bool ((numS s).2))], none)
  | _ => none
theorem ok_number : SpecOk Tryz.prog 68 sp_number := by
  intro zs r ok he hok
  unfold sp_number at he
  split at he
  · cases he; exact ⟨by kernel_rfl, fn_number 11 _ _ fun hx => number_eq _⟩
  · cases he










end Go.Proofs.YtoanepondbagcaaGreatDoor
