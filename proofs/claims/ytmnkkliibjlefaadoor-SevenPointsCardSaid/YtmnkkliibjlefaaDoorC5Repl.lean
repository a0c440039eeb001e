/-
  Lifted functions, and facts about them.
-/
import Derived.Test.YtmnkkliibjlefaaDoorRows
import Derived.Test.YtmnkkliibjlefaaDoorAmC
import Derived.Test.YtmnkkliibjlefaaDoorC5IxOne
import Derived.Test.YtmnkkliibjlefaaDoorC5BldH
namespace Go.Proofs.YtmnkkliibjlefaaDoor
open Go Go.Am
set_option linter.unusedVariables false
/-! strings: HasPrefix; Index, Count, Replace at one byte. -/
def cntS (s : List UInt8) (c : Int) : Int := ((s.count c.toNat.toUInt8 : Nat) : Int)
def sp_extcs : List AV → Option (AV × Option Prop)
  | [.p (.str s), .p (.int .u8 c)] => some (.p (.int .i64 (cntS s c)), none)
  | _ => none
theorem ok_extcs : SpecExt Tryd.prog 65 sp_extcs := by
  intro zs r ok h hok M w vs hM hvs
  unfold sp_extcs at h
  split at h
  · rename_i s c
    cases h
    cases hvs with
    | cons h1 h2 => cases h2 with
      | cons h2 h3 =>
        cases h3
        cases h1 with | p _ _ h1 =>
        cases h2 with | p _ _ h2 =>
        cases h1 with | str _ hs =>
        cases h2 with | int _ _ hc =>
        refine ⟨.int .i64 (cntS s c), ?_, .p _ _ (.int _ _ ?_)⟩
        · rw [run_callFunc_extern (fn := Tryd.f65) (e := Extern.BytealgCount.count) (by kernel_rfl) (by kernel_rfl) (by kernel_rfl) (by kernel_rfl) (by kernel_rfl)]
          rw [Lib.run_countString]; rfl
        · have h1 := List.count_le_length (a := c.toNat.toUInt8) (l := s)
          exact has_i64 (by unfold maxLen at hs; unfold i64ok cntS; omega)
  · cases h
noncomputable def ccnt : Code := bodyOf Tryd.f53

noncomputable def Gcnt : Cfg := ⟨Tryd.prog, mkEnv [(65, sp_extcs)], mkEnvR [], 34, [], [], []⟩

noncomputable def Fcnt (F : Nat) (s : List UInt8) (c : UInt8) : Option Ans := runF Gcnt Tryd.f53 F [.p (.str s), .p (.str [c])]

theorem Fcnt_eq (F : Nat) (s : List UInt8) (c : UInt8) : Fcnt F s c = need (0 ≤ (0 : Int) ∧ (0 : Int) < ([c].length : Int)) (some (.p (.int .i64 (cntS s (([c].getD ((0 : Int)).toNat 0).toNat : Int))), [])) := by kernel_rfl

theorem fn_cnt (F : Nat) (s : List UInt8) (c : UInt8) (r : AV) (h : (∃ M vs, ARels γ0 M [.p (.str s), .p (.str [c])] vs) → Fcnt F s c = some (r, [])) : FnP Tryd.prog 53 [.p (.str s), .p (.str [c])] r :=
  FnP_run Gcnt F rfl (EnvOk_mk (l := [(65, sp_extcs)]) ⟨ok_extcs.any, trivial⟩) (EnvROk_mk (l := []) trivial) (Checked.mixed Tryd.checked) (fn := Tryd.f53) (by kernel_rfl) (by kernel_rfl) rfl h
theorem cnt_eq (s : List UInt8) (c : UInt8) : Fcnt 0 s c = some (.p (.int .i64 (cntS s (c.toNat : Int))), []) := by
  rw [Fcnt_eq]
  exact need_mk (by simp) rfl
def sp_cnt : List AV → Option (AV × Option Prop)
  | [.p (.str s), .p (.str [c])] => some (.p (.int .i64 (cntS s (c.toNat : Int))), none)
  | _ => none
theorem ok_cnt : SpecOk Tryd.prog 53 sp_cnt := by
  intro zs r ok he hok
  unfold sp_cnt at he
  split at he
  · cases he; exact ⟨by kernel_rfl, fn_cnt 0 _ _ _ fun hx => cnt_eq _ _⟩
  · cases he
noncomputable def cix1 : Code := bodyOf Tryd.f55

noncomputable def Gix1 : Cfg := ⟨Tryd.prog, mkEnv [(51, sp_ixl)], mkEnvR [], 8, [], [], []⟩

noncomputable def Fix1 (F : Nat) (s : List UInt8) (c : UInt8) : Option Ans := runF Gix1 Tryd.f55 F [.p (.str s), .p (.str [c])]

theorem Fix1_eq (F : Nat) (s : List UInt8) (c : UInt8) : Fix1 F s c = some (.p (.int .i64 (ixS s (c.toNat : Int))), []) := by kernel_rfl

theorem fn_ix1 (F : Nat) (s : List UInt8) (c : UInt8) (r : AV) (h : (∃ M vs, ARels γ0 M [.p (.str s), .p (.str [c])] vs) → Fix1 F s c = some (r, [])) : FnP Tryd.prog 55 [.p (.str s), .p (.str [c])] r :=
  FnP_run Gix1 F rfl (EnvOk_mk (l := [(51, sp_ixl)]) ⟨ok_ixl.any, trivial⟩) (EnvROk_mk (l := []) trivial) (Checked.mixed Tryd.checked) (fn := Tryd.f55) (by kernel_rfl) (by kernel_rfl) rfl h
theorem ix1_eq (s : List UInt8) (c : UInt8) : Fix1 0 s c = some (.p (.int .i64 (ixS s (c.toNat : Int))), []) := by rw [Fix1_eq]
def sp_ix1 : List AV → Option (AV × Option Prop)
  | [.p (.str s), .p (.str [c])] => some (.p (.int .i64 (ixS s (c.toNat : Int))), none)
  | _ => none
theorem ok_ix1 : SpecOk Tryd.prog 55 sp_ix1 := by
  intro zs r ok he hok
  unfold sp_ix1 at he
  split at he
  · cases he; exact ⟨by kernel_rfl, fn_ix1 0 _ _ _ fun hx => ix1_eq _ _⟩
  · cases he
noncomputable def crep : Code := bodyOf Tryd.f42

noncomputable def Grep : Cfg := ⟨Tryd.prog, mkEnv [(53, sp_cnt), (55, sp_ix1)], mkEnvR [(20, sp_wstr), (25, sp_bstr), (54, sp_grow)], 104, [], [([1, 1, 1], ⟨[0, 1, 2, 3], []⟩), ([0, 1, 0, 1, 0, 1, 1, 1, 1, 1, 1], ⟨[0, 1, 2, 10, 11, 52, 53], [⟨.slot 10, 10, .cells []⟩, ⟨.cell 10 1, 11001, (.barr 5 false [])⟩]⟩), ([1, 1, 0, 0, 1, 1, 0, 0, 1, 0, 1, 0, 1, 1, 1, 1, 1, 1], ⟨[0, 1, 2, 10, 12, 52, 53], [⟨.slot 10, 10, .cells []⟩, ⟨.cell 10 1, 11001, (.barr 5 false [])⟩]⟩), ([1, 1, 1, 1, 1, 1, 1], ⟨[0, 10, 11], [⟨.slot 10, 10, .cells []⟩, ⟨.cell 10 1, 11001, (.barr 5 false [])⟩]⟩)], [([0, 1, 1, 1, 1], [10]), ([0, 1, 0, 0, 1, 1, 0, 0, 1, 0, 1, 0, 1, 1, 1, 1, 1, 1], [4]), ([0, 1, 1, 0, 0, 1, 1, 0, 0, 1, 0, 1, 0, 1, 1, 1, 1, 1, 1], [1]), ([0, 1, 1, 1, 1, 1, 1, 1], [3]), ([0, 1, 1, 1, 1, 1, 1, 1, 1], [0])]⟩

noncomputable def Brep_1 (F : Nat) (s : List UInt8) (c : UInt8) (d : UInt8) (vi1 : Int) : Option Ans := runB Grep crep (kP Tryd.prog Tryd.f42.results.toList) F [] [1, 1, 1] [(0, .p (.str s)), (1, .p (.str [c])), (2, .p (.str [d])), (3, .p (.int .i64 vi1))] []

noncomputable def Brep_2 (F f1 : Nat) (s : List UInt8) (c : UInt8) (d : UInt8) (vi2 : Int) (vi1 : Int) (vi3 : Int) (vb4 : List UInt8) : Option Ans := runR Grep crep (kP Tryd.prog Tryd.f42.results.toList) F [] [1, 1, 1, 1, 1, 1, 0, 1, 0, 1, 0] f1 [(0, .p (.str s)), (1, .p (.str [c])), (2, .p (.str [d])), (10, .ref 10 0), (11, .p (.int .i64 vi2)), (52, .p (.int .i64 vi1)), (53, .p (.int .i64 vi3))] [(10, .bldr 42 (.arr 11001)), (11001, .barr 5 false vb4)]

noncomputable def Brep_3 (F f1 : Nat) (s : List UInt8) (c : UInt8) (d : UInt8) (vi5 : Int) (vi1 : Int) (vi3 : Int) (vb6 : List UInt8) : Option Ans := runB Grep crep (kP Tryd.prog Tryd.f42.results.toList) F [f1] [1, 1, 1, 1, 1, 1, 0, 1, 0, 1, 0, 0, 1, 1, 0, 0, 1, 1] [(0, .p (.str s)), (1, .p (.str [c])), (2, .p (.str [d])), (10, .ref 10 0), (12, .p (.int .i64 vi5)), (52, .p (.int .i64 vi1)), (53, .p (.int .i64 vi3))] [(10, .bldr 42 (.arr 11001)), (11001, .barr 5 false vb6)]

noncomputable def Brep_4 (F : Nat) (s : List UInt8) (vi7 : Int) (vb8 : List UInt8) : Option Ans := runB Grep crep (kP Tryd.prog Tryd.f42.results.toList) F [] [1, 1, 1, 1, 1, 1, 1] [(0, .p (.str s)), (10, .ref 10 0), (11, .p (.int .i64 vi7))] [(10, .bldr 42 (.arr 11001)), (11001, .barr 5 false vb8)]

noncomputable def Frep (F : Nat) (s : List UInt8) (c : UInt8) (d : UInt8) : Option Ans := runF Grep Tryd.f42 F [.p (.str s), .p (.str [c]), .p (.str [d]), .p (.int .i64 (-1 : Int))]

theorem Brep_1_eq (F : Nat) (s : List UInt8) (c : UInt8) (d : UInt8) (vi1 : Int) : Brep_1 F s c d vi1 = need (i64ok ((1 : Int) - (1 : Int))) (need (i64ok (vi1 * ((1 : Int) - (1 : Int)))) (need (i64ok ((s.length : Int) + (vi1 * ((1 : Int) - (1 : Int))))) (need (1 ≤ ((s.length : Int) + (vi1 * ((1 : Int) - (1 : Int)))) ∧ ((s.length : Int) + (vi1 * ((1 : Int) - (1 : Int)))) ≤ 281474976710656) (Brep_2 F F s c d (0 : Int) vi1 (0 : Int) ([] : List UInt8))))) := by kernel_rfl

theorem Brep_2_eq (F f1 : Nat) (s : List UInt8) (c : UInt8) (d : UInt8) (vi2 : Int) (vi1 : Int) (vi3 : Int) (vb4 : List UInt8) : Brep_2 F (f1 + 1) s c d vi2 vi1 vi3 vb4 = cond (decide (vi3 < vi1)) (need (0 ≤ vi2 ∧ vi2 ≤ (s.length : Int)) (need (i64ok (vi2 + (ixS (s.drop (vi2).toNat) (c.toNat : Int)))) (need (0 ≤ vi2 ∧ vi2 ≤ (vi2 + (ixS (s.drop (vi2).toNat) (c.toNat : Int))) ∧ (vi2 + (ixS (s.drop (vi2).toNat) (c.toNat : Int))) ≤ (s.length : Int)) (need (vb4.length + ((s.take (vi2 + (ixS (s.drop (vi2).toNat) (c.toNat : Int))).toNat).drop (vi2).toNat).length ≤ 140737488355328) (Brep_3 F f1 s c d (vi2 + (ixS (s.drop (vi2).toNat) (c.toNat : Int))) vi1 vi3 (vb4 ++ ((s.take (vi2 + (ixS (s.drop (vi2).toNat) (c.toNat : Int))).toNat).drop (vi2).toNat))))))) (Brep_4 F s vi2 vb4) := by kernel_rfl

theorem Brep_3_eq (F f1 : Nat) (s : List UInt8) (c : UInt8) (d : UInt8) (vi5 : Int) (vi1 : Int) (vi3 : Int) (vb6 : List UInt8) : Brep_3 F f1 s c d vi5 vi1 vi3 vb6 = need (vb6.length + [d].length ≤ 140737488355328) (need (i64ok (vi5 + (1 : Int))) (need (i64ok (vi3 + (1 : Int))) (Brep_2 F f1 s c d (vi5 + (1 : Int)) vi1 (vi3 + (1 : Int)) (vb6 ++ [d])))) := by kernel_rfl

theorem Brep_4_eq (F : Nat) (s : List UInt8) (vi7 : Int) (vb8 : List UInt8) : Brep_4 F s vi7 vb8 = need (0 ≤ vi7 ∧ vi7 ≤ (s.length : Int)) (need (vb8.length + (s.drop (vi7).toNat).length ≤ 140737488355328) (some (.p (.str (vb8 ++ (s.drop (vi7).toNat))), []))) := by kernel_rfl

theorem Frep_eq (F : Nat) (s : List UInt8) (c : UInt8) (d : UInt8) : Frep F s c d = ((cond (([c] == [d]) || false) (some (.p (.str s), [])) (cond ((cntS s (c.toNat : Int)) == (0 : Int)) (some (.p (.str s), [])) ((((cond (true || (decide ((cntS s (c.toNat : Int)) < (-1 : Int)))) (Brep_1 F s c d (cntS s (c.toNat : Int))) (Brep_1 F s c d (-1 : Int))))))))) := by
  have h : Frep F s c d = need ((!([c] == [d])) = true → (!([c] == [d])) = true) (need (([c] == [d]) = false → (!([c] == [d])) = true) (cond (([c] == [d]) || false) (some (.p (.str s), [])) (cond ((cntS s (c.toNat : Int)) == (0 : Int)) (some (.p (.str s), [])) (need ((!true) = true → (!true) = true) (need ((!true) = true → (!true) = true) (need (true = false → (!true) = true) (cond (true || (decide ((cntS s (c.toNat : Int)) < (-1 : Int)))) (Brep_1 F s c d (cntS s (c.toNat : Int))) (Brep_1 F s c d (-1 : Int))))))))) := by kernel_rfl
  rw [h, need_pos (show true = false → (!true) = true from (fun q0 => (not_mk q0))), need_pos (show (!true) = true → (!true) = true from (fun q0 => q0)), need_pos (show (!true) = true → (!true) = true from (fun q0 => q0)), need_pos (show ([c] == [d]) = false → (!([c] == [d])) = true from (fun q0 => (not_mk q0))), need_pos (show (!([c] == [d])) = true → (!([c] == [d])) = true from (fun q0 => q0))]

theorem fn_rep (F : Nat) (s : List UInt8) (c : UInt8) (d : UInt8) (r : AV) (h : (∃ M vs, ARels γ0 M [.p (.str s), .p (.str [c]), .p (.str [d]), .p (.int .i64 (-1 : Int))] vs) → Frep F s c d = some (r, [])) : FnP Tryd.prog 42 [.p (.str s), .p (.str [c]), .p (.str [d]), .p (.int .i64 (-1 : Int))] r :=
  FnP_run Grep F rfl (EnvOk_mk (l := [(53, sp_cnt), (55, sp_ix1)]) ⟨ok_cnt.any, ok_ix1.any, trivial⟩) (EnvROk_mk (l := [(20, sp_wstr), (25, sp_bstr), (54, sp_grow)]) ⟨ok_wstr, ok_bstr, ok_grow, trivial⟩) (Checked.mixed Tryd.checked) (fn := Tryd.f42) (by kernel_rfl) (by kernel_rfl) rfl h
def repS (s : List UInt8) (c d : UInt8) : List UInt8 := s.map fun x => if x = c then d else x
theorem rep_none {s : List UInt8} {c d : UInt8} (h : s.count c = 0) : repS s c d = s := by
  unfold repS
  rw [List.count_eq_zero] at h
  induction s with
  | nil => rfl
  | cons x r ih =>
    simp only [List.mem_cons, not_or] at h
    rw [List.map_cons, if_neg (fun e => h.1 e.symm), ih h.2]
theorem first_at (c : UInt8) : ∀ {r : List UInt8} {k : Nat}, r.count c = k + 1 → ∃ p q, r = p ++ c :: q ∧ p.count c = 0 ∧ q.count c = k ∧ Lib.indexByte r c = p.length
  | [], k, h => by simp at h
  | x :: r, k, h => by
    by_cases e : x = c
    · subst e
      refine ⟨[], r, rfl, rfl, by simpa using h, ?_⟩
      simp [Lib.indexByte]
    · rw [List.count_cons_of_ne e] at h
      obtain ⟨p, q, h1, h2, h3, h4⟩ := first_at c h
      refine ⟨x :: p, q, by rw [h1]; rfl, by rw [List.count_cons_of_ne e]; exact h2, h3, ?_⟩
      have hne : ¬ (x == c) = true := by simpa using e
      rw [Lib.indexByte, if_neg hne, h4, if_neg (by simp)]
      simp only [List.length_cons]; omega
theorem rep_app (a b : List UInt8) (c d : UInt8) : repS (a ++ b) c d = repS a c d ++ repS b c d := by simp [repS]
theorem Brep_spec (F : Nat) (s : List UInt8) (c d : UInt8) (hs : s.length ≤ 1000000) (K : Nat) : ∀ (k f start i : Nat) (acc : List UInt8), (s.drop start).count c = k → k < f → start ≤ s.length → i + k = K → K ≤ 1000000 → acc.length ≤ start →
    Brep_2 F f s c d (start : Int) (K : Int) (i : Int) acc = some (.p (.str (acc ++ repS (s.drop start) c d)), []) := by
  intro k
  induction k with
  | zero =>
    intro f start i acc hk hf hst hi hK ha
    cases f with
    | zero => omega
    | succ f =>
      rw [Brep_2_eq]
      refine cond_f (by first | omega | (unfold i64ok; omega) | (simp only [List.length_cons, List.length_nil]; omega) | (simp; omega) | simp) ?_
      rw [Brep_4_eq]
      refine need_mk (by first | omega | (unfold i64ok; omega) | (simp only [List.length_cons, List.length_nil]; omega) | (simp; omega) | simp) ?_
      rw [show ((start : Int)).toNat = start from rfl]
      refine need_mk (by simp; omega) ?_
      rw [rep_none hk]
  | succ k ih =>
    intro f start i acc hk hf hst hi hK ha
    cases f with
    | zero => omega
    | succ f =>
      obtain ⟨p, q, h1, h2, h3, h4⟩ := first_at c hk
      have hix : ixS (s.drop start) (c.toNat : Int) = (p.length : Int) := by unfold ixS; rw [u8c]; exact h4
      have hlen : s.length = start + p.length + 1 + q.length := by
        have := congrArg List.length h1
        simp at this; omega
      have htk : (s.take (start + p.length)).drop start = p := by
        rw [List.drop_take, Nat.add_sub_cancel_left, h1, List.take_left']; rfl
      have hq : s.drop (start + p.length + 1) = q := by
        rw [Nat.add_assoc, ← List.drop_drop, h1]
        rw [List.drop_append, List.drop_eq_nil_of_le (by omega)]
        simp
      have e1 : ((start : Int) + (p.length : Int)).toNat = start + p.length := by omega
      rw [Brep_2_eq]
      refine cond_t (by first | omega | (unfold i64ok; omega) | (simp only [List.length_cons, List.length_nil]; omega) | (simp; omega) | simp) ?_
      refine need_mk (by first | omega | (unfold i64ok; omega) | (simp only [List.length_cons, List.length_nil]; omega) | (simp; omega) | simp) ?_
      rw [show ((start : Int)).toNat = start from rfl, hix]
      refine need_mk (by first | omega | (unfold i64ok; omega) | (simp only [List.length_cons, List.length_nil]; omega) | (simp; omega) | simp) ?_
      refine need_mk (by first | omega | (unfold i64ok; omega) | (simp only [List.length_cons, List.length_nil]; omega) | (simp; omega) | simp) ?_
      rw [e1, htk]
      refine need_mk (by first | omega | (unfold i64ok; omega) | (simp only [List.length_cons, List.length_nil]; omega) | (simp; omega) | simp) ?_
      rw [Brep_3_eq]
      refine need_mk (by simp; omega) ?_
      refine need_mk (by first | omega | (unfold i64ok; omega) | (simp only [List.length_cons, List.length_nil]; omega) | (simp; omega) | simp) ?_
      refine need_mk (by first | omega | (unfold i64ok; omega) | (simp only [List.length_cons, List.length_nil]; omega) | (simp; omega) | simp) ?_
      have e2 : (start : Int) + (p.length : Int) + 1 = ((start + p.length + 1 : Nat) : Int) := by omega
      have e3 : (i : Int) + 1 = ((i + 1 : Nat) : Int) := by omega
      rw [e2, e3, ih f (start + p.length + 1) (i + 1) (acc ++ p ++ [d]) (by rw [hq]; exact h3) (by omega) (by omega) (by omega) hK (by simp; omega)]
      rw [hq, h1, rep_app, rep_none h2]
      congr 4
      simp [repS]
theorem rep_eq (s : List UInt8) (c d : UInt8) (hs : s.length ≤ 1000000) : Frep (s.length + 1) s c d = some (.p (.str (repS s c d)), []) := by
  rw [Frep_eq]
  by_cases hcd : c = d
  · refine cond_t (by simp [hcd]) ?_
    subst hcd
    have : repS s c c = s := by
      unfold repS
      conv => rhs; rw [← List.map_id s]
      exact List.map_congr_left fun x _ => by split <;> simp_all
    rw [this]
  · refine cond_f (by simp [hcd]) ?_
    have hc : cntS s (c.toNat : Int) = (s.count c : Int) := by unfold cntS; rw [u8c]
    rw [hc]
    have hle := List.count_le_length (a := c) (l := s)
    by_cases h0 : s.count c = 0
    · refine cond_t (by simp [h0]) ?_
      rw [rep_none h0]
    · refine cond_f (by simpa using h0) (cond_t rfl ?_)
      rw [Brep_1_eq]
      refine need_mk (by first | omega | (unfold i64ok; omega) | (simp only [List.length_cons, List.length_nil]; omega) | (simp; omega) | simp) ?_
      refine need_mk (by first | omega | (unfold i64ok; omega) | (simp only [List.length_cons, List.length_nil]; omega) | (simp; omega) | simp) ?_
      refine need_mk (by first | omega | (unfold i64ok; omega) | (simp only [List.length_cons, List.length_nil]; omega) | (simp; omega) | simp) ?_
      refine need_mk (by first | omega | (unfold i64ok; omega) | (simp only [List.length_cons, List.length_nil]; omega) | (simp; omega) | simp) ?_
      exact Brep_spec _ s c d hs (s.count c) (s.count c) (s.length + 1) 0 0 [] rfl (by omega) (by omega) (by omega) (by omega) (by simp)
def sp_rep : List AV → Option (AV × Option Prop)
  | [.p (.str s), .p (.str [c]), .p (.str [d]), .p (.int .i64 (-1 : Int))] => some (.p (.str (repS s c d)), some (s.length ≤ 1000000))
  | _ => none
theorem ok_rep : SpecOk Tryd.prog 42 sp_rep := by
  intro zs r ok he hok
  unfold sp_rep at he
  split at he
  · cases he; exact ⟨by kernel_rfl, fn_rep (_) _ _ _ _ fun hx => rep_eq _ _ _ hok⟩
  · cases he
noncomputable def crepa : Code := bodyOf Tryd.f30

noncomputable def Grepa : Cfg := ⟨Tryd.prog, mkEnv [(42, sp_rep)], mkEnvR [], 11, [], [], []⟩

noncomputable def Frepa (F : Nat) (s : List UInt8) (c : UInt8) (d : UInt8) : Option Ans := runF Grepa Tryd.f30 F [.p (.str s), .p (.str [c]), .p (.str [d])]

theorem Frepa_eq (F : Nat) (s : List UInt8) (c : UInt8) (d : UInt8) : Frepa F s c d = need (s.length ≤ 1000000) (some (.p (.str (repS s c d)), [])) := by kernel_rfl

theorem fn_repa (F : Nat) (s : List UInt8) (c : UInt8) (d : UInt8) (r : AV) (h : (∃ M vs, ARels γ0 M [.p (.str s), .p (.str [c]), .p (.str [d])] vs) → Frepa F s c d = some (r, [])) : FnP Tryd.prog 30 [.p (.str s), .p (.str [c]), .p (.str [d])] r :=
  FnP_run Grepa F rfl (EnvOk_mk (l := [(42, sp_rep)]) ⟨ok_rep.any, trivial⟩) (EnvROk_mk (l := []) trivial) (Checked.mixed Tryd.checked) (fn := Tryd.f30) (by kernel_rfl) (by kernel_rfl) rfl h
theorem repa_eq (s : List UInt8) (c d : UInt8) (hs : s.length ≤ 1000000) : Frepa 0 s c d = some (.p (.str (repS s c d)), []) := by
  rw [Frepa_eq]; exact need_pos hs
def sp_repa : List AV → Option (AV × Option Prop)
  | [.p (.str s), .p (.str [c]), .p (.str [d])] => some (.p (.str (repS s c d)), some (s.length ≤ 1000000))
  | _ => none
theorem ok_repa : SpecOk Tryd.prog 30 sp_repa := by
  intro zs r ok he hok
  unfold sp_repa at he
  split at he
  · cases he; exact ⟨by kernel_rfl, fn_repa 0 _ _ _ _ fun hx => repa_eq _ _ _ hok⟩
  · cases he
end Go.Proofs.YtmnkkliibjlefaaDoor
