/-
  Lifted functions, and facts about them.
-/
import Derived.Test.YthfgklcdkehgjaaDoorRows
import Derived.Test.YthfgklcdkehgjaaDoorAmC
import Derived.Test.YthfgklcdkehgjaaDoorC13Lits
import Derived.Test.YthfgklcdkehgjaaDoorC13PartJ
namespace Go.Proofs.YthfgklcdkehgjaaDoor
open Go Go.Am
set_option linter.unusedVariables false
/-! So many parts, so deep. -/
noncomputable def cPartMany : Code := bodyOf Tryd.f6

noncomputable def GPartMany : Cfg := ⟨Tryd.prog, mkEnv [(11, sp_awake), (16, sp_tree)], mkEnvR [], 77, [], [([0, 1, 0, 1, 1, 1], ⟨[5, 6, 7, 8], []⟩), ([0, 1, 0, 1, 1, 1, 1, 1, 1], ⟨[5, 6, 9, 10, 11], [⟨.slot 9, 9, .cells []⟩]⟩), ([1, 1, 0, 0, 1, 0, 1, 1, 1, 1, 1, 1], ⟨[5, 6, 9, 10, 11], [⟨.slot 9, 9, .cells []⟩]⟩), ([0, 0, 1, 1, 1, 1, 1, 1, 1, 1, 1], ⟨[5, 6, 9, 13, 14], [⟨.slot 9, 9, .cells []⟩, ⟨.slot 13, 13, .cells []⟩]⟩)], []⟩

noncomputable def BPartMany_1 (F f1 : Nat) (vi1 vi2 : Int) (vs3 : List UInt8) (vi4 : Int) : Option Ans := runR GPartMany cPartMany (kP Tryd.prog Tryd.f6.results.toList) F [] [1, 1, 1, 0, 1, 0] f1 [(5, .p (.int .i64 vi1)), (6, .p (.int .i64 vi2)), (7, .p (.str vs3)), (8, .p (.int .i64 vi4))] []

noncomputable def BPartMany_2 (F f2 : Nat) (vi1 vi2 : Int) (vs5 : List UInt8) (vi6 : Int) (vs7 : List UInt8) (vl8 : List (List UInt8 × List UInt8)) (vs9 : List UInt8) (vc10 : Bool) (vi11 vi12 vi13 : Int) (vl14 : List Part) : Option Ans := runR GPartMany cPartMany (kP Tryd.prog Tryd.f6.results.toList) F [] [1, 1, 1, 1, 1, 1, 0, 1, 0] f2 [(5, .p (.int .i64 vi1)), (6, .p (.int .i64 vi2)), (9, .ref 9 0), (10, .p (.str vs5)), (11, .p (.int .i64 vi6))] [(9, .cells [.p (.str vs7), .p (.list 2 (.dat (.pair .str .str) vl8)), .p (.str vs9), .p (.bool vc10), .p (.int .i64 vi11), .p (.int .i64 vi12), .p (.int .i64 vi13), .p (.list 8 (.dat .part vl14))])]

noncomputable def BPartMany_3 (F f2 : Nat) (vi1 vi2 : Int) (vs15 : List UInt8) (vi6 : Int) (vs7 : List UInt8) (vl8 : List (List UInt8 × List UInt8)) (vs9 : List UInt8) (vc10 : Bool) (vi11 vi12 vi13 : Int) (vl14 : List Part) : Option Ans := runB GPartMany cPartMany (kP Tryd.prog Tryd.f6.results.toList) F [f2] [1, 1, 1, 1, 1, 1, 0, 1, 0, 0, 1, 1] [(5, .p (.int .i64 vi1)), (6, .p (.int .i64 vi2)), (9, .ref 9 0), (10, .p (.str vs15)), (11, .p (.int .i64 vi6))] [(9, .cells [.p (.str vs7), .p (.list 2 (.dat (.pair .str .str) vl8)), .p (.str vs9), .p (.bool vc10), .p (.int .i64 vi11), .p (.int .i64 vi12), .p (.int .i64 vi13), .p (.list 8 (.dat .part vl14))])]

noncomputable def BPartMany_4 (F f3 : Nat) (vi1 vi2 vi16 : Int) (vs17 : List UInt8) (vl18 : List (List UInt8 × List UInt8)) (vs19 : List UInt8) (vc20 : Bool) (vi21 vi22 vi23 : Int) (vl24 : List Part) (vs25 : List UInt8) (vl26 : List (List UInt8 × List UInt8)) (vs27 : List UInt8) (vc28 : Bool) (vi29 vi30 vi31 : Int) (vl32 : List Part) : Option Ans := runR GPartMany cPartMany (kP Tryd.prog Tryd.f6.results.toList) F [] [1, 1, 1, 1, 1, 1, 1, 1, 1, 0, 0] f3 [(5, .p (.int .i64 vi1)), (6, .p (.int .i64 vi2)), (9, .ref 9 0), (13, .ref 13 0), (14, .p (.int .i64 vi16))] [(9, .cells [.p (.str vs17), .p (.list 2 (.dat (.pair .str .str) vl18)), .p (.str vs19), .p (.bool vc20), .p (.int .i64 vi21), .p (.int .i64 vi22), .p (.int .i64 vi23), .p (.list 8 (.dat .part vl24))]), (13, .cells [.p (.str vs25), .p (.list 2 (.dat (.pair .str .str) vl26)), .p (.str vs27), .p (.bool vc28), .p (.int .i64 vi29), .p (.int .i64 vi30), .p (.int .i64 vi31), .p (.list 8 (.dat .part vl32))])]

noncomputable def FPartMany (F : Nat) (n m : Int) : Option Ans := runF GPartMany Tryd.f6 F [.p (.int .u8 n), .p (.int .u8 m)]

theorem BPartMany_1_eq (F f1 : Nat) (vi1 vi2 : Int) (vs3 : List UInt8) (vi4 : Int) : BPartMany_1 F (f1 + 1) vi1 vi2 vs3 vi4 = cond (decide (vi4 < vi1)) (need (lenok (vs3.length + ([45, 45, 97, 10, 10, 120, 10] : List UInt8).length)) (need (i64ok (vi4 + (1 : Int))) (BPartMany_1 F f1 vi1 vi2 (vs3 ++ ([45, 45, 97, 10, 10, 120, 10] : List UInt8)) (vi4 + (1 : Int))))) (need (vs3.length ≤ 1000000) (BPartMany_2 F F vi1 vi2 ([] : List UInt8) (0 : Int) ((treeT vs3).type) ((treeT vs3).params) ((treeT vs3).enc) ((treeT vs3).attach) ((treeT vs3).head) ((treeT vs3).frm) ((treeT vs3).til) ((treeT vs3).kids))) := by kernel_rfl

theorem BPartMany_2_eq (F f2 : Nat) (vi1 vi2 : Int) (vs5 : List UInt8) (vi6 : Int) (vs7 : List UInt8) (vl8 : List (List UInt8 × List UInt8)) (vs9 : List UInt8) (vc10 : Bool) (vi11 vi12 vi13 : Int) (vl14 : List Part) : BPartMany_2 F (f2 + 1) vi1 vi2 vs5 vi6 vs7 vl8 vs9 vc10 vi11 vi12 vi13 vl14 = cond (decide (vi6 < vi2)) (need (i64ok ((97 : Int) + vi6)) (need (lenok (vs5.length + LB_6b21d58f.length)) (need (lenok ((vs5 ++ LB_6b21d58f).length + [UInt8.ofNat ((98 : Int)).toNat, UInt8.ofNat (IntKind.u8.wrap ((97 : Int) + vi6)).toNat].length)) (need (lenok (((vs5 ++ LB_6b21d58f) ++ [UInt8.ofNat ((98 : Int)).toNat, UInt8.ofNat (IntKind.u8.wrap ((97 : Int) + vi6)).toNat]).length + ([10, 10, 45, 45] : List UInt8).length)) (need (lenok ((((vs5 ++ LB_6b21d58f) ++ [UInt8.ofNat ((98 : Int)).toNat, UInt8.ofNat (IntKind.u8.wrap ((97 : Int) + vi6)).toNat]) ++ ([10, 10, 45, 45] : List UInt8)).length + [UInt8.ofNat ((98 : Int)).toNat, UInt8.ofNat (IntKind.u8.wrap ((97 : Int) + vi6)).toNat].length)) (need (lenok (((((vs5 ++ LB_6b21d58f) ++ [UInt8.ofNat ((98 : Int)).toNat, UInt8.ofNat (IntKind.u8.wrap ((97 : Int) + vi6)).toNat]) ++ ([10, 10, 45, 45] : List UInt8)) ++ [UInt8.ofNat ((98 : Int)).toNat, UInt8.ofNat (IntKind.u8.wrap ((97 : Int) + vi6)).toNat]).length + ([10] : List UInt8).length)) (BPartMany_3 F f2 vi1 vi2 (((((vs5 ++ LB_6b21d58f) ++ [UInt8.ofNat ((98 : Int)).toNat, UInt8.ofNat (IntKind.u8.wrap ((97 : Int) + vi6)).toNat]) ++ ([10, 10, 45, 45] : List UInt8)) ++ [UInt8.ofNat ((98 : Int)).toNat, UInt8.ofNat (IntKind.u8.wrap ((97 : Int) + vi6)).toNat]) ++ ([10] : List UInt8)) vi6 vs7 vl8 vs9 vc10 vi11 vi12 vi13 vl14))))))) (need (lenok (vs5.length + ([10, 120] : List UInt8).length)) (need ((vs5 ++ ([10, 120] : List UInt8)).length ≤ 1000000) (BPartMany_4 F F vi1 vi2 (0 : Int) vs7 vl8 vs9 vc10 vi11 vi12 vi13 vl14 ((treeT (vs5 ++ ([10, 120] : List UInt8))).type) ((treeT (vs5 ++ ([10, 120] : List UInt8))).params) ((treeT (vs5 ++ ([10, 120] : List UInt8))).enc) ((treeT (vs5 ++ ([10, 120] : List UInt8))).attach) ((treeT (vs5 ++ ([10, 120] : List UInt8))).head) ((treeT (vs5 ++ ([10, 120] : List UInt8))).frm) ((treeT (vs5 ++ ([10, 120] : List UInt8))).til) ((treeT (vs5 ++ ([10, 120] : List UInt8))).kids)))) := by kernel_rfl

theorem BPartMany_3_eq (F f2 : Nat) (vi1 vi2 : Int) (vs15 : List UInt8) (vi6 : Int) (vs7 : List UInt8) (vl8 : List (List UInt8 × List UInt8)) (vs9 : List UInt8) (vc10 : Bool) (vi11 vi12 vi13 : Int) (vl14 : List Part) : BPartMany_3 F f2 vi1 vi2 vs15 vi6 vs7 vl8 vs9 vc10 vi11 vi12 vi13 vl14 = need (i64ok (vi6 + (1 : Int))) (BPartMany_2 F f2 vi1 vi2 vs15 (vi6 + (1 : Int)) vs7 vl8 vs9 vc10 vi11 vi12 vi13 vl14) := by kernel_rfl

theorem BPartMany_4_eq (F f3 : Nat) (vi1 vi2 vi16 : Int) (vs17 : List UInt8) (vl18 : List (List UInt8 × List UInt8)) (vs19 : List UInt8) (vc20 : Bool) (vi21 vi22 vi23 : Int) (vl24 : List Part) (vs25 : List UInt8) (vl26 : List (List UInt8 × List UInt8)) (vs27 : List UInt8) (vc28 : Bool) (vi29 vi30 vi31 : Int) (vl32 : List Part) : BPartMany_4 F (f3 + 1) vi1 vi2 vi16 vs17 vl18 vs19 vc20 vi21 vi22 vi23 vl24 vs25 vl26 vs27 vc28 vi29 vi30 vi31 vl32 = cond ((vl32.length : Int) == (1 : Int)) (need (0 ≤ (0 : Int) ∧ (0 : Int) < (vl32.length : Int)) (need (i64ok (vi16 + (1 : Int))) (BPartMany_4 F f3 vi1 vi2 (vi16 + (1 : Int)) vs17 vl18 vs19 vc20 vi21 vi22 vi23 vl24 ((vl32.getD ((0 : Int)).toNat (dfl .part)).type) ((vl32.getD ((0 : Int)).toNat (dfl .part)).params) ((vl32.getD ((0 : Int)).toNat (dfl .part)).enc) ((vl32.getD ((0 : Int)).toNat (dfl .part)).attach) ((vl32.getD ((0 : Int)).toNat (dfl .part)).head) ((vl32.getD ((0 : Int)).toNat (dfl .part)).frm) ((vl32.getD ((0 : Int)).toNat (dfl .part)).til) ((vl32.getD ((0 : Int)).toNat (dfl .part)).kids)))) ((((((some (.p (.bool ((((vl24.length : Int) == (if (29 : Int) < vi1 then (29 : Int) else vi1)) && (vi16 == (if (6 : Int) < vi2 then (6 : Int) else vi2))) && true)), []))))))) := by
  have h : BPartMany_4 F (f3 + 1) vi1 vi2 vi16 vs17 vl18 vs19 vc20 vi21 vi22 vi23 vl24 vs25 vl26 vs27 vc28 vi29 vi30 vi31 vl32 = cond ((vl32.length : Int) == (1 : Int)) (need (0 ≤ (0 : Int) ∧ (0 : Int) < (vl32.length : Int)) (need (i64ok (vi16 + (1 : Int))) (BPartMany_4 F f3 vi1 vi2 (vi16 + (1 : Int)) vs17 vl18 vs19 vc20 vi21 vi22 vi23 vl24 ((vl32.getD ((0 : Int)).toNat (dfl .part)).type) ((vl32.getD ((0 : Int)).toNat (dfl .part)).params) ((vl32.getD ((0 : Int)).toNat (dfl .part)).enc) ((vl32.getD ((0 : Int)).toNat (dfl .part)).attach) ((vl32.getD ((0 : Int)).toNat (dfl .part)).head) ((vl32.getD ((0 : Int)).toNat (dfl .part)).frm) ((vl32.getD ((0 : Int)).toNat (dfl .part)).til) ((vl32.getD ((0 : Int)).toNat (dfl .part)).kids)))) (need (((vl24.length : Int) == (if (29 : Int) < vi1 then (29 : Int) else vi1)) = true → ((vl24.length : Int) == (if (29 : Int) < vi1 then (29 : Int) else vi1)) = true) (need (((vl24.length : Int) == (if (29 : Int) < vi1 then (29 : Int) else vi1)) = true → ((vl24.length : Int) == (if (29 : Int) < vi1 then (29 : Int) else vi1)) = true) (need (((vl24.length : Int) == (if (29 : Int) < vi1 then (29 : Int) else vi1)) = true → ((vl24.length : Int) == (if (29 : Int) < vi1 then (29 : Int) else vi1)) = true) (need (((vl24.length : Int) == (if (29 : Int) < vi1 then (29 : Int) else vi1)) = true → ((vl24.length : Int) == (if (29 : Int) < vi1 then (29 : Int) else vi1)) = true) (need ((((vl24.length : Int) == (if (29 : Int) < vi1 then (29 : Int) else vi1)) && (vi16 == (if (6 : Int) < vi2 then (6 : Int) else vi2))) = true → (((vl24.length : Int) == (if (29 : Int) < vi1 then (29 : Int) else vi1)) && (vi16 == (if (6 : Int) < vi2 then (6 : Int) else vi2))) = true) (some (.p (.bool ((((vl24.length : Int) == (if (29 : Int) < vi1 then (29 : Int) else vi1)) && (vi16 == (if (6 : Int) < vi2 then (6 : Int) else vi2))) && true)), []))))))) := by kernel_rfl
  rw [h, need_pos (show (((vl24.length : Int) == (if (29 : Int) < vi1 then (29 : Int) else vi1)) && (vi16 == (if (6 : Int) < vi2 then (6 : Int) else vi2))) = true → (((vl24.length : Int) == (if (29 : Int) < vi1 then (29 : Int) else vi1)) && (vi16 == (if (6 : Int) < vi2 then (6 : Int) else vi2))) = true from (fun q0 => q0)), need_pos (show ((vl24.length : Int) == (if (29 : Int) < vi1 then (29 : Int) else vi1)) = true → ((vl24.length : Int) == (if (29 : Int) < vi1 then (29 : Int) else vi1)) = true from (fun q0 => q0)), need_pos (show ((vl24.length : Int) == (if (29 : Int) < vi1 then (29 : Int) else vi1)) = true → ((vl24.length : Int) == (if (29 : Int) < vi1 then (29 : Int) else vi1)) = true from (fun q0 => q0)), need_pos (show ((vl24.length : Int) == (if (29 : Int) < vi1 then (29 : Int) else vi1)) = true → ((vl24.length : Int) == (if (29 : Int) < vi1 then (29 : Int) else vi1)) = true from (fun q0 => q0)), need_pos (show ((vl24.length : Int) == (if (29 : Int) < vi1 then (29 : Int) else vi1)) = true → ((vl24.length : Int) == (if (29 : Int) < vi1 then (29 : Int) else vi1)) = true from (fun q0 => q0))]

theorem FPartMany_eq (F : Nat) (n m : Int) : FPartMany F n m = ((need (i64ok ((1 : Int) + (m.tmod (10 : Int)))) (BPartMany_1 F F (n.tmod (50 : Int)) ((1 : Int) + (m.tmod (10 : Int))) LB_46960c36 (0 : Int)))) := by
  have h : FPartMany F n m = need ((50 : Int) ≠ 0) (need ((10 : Int) ≠ 0) (need (i64ok ((1 : Int) + (m.tmod (10 : Int)))) (BPartMany_1 F F (n.tmod (50 : Int)) ((1 : Int) + (m.tmod (10 : Int))) LB_46960c36 (0 : Int)))) := by kernel_rfl
  rw [h, need_pos (show (10 : Int) ≠ 0 from (by decide)), need_pos (show (50 : Int) ≠ 0 from (by decide))]

theorem fn_PartMany (F : Nat) (n m : Int) (r : AV) (h : (∃ M vs, ARels γ0 M [.p (.int .u8 n), .p (.int .u8 m)] vs) → FPartMany F n m = some (r, [])) : FnP Tryd.prog 6 [.p (.int .u8 n), .p (.int .u8 m)] r :=
  FnP_run GPartMany F rfl (EnvOk_mk (l := [(11, sp_awake), (16, sp_tree)]) ⟨ok_awake.any, ok_tree.any, trivial⟩) (EnvROk_mk (l := []) trivial) (Checked.mixed Tryd.checked) (fn := Tryd.f6) (by kernel_rfl) (by kernel_rfl) rfl h
def manyS : Nat → List UInt8
  | 0 => LB_46960c36
  | k + 1 => manyS k ++ [45, 45, 97, 10, 10, 120, 10]
def deepT : Nat → List UInt8
  | 0 => []
  | d + 1 => ((((deepT d ++ LB_6b21d58f) ++ [98, UInt8.ofNat (97 + d)]) ++ [10, 10, 45, 45]) ++ [98, UInt8.ofNat (97 + d)]) ++ [10]
def deepN : Nat → Part → Nat
  | 0, _ => 0
  | f + 1, p => if p.kids.length = 1 then deepN f (p.kids.getD ((0 : Int)).toNat (dfl .part)) + 1 else 0
theorem many_all : ((List.range 50).all fun k => (treeT (manyS k)).kids.length == min k 29) = true := by kernel_rfl
theorem deep_all : ((List.range 10).all fun d => deepN 20 (treeT (deepT (d + 1) ++ [10, 120])) == min (d + 1) 6) = true := by kernel_rfl
theorem manyS_len : ∀ k, (manyS k).length = 39 + 7 * k
  | 0 => rfl
  | k + 1 => by rw [manyS, List.length_append, manyS_len k]; simp; omega
theorem deepT_len : ∀ d, (deepT d).length = 45 * d
  | 0 => rfl
  | d + 1 => by rw [deepT]; simp [deepT_len d, LB_6b21d58f]; omega
theorem min_int (a b : Nat) : (if (a : Int) < (b : Int) then (a : Int) else (b : Int)) = ((min b a : Nat) : Int) := by split <;> omega
theorem let_u8 {i : Nat} (h : i < 10) : [UInt8.ofNat ((98 : Int)).toNat, UInt8.ofNat (IntKind.u8.wrap ((97 : Int) + (i : Int))).toNat] = [98, UInt8.ofNat (97 + i)] := by
  have hw : (IntKind.u8.wrap ((97 : Int) + (i : Int))).toNat = 97 + i := by
    rw [u8_small (by omega) (by omega)]; omega
  rw [hw]; rfl
theorem deep_loop (F K D : Nat) (z1 : List UInt8) (z2 : List (List UInt8 × List UInt8)) (z3 : List UInt8) (z4 : Bool) (z5 z6 z7 : Int) (ks : List Part) (hk : ks.length = min K 29) : ∀ (f : Nat) (q : Part) (fu c : Nat), deepN f q < f → f ≤ fu → c + deepN f q = min D 6 → BPartMany_4 F fu (K : Int) (D : Int) (c : Int) z1 z2 z3 z4 z5 z6 z7 ks q.type q.params q.enc q.attach q.head q.frm q.til q.kids = some (.p (.bool true), [])
  | 0, q, fu, c, h1, h2, h3 => by omega
  | f + 1, q, fu, c, h1, h2, h3 => by
    cases fu with
    | zero => omega
    | succ fu =>
      rw [deepN] at h1 h3
      rw [BPartMany_4_eq]
      by_cases h : q.kids.length = 1
      · rw [if_pos h] at h1 h3
        refine cond_t (by rw [h]; rfl) (need_mk (by omega) (need_mk (by unfold i64ok; omega) ?_))
        rw [show (c : Int) + 1 = ((c + 1 : Nat) : Int) by omega]
        exact deep_loop F K D z1 z2 z3 z4 z5 z6 z7 ks hk f _ fu (c + 1) (by omega) (by omega) (by omega)
      · rw [if_neg h] at h1 h3
        refine cond_f (by simp; omega) ?_
        have e1 : (if (29 : Int) < (K : Int) then (29 : Int) else (K : Int)) = ((min K 29 : Nat) : Int) := min_int 29 K
        have e2 : (if (6 : Int) < (D : Int) then (6 : Int) else (D : Int)) = ((min D 6 : Nat) : Int) := min_int 6 D
        rw [e1, e2, hk, ← h3]
        simp
theorem deep_step (F K D : Nat) (hK : K < 50) (hD : 1 ≤ D ∧ D ≤ 10) (hF : 1000 ≤ F) (z1 : List UInt8) (z2 : List (List UInt8 × List UInt8)) (z3 : List UInt8) (z4 : Bool) (z5 z6 z7 : Int) (ks : List Part) (hk : ks.length = min K 29) : ∀ (r i fu : Nat), i + r = D → r < fu → BPartMany_2 F fu (K : Int) (D : Int) (deepT i) (i : Int) z1 z2 z3 z4 z5 z6 z7 ks = some (.p (.bool true), [])
  | 0, i, fu, h, hf => by
    have hl := deepT_len i
    have hi : i = D := by omega
    subst hi
    cases fu with
    | zero => omega
    | succ fu =>
      rw [BPartMany_2_eq]
      refine cond_f (by simp) (need_mk (by unfold lenok; simp; omega) (need_mk (by simp; omega) ?_))
      have hd := eq_of_beq (List.all_eq_true.1 deep_all (i - 1) (List.mem_range.2 (by omega)))
      rw [show i - 1 + 1 = i by omega] at hd
      exact deep_loop F K i z1 z2 z3 z4 z5 z6 z7 ks hk 20 (treeT (deepT i ++ [10, 120])) F 0 (by omega) (by omega) (by omega)
  | r + 1, i, fu, h, hf => by
    have hl := deepT_len i
    have hLB : LB_6b21d58f.length = 36 := rfl
    cases fu with
    | zero => omega
    | succ fu =>
      rw [BPartMany_2_eq, let_u8 (by omega)]
      refine cond_t (by simp; omega) (need_mk (by unfold i64ok; omega) (need_mk (by unfold lenok; omega) (need_mk (by unfold lenok; simp; omega) (need_mk (by unfold lenok; simp; omega) (need_mk (by unfold lenok; simp; omega) (need_mk (by unfold lenok; simp; omega) ?_))))))
      rw [BPartMany_3_eq]
      refine need_mk (by unfold i64ok; omega) ?_
      rw [show (i : Int) + 1 = ((i + 1 : Nat) : Int) by omega]
      exact deep_step F K D hK hD hF z1 z2 z3 z4 z5 z6 z7 ks hk r (i + 1) fu (by omega) (by omega)
theorem many_step (F K D : Nat) (hK : K < 50) (hD : 1 ≤ D ∧ D ≤ 10) (hF : 1000 ≤ F) : ∀ (r i fu : Nat), i + r = K → r < fu → BPartMany_1 F fu (K : Int) (D : Int) (manyS i) (i : Int) = some (.p (.bool true), [])
  | 0, i, fu, h, hf => by
    have hl := manyS_len i
    have hi : i = K := by omega
    subst hi
    cases fu with
    | zero => omega
    | succ fu =>
      rw [BPartMany_1_eq]
      refine cond_f (by simp) (need_mk (by omega) ?_)
      have hd := eq_of_beq (List.all_eq_true.1 many_all i (List.mem_range.2 hK))
      exact deep_step F i D hK hD hF _ _ _ _ _ _ _ _ hd D 0 F (by omega) (by omega)
  | r + 1, i, fu, h, hf => by
    have hl := manyS_len i
    cases fu with
    | zero => omega
    | succ fu =>
      rw [BPartMany_1_eq]
      refine cond_t (by simp; omega) (need_mk (by unfold lenok; simp; omega) (need_mk (by unfold i64ok; omega) ?_))
      rw [show (i : Int) + 1 = ((i + 1 : Nat) : Int) by omega]
      exact many_step F K D hK hD hF r (i + 1) fu (by omega) (by omega)
theorem PartMany_true (n m : Int) (hn : 0 ≤ n ∧ n < 256) (hm : 0 ≤ m ∧ m < 256) : FPartMany 1000 n m = some (.p (.bool true), []) := by
  obtain ⟨a, rfl⟩ := Int.eq_ofNat_of_zero_le hn.1
  obtain ⟨b, rfl⟩ := Int.eq_ofNat_of_zero_le hm.1
  have e1 : ((a : Int).tmod (50 : Int)) = ((a % 50 : Nat) : Int) := rfl
  have e2 : ((b : Int).tmod (10 : Int)) = ((b % 10 : Nat) : Int) := rfl
  have h1 := Nat.mod_lt a (show 50 > 0 by decide)
  have h2 := Nat.mod_lt b (show 10 > 0 by decide)
  rw [FPartMany_eq, e1, e2, show (1 : Int) + ((b % 10 : Nat) : Int) = ((b % 10 + 1 : Nat) : Int) by omega]
  exact need_mk (by unfold i64ok; omega) (many_step 1000 (a % 50) (b % 10 + 1) h1 (by omega) (by omega) (a % 50) 0 1000 (by omega) (by omega))
theorem u8b {n : Int} (h : IntKind.u8.has n) : 0 ≤ n ∧ n < 256 := by
  unfold IntKind.has at h
  simp [IntKind.min, IntKind.max, IntKind.bits, IntKind.signed] at h
  omega
end Go.Proofs.YthfgklcdkehgjaaDoor
