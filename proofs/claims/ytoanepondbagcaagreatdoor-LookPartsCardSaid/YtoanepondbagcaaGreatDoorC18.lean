/-
  Lifted functions, and facts about them.
-/
import Derived.Test.YtoanepondbagcaaGreatDoorRows
import Derived.Test.YtoanepondbagcaaGreatDoorAmC
import Derived.Test.YtoanepondbagcaaGreatDoorC01
import Derived.Test.YtoanepondbagcaaGreatDoorC17
import Derived.Test.YtoanepondbagcaaGreatDoorC14
import Derived.Test.YtoanepondbagcaaGreatDoorC15
import Derived.Test.YtoanepondbagcaaGreatDoorC09
namespace Go.Proofs.YtoanepondbagcaaGreatDoor
open Go Go.Am
set_option linter.unusedVariables false
theorem qdec_len : ∀ (n : Nat) (s : List UInt8), s.length ≤ n → (qdec s).length ≤ s.length := by
  intro n
  induction n with
  | zero => intro s h; have : s = [] := List.eq_nil_of_length_eq_zero (by omega); subst this; simp [qdec_nil]
  | succ n ih =>
    intro s h
    match s, h with
    | [], _ => simp [qdec_nil]
    | c :: r, h =>
      by_cases hc : c = 61
      · subst hc
        match r, h with
        | [], _ => rw [qdec_1]; simp
        | [x], h =>
          rw [qdec_2]; split
          · simp
          · have := ih [x] (by simp at h ⊢; omega)
            simp at this ⊢; omega
        | x :: y :: t, h =>
          simp at h
          rw [qdec_3]
          split
          · have := ih t (by omega); simp; omega
          · split
            · have := ih (y :: t) (by simp; omega); simp at this ⊢; omega
            · split
              · have := ih t (by omega); simp; omega
              · have := ih (x :: y :: t) (by simp; omega); simp at this ⊢; omega
      · rw [qdec_ne hc]
        have := ih r (by simp at h; omega)
        simp; omega
abbrev sOpen : List UInt8 := [61, 63]
abbrev sShut : List UInt8 := [63, 61]
/-- Where an encoded word's two inner ends are. -/
def parse (s : List UInt8) (i : Nat) : Option (Nat × Nat) :=
  if hasP (s.drop i) sOpen = false then none else
  if runN s (i + 2) = i + 2 ∨ s.length < runN s (i + 2) + 3 ∨ s.getD (runN s (i + 2)) 0 ≠ 63 ∨ s.getD (runN s (i + 2) + 2) 0 ≠ 63 then none else
  if hasP (s.drop (runN s (runN s (i + 2) + 3))) sShut = false then none else some (runN s (i + 2), runN s (runN s (i + 2) + 3))
def bodyS (k : UInt8) (t : List UInt8) : Option (List UInt8) :=
  if k = 66 ∨ k = 98 then some (looseB t) else if k = 81 ∨ k = 113 then some (qdec (repS t 95 32)) else none
def oneS (s : List UInt8) (i : Int) : List UInt8 × Int × Bool :=
  match parse s i.toNat with
  | none => ([], i, false)
  | some (a, b) => match bodyS (s.getD (a + 1) 0) ((s.take b).drop (a + 3)) with
    | none => ([], i, false)
    | some u => ((saysS ((s.take a).drop (i.toNat + 2)) u).1, ((b + 2 : Nat) : Int), (saysS ((s.take a).drop (i.toNat + 2)) u).2)
def oneT (p : List UInt8 × Int × Bool) : AV := .tup [.p (.str p.1), .p (.int .i64 p.2.1), .p (.bool p.2.2)]
theorem u8n (c d : UInt8) : ((c.toNat : Int) == (d.toNat : Int)) = (c == d) := by
  rw [Bool.eq_iff_iff]; simp only [beq_iff_eq]; exact u8_eq
theorem u8ne (c d : UInt8) : ((c.toNat : Int) != (d.toNat : Int)) = (c != d) := by simp only [bne, u8n]
theorem hasP2 {s p : List UInt8} (h : hasP s p = true) : p.length ≤ s.length := by
  unfold hasP at h
  rw [beq_iff_eq] at h
  have := congrArg List.length h
  simp at this; omega
theorem rep_len (s : List UInt8) (c d : UInt8) : (repS s c d).length = s.length := by simp [repS]
theorem mid_len (s : List UInt8) (a b : Nat) : ((s.take b).drop a).length ≤ s.length := by simp; omega
noncomputable def cone : Code := bodyOf Tryz.f64

noncomputable def Gone : Cfg := ⟨Tryz.prog, mkEnv [(74, sp_Loose), (75, sp_QDecode), (98, sp_hp), (103, sp_wrun), (104, sp_repa), (105, sp_says)], mkEnvR [], 92, [], [([1, 0, 1, 1, 1, 1], ⟨[0, 1, 7, 8, 46], []⟩), ([1, 0, 1, 0, 1, 1, 1, 1, 1, 1, 1, 1], ⟨[0, 1, 7, 8, 9, 10, 66, 68], []⟩), ([1, 1, 1, 0, 1, 0, 1, 1, 1, 1, 1, 1, 1, 1], ⟨[0, 1, 7, 8, 9, 10, 73], []⟩), ([1, 1, 1, 1, 1, 1, 1, 1, 1], ⟨[0, 7, 8, 9, 10], []⟩)], []⟩

noncomputable def Bone_1 (F : Nat) (s : List UInt8) (i vi1 vi2 : Int) (vc3 : Bool) : Option Ans := runB Gone cone (kP Tryz.prog Tryz.f64.results.toList) F [] [1, 1, 1, 1, 0, 1] [(0, .p (.str s)), (1, .p (.int .i64 i)), (7, .p (.int .i64 vi1)), (8, .p (.int .i64 vi2)), (46, .p (.bool vc3))] []

noncomputable def Bone_2 (F : Nat) (s : List UInt8) (i vi1 vi2 vi4 : Int) (vs5 : List UInt8) (vi6 : Int) (vc7 : Bool) : Option Ans := runB Gone cone (kP Tryz.prog Tryz.f64.results.toList) F [] [1, 1, 1, 1, 1, 1, 1, 1, 0, 1, 0, 1] [(0, .p (.str s)), (1, .p (.int .i64 i)), (7, .p (.int .i64 vi1)), (8, .p (.int .i64 vi2)), (9, .p (.int .i64 vi4)), (10, .p (.str vs5)), (66, .p (.int .u8 vi6)), (68, .p (.bool vc7))] []

noncomputable def Bone_3 (F : Nat) (s : List UInt8) (vi1 vi2 vi4 : Int) (vs8 : List UInt8) : Option Ans := runB Gone cone (kP Tryz.prog Tryz.f64.results.toList) F [] [1, 1, 1, 1, 1, 1, 1, 1, 1] [(0, .p (.str s)), (7, .p (.int .i64 vi1)), (8, .p (.int .i64 vi2)), (9, .p (.int .i64 vi4)), (10, .p (.str vs8))] []

noncomputable def Bone_4 (F : Nat) (s : List UInt8) (i vi1 vi2 vi4 : Int) (vs5 : List UInt8) (vc9 : Bool) : Option Ans := runB Gone cone (kP Tryz.prog Tryz.f64.results.toList) F [] [1, 1, 1, 1, 1, 1, 1, 1, 0, 1, 0, 1, 1, 1] [(0, .p (.str s)), (1, .p (.int .i64 i)), (7, .p (.int .i64 vi1)), (8, .p (.int .i64 vi2)), (9, .p (.int .i64 vi4)), (10, .p (.str vs5)), (73, .p (.bool vc9))] []

noncomputable def Fone (F : Nat) (s : List UInt8) (i : Int) : Option Ans := runF Gone Tryz.f64 F [.p (.str s), .p (.int .i64 i)]

theorem Bone_1_eq (F : Nat) (s : List UInt8) (i vi1 vi2 : Int) (vc3 : Bool) : Bone_1 F s i vi1 vi2 vc3 = cond (vc3) (some (.tup [.p (.str ([] : List UInt8)), .p (.int .i64 i), .p (.bool false)], [])) (need (i64ok (vi2 + (3 : Int))) (need (wposok s (vi2 + (3 : Int))) (need (0 ≤ (runS s (vi2 + (3 : Int))) ∧ (runS s (vi2 + (3 : Int))) ≤ (s.length : Int)) (cond (!(hasP (s.drop (runS s (vi2 + (3 : Int))).toNat) ([63, 61] : List UInt8))) (some (.tup [.p (.str ([] : List UInt8)), .p (.int .i64 i), .p (.bool false)], [])) (need (i64ok (vi2 + (3 : Int))) (need (0 ≤ (vi2 + (3 : Int)) ∧ (vi2 + (3 : Int)) ≤ (runS s (vi2 + (3 : Int))) ∧ (runS s (vi2 + (3 : Int))) ≤ (s.length : Int)) (need (i64ok (vi2 + (1 : Int))) (need (0 ≤ (vi2 + (1 : Int)) ∧ (vi2 + (1 : Int)) < (s.length : Int)) (cond (((s.getD (vi2 + (1 : Int)).toNat 0).toNat : Int) == (66 : Int)) (Bone_2 F s i vi1 vi2 (runS s (vi2 + (3 : Int))) ((s.take (runS s (vi2 + (3 : Int))).toNat).drop (vi2 + (3 : Int)).toNat) ((s.getD (vi2 + (1 : Int)).toNat 0).toNat : Int) (((s.getD (vi2 + (1 : Int)).toNat 0).toNat : Int) == (66 : Int))) (Bone_2 F s i vi1 vi2 (runS s (vi2 + (3 : Int))) ((s.take (runS s (vi2 + (3 : Int))).toNat).drop (vi2 + (3 : Int)).toNat) ((s.getD (vi2 + (1 : Int)).toNat 0).toNat : Int) (((s.getD (vi2 + (1 : Int)).toNat 0).toNat : Int) == (98 : Int)))))))))))) := by kernel_rfl

theorem Bone_2_eq (F : Nat) (s : List UInt8) (i vi1 vi2 vi4 : Int) (vs5 : List UInt8) (vi6 : Int) (vc7 : Bool) : Bone_2 F s i vi1 vi2 vi4 vs5 vi6 vc7 = cond (vc7) (need (vs5.length ≤ 1000000) (Bone_3 F s vi1 vi2 vi4 (looseB vs5))) (cond (vi6 == (81 : Int)) (Bone_4 F s i vi1 vi2 vi4 vs5 (vi6 == (81 : Int))) (Bone_4 F s i vi1 vi2 vi4 vs5 (vi6 == (113 : Int)))) := by kernel_rfl

theorem Bone_3_eq (F : Nat) (s : List UInt8) (vi1 vi2 vi4 : Int) (vs8 : List UInt8) : Bone_3 F s vi1 vi2 vi4 vs8 = need (0 ≤ vi1 ∧ vi1 ≤ vi2 ∧ vi2 ≤ (s.length : Int)) (need (((s.take (vi2).toNat).drop (vi1).toNat).length ≤ 1000000 ∧ vs8.length ≤ 1000000) (need (i64ok (vi4 + (2 : Int))) (some (.tup [.p (.str ((saysS ((s.take (vi2).toNat).drop (vi1).toNat) vs8).1)), .p (.int .i64 (vi4 + (2 : Int))), .p (.bool ((saysS ((s.take (vi2).toNat).drop (vi1).toNat) vs8).2))], [])))) := by kernel_rfl

theorem Bone_4_eq (F : Nat) (s : List UInt8) (i vi1 vi2 vi4 : Int) (vs5 : List UInt8) (vc9 : Bool) : Bone_4 F s i vi1 vi2 vi4 vs5 vc9 = cond (vc9) (need (vs5.length ≤ 1000000) (need ((repS vs5 95 32).length ≤ 1000000) (Bone_3 F s vi1 vi2 vi4 (qdec (repS vs5 95 32))))) (some (.tup [.p (.str ([] : List UInt8)), .p (.int .i64 i), .p (.bool false)], [])) := by kernel_rfl

theorem Fone_eq (F : Nat) (s : List UInt8) (i : Int) : Fone F s i = need (0 ≤ i ∧ i ≤ (s.length : Int)) (cond (!(hasP (s.drop (i).toNat) ([61, 63] : List UInt8))) (some (.tup [.p (.str ([] : List UInt8)), .p (.int .i64 i), .p (.bool false)], [])) (need (i64ok (i + (2 : Int))) (need (wposok s (i + (2 : Int))) (need ((!((runS s (i + (2 : Int))) == (i + (2 : Int)))) = true → i64ok ((s.length : Int) - (runS s (i + (2 : Int))))) (need ((!(((runS s (i + (2 : Int))) == (i + (2 : Int))) || (decide (((s.length : Int) - (runS s (i + (2 : Int)))) < (3 : Int))))) = true → 0 ≤ (runS s (i + (2 : Int))) ∧ (runS s (i + (2 : Int))) < (s.length : Int)) (need ((!((((runS s (i + (2 : Int))) == (i + (2 : Int))) || (decide (((s.length : Int) - (runS s (i + (2 : Int)))) < (3 : Int)))) || (((s.getD (runS s (i + (2 : Int))).toNat 0).toNat : Int) != (63 : Int)))) = true → i64ok ((runS s (i + (2 : Int))) + (2 : Int))) (need ((!((((runS s (i + (2 : Int))) == (i + (2 : Int))) || (decide (((s.length : Int) - (runS s (i + (2 : Int)))) < (3 : Int)))) || (((s.getD (runS s (i + (2 : Int))).toNat 0).toNat : Int) != (63 : Int)))) = true → 0 ≤ ((runS s (i + (2 : Int))) + (2 : Int)) ∧ ((runS s (i + (2 : Int))) + (2 : Int)) < (s.length : Int)) (Bone_1 F s i (i + (2 : Int)) (runS s (i + (2 : Int))) (((((runS s (i + (2 : Int))) == (i + (2 : Int))) || (decide (((s.length : Int) - (runS s (i + (2 : Int)))) < (3 : Int)))) || (((s.getD (runS s (i + (2 : Int))).toNat 0).toNat : Int) != (63 : Int))) || (((s.getD ((runS s (i + (2 : Int))) + (2 : Int)).toNat 0).toNat : Int) != (63 : Int))))))))))) :=
  Eq.trans (show Fone F s i = need (0 ≤ i ∧ i ≤ (s.length : Int)) (cond (!(hasP (s.drop (i).toNat) ([61, 63] : List UInt8))) (some (.tup [.p (.str ([] : List UInt8)), .p (.int .i64 i), .p (.bool false)], [])) (need (i64ok (i + (2 : Int))) (need (wposok s (i + (2 : Int))) (need ((!((runS s (i + (2 : Int))) == (i + (2 : Int)))) = true → (!((runS s (i + (2 : Int))) == (i + (2 : Int)))) = true) (need ((!((runS s (i + (2 : Int))) == (i + (2 : Int)))) = true → (!((runS s (i + (2 : Int))) == (i + (2 : Int)))) = true) (need ((!((runS s (i + (2 : Int))) == (i + (2 : Int)))) = true → (!((runS s (i + (2 : Int))) == (i + (2 : Int)))) = true) (need ((!((runS s (i + (2 : Int))) == (i + (2 : Int)))) = true → i64ok ((s.length : Int) - (runS s (i + (2 : Int))))) (need ((!((runS s (i + (2 : Int))) == (i + (2 : Int)))) = true → (!((runS s (i + (2 : Int))) == (i + (2 : Int)))) = true) (need (((runS s (i + (2 : Int))) == (i + (2 : Int))) = false → (!((runS s (i + (2 : Int))) == (i + (2 : Int)))) = true) (need ((!(((runS s (i + (2 : Int))) == (i + (2 : Int))) || (decide (((s.length : Int) - (runS s (i + (2 : Int)))) < (3 : Int))))) = true → (!(((runS s (i + (2 : Int))) == (i + (2 : Int))) || (decide (((s.length : Int) - (runS s (i + (2 : Int)))) < (3 : Int))))) = true) (need ((!(((runS s (i + (2 : Int))) == (i + (2 : Int))) || (decide (((s.length : Int) - (runS s (i + (2 : Int)))) < (3 : Int))))) = true → (!(((runS s (i + (2 : Int))) == (i + (2 : Int))) || (decide (((s.length : Int) - (runS s (i + (2 : Int)))) < (3 : Int))))) = true) (need ((!(((runS s (i + (2 : Int))) == (i + (2 : Int))) || (decide (((s.length : Int) - (runS s (i + (2 : Int)))) < (3 : Int))))) = true → 0 ≤ (runS s (i + (2 : Int))) ∧ (runS s (i + (2 : Int))) < (s.length : Int)) (need ((!(((runS s (i + (2 : Int))) == (i + (2 : Int))) || (decide (((s.length : Int) - (runS s (i + (2 : Int)))) < (3 : Int))))) = true → (!(((runS s (i + (2 : Int))) == (i + (2 : Int))) || (decide (((s.length : Int) - (runS s (i + (2 : Int)))) < (3 : Int))))) = true) (need ((((runS s (i + (2 : Int))) == (i + (2 : Int))) || (decide (((s.length : Int) - (runS s (i + (2 : Int)))) < (3 : Int)))) = false → (!(((runS s (i + (2 : Int))) == (i + (2 : Int))) || (decide (((s.length : Int) - (runS s (i + (2 : Int)))) < (3 : Int))))) = true) (need ((!((((runS s (i + (2 : Int))) == (i + (2 : Int))) || (decide (((s.length : Int) - (runS s (i + (2 : Int)))) < (3 : Int)))) || (((s.getD (runS s (i + (2 : Int))).toNat 0).toNat : Int) != (63 : Int)))) = true → (!((((runS s (i + (2 : Int))) == (i + (2 : Int))) || (decide (((s.length : Int) - (runS s (i + (2 : Int)))) < (3 : Int)))) || (((s.getD (runS s (i + (2 : Int))).toNat 0).toNat : Int) != (63 : Int)))) = true) (need ((!((((runS s (i + (2 : Int))) == (i + (2 : Int))) || (decide (((s.length : Int) - (runS s (i + (2 : Int)))) < (3 : Int)))) || (((s.getD (runS s (i + (2 : Int))).toNat 0).toNat : Int) != (63 : Int)))) = true → i64ok ((runS s (i + (2 : Int))) + (2 : Int))) (need ((!((((runS s (i + (2 : Int))) == (i + (2 : Int))) || (decide (((s.length : Int) - (runS s (i + (2 : Int)))) < (3 : Int)))) || (((s.getD (runS s (i + (2 : Int))).toNat 0).toNat : Int) != (63 : Int)))) = true → (!((((runS s (i + (2 : Int))) == (i + (2 : Int))) || (decide (((s.length : Int) - (runS s (i + (2 : Int)))) < (3 : Int)))) || (((s.getD (runS s (i + (2 : Int))).toNat 0).toNat : Int) != (63 : Int)))) = true) (need ((!((((runS s (i + (2 : Int))) == (i + (2 : Int))) || (decide (((s.length : Int) - (runS s (i + (2 : Int)))) < (3 : Int)))) || (((s.getD (runS s (i + (2 : Int))).toNat 0).toNat : Int) != (63 : Int)))) = true → (!((((runS s (i + (2 : Int))) == (i + (2 : Int))) || (decide (((s.length : Int) - (runS s (i + (2 : Int)))) < (3 : Int)))) || (((s.getD (runS s (i + (2 : Int))).toNat 0).toNat : Int) != (63 : Int)))) = true) (need ((!((((runS s (i + (2 : Int))) == (i + (2 : Int))) || (decide (((s.length : Int) - (runS s (i + (2 : Int)))) < (3 : Int)))) || (((s.getD (runS s (i + (2 : Int))).toNat 0).toNat : Int) != (63 : Int)))) = true → 0 ≤ ((runS s (i + (2 : Int))) + (2 : Int)) ∧ ((runS s (i + (2 : Int))) + (2 : Int)) < (s.length : Int)) (need ((!((((runS s (i + (2 : Int))) == (i + (2 : Int))) || (decide (((s.length : Int) - (runS s (i + (2 : Int)))) < (3 : Int)))) || (((s.getD (runS s (i + (2 : Int))).toNat 0).toNat : Int) != (63 : Int)))) = true → (!((((runS s (i + (2 : Int))) == (i + (2 : Int))) || (decide (((s.length : Int) - (runS s (i + (2 : Int)))) < (3 : Int)))) || (((s.getD (runS s (i + (2 : Int))).toNat 0).toNat : Int) != (63 : Int)))) = true) (need (((((runS s (i + (2 : Int))) == (i + (2 : Int))) || (decide (((s.length : Int) - (runS s (i + (2 : Int)))) < (3 : Int)))) || (((s.getD (runS s (i + (2 : Int))).toNat 0).toNat : Int) != (63 : Int))) = false → (!((((runS s (i + (2 : Int))) == (i + (2 : Int))) || (decide (((s.length : Int) - (runS s (i + (2 : Int)))) < (3 : Int)))) || (((s.getD (runS s (i + (2 : Int))).toNat 0).toNat : Int) != (63 : Int)))) = true) (Bone_1 F s i (i + (2 : Int)) (runS s (i + (2 : Int))) (((((runS s (i + (2 : Int))) == (i + (2 : Int))) || (decide (((s.length : Int) - (runS s (i + (2 : Int)))) < (3 : Int)))) || (((s.getD (runS s (i + (2 : Int))).toNat 0).toNat : Int) != (63 : Int))) || (((s.getD ((runS s (i + (2 : Int))) + (2 : Int)).toNat 0).toNat : Int) != (63 : Int))))))))))))))))))))))))) by kernel_rfl) (need_congr (cond_congr (rfl) (need_congr (need_congr (need_strike (show (!((runS s (i + (2 : Int))) == (i + (2 : Int)))) = true → (!((runS s (i + (2 : Int))) == (i + (2 : Int)))) = true from (fun q0 => q0)) (need_strike (show (!((runS s (i + (2 : Int))) == (i + (2 : Int)))) = true → (!((runS s (i + (2 : Int))) == (i + (2 : Int)))) = true from (fun q0 => q0)) (need_strike (show (!((runS s (i + (2 : Int))) == (i + (2 : Int)))) = true → (!((runS s (i + (2 : Int))) == (i + (2 : Int)))) = true from (fun q0 => q0)) (need_congr (need_strike (show (!((runS s (i + (2 : Int))) == (i + (2 : Int)))) = true → (!((runS s (i + (2 : Int))) == (i + (2 : Int)))) = true from (fun q0 => q0)) (need_strike (show ((runS s (i + (2 : Int))) == (i + (2 : Int))) = false → (!((runS s (i + (2 : Int))) == (i + (2 : Int)))) = true from (fun q0 => (not_mk q0))) (need_strike (show (!(((runS s (i + (2 : Int))) == (i + (2 : Int))) || (decide (((s.length : Int) - (runS s (i + (2 : Int)))) < (3 : Int))))) = true → (!(((runS s (i + (2 : Int))) == (i + (2 : Int))) || (decide (((s.length : Int) - (runS s (i + (2 : Int)))) < (3 : Int))))) = true from (fun q0 => q0)) (need_strike (show (!(((runS s (i + (2 : Int))) == (i + (2 : Int))) || (decide (((s.length : Int) - (runS s (i + (2 : Int)))) < (3 : Int))))) = true → (!(((runS s (i + (2 : Int))) == (i + (2 : Int))) || (decide (((s.length : Int) - (runS s (i + (2 : Int)))) < (3 : Int))))) = true from (fun q0 => q0)) (need_congr (need_strike (show (!(((runS s (i + (2 : Int))) == (i + (2 : Int))) || (decide (((s.length : Int) - (runS s (i + (2 : Int)))) < (3 : Int))))) = true → (!(((runS s (i + (2 : Int))) == (i + (2 : Int))) || (decide (((s.length : Int) - (runS s (i + (2 : Int)))) < (3 : Int))))) = true from (fun q0 => q0)) (need_strike (show (((runS s (i + (2 : Int))) == (i + (2 : Int))) || (decide (((s.length : Int) - (runS s (i + (2 : Int)))) < (3 : Int)))) = false → (!(((runS s (i + (2 : Int))) == (i + (2 : Int))) || (decide (((s.length : Int) - (runS s (i + (2 : Int)))) < (3 : Int))))) = true from (fun q0 => (not_mk q0))) (need_strike (show (!((((runS s (i + (2 : Int))) == (i + (2 : Int))) || (decide (((s.length : Int) - (runS s (i + (2 : Int)))) < (3 : Int)))) || (((s.getD (runS s (i + (2 : Int))).toNat 0).toNat : Int) != (63 : Int)))) = true → (!((((runS s (i + (2 : Int))) == (i + (2 : Int))) || (decide (((s.length : Int) - (runS s (i + (2 : Int)))) < (3 : Int)))) || (((s.getD (runS s (i + (2 : Int))).toNat 0).toNat : Int) != (63 : Int)))) = true from (fun q0 => q0)) (need_congr (need_strike (show (!((((runS s (i + (2 : Int))) == (i + (2 : Int))) || (decide (((s.length : Int) - (runS s (i + (2 : Int)))) < (3 : Int)))) || (((s.getD (runS s (i + (2 : Int))).toNat 0).toNat : Int) != (63 : Int)))) = true → (!((((runS s (i + (2 : Int))) == (i + (2 : Int))) || (decide (((s.length : Int) - (runS s (i + (2 : Int)))) < (3 : Int)))) || (((s.getD (runS s (i + (2 : Int))).toNat 0).toNat : Int) != (63 : Int)))) = true from (fun q0 => q0)) (need_strike (show (!((((runS s (i + (2 : Int))) == (i + (2 : Int))) || (decide (((s.length : Int) - (runS s (i + (2 : Int)))) < (3 : Int)))) || (((s.getD (runS s (i + (2 : Int))).toNat 0).toNat : Int) != (63 : Int)))) = true → (!((((runS s (i + (2 : Int))) == (i + (2 : Int))) || (decide (((s.length : Int) - (runS s (i + (2 : Int)))) < (3 : Int)))) || (((s.getD (runS s (i + (2 : Int))).toNat 0).toNat : Int) != (63 : Int)))) = true from (fun q0 => q0)) (need_congr (need_strike (show (!((((runS s (i + (2 : Int))) == (i + (2 : Int))) || (decide (((s.length : Int) - (runS s (i + (2 : Int)))) < (3 : Int)))) || (((s.getD (runS s (i + (2 : Int))).toNat 0).toNat : Int) != (63 : Int)))) = true → (!((((runS s (i + (2 : Int))) == (i + (2 : Int))) || (decide (((s.length : Int) - (runS s (i + (2 : Int)))) < (3 : Int)))) || (((s.getD (runS s (i + (2 : Int))).toNat 0).toNat : Int) != (63 : Int)))) = true from (fun q0 => q0)) (need_strike (show ((((runS s (i + (2 : Int))) == (i + (2 : Int))) || (decide (((s.length : Int) - (runS s (i + (2 : Int)))) < (3 : Int)))) || (((s.getD (runS s (i + (2 : Int))).toNat 0).toNat : Int) != (63 : Int))) = false → (!((((runS s (i + (2 : Int))) == (i + (2 : Int))) || (decide (((s.length : Int) - (runS s (i + (2 : Int)))) < (3 : Int)))) || (((s.getD (runS s (i + (2 : Int))).toNat 0).toNat : Int) != (63 : Int)))) = true from (fun q0 => (not_mk q0))) (rfl)))))))))))))))))))))))

theorem fn_one (F : Nat) (s : List UInt8) (i : Int) (r : AV) (h : (∃ M vs, ARels γ0 M [.p (.str s), .p (.int .i64 i)] vs) → Fone F s i = some (r, [])) : FnP Tryz.prog 64 [.p (.str s), .p (.int .i64 i)] r :=
  FnP_run Gone F rfl (EnvOk_mk (l := [(74, sp_Loose), (75, sp_QDecode), (98, sp_hp), (103, sp_wrun), (104, sp_repa), (105, sp_says)]) ⟨ok_Loose.any, ok_QDecode.any, ok_hp.any, ok_wrun.any, ok_repa.any, ok_says.any, trivial⟩) (EnvROk_mk (l := []) trivial) (Checked.mixed Tryz.checked) (fn := Tryz.f64) (by kernel_rfl) (by kernel_rfl) rfl h
theorem one_eq (s : List UInt8) (i : Int) (h : wposok s i) : Fone 0 s i = some (oneT (oneS s i), []) := by
  obtain ⟨h0, h1, h2⟩ := h
  obtain ⟨i, rfl⟩ := Int.eq_ofNat_of_zero_le h0
  have hi : i ≤ s.length := by omega
  rw [Fone_eq]
  refine need_mk (by first | omega | (unfold i64ok; omega) | (simp only [List.length_cons, List.length_nil]; omega) | (simp; omega) | simp) ?_
  rw [oneS, parse]
  rw [show ((i : Int)).toNat = i from rfl]
  by_cases c1 : hasP (s.drop i) sOpen = false
  · refine cond_t (by rw [c1]; rfl) ?_
    rw [if_pos c1]; rfl
  · have c1' : hasP (s.drop i) sOpen = true := by simpa using c1
    refine cond_f (by rw [c1']; rfl) ?_
    rw [if_neg c1]
    have hlen : i + 2 ≤ s.length := by have := hasP2 c1'; simp at this; omega
    refine need_mk (by first | omega | (unfold i64ok; omega) | (simp only [List.length_cons, List.length_nil]; omega) | (simp; omega) | simp) ?_
    have e2 : (i : Int) + 2 = ((i + 2 : Nat) : Int) := by omega
    rw [e2]
    refine need_mk ⟨by omega, by omega, h2⟩ ?_
    have hr := runN_le (s := s) (i := i + 2) hlen
    rw [show runS s ((i + 2 : Nat) : Int) = (runN s (i + 2) : Int) from rfl]
    generalize runN s (i + 2) = a at hr ⊢
    rw [show ((a : Int)).toNat = a from rfl]
    refine need_mk (fun _ => by unfold i64ok; omega) ?_
    have ea2 : ((a : Int) + 2).toNat = a + 2 := by omega
    rw [ea2]
    refine need_mk (fun h => by simp at h; omega) (need_mk (fun h => by unfold i64ok; omega) (need_mk (fun h => by simp at h; omega) ?_))
    have hB : ((((a : Int) == ((i + 2 : Nat) : Int)) || (decide ((s.length : Int) - (a : Int) < (3 : Int)))) || (((s.getD a 0).toNat : Int) != (63 : Int)) || (((s.getD (a + 2) 0).toNat : Int) != (63 : Int))) =
        decide (a = i + 2 ∨ s.length < a + 3 ∨ s.getD a 0 ≠ 63 ∨ s.getD (a + 2) 0 ≠ 63) := by
      rw [show (63 : Int) = ((63 : UInt8).toNat : Int) from rfl, u8ne, u8ne, Bool.eq_iff_iff]
      simp only [Bool.or_eq_true, decide_eq_true_eq, beq_iff_eq, bne_iff_ne]
      constructor
      · rintro (((h | h) | h) | h)
        · exact .inl (by omega)
        · exact .inr (.inl (by omega))
        · exact .inr (.inr (.inl h))
        · exact .inr (.inr (.inr h))
      · rintro (h | h | h | h)
        · exact .inl (.inl (.inl (by omega)))
        · exact .inl (.inl (.inr (by omega)))
        · exact .inl (.inr h)
        · exact .inr h
    rw [hB, Bone_1_eq]
    by_cases c2 : a = i + 2 ∨ s.length < a + 3 ∨ s.getD a 0 ≠ 63 ∨ s.getD (a + 2) 0 ≠ 63
    · refine cond_t (decide_eq_true c2) ?_
      rw [if_pos c2]; rfl
    · refine cond_f (decide_eq_false c2) ?_
      rw [if_neg c2]
      have ha3 : a + 3 ≤ s.length := by
        rcases Nat.lt_or_ge s.length (a + 3) with h | h
        · exact absurd (.inr (.inl h)) c2
        · exact h
      have e3 : (a : Int) + 3 = ((a + 3 : Nat) : Int) := by omega
      have e1 : ((a : Int) + 1).toNat = a + 1 := by omega
      refine need_mk (by first | omega | (unfold i64ok; omega) | (simp only [List.length_cons, List.length_nil]; omega) | (simp; omega) | simp) ?_
      rw [e3, e1]
      refine need_mk ⟨by omega, by omega, h2⟩ ?_
      have hb := runN_le (s := s) (i := a + 3) ha3
      rw [show runS s ((a + 3 : Nat) : Int) = (runN s (a + 3) : Int) from rfl]
      generalize runN s (a + 3) = b at hb ⊢
      rw [show ((b : Int)).toNat = b from rfl, show (((a + 3 : Nat) : Int)).toNat = a + 3 from rfl]
      refine need_mk (by first | omega | (unfold i64ok; omega) | (simp only [List.length_cons, List.length_nil]; omega) | (simp; omega) | simp) ?_
      by_cases c3 : hasP (s.drop b) sShut = false
      · refine cond_t (by rw [c3]; rfl) ?_
        rw [if_pos c3]; rfl
      · have c3' : hasP (s.drop b) sShut = true := by simpa using c3
        refine cond_f (by rw [c3']; rfl) ?_
        rw [if_neg c3]
        have hb2 : b + 2 ≤ s.length := by have := hasP2 c3'; simp at this; omega
        refine need_mk (by first | omega | (unfold i64ok; omega) | (simp only [List.length_cons, List.length_nil]; omega) | (simp; omega) | simp) ?_
        refine need_mk (by first | omega | (unfold i64ok; omega) | (simp only [List.length_cons, List.length_nil]; omega) | (simp; omega) | simp) ?_
        refine need_mk (by first | omega | (unfold i64ok; omega) | (simp only [List.length_cons, List.length_nil]; omega) | (simp; omega) | simp) ?_
        refine need_mk (by first | omega | (unfold i64ok; omega) | (simp only [List.length_cons, List.length_nil]; omega) | (simp; omega) | simp) ?_
        dsimp only
        have htl := mid_len s (a + 3) b
        generalize s.getD (a + 1) 0 = k
        generalize (s.take b).drop (a + 3) = t at htl ⊢
        have fin : ∀ u : List UInt8, u.length ≤ 1000000 → Bone_3 0 s ((i + 2 : Nat) : Int) (a : Int) (b : Int) u =
            some (oneT ((saysS ((s.take a).drop (i + 2)) u).1, ((b + 2 : Nat) : Int), (saysS ((s.take a).drop (i + 2)) u).2), []) := fun u hu => by
          have hm := mid_len s (i + 2) a
          rw [Bone_3_eq, show (((i + 2 : Nat) : Int)).toNat = i + 2 from rfl, show ((a : Int)).toNat = a from rfl]
          refine need_mk (by omega) (need_mk ⟨by omega, hu⟩ (need_mk (by unfold i64ok; omega) ?_))
          rfl
        have hl := looseG_len t 0 0
        have hq := qdec_len _ (repS t 95 32) (Nat.le_refl _)
        rw [rep_len] at hq
        have two : ∀ B, B = decide (k = 66 ∨ k = 98) → Bone_2 0 s (i : Int) ((i + 2 : Nat) : Int) (a : Int) (b : Int) t (k.toNat : Int) B = some (oneT (match bodyS k t with
            | none => ([], (i : Int), false)
            | some u => ((saysS ((s.take a).drop (i + 2)) u).1, ((b + 2 : Nat) : Int), (saysS ((s.take a).drop (i + 2)) u).2)), []) := by
          intro B hB
          rw [hB, Bone_2_eq, bodyS]
          by_cases k1 : k = 66 ∨ k = 98
          · refine cond_t (decide_eq_true k1) (need_mk (by omega) ?_)
            rw [if_pos k1]
            exact fin _ (by unfold looseB; omega)
          · refine cond_f (decide_eq_false k1) ?_
            rw [if_neg k1]
            have four : ∀ B, B = decide (k = 81 ∨ k = 113) → Bone_4 0 s (i : Int) ((i + 2 : Nat) : Int) (a : Int) (b : Int) t B = some (oneT (match (if k = 81 ∨ k = 113 then some (qdec (repS t 95 32)) else none) with
                | none => ([], (i : Int), false)
                | some u => ((saysS ((s.take a).drop (i + 2)) u).1, ((b + 2 : Nat) : Int), (saysS ((s.take a).drop (i + 2)) u).2)), []) := by
              intro B hB
              rw [hB, Bone_4_eq]
              by_cases k2 : k = 81 ∨ k = 113
              · refine cond_t (decide_eq_true k2) (need_mk (by omega) (need_mk (by rw [rep_len]; omega) ?_))
                rw [if_pos k2]
                exact fin _ (by omega)
              · refine cond_f (decide_eq_false k2) ?_
                rw [if_neg k2]; rfl
            rw [show (81 : Int) = ((81 : UInt8).toNat : Int) from rfl, show (113 : Int) = ((113 : UInt8).toNat : Int) from rfl, u8n, u8n]
            by_cases k3 : k = 81
            · refine cond_t (by simpa using k3) (four _ (by simp [k3]))
            · refine cond_f (by simpa using k3) (four _ (by rw [Bool.eq_iff_iff]; simp [k3]))
        rw [show (66 : Int) = ((66 : UInt8).toNat : Int) from rfl, show (98 : Int) = ((98 : UInt8).toNat : Int) from rfl, u8n, u8n]
        by_cases k3 : k = 66
        · refine cond_t (by simpa using k3) (two _ (by simp [k3]))
        · refine cond_f (by simpa using k3) (two _ (by rw [Bool.eq_iff_iff]; simp [k3]))
def sp_one : List AV → Option (AV × Option Prop)
  | [.p (.str s), .p (.int .i64 i)] => some (.tup [.p (.str ((oneS s i).1)), .p (.int .i64 ((oneS s i).2.1)), .p (.bool ((oneS s i).2.2))], some (wposok s i))
  | _ => none
theorem ok_one : SpecOk Tryz.prog 64 sp_one := by
  intro zs r ok he hok
  unfold sp_one at he
  split at he
  · cases he; exact ⟨by kernel_rfl, fn_one 0 _ _ _ fun hx => one_eq _ _ hok⟩
  · cases he
end Go.Proofs.YtoanepondbagcaaGreatDoor
namespace Go.Proofs.YtoanepondbagcaaGreatDoor
open Go Go.Am
set_option linter.unusedVariables false
def okAt (s : List UInt8) (i : Nat) : Option (List UInt8 × Nat) := if (oneS s (i : Int)).2.2 = true then some ((oneS s (i : Int)).1, (oneS s (i : Int)).2.1.toNat) else none
def contN (s : List UInt8) (n : Nat) : Nat := if blN s n < s.length ∧ (okAt s (blN s n)).isSome = true then blN s n else n
def decF : Nat → List UInt8 → Nat → List UInt8
  | 0, _, _ => []
  | f + 1, s, i => if i < s.length then
      match okAt s i with
      | none => s.getD i 0 :: decF f s (i + 1)
      | some (t, n) => t ++ decF f s (contN s n)
    else []
def dec (s : List UInt8) (i : Nat) : List UInt8 := decF (s.length - i + 1) s i
def wordS (s : List UInt8) : List UInt8 := dec s 0
theorem bytesS_len : ∀ u : List UInt8, (bytesS u).length ≤ 4 * u.length
  | [] => by simp [bytesS]
  | c :: r => by
    have := bytesS_len r
    have h := putS_len (c.toNat : Int)
    unfold bytesS at *
    rw [List.flatMap_cons, List.length_append, List.length_cons]; omega
theorem bodyS_len {k : UInt8} {t u : List UInt8} (h : bodyS k t = some u) : u.length ≤ 3 * t.length + 2 := by
  unfold bodyS at h
  split at h
  · cases h; exact looseG_len t 0 0
  · split at h
    · cases h
      have := qdec_len _ (repS t 95 32) (Nat.le_refl _)
      rw [rep_len] at this; omega
    · cases h
theorem saysS_len (c u : List UInt8) : (saysS c u).1.length ≤ 4 * u.length := by
  unfold saysS
  split
  · simp; omega
  · split
    · exact bytesS_len u
    · simp
theorem parse_some {s : List UInt8} {i a b : Nat} (h : parse s i = some (a, b)) : i + 3 ≤ a ∧ a + 3 ≤ b ∧ b + 2 ≤ s.length ∧ s.getD i 0 = 61 := by
  unfold parse at h
  split at h
  · cases h
  · rename_i c1
    split at h
    · cases h
    · rename_i c2
      split at h
      · cases h
      · rename_i c3
        cases h
        have c1' : hasP (s.drop i) sOpen = true := by simpa using c1
        have c3' : hasP (s.drop (runN s (runN s (i + 2) + 3))) sShut = true := by simpa using c3
        have h1 := hasP2 c1'
        have h3 := hasP2 c3'
        simp only [List.length_drop, List.length_cons, List.length_nil] at h1 h3
        have r1 := runN_le (s := s) (i := i + 2) (by omega)
        have n1 : runN s (i + 2) ≠ i + 2 := fun e => c2 (.inl e)
        have n2 : ¬ s.length < runN s (i + 2) + 3 := fun e => c2 (.inr (.inl e))
        have r2 := runN_le (s := s) (i := runN s (i + 2) + 3) (by omega)
        refine ⟨by omega, by omega, by omega, ?_⟩
        unfold hasP at c1'
        rw [beq_iff_eq] at c1'
        have := take_cons (s := s) (j := i) (m := 1) (by omega)
        rw [show sOpen.length = 1 + 1 from rfl, this] at c1'
        exact (List.cons.inj c1').1
theorem okAt_some {s : List UInt8} {i : Nat} {t : List UInt8} {n : Nat} (h : okAt s i = some (t, n)) : oneS s (i : Int) = (t, (n : Int), true) ∧ i + 8 ≤ n ∧ n ≤ s.length ∧ s.getD i 0 = 61 ∧ t.length + 8 * i ≤ 12 * n + 8 * i ∧ t.length ≤ 12 * (n - i) := by
  unfold okAt at h
  split at h
  · rename_i hok
    cases h
    unfold oneS at *
    rw [show ((i : Int)).toNat = i from rfl] at *
    cases hp : parse s i with
    | none => rw [hp] at hok; cases hok
    | some p =>
      obtain ⟨a, b⟩ := p
      obtain ⟨h1, h2, h3, h4⟩ := parse_some hp
      rw [hp] at hok
      dsimp only at hok ⊢
      cases hb : bodyS (s.getD (a + 1) 0) ((s.take b).drop (a + 3)) with
      | none => rw [hb] at hok; cases hok
      | some u =>
        rw [hb] at hok
        dsimp only at hok ⊢
        have l1 := bodyS_len hb
        have l2 := saysS_len ((s.take a).drop (i + 2)) u
        have l3 : ((s.take b).drop (a + 3)).length ≤ b - (a + 3) := by simp; omega
        rw [hok]
        refine ⟨rfl, ?_, ?_, h4, ?_, ?_⟩ <;> rw [show (((b + 2 : Nat) : Int)).toNat = b + 2 from rfl] <;> omega
  · cases h
theorem okAt_none {s : List UInt8} {i : Nat} (h : okAt s i = none) : (oneS s (i : Int)).2.2 = false := by
  unfold okAt at h
  split at h
  · cases h
  · rename_i hok; simpa using hok
theorem contN_le {s : List UInt8} {n : Nat} (h : n ≤ s.length) : n ≤ contN s n ∧ contN s n ≤ s.length := by
  have := blN_le h
  unfold contN
  split <;> omega
theorem decF_eq (s : List UInt8) : ∀ (f g i : Nat), s.length - i < f → s.length - i < g → decF f s i = decF g s i := by
  intro f
  induction f with
  | zero => intro g i h; omega
  | succ f ih =>
    intro g i hf hg
    cases g with
    | zero => omega
    | succ g =>
      rw [decF, decF]
      by_cases hi : i < s.length
      · rw [if_pos hi, if_pos hi]
        cases ho : okAt s i with
        | none => dsimp only; rw [ih g (i + 1) (by omega) (by omega)]
        | some p =>
          obtain ⟨t, n⟩ := p
          obtain ⟨_, h1, h2, _⟩ := okAt_some ho
          have := contN_le h2
          dsimp only
          rw [ih g (contN s n) (by omega) (by omega)]
      · rw [if_neg hi, if_neg hi]
theorem dec_end {s : List UInt8} {i : Nat} (h : s.length ≤ i) : dec s i = [] := by rw [dec, decF, if_neg (by omega)]
theorem dec_none {s : List UInt8} {i : Nat} (h : i < s.length) (ho : okAt s i = none) : dec s i = s.getD i 0 :: dec s (i + 1) := by
  rw [dec, decF, if_pos h, ho]
  dsimp only
  rw [dec, decF_eq s (s.length - i) (s.length - (i + 1) + 1) (i + 1) (by omega) (by omega)]
theorem dec_some {s : List UInt8} {i n : Nat} {t : List UInt8} (h : i < s.length) (ho : okAt s i = some (t, n)) : dec s i = t ++ dec s (contN s n) := by
  obtain ⟨_, h1, h2, _⟩ := okAt_some ho
  have := contN_le h2
  rw [dec, decF, if_pos h, ho]
  dsimp only
  rw [dec, decF_eq s (s.length - i) (s.length - (contN s n) + 1) (contN s n) (by omega) (by omega)]
noncomputable def cwdec : Code := bodyOf Tryz.f33

noncomputable def Gwdec : Cfg := ⟨Tryz.prog, mkEnv [(64, sp_one), (66, sp_wbl)], mkEnvR [(48, sp_wstr), (51, sp_bstr), (65, sp_wbyte)], 51, [], [([0, 0, 1, 1, 1, 0, 1], ⟨[0, 3, 4], [⟨.slot 3, 3, .cells []⟩, ⟨.cell 3 1, 4001, (.barr 5 false [])⟩]⟩)], [([0, 0, 1, 0, 1, 0, 1, 0, 0, 0, 1, 1, 1, 0, 1], [3]), ([0, 1, 1, 0, 1, 0, 0, 0, 1, 1, 1, 0, 1], [1]), ([0, 1, 1, 1, 1, 0, 1], [0])]⟩

noncomputable def Bwdec_1 (F f1 : Nat) (s : List UInt8) (vi1 : Int) (vb2 : List UInt8) : Option Ans := runR Gwdec cwdec (kP Tryz.prog Tryz.f33.results.toList) F [] [1, 0, 1, 1, 1, 0, 0] f1 [(0, .p (.str s)), (3, .ref 3 0), (4, .p (.int .i64 vi1))] [(3, .bldr 61 (.arr 4001)), (4001, .barr 5 false vb2)]

noncomputable def Fwdec (F : Nat) (s : List UInt8) : Option Ans := runF Gwdec Tryz.f33 F [.p (.str s)]

theorem Bwdec_1_eq (F f1 : Nat) (s : List UInt8) (vi1 : Int) (vb2 : List UInt8) : Bwdec_1 F (f1 + 1) s vi1 vb2 = cond (decide (vi1 < (s.length : Int))) (need (wposok s vi1) (cond (!((oneS s vi1).2.2)) (need (0 ≤ vi1 ∧ vi1 < (s.length : Int)) (need (vb2.length + 1 ≤ 140737488355328) (need (i64ok (vi1 + (1 : Int))) (Bwdec_1 F f1 s (vi1 + (1 : Int)) (vb2 ++ [UInt8.ofNat (((s.getD (vi1).toNat 0).toNat : Int)).toNat]))))) (need (vb2.length + ((oneS s vi1).1).length ≤ 140737488355328) (need (wposok s ((oneS s vi1).2.1)) (cond (decide ((blankS s ((oneS s vi1).2.1)) < (s.length : Int))) (need (wposok s (blankS s ((oneS s vi1).2.1))) (cond ((oneS s (blankS s ((oneS s vi1).2.1))).2.2) (Bwdec_1 F f1 s (blankS s ((oneS s vi1).2.1)) (vb2 ++ ((oneS s vi1).1))) (Bwdec_1 F f1 s ((oneS s vi1).2.1) (vb2 ++ ((oneS s vi1).1))))) (Bwdec_1 F f1 s ((oneS s vi1).2.1) (vb2 ++ ((oneS s vi1).1)))))))) (some (.p (.str vb2), [])) := by kernel_rfl

theorem Fwdec_eq (F : Nat) (s : List UInt8) : Fwdec F s = Bwdec_1 F F s (0 : Int) [] := by kernel_rfl

theorem fn_wdec (F : Nat) (s : List UInt8) (r : AV) (h : (∃ M vs, ARels γ0 M [.p (.str s)] vs) → Fwdec F s = some (r, [])) : FnP Tryz.prog 33 [.p (.str s)] r :=
  FnP_run Gwdec F rfl (EnvOk_mk (l := [(64, sp_one), (66, sp_wbl)]) ⟨ok_one.any, ok_wbl.any, trivial⟩) (EnvROk_mk (l := [(48, sp_wstr), (51, sp_bstr), (65, sp_wbyte)]) ⟨ok_wstr, ok_bstr, ok_wbyte, trivial⟩) (Checked.mixed Tryz.checked) (fn := Tryz.f33) (by kernel_rfl) (by kernel_rfl) rfl h
theorem u8self (c : UInt8) : UInt8.ofNat ((c.toNat : Int)).toNat = c := by simp
theorem Bwdec_spec (F : Nat) (s : List UInt8) (hs : s.length ≤ 100000) : ∀ (f i : Nat) (acc : List UInt8), s.length - i < f → i ≤ s.length → acc.length ≤ 12 * i →
    Bwdec_1 F f s (i : Int) acc = some (.p (.str (acc ++ dec s i)), []) := by
  intro f
  induction f with
  | zero => intro i acc h; omega
  | succ f ih =>
    intro i acc hf hi ha
    rw [Bwdec_1_eq]
    by_cases h : i < s.length
    · refine cond_t (by simpa using h) (need_mk ⟨by omega, by omega, hs⟩ ?_)
      rw [show ((i : Int)).toNat = i from rfl, u8self]
      cases ho : okAt s i with
      | none =>
        rw [okAt_none ho]
        refine cond_t rfl ?_
        refine need_mk (by first | omega | (unfold i64ok; omega) | (simp only [List.length_cons, List.length_nil]; omega) | (simp; omega) | simp) ?_
        refine need_mk (by first | omega | (unfold i64ok; omega) | (simp only [List.length_cons, List.length_nil]; omega) | (simp; omega) | simp) ?_
        refine need_mk (by first | omega | (unfold i64ok; omega) | (simp only [List.length_cons, List.length_nil]; omega) | (simp; omega) | simp) ?_
        have e : (i : Int) + 1 = ((i + 1 : Nat) : Int) := by omega
        rw [e, ih (i + 1) _ (by omega) (by omega) (by simp; omega), dec_none h ho]
        simp
      | some p =>
        obtain ⟨t, n⟩ := p
        obtain ⟨h1, h2, h3, _, _, h4⟩ := okAt_some ho
        rw [h1]
        refine cond_f rfl (need_mk (by dsimp only; omega) (need_mk ⟨by dsimp only; omega, by dsimp only; omega, hs⟩ ?_))
        dsimp only
        rw [show blankS s (n : Int) = (blN s n : Int) from rfl, dec_some h ho]
        have hb := blN_le h3
        have fin : ∀ m, m = contN s n → Bwdec_1 F f s (m : Int) (acc ++ t) = some (.p (.str (acc ++ (t ++ dec s (contN s n)))), []) := fun m hm => by
          have := contN_le h3
          rw [hm, ih (contN s n) (acc ++ t) (by omega) (by omega) (by simp; omega), List.append_assoc]
        by_cases c1 : blN s n < s.length
        · refine cond_t (by simpa using c1) (need_mk ⟨by omega, by omega, hs⟩ ?_)
          cases ho2 : okAt s (blN s n) with
          | none =>
            rw [okAt_none ho2]
            exact cond_f rfl (fin n (by unfold contN; rw [if_neg (by rw [ho2]; simp)]))
          | some q =>
            obtain ⟨t2, n2⟩ := q
            rw [(okAt_some ho2).1]
            exact cond_t rfl (fin (blN s n) (by unfold contN; rw [if_pos ⟨c1, by rw [ho2]; rfl⟩]))
        · exact cond_f (by simpa using c1) (fin n (by unfold contN; rw [if_neg (fun h => c1 h.1)]))
    · refine cond_f (by simpa using h) ?_
      rw [dec_end (by omega)]; simp
theorem wdec_eq (s : List UInt8) (hs : s.length ≤ 100000) : Fwdec (s.length + 1) s = some (.p (.str (wordS s)), []) := by
  rw [Fwdec_eq]
  exact Bwdec_spec _ s hs (s.length + 1) 0 [] (by omega) (by omega) (by simp)
def sp_wdec : List AV → Option (AV × Option Prop)
  | [.p (.str s)] => some (.p (.str (wordS s)), some (s.length ≤ 100000))
  | _ => none
theorem ok_wdec : SpecOk Tryz.prog 33 sp_wdec := by
  intro zs r ok he hok
  unfold sp_wdec at he
  split at he
  · cases he; exact ⟨by kernel_rfl, fn_wdec (_) _ _ fun hx => wdec_eq _ hok⟩
  · cases he
end Go.Proofs.YtoanepondbagcaaGreatDoor
namespace Go.Proofs.YtoanepondbagcaaGreatDoor
open Go Go.Am
set_option linter.unusedVariables false
/-! The subject; the laws' example. -/
def shownS (s : List UInt8) : List UInt8 := if validS s = true then s else bytesS s
noncomputable def cshown : Code := bodyOf Tryz.f32

noncomputable def Gshown : Cfg := ⟨Tryz.prog, mkEnv [(62, sp_uvalid), (63, sp_Put)], mkEnvR [(48, sp_wstr), (51, sp_bstr)], 21, [], [([0, 1, 0, 1, 1, 1], ⟨[0, 3, 9, 10], [⟨.slot 3, 3, .cells []⟩, ⟨.cell 3 1, 4001, (.barr 5 false [])⟩]⟩)], [([1, 0, 0, 1, 1, 0, 0, 1, 0, 1, 1, 1], [5]), ([0, 1, 1, 1, 1], [0])]⟩

noncomputable def Bshown_1 (F f1 : Nat) (s : List UInt8) (vi1 vi2 : Int) (vb3 : List UInt8) : Option Ans := runR Gshown cshown (kP Tryz.prog Tryz.f32.results.toList) F [] [1, 1, 1, 0, 1, 0] f1 [(0, .p (.str s)), (3, .ref 3 0), (9, .p (.int .i64 vi1)), (10, .p (.int .i64 vi2))] [(3, .bldr 61 (.arr 4001)), (4001, .barr 5 false vb3)]

noncomputable def Fshown (F : Nat) (s : List UInt8) : Option Ans := runF Gshown Tryz.f32 F [.p (.str s)]

theorem Bshown_1_eq (F f1 : Nat) (s : List UInt8) (vi1 vi2 : Int) (vb3 : List UInt8) : Bshown_1 F (f1 + 1) s vi1 vi2 vb3 = cond (decide (vi2 < vi1)) (need (0 ≤ vi2 ∧ vi2 < (s.length : Int)) (need (-1000000000000 ≤ ((s.getD (vi2).toNat 0).toNat : Int) ∧ ((s.getD (vi2).toNat 0).toNat : Int) ≤ 1000000000000) (need (vb3.length + (putS ((s.getD (vi2).toNat 0).toNat : Int)).length ≤ 140737488355328) (need (i64ok (vi2 + (1 : Int))) (Bshown_1 F f1 s vi1 (vi2 + (1 : Int)) (vb3 ++ (putS ((s.getD (vi2).toNat 0).toNat : Int)))))))) (some (.p (.str vb3), [])) := by kernel_rfl

theorem Fshown_eq (F : Nat) (s : List UInt8) : Fshown F s = need (s.length ≤ 1000000) (cond (validS s) (some (.p (.str s), [])) (Bshown_1 F F s (s.length : Int) (0 : Int) [])) := by kernel_rfl

theorem fn_shown (F : Nat) (s : List UInt8) (r : AV) (h : (∃ M vs, ARels γ0 M [.p (.str s)] vs) → Fshown F s = some (r, [])) : FnP Tryz.prog 32 [.p (.str s)] r :=
  FnP_run Gshown F rfl (EnvOk_mk (l := [(62, sp_uvalid), (63, sp_Put)]) ⟨ok_uvalid.any, ok_Put.any, trivial⟩) (EnvROk_mk (l := [(48, sp_wstr), (51, sp_bstr)]) ⟨ok_wstr, ok_bstr, trivial⟩) (Checked.mixed Tryz.checked) (fn := Tryz.f32) (by kernel_rfl) (by kernel_rfl) rfl h
theorem Bshown_spec (F : Nat) (s : List UInt8) (hs : s.length ≤ 1000000) : ∀ (r : List UInt8) (f i : Nat) (acc : List UInt8), s.drop i = r → acc.length ≤ 4 * i → r.length < f → i ≤ s.length →
    Bshown_1 F f s (s.length : Int) (i : Int) acc = some (.p (.str (acc ++ bytesS r)), []) := by
  intro r
  induction r with
  | nil =>
    intro f i acc hd ha hf hi
    have : i = s.length := by have := congrArg List.length hd; simp at this; omega
    cases f with
    | zero => omega
    | succ f =>
      rw [Bshown_1_eq]
      refine cond_f (by first | omega | (unfold i64ok; omega) | (simp only [List.length_cons, List.length_nil]; omega) | (simp; omega) | simp) ?_
      simp [bytesS]
  | cons c r ih =>
    intro f i acc hd ha hf hi
    obtain ⟨h1, h2, h3⟩ := drop_cons hd
    cases f with
    | zero => omega
    | succ f =>
      have hlt := c.toNat_lt
      have hl := putS_len (c.toNat : Int)
      rw [Bshown_1_eq]
      refine cond_t (by first | omega | (unfold i64ok; omega) | (simp only [List.length_cons, List.length_nil]; omega) | (simp; omega) | simp) ?_
      refine need_mk (by first | omega | (unfold i64ok; omega) | (simp only [List.length_cons, List.length_nil]; omega) | (simp; omega) | simp) ?_
      rw [Int.toNat_natCast, h1]
      refine need_mk (by first | omega | (unfold i64ok; omega) | (simp only [List.length_cons, List.length_nil]; omega) | (simp; omega) | simp) ?_
      refine need_mk (by omega) ?_
      refine need_mk (by first | omega | (unfold i64ok; omega) | (simp only [List.length_cons, List.length_nil]; omega) | (simp; omega) | simp) ?_
      have e : (i : Int) + 1 = ((i + 1 : Nat) : Int) := by omega
      rw [e, ih f (i + 1) _ h2 (by simp; omega) (by simp at hf; omega) (by omega)]
      simp [bytesS]
theorem shown_eq (s : List UInt8) (hs : s.length ≤ 1000000) : Fshown (s.length + 1) s = some (.p (.str (shownS s)), []) := by
  rw [Fshown_eq, shownS]
  refine need_mk hs ?_
  cases hv : validS s with
  | true => rfl
  | false => exact Bshown_spec _ s hs s (s.length + 1) 0 [] rfl (by simp) (by omega) (by omega)
def sp_shown : List AV → Option (AV × Option Prop)
  | [.p (.str s)] => some (.p (.str (shownS s)), some (s.length ≤ 1000000))
  | _ => none
theorem ok_shown : SpecOk Tryz.prog 32 sp_shown := by
  intro zs r ok he hok
  unfold sp_shown at he
  split at he
  · cases he; exact ⟨by kernel_rfl, fn_shown (_) _ _ fun hx => shown_eq _ hok⟩
  · cases he

noncomputable def Gfields : Cfg := ⟨Tryz.prog, mkEnv [(46, sp_split)], mkEnvR [], 10, [], [], []⟩

noncomputable def Ffields (F : Nat) (s : List UInt8) : Option Ans := runF Gfields Tryz.f24 F [.p (.str s)]

theorem Ffields_eq (F : Nat) (s : List UInt8) : Ffields F s = need (s.length ≤ 1000000) (some (.tup [.p (.list 2 (.dat (.pair .str .str) ((splitS s (0 : Int) (s.length : Int)).1))), .p (.int .i64 ((splitS s (0 : Int) (s.length : Int)).2))], [])) := by kernel_rfl

theorem fn_fields (F : Nat) (s : List UInt8) (r : AV) (h : (∃ M vs, ARels γ0 M [.p (.str s)] vs) → Ffields F s = some (r, [])) : FnP Tryz.prog 24 [.p (.str s)] r :=
  FnP_run Gfields F rfl (EnvOk_mk (l := [(46, sp_split)]) ⟨ok_split.any, trivial⟩) (EnvROk_mk (l := []) trivial) (Checked.mixed Tryz.checked) (fn := Tryz.f24) (by kernel_rfl) (by kernel_rfl) rfl h
theorem fields_eq (s : List UInt8) (hs : s.length ≤ 1000000) : Ffields 0 s = some (.tup [.p (.list 2 (.dat (.pair .str .str) (splitS s 0 (s.length : Int)).1)), .p (.int .i64 (splitS s 0 (s.length : Int)).2)], []) := by
  rw [Ffields_eq]; exact need_mk hs rfl
def sp_fields : List AV → Option (AV × Option Prop)
  | [.p (.str s)] => some (.tup [.p (.list 2 (.dat (.pair .str .str) ((splitS s 0 (s.length : Int)).1))), .p (.int .i64 ((splitS s 0 (s.length : Int)).2))], some (s.length ≤ 1000000))
  | _ => none
theorem ok_fields : SpecOk Tryz.prog 24 sp_fields := by
  intro zs r ok he hok
  unfold sp_fields at he
  split at he
  · cases he; exact ⟨by kernel_rfl, fn_fields 0 _ _ fun hx => fields_eq _ hok⟩
  · cases he
end Go.Proofs.YtoanepondbagcaaGreatDoor
namespace Go.Proofs.YtoanepondbagcaaGreatDoor
open Go Go.Am
set_option linter.unusedVariables false
/-! The subject; the laws' example. -/
theorem dec_len (s : List UInt8) : ∀ (f i : Nat), (decF f s i).length ≤ 12 * (s.length - i) := by
  intro f
  induction f with
  | zero => intro i; simp [decF]
  | succ f ih =>
    intro i
    rw [decF]
    split
    · rename_i hi
      cases ho : okAt s i with
      | none => have := ih (i + 1); simp only [List.length_cons]; omega
      | some p =>
        obtain ⟨t, n⟩ := p
        obtain ⟨_, h1, h2, _, _, h3⟩ := okAt_some ho
        have h4 := contN_le h2
        have := ih (contN s n)
        simp only [List.length_append]; omega
    · simp
theorem wordS_len (s : List UInt8) : (wordS s).length ≤ 12 * s.length := dec_len s _ 0
abbrev cSubj : List UInt8 := [115, 117, 98, 106, 101, 99, 116]
def subjV (s : List UInt8) : List UInt8 := (firstS (splitS s 0 (s.length : Int)).1 cSubj).1
def subjS (s : List UInt8) : List UInt8 := shownS (wordS (subjV s))
theorem splitAll_ok {s : List UInt8} (hs : s.length ≤ 1000000) {n : List UInt8} (hn : n.length ≤ 100) : firstok (splitS s 0 (s.length : Int)).1 n := by
  have h1 := splitS_len s 0 (s.length : Int)
  exact ⟨by omega, fun x hx => by have := (splitS_elem s 0 (s.length : Int) x hx).1; omega, by omega⟩
theorem subjV_len (s : List UInt8) : (subjV s).length ≤ s.length := firstS_len fun x hx => (splitS_elem s 0 (s.length : Int) x hx).2
noncomputable def csubject : Code := bodyOf Tryz.f14

noncomputable def Gsubject : Cfg := ⟨Tryz.prog, mkEnv [(24, sp_fields), (31, sp_first), (32, sp_shown), (33, sp_wdec)], mkEnvR [], 20, [], [([1, 1, 1], ⟨[5], []⟩)], []⟩

noncomputable def Bsubject_1 (F : Nat) (vs1 : List UInt8) : Option Ans := runB Gsubject csubject (kP Tryz.prog Tryz.f14.results.toList) F [] [1, 1, 1] [(5, .p (.str vs1))] []

noncomputable def Fsubject (F : Nat) (s : List UInt8) : Option Ans := runF Gsubject Tryz.f14 F [.p (.str s)]

theorem Bsubject_1_eq (F : Nat) (vs1 : List UInt8) : Bsubject_1 F vs1 = need (vs1.length ≤ 100000) (need ((wordS vs1).length ≤ 1000000) (some (.p (.str (shownS (wordS vs1))), []))) := by kernel_rfl

theorem Fsubject_eq (F : Nat) (s : List UInt8) : Fsubject F s = need (s.length ≤ 1000000) (need (firstok ((splitS s 0 (s.length : Int)).1) ([115, 117, 98, 106, 101, 99, 116] : List UInt8)) (Bsubject_1 F ((firstS ((splitS s 0 (s.length : Int)).1) ([115, 117, 98, 106, 101, 99, 116] : List UInt8)).1))) := by kernel_rfl

theorem fn_subject (F : Nat) (s : List UInt8) (r : AV) (h : (∃ M vs, ARels γ0 M [.p (.str s)] vs) → Fsubject F s = some (r, [])) : FnP Tryz.prog 14 [.p (.str s)] r :=
  FnP_run Gsubject F rfl (EnvOk_mk (l := [(24, sp_fields), (31, sp_first), (32, sp_shown), (33, sp_wdec)]) ⟨ok_fields.any, ok_first.any, ok_shown.any, ok_wdec.any, trivial⟩) (EnvROk_mk (l := []) trivial) (Checked.mixed Tryz.checked) (fn := Tryz.f14) (by kernel_rfl) (by kernel_rfl) rfl h
theorem subject_eq (s : List UInt8) (hs : s.length ≤ 50000) : Fsubject 0 s = some (.p (.str (subjS s)), []) := by
  have h1 := subjV_len s
  have h2 := wordS_len (subjV s)
  rw [Fsubject_eq]
  refine need_mk (by omega) (need_mk (splitAll_ok (by omega) (by simp)) ?_)
  rw [Bsubject_1_eq]
  exact need_mk (by show (subjV s).length ≤ _; omega) (need_mk (by show (wordS (subjV s)).length ≤ _; omega) rfl)
def sp_subject : List AV → Option (AV × Option Prop)
  | [.p (.str s)] => some (.p (.str (subjS s)), some (s.length ≤ 50000))
  | _ => none
theorem ok_subject : SpecOk Tryz.prog 14 sp_subject := by
  intro zs r ok he hok
  unfold sp_subject at he
  split at he
  · cases he; exact ⟨by kernel_rfl, fn_subject 0 _ _ fun hx => subject_eq _ hok⟩
  · cases he

noncomputable def Gawake : Cfg := ⟨Tryz.prog, mkEnv [(12, sp_envelope0), (14, sp_subject)], mkEnvR [], 7, [], [], []⟩

noncomputable def Fawake (F : Nat)  : Option Ans := runF Gawake Tryz.f10 F []

theorem Fawake_eq (F : Nat)  : Fawake F  = need ((envE == LB_b9b80970) = true → LB_208aacab.length ≤ 50000) (((some (.p (.bool ((envE == LB_b9b80970) && ((subjS LB_208aacab) == ([97] : List UInt8)))), [])))) := by
  have h : Fawake F  = need ((envE == LB_b9b80970) = true → LB_208aacab.length ≤ 50000) (need ((envE == LB_b9b80970) = true → (envE == LB_b9b80970) = true) (need ((envE == LB_b9b80970) = true → (envE == LB_b9b80970) = true) (some (.p (.bool ((envE == LB_b9b80970) && ((subjS LB_208aacab) == ([97] : List UInt8)))), [])))) := by kernel_rfl
  rw [h, need_pos (show (envE == LB_b9b80970) = true → (envE == LB_b9b80970) = true from (fun q0 => q0)), need_pos (show (envE == LB_b9b80970) = true → (envE == LB_b9b80970) = true from (fun q0 => q0))]

theorem fn_awake (F : Nat)  (r : AV) (h : (∃ M vs, ARels γ0 M [] vs) → Fawake F  = some (r, [])) : FnP Tryz.prog 10 [] r :=
  FnP_run Gawake F rfl (EnvOk_mk (l := [(12, sp_envelope0), (14, sp_subject)]) ⟨ok_envelope0.any, ok_subject.any, trivial⟩) (EnvROk_mk (l := []) trivial) (Checked.mixed Tryz.checked) (fn := Tryz.f10) (by kernel_rfl) (by kernel_rfl) rfl h
theorem subj_awake : subjS LB_208aacab = [97] := by
  have hv : subjV LB_208aacab = [61, 63, 117, 116, 102, 45, 56, 63, 81, 63, 97, 63, 61] := by kernel_rfl
  unfold subjS
  rw [hv]
  have hp : parse [61, 63, 117, 116, 102, 45, 56, 63, 81, 63, 97, 63, 61] 0 = some (7, 11) := by kernel_rfl
  have hq : qdec (repS [97] 95 32) = [97] := by
    show qdec [97] = [97]
    rw [qdec_ne (by decide), qdec_nil]
  have hb : bodyS 81 [97] = some [97] := by
    unfold bodyS
    rw [if_neg (by decide), if_pos (by decide), hq]
  have hy : saysS cUtf8 [97] = ([97], true) := by kernel_rfl
  have ho : oneS [61, 63, 117, 116, 102, 45, 56, 63, 81, 63, 97, 63, 61] ((0 : Nat) : Int) = ([97], 13, true) := by
    unfold oneS
    rw [show ((0 : Nat) : Int).toNat = 0 from rfl, hp]
    show (match bodyS 81 [97] with
      | none => ([], ((0 : Nat) : Int), false)
      | some u => ((saysS cUtf8 u).1, ((11 + 2 : Nat) : Int), (saysS cUtf8 u).2)) = _
    rw [hb]
    show ((saysS cUtf8 [97]).1, ((11 + 2 : Nat) : Int), (saysS cUtf8 [97]).2) = _
    rw [hy]; rfl
  have hk : okAt [61, 63, 117, 116, 102, 45, 56, 63, 81, 63, 97, 63, 61] 0 = some ([97], 13) := by
    unfold okAt
    rw [if_pos (by rw [ho]), ho]; rfl
  have hw : wordS [61, 63, 117, 116, 102, 45, 56, 63, 81, 63, 97, 63, 61] = [97] := by
    show dec _ 0 = _
    rw [dec_some (by decide) hk, dec_end (by decide)]; rfl
  rw [hw]
  show shownS [97] = [97]
  kernel_rfl
theorem awake_eq : Fawake 0 = some (.p (.bool true), []) := by
  rw [Fawake_eq]
  refine need_mk (fun _ => by simp [LB_208aacab]) ?_
  rw [subj_awake]; rfl
def sp_awake : List AV → Option (AV × Option Prop)
  | [] => some (.p (.bool true), none)
  | _ => none
theorem ok_awake : SpecOk Tryz.prog 10 sp_awake := by
  intro zs r ok he hok
  unfold sp_awake at he
  split at he
  · cases he; exact ⟨by kernel_rfl, fn_awake 0  _ fun hx => awake_eq ⟩
  · cases he
end Go.Proofs.YtoanepondbagcaaGreatDoor
