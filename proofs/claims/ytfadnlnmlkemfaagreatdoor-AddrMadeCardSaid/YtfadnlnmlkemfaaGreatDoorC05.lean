/-
  Lifted functions, and facts about them.
-/
import Derived.Test.YtfadnlnmlkemfaaGreatDoorRows
import Derived.Test.YtfadnlnmlkemfaaGreatDoorAmC
import Derived.Test.YtfadnlnmlkemfaaGreatDoorC01
import Derived.Test.YtfadnlnmlkemfaaGreatDoorC03
import Derived.Test.YtfadnlnmlkemfaaGreatDoorC04
import Derived.Shelf.Strings.SlTrimAscii
import Derived.ShutString
import Derived.Ground.NamesProg
import Derived.Shelf.Lay
import Derived.Deep.RegionWith
import Derived.WalkMore
import Derived.Tactics
import Derived.Tactics2
import Derived.Defers
import Derived.Laws.Pointers
import Derived.Laws.LoneSync
import Derived.Laws.NewBlocks
import Derived.RegionTactic
import Derived.RegionCalls
import Derived.ChangeAlike
import Derived.OwnWalk
import Derived.Deep.LoopGhost
import Derived.Shelf.Small.Utf8
import Derived.Laws.OwnMore
import Derived.Deep.AppendSrc
import Derived.Deep.WholeRow
namespace Go.Proofs.YtfadnlnmlkemfaaGreatDoor
open Go Go.Am
set_option linter.unusedVariables false
theorem qdec_len : ∀ (n : Nat) (s : List UInt8), s.length ≤ n → (qdec s).length ≤ s.length := by
  intro n
  induction n with
  | zero => intro s h; have : s = [] := List.eq_nil_of_length_eq_zero (by omega); subst this; simp [qdec_nil]
  | succ n ih =>
    intro s h
    match s, h with
    | [], _ => simp [qdec_nil]
    | c :: r, h =>
      by_cases hc : c = 61
      · subst hc
        match r, h with
        | [], _ => rw [qdec_1]; simp
        | [x], h =>
          rw [qdec_2]; split
          · simp
          · have := ih [x] (by simp at h ⊢; omega)
            simp at this ⊢; omega
        | x :: y :: t, h =>
          simp at h
          rw [qdec_3]
          split
          · have := ih t (by omega); simp; omega
          · split
            · have := ih (y :: t) (by simp; omega); simp at this ⊢; omega
            · split
              · have := ih t (by omega); simp; omega
              · have := ih (x :: y :: t) (by simp; omega); simp at this ⊢; omega
      · rw [qdec_ne hc]
        have := ih r (by simp at h; omega)
        simp; omega
abbrev sOpen : List UInt8 := [61, 63]
abbrev sShut : List UInt8 := [63, 61]
/-- Where an encoded word's two inner ends are. -/
def parse (s : List UInt8) (i : Nat) : Option (Nat × Nat) :=
  if hasP (s.drop i) sOpen = false then none else
  if runN s (i + 2) = i + 2 ∨ s.length < runN s (i + 2) + 3 ∨ s.getD (runN s (i + 2)) 0 ≠ 63 ∨ s.getD (runN s (i + 2) + 2) 0 ≠ 63 then none else
  if hasP (s.drop (runN s (runN s (i + 2) + 3))) sShut = false then none else some (runN s (i + 2), runN s (runN s (i + 2) + 3))
def bodyS (k : UInt8) (t : List UInt8) : Option (List UInt8) :=
  if k = 66 ∨ k = 98 then some (looseB t) else if k = 81 ∨ k = 113 then some (qdec (repS t 95 32)) else none
def oneS (s : List UInt8) (i : Int) : List UInt8 × Int × Bool :=
  match parse s i.toNat with
  | none => ([], i, false)
  | some (a, b) => match bodyS (s.getD (a + 1) 0) ((s.take b).drop (a + 3)) with
    | none => ([], i, false)
    | some u => ((saysS ((s.take a).drop (i.toNat + 2)) u).1, ((b + 2 : Nat) : Int), (saysS ((s.take a).drop (i.toNat + 2)) u).2)
def oneT (p : List UInt8 × Int × Bool) : AV := .tup [.p (.str p.1), .p (.int .i64 p.2.1), .p (.bool p.2.2)]
theorem u8n (c d : UInt8) : ((c.toNat : Int) == (d.toNat : Int)) = (c == d) := by
  rw [Bool.eq_iff_iff]; simp only [beq_iff_eq]; exact u8_eq
theorem u8ne (c d : UInt8) : ((c.toNat : Int) != (d.toNat : Int)) = (c != d) := by simp only [bne, u8n]
theorem hasP2 {s p : List UInt8} (h : hasP s p = true) : p.length ≤ s.length := by
  unfold hasP at h
  rw [beq_iff_eq] at h
  have := congrArg List.length h
  simp at this; omega
theorem rep_len (s : List UInt8) (c d : UInt8) : (repS s c d).length = s.length := by simp [repS]
theorem mid_len (s : List UInt8) (a b : Nat) : ((s.take b).drop a).length ≤ s.length := by simp; omega
noncomputable def cone : Code := bodyOf Tryz.f28

noncomputable def Gone : Cfg := ⟨Tryz.prog, mkEnv [(45, sp_hp), (46, sp_wrun), (47, sp_Loose), (48, sp_QDecode), (49, sp_repa), (50, sp_says)], mkEnvR [], 92, [], [([1, 0, 1, 1, 1, 1], ⟨[0, 1, 7, 8, 46], []⟩), ([1, 0, 1, 0, 1, 1, 1, 1, 1, 1, 1, 1], ⟨[0, 1, 7, 8, 9, 10, 66, 68], []⟩), ([1, 1, 1, 0, 1, 0, 1, 1, 1, 1, 1, 1, 1, 1], ⟨[0, 1, 7, 8, 9, 10, 73], []⟩), ([1, 1, 1, 1, 1, 1, 1, 1, 1], ⟨[0, 7, 8, 9, 10], []⟩)], []⟩

noncomputable def Bone_1 (F : Nat) (s : List UInt8) (i vi1 vi2 : Int) (vc3 : Bool) : Option Ans := runB Gone cone (kP Tryz.prog Tryz.f28.results.toList) F [] [1, 1, 1, 1, 0, 1] [(0, .p (.str s)), (1, .p (.int .i64 i)), (7, .p (.int .i64 vi1)), (8, .p (.int .i64 vi2)), (46, .p (.bool vc3))] []

noncomputable def Bone_2 (F : Nat) (s : List UInt8) (i vi1 vi2 vi4 : Int) (vs5 : List UInt8) (vi6 : Int) (vc7 : Bool) : Option Ans := runB Gone cone (kP Tryz.prog Tryz.f28.results.toList) F [] [1, 1, 1, 1, 1, 1, 1, 1, 0, 1, 0, 1] [(0, .p (.str s)), (1, .p (.int .i64 i)), (7, .p (.int .i64 vi1)), (8, .p (.int .i64 vi2)), (9, .p (.int .i64 vi4)), (10, .p (.str vs5)), (66, .p (.int .u8 vi6)), (68, .p (.bool vc7))] []

noncomputable def Bone_3 (F : Nat) (s : List UInt8) (vi1 vi2 vi4 : Int) (vs8 : List UInt8) : Option Ans := runB Gone cone (kP Tryz.prog Tryz.f28.results.toList) F [] [1, 1, 1, 1, 1, 1, 1, 1, 1] [(0, .p (.str s)), (7, .p (.int .i64 vi1)), (8, .p (.int .i64 vi2)), (9, .p (.int .i64 vi4)), (10, .p (.str vs8))] []

noncomputable def Bone_4 (F : Nat) (s : List UInt8) (i vi1 vi2 vi4 : Int) (vs5 : List UInt8) (vc9 : Bool) : Option Ans := runB Gone cone (kP Tryz.prog Tryz.f28.results.toList) F [] [1, 1, 1, 1, 1, 1, 1, 1, 0, 1, 0, 1, 1, 1] [(0, .p (.str s)), (1, .p (.int .i64 i)), (7, .p (.int .i64 vi1)), (8, .p (.int .i64 vi2)), (9, .p (.int .i64 vi4)), (10, .p (.str vs5)), (73, .p (.bool vc9))] []

noncomputable def Fone (F : Nat) (s : List UInt8) (i : Int) : Option Ans := runF Gone Tryz.f28 F [.p (.str s), .p (.int .i64 i)]

theorem Bone_1_eq (F : Nat) (s : List UInt8) (i vi1 vi2 : Int) (vc3 : Bool) : Bone_1 F s i vi1 vi2 vc3 = cond (vc3) (some (.tup [.p (.str ([] : List UInt8)), .p (.int .i64 i), .p (.bool false)], [])) (need (i64ok (vi2 + (3 : Int))) (need (wposok s (vi2 + (3 : Int))) (need (0 ≤ (runS s (vi2 + (3 : Int))) ∧ (runS s (vi2 + (3 : Int))) ≤ (s.length : Int)) (cond (!(hasP (s.drop (runS s (vi2 + (3 : Int))).toNat) ([63, 61] : List UInt8))) (some (.tup [.p (.str ([] : List UInt8)), .p (.int .i64 i), .p (.bool false)], [])) (need (i64ok (vi2 + (3 : Int))) (need (0 ≤ (vi2 + (3 : Int)) ∧ (vi2 + (3 : Int)) ≤ (runS s (vi2 + (3 : Int))) ∧ (runS s (vi2 + (3 : Int))) ≤ (s.length : Int)) (need (i64ok (vi2 + (1 : Int))) (need (0 ≤ (vi2 + (1 : Int)) ∧ (vi2 + (1 : Int)) < (s.length : Int)) (cond (((s.getD (vi2 + (1 : Int)).toNat 0).toNat : Int) == (66 : Int)) (Bone_2 F s i vi1 vi2 (runS s (vi2 + (3 : Int))) ((s.take (runS s (vi2 + (3 : Int))).toNat).drop (vi2 + (3 : Int)).toNat) ((s.getD (vi2 + (1 : Int)).toNat 0).toNat : Int) (((s.getD (vi2 + (1 : Int)).toNat 0).toNat : Int) == (66 : Int))) (Bone_2 F s i vi1 vi2 (runS s (vi2 + (3 : Int))) ((s.take (runS s (vi2 + (3 : Int))).toNat).drop (vi2 + (3 : Int)).toNat) ((s.getD (vi2 + (1 : Int)).toNat 0).toNat : Int) (((s.getD (vi2 + (1 : Int)).toNat 0).toNat : Int) == (98 : Int)))))))))))) := by kernel_rfl

theorem Bone_2_eq (F : Nat) (s : List UInt8) (i vi1 vi2 vi4 : Int) (vs5 : List UInt8) (vi6 : Int) (vc7 : Bool) : Bone_2 F s i vi1 vi2 vi4 vs5 vi6 vc7 = cond (vc7) (need (vs5.length ≤ 1000000) (Bone_3 F s vi1 vi2 vi4 (looseB vs5))) (cond (vi6 == (81 : Int)) (Bone_4 F s i vi1 vi2 vi4 vs5 (vi6 == (81 : Int))) (Bone_4 F s i vi1 vi2 vi4 vs5 (vi6 == (113 : Int)))) := by kernel_rfl

theorem Bone_3_eq (F : Nat) (s : List UInt8) (vi1 vi2 vi4 : Int) (vs8 : List UInt8) : Bone_3 F s vi1 vi2 vi4 vs8 = need (0 ≤ vi1 ∧ vi1 ≤ vi2 ∧ vi2 ≤ (s.length : Int)) (need (((s.take (vi2).toNat).drop (vi1).toNat).length ≤ 1000000 ∧ vs8.length ≤ 1000000) (need (i64ok (vi4 + (2 : Int))) (some (.tup [.p (.str ((saysS ((s.take (vi2).toNat).drop (vi1).toNat) vs8).1)), .p (.int .i64 (vi4 + (2 : Int))), .p (.bool ((saysS ((s.take (vi2).toNat).drop (vi1).toNat) vs8).2))], [])))) := by kernel_rfl

theorem Bone_4_eq (F : Nat) (s : List UInt8) (i vi1 vi2 vi4 : Int) (vs5 : List UInt8) (vc9 : Bool) : Bone_4 F s i vi1 vi2 vi4 vs5 vc9 = cond (vc9) (need (vs5.length ≤ 1000000) (need ((repS vs5 95 32).length ≤ 1000000) (Bone_3 F s vi1 vi2 vi4 (qdec (repS vs5 95 32))))) (some (.tup [.p (.str ([] : List UInt8)), .p (.int .i64 i), .p (.bool false)], [])) := by kernel_rfl

theorem Fone_eq (F : Nat) (s : List UInt8) (i : Int) : Fone F s i = need (0 ≤ i ∧ i ≤ (s.length : Int)) (cond (!(hasP (s.drop (i).toNat) ([61, 63] : List UInt8))) (some (.tup [.p (.str ([] : List UInt8)), .p (.int .i64 i), .p (.bool false)], [])) (need (i64ok (i + (2 : Int))) (need (wposok s (i + (2 : Int))) (need ((!((runS s (i + (2 : Int))) == (i + (2 : Int)))) = true → i64ok ((s.length : Int) - (runS s (i + (2 : Int))))) (need ((!(((runS s (i + (2 : Int))) == (i + (2 : Int))) || (decide (((s.length : Int) - (runS s (i + (2 : Int)))) < (3 : Int))))) = true → 0 ≤ (runS s (i + (2 : Int))) ∧ (runS s (i + (2 : Int))) < (s.length : Int)) (need ((!((((runS s (i + (2 : Int))) == (i + (2 : Int))) || (decide (((s.length : Int) - (runS s (i + (2 : Int)))) < (3 : Int)))) || (((s.getD (runS s (i + (2 : Int))).toNat 0).toNat : Int) != (63 : Int)))) = true → i64ok ((runS s (i + (2 : Int))) + (2 : Int))) (need ((!((((runS s (i + (2 : Int))) == (i + (2 : Int))) || (decide (((s.length : Int) - (runS s (i + (2 : Int)))) < (3 : Int)))) || (((s.getD (runS s (i + (2 : Int))).toNat 0).toNat : Int) != (63 : Int)))) = true → 0 ≤ ((runS s (i + (2 : Int))) + (2 : Int)) ∧ ((runS s (i + (2 : Int))) + (2 : Int)) < (s.length : Int)) (Bone_1 F s i (i + (2 : Int)) (runS s (i + (2 : Int))) (((((runS s (i + (2 : Int))) == (i + (2 : Int))) || (decide (((s.length : Int) - (runS s (i + (2 : Int)))) < (3 : Int)))) || (((s.getD (runS s (i + (2 : Int))).toNat 0).toNat : Int) != (63 : Int))) || (((s.getD ((runS s (i + (2 : Int))) + (2 : Int)).toNat 0).toNat : Int) != (63 : Int))))))))))) :=
  Eq.trans (show Fone F s i = need (0 ≤ i ∧ i ≤ (s.length : Int)) (cond (!(hasP (s.drop (i).toNat) ([61, 63] : List UInt8))) (some (.tup [.p (.str ([] : List UInt8)), .p (.int .i64 i), .p (.bool false)], [])) (need (i64ok (i + (2 : Int))) (need (wposok s (i + (2 : Int))) (need ((!((runS s (i + (2 : Int))) == (i + (2 : Int)))) = true → (!((runS s (i + (2 : Int))) == (i + (2 : Int)))) = true) (need ((!((runS s (i + (2 : Int))) == (i + (2 : Int)))) = true → (!((runS s (i + (2 : Int))) == (i + (2 : Int)))) = true) (need ((!((runS s (i + (2 : Int))) == (i + (2 : Int)))) = true → (!((runS s (i + (2 : Int))) == (i + (2 : Int)))) = true) (need ((!((runS s (i + (2 : Int))) == (i + (2 : Int)))) = true → i64ok ((s.length : Int) - (runS s (i + (2 : Int))))) (need ((!((runS s (i + (2 : Int))) == (i + (2 : Int)))) = true → (!((runS s (i + (2 : Int))) == (i + (2 : Int)))) = true) (need (((runS s (i + (2 : Int))) == (i + (2 : Int))) = false → (!((runS s (i + (2 : Int))) == (i + (2 : Int)))) = true) (need ((!(((runS s (i + (2 : Int))) == (i + (2 : Int))) || (decide (((s.length : Int) - (runS s (i + (2 : Int)))) < (3 : Int))))) = true → (!(((runS s (i + (2 : Int))) == (i + (2 : Int))) || (decide (((s.length : Int) - (runS s (i + (2 : Int)))) < (3 : Int))))) = true) (need ((!(((runS s (i + (2 : Int))) == (i + (2 : Int))) || (decide (((s.length : Int) - (runS s (i + (2 : Int)))) < (3 : Int))))) = true → (!(((runS s (i + (2 : Int))) == (i + (2 : Int))) || (decide (((s.length : Int) - (runS s (i + (2 : Int)))) < (3 : Int))))) = true) (need ((!(((runS s (i + (2 : Int))) == (i + (2 : Int))) || (decide (((s.length : Int) - (runS s (i + (2 : Int)))) < (3 : Int))))) = true → 0 ≤ (runS s (i + (2 : Int))) ∧ (runS s (i + (2 : Int))) < (s.length : Int)) (need ((!(((runS s (i + (2 : Int))) == (i + (2 : Int))) || (decide (((s.length : Int) - (runS s (i + (2 : Int)))) < (3 : Int))))) = true → (!(((runS s (i + (2 : Int))) == (i + (2 : Int))) || (decide (((s.length : Int) - (runS s (i + (2 : Int)))) < (3 : Int))))) = true) (need ((((runS s (i + (2 : Int))) == (i + (2 : Int))) || (decide (((s.length : Int) - (runS s (i + (2 : Int)))) < (3 : Int)))) = false → (!(((runS s (i + (2 : Int))) == (i + (2 : Int))) || (decide (((s.length : Int) - (runS s (i + (2 : Int)))) < (3 : Int))))) = true) (need ((!((((runS s (i + (2 : Int))) == (i + (2 : Int))) || (decide (((s.length : Int) - (runS s (i + (2 : Int)))) < (3 : Int)))) || (((s.getD (runS s (i + (2 : Int))).toNat 0).toNat : Int) != (63 : Int)))) = true → (!((((runS s (i + (2 : Int))) == (i + (2 : Int))) || (decide (((s.length : Int) - (runS s (i + (2 : Int)))) < (3 : Int)))) || (((s.getD (runS s (i + (2 : Int))).toNat 0).toNat : Int) != (63 : Int)))) = true) (need ((!((((runS s (i + (2 : Int))) == (i + (2 : Int))) || (decide (((s.length : Int) - (runS s (i + (2 : Int)))) < (3 : Int)))) || (((s.getD (runS s (i + (2 : Int))).toNat 0).toNat : Int) != (63 : Int)))) = true → i64ok ((runS s (i + (2 : Int))) + (2 : Int))) (need ((!((((runS s (i + (2 : Int))) == (i + (2 : Int))) || (decide (((s.length : Int) - (runS s (i + (2 : Int)))) < (3 : Int)))) || (((s.getD (runS s (i + (2 : Int))).toNat 0).toNat : Int) != (63 : Int)))) = true → (!((((runS s (i + (2 : Int))) == (i + (2 : Int))) || (decide (((s.length : Int) - (runS s (i + (2 : Int)))) < (3 : Int)))) || (((s.getD (runS s (i + (2 : Int))).toNat 0).toNat : Int) != (63 : Int)))) = true) (need ((!((((runS s (i + (2 : Int))) == (i + (2 : Int))) || (decide (((s.length : Int) - (runS s (i + (2 : Int)))) < (3 : Int)))) || (((s.getD (runS s (i + (2 : Int))).toNat 0).toNat : Int) != (63 : Int)))) = true → (!((((runS s (i + (2 : Int))) == (i + (2 : Int))) || (decide (((s.length : Int) - (runS s (i + (2 : Int)))) < (3 : Int)))) || (((s.getD (runS s (i + (2 : Int))).toNat 0).toNat : Int) != (63 : Int)))) = true) (need ((!((((runS s (i + (2 : Int))) == (i + (2 : Int))) || (decide (((s.length : Int) - (runS s (i + (2 : Int)))) < (3 : Int)))) || (((s.getD (runS s (i + (2 : Int))).toNat 0).toNat : Int) != (63 : Int)))) = true → 0 ≤ ((runS s (i + (2 : Int))) + (2 : Int)) ∧ ((runS s (i + (2 : Int))) + (2 : Int)) < (s.length : Int)) (need ((!((((runS s (i + (2 : Int))) == (i + (2 : Int))) || (decide (((s.length : Int) - (runS s (i + (2 : Int)))) < (3 : Int)))) || (((s.getD (runS s (i + (2 : Int))).toNat 0).toNat : Int) != (63 : Int)))) = true → (!((((runS s (i + (2 : Int))) == (i + (2 : Int))) || (decide (((s.length : Int) - (runS s (i + (2 : Int)))) < (3 : Int)))) || (((s.getD (runS s (i + (2 : Int))).toNat 0).toNat : Int) != (63 : Int)))) = true) (need (((((runS s (i + (2 : Int))) == (i + (2 : Int))) || (decide (((s.length : Int) - (runS s (i + (2 : Int)))) < (3 : Int)))) || (((s.getD (runS s (i + (2 : Int))).toNat 0).toNat : Int) != (63 : Int))) = false → (!((((runS s (i + (2 : Int))) == (i + (2 : Int))) || (decide (((s.length : Int) - (runS s (i + (2 : Int)))) < (3 : Int)))) || (((s.getD (runS s (i + (2 : Int))).toNat 0).toNat : Int) != (63 : Int)))) = true) (Bone_1 F s i (i + (2 : Int)) (runS s (i + (2 : Int))) (((((runS s (i + (2 : Int))) == (i + (2 : Int))) || (decide (((s.length : Int) - (runS s (i + (2 : Int)))) < (3 : Int)))) || (((s.getD (runS s (i + (2 : Int))).toNat 0).toNat : Int) != (63 : Int))) || (((s.getD ((runS s (i + (2 : Int))) + (2 : Int)).toNat 0).toNat : Int) != (63 : Int))))))))))))))))))))))))) by kernel_rfl) (need_congr (cond_congr (rfl) (need_congr (need_congr (need_strike (show (!((runS s (i + (2 : Int))) == (i + (2 : Int)))) = true → (!((runS s (i + (2 : Int))) == (i + (2 : Int)))) = true from (fun q0 => q0)) (need_strike (show (!((runS s (i + (2 : Int))) == (i + (2 : Int)))) = true → (!((runS s (i + (2 : Int))) == (i + (2 : Int)))) = true from (fun q0 => q0)) (need_strike (show (!((runS s (i + (2 : Int))) == (i + (2 : Int)))) = true → (!((runS s (i + (2 : Int))) == (i + (2 : Int)))) = true from (fun q0 => q0)) (need_congr (need_strike (show (!((runS s (i + (2 : Int))) == (i + (2 : Int)))) = true → (!((runS s (i + (2 : Int))) == (i + (2 : Int)))) = true from (fun q0 => q0)) (need_strike (show ((runS s (i + (2 : Int))) == (i + (2 : Int))) = false → (!((runS s (i + (2 : Int))) == (i + (2 : Int)))) = true from (fun q0 => (not_mk q0))) (need_strike (show (!(((runS s (i + (2 : Int))) == (i + (2 : Int))) || (decide (((s.length : Int) - (runS s (i + (2 : Int)))) < (3 : Int))))) = true → (!(((runS s (i + (2 : Int))) == (i + (2 : Int))) || (decide (((s.length : Int) - (runS s (i + (2 : Int)))) < (3 : Int))))) = true from (fun q0 => q0)) (need_strike (show (!(((runS s (i + (2 : Int))) == (i + (2 : Int))) || (decide (((s.length : Int) - (runS s (i + (2 : Int)))) < (3 : Int))))) = true → (!(((runS s (i + (2 : Int))) == (i + (2 : Int))) || (decide (((s.length : Int) - (runS s (i + (2 : Int)))) < (3 : Int))))) = true from (fun q0 => q0)) (need_congr (need_strike (show (!(((runS s (i + (2 : Int))) == (i + (2 : Int))) || (decide (((s.length : Int) - (runS s (i + (2 : Int)))) < (3 : Int))))) = true → (!(((runS s (i + (2 : Int))) == (i + (2 : Int))) || (decide (((s.length : Int) - (runS s (i + (2 : Int)))) < (3 : Int))))) = true from (fun q0 => q0)) (need_strike (show (((runS s (i + (2 : Int))) == (i + (2 : Int))) || (decide (((s.length : Int) - (runS s (i + (2 : Int)))) < (3 : Int)))) = false → (!(((runS s (i + (2 : Int))) == (i + (2 : Int))) || (decide (((s.length : Int) - (runS s (i + (2 : Int)))) < (3 : Int))))) = true from (fun q0 => (not_mk q0))) (need_strike (show (!((((runS s (i + (2 : Int))) == (i + (2 : Int))) || (decide (((s.length : Int) - (runS s (i + (2 : Int)))) < (3 : Int)))) || (((s.getD (runS s (i + (2 : Int))).toNat 0).toNat : Int) != (63 : Int)))) = true → (!((((runS s (i + (2 : Int))) == (i + (2 : Int))) || (decide (((s.length : Int) - (runS s (i + (2 : Int)))) < (3 : Int)))) || (((s.getD (runS s (i + (2 : Int))).toNat 0).toNat : Int) != (63 : Int)))) = true from (fun q0 => q0)) (need_congr (need_strike (show (!((((runS s (i + (2 : Int))) == (i + (2 : Int))) || (decide (((s.length : Int) - (runS s (i + (2 : Int)))) < (3 : Int)))) || (((s.getD (runS s (i + (2 : Int))).toNat 0).toNat : Int) != (63 : Int)))) = true → (!((((runS s (i + (2 : Int))) == (i + (2 : Int))) || (decide (((s.length : Int) - (runS s (i + (2 : Int)))) < (3 : Int)))) || (((s.getD (runS s (i + (2 : Int))).toNat 0).toNat : Int) != (63 : Int)))) = true from (fun q0 => q0)) (need_strike (show (!((((runS s (i + (2 : Int))) == (i + (2 : Int))) || (decide (((s.length : Int) - (runS s (i + (2 : Int)))) < (3 : Int)))) || (((s.getD (runS s (i + (2 : Int))).toNat 0).toNat : Int) != (63 : Int)))) = true → (!((((runS s (i + (2 : Int))) == (i + (2 : Int))) || (decide (((s.length : Int) - (runS s (i + (2 : Int)))) < (3 : Int)))) || (((s.getD (runS s (i + (2 : Int))).toNat 0).toNat : Int) != (63 : Int)))) = true from (fun q0 => q0)) (need_congr (need_strike (show (!((((runS s (i + (2 : Int))) == (i + (2 : Int))) || (decide (((s.length : Int) - (runS s (i + (2 : Int)))) < (3 : Int)))) || (((s.getD (runS s (i + (2 : Int))).toNat 0).toNat : Int) != (63 : Int)))) = true → (!((((runS s (i + (2 : Int))) == (i + (2 : Int))) || (decide (((s.length : Int) - (runS s (i + (2 : Int)))) < (3 : Int)))) || (((s.getD (runS s (i + (2 : Int))).toNat 0).toNat : Int) != (63 : Int)))) = true from (fun q0 => q0)) (need_strike (show ((((runS s (i + (2 : Int))) == (i + (2 : Int))) || (decide (((s.length : Int) - (runS s (i + (2 : Int)))) < (3 : Int)))) || (((s.getD (runS s (i + (2 : Int))).toNat 0).toNat : Int) != (63 : Int))) = false → (!((((runS s (i + (2 : Int))) == (i + (2 : Int))) || (decide (((s.length : Int) - (runS s (i + (2 : Int)))) < (3 : Int)))) || (((s.getD (runS s (i + (2 : Int))).toNat 0).toNat : Int) != (63 : Int)))) = true from (fun q0 => (not_mk q0))) (rfl)))))))))))))))))))))))

theorem fn_one (F : Nat) (s : List UInt8) (i : Int) (r : AV) (h : (∃ M vs, ARels γ0 M [.p (.str s), .p (.int .i64 i)] vs) → Fone F s i = some (r, [])) : FnP Tryz.prog 28 [.p (.str s), .p (.int .i64 i)] r :=
  FnP_run Gone F rfl (EnvOk_mk (l := [(45, sp_hp), (46, sp_wrun), (47, sp_Loose), (48, sp_QDecode), (49, sp_repa), (50, sp_says)]) ⟨ok_hp.any, ok_wrun.any, ok_Loose.any, ok_QDecode.any, ok_repa.any, ok_says.any, trivial⟩) (EnvROk_mk (l := []) trivial) (Checked.mixed Tryz.checked) (fn := Tryz.f28) (by kernel_rfl) (by kernel_rfl) rfl h
theorem one_eq (s : List UInt8) (i : Int) (h : wposok s i) : Fone 0 s i = some (oneT (oneS s i), []) := by
  obtain ⟨h0, h1, h2⟩ := h
  obtain ⟨i, rfl⟩ := Int.eq_ofNat_of_zero_le h0
  have hi : i ≤ s.length := by omega
  rw [Fone_eq]
  refine need_mk (by first | omega | (unfold i64ok; omega) | (simp only [List.length_cons, List.length_nil]; omega) | (simp; omega) | simp) ?_
  rw [oneS, parse]
  rw [show ((i : Int)).toNat = i from rfl]
  by_cases c1 : hasP (s.drop i) sOpen = false
  · refine cond_t (by rw [c1]; rfl) ?_
    rw [if_pos c1]; rfl
  · have c1' : hasP (s.drop i) sOpen = true := by simpa using c1
    refine cond_f (by rw [c1']; rfl) ?_
    rw [if_neg c1]
    have hlen : i + 2 ≤ s.length := by have := hasP2 c1'; simp at this; omega
    refine need_mk (by first | omega | (unfold i64ok; omega) | (simp only [List.length_cons, List.length_nil]; omega) | (simp; omega) | simp) ?_
    have e2 : (i : Int) + 2 = ((i + 2 : Nat) : Int) := by omega
    rw [e2]
    refine need_mk ⟨by omega, by omega, h2⟩ ?_
    have hr := runN_le (s := s) (i := i + 2) hlen
    rw [show runS s ((i + 2 : Nat) : Int) = (runN s (i + 2) : Int) from rfl]
    generalize runN s (i + 2) = a at hr ⊢
    rw [show ((a : Int)).toNat = a from rfl]
    refine need_mk (fun _ => by unfold i64ok; omega) ?_
    have ea2 : ((a : Int) + 2).toNat = a + 2 := by omega
    rw [ea2]
    refine need_mk (fun h => by simp at h; omega) (need_mk (fun h => by unfold i64ok; omega) (need_mk (fun h => by simp at h; omega) ?_))
    have hB : ((((a : Int) == ((i + 2 : Nat) : Int)) || (decide ((s.length : Int) - (a : Int) < (3 : Int)))) || (((s.getD a 0).toNat : Int) != (63 : Int)) || (((s.getD (a + 2) 0).toNat : Int) != (63 : Int))) =
        decide (a = i + 2 ∨ s.length < a + 3 ∨ s.getD a 0 ≠ 63 ∨ s.getD (a + 2) 0 ≠ 63) := by
      rw [show (63 : Int) = ((63 : UInt8).toNat : Int) from rfl, u8ne, u8ne, Bool.eq_iff_iff]
      simp only [Bool.or_eq_true, decide_eq_true_eq, beq_iff_eq, bne_iff_ne]
      constructor
      · rintro (((h | h) | h) | h)
        · exact .inl (by omega)
        · exact .inr (.inl (by omega))
        · exact .inr (.inr (.inl h))
        · exact .inr (.inr (.inr h))
      · rintro (h | h | h | h)
        · exact .inl (.inl (.inl (by omega)))
        · exact .inl (.inl (.inr (by omega)))
        · exact .inl (.inr h)
        · exact .inr h
    rw [hB, Bone_1_eq]
    by_cases c2 : a = i + 2 ∨ s.length < a + 3 ∨ s.getD a 0 ≠ 63 ∨ s.getD (a + 2) 0 ≠ 63
    · refine cond_t (decide_eq_true c2) ?_
      rw [if_pos c2]; rfl
    · refine cond_f (decide_eq_false c2) ?_
      rw [if_neg c2]
      have ha3 : a + 3 ≤ s.length := by
        rcases Nat.lt_or_ge s.length (a + 3) with h | h
        · exact absurd (.inr (.inl h)) c2
        · exact h
      have e3 : (a : Int) + 3 = ((a + 3 : Nat) : Int) := by omega
      have e1 : ((a : Int) + 1).toNat = a + 1 := by omega
      refine need_mk (by first | omega | (unfold i64ok; omega) | (simp only [List.length_cons, List.length_nil]; omega) | (simp; omega) | simp) ?_
      rw [e3, e1]
      refine need_mk ⟨by omega, by omega, h2⟩ ?_
      have hb := runN_le (s := s) (i := a + 3) ha3
      rw [show runS s ((a + 3 : Nat) : Int) = (runN s (a + 3) : Int) from rfl]
      generalize runN s (a + 3) = b at hb ⊢
      rw [show ((b : Int)).toNat = b from rfl, show (((a + 3 : Nat) : Int)).toNat = a + 3 from rfl]
      refine need_mk (by first | omega | (unfold i64ok; omega) | (simp only [List.length_cons, List.length_nil]; omega) | (simp; omega) | simp) ?_
      by_cases c3 : hasP (s.drop b) sShut = false
      · refine cond_t (by rw [c3]; rfl) ?_
        rw [if_pos c3]; rfl
      · have c3' : hasP (s.drop b) sShut = true := by simpa using c3
        refine cond_f (by rw [c3']; rfl) ?_
        rw [if_neg c3]
        have hb2 : b + 2 ≤ s.length := by have := hasP2 c3'; simp at this; omega
        refine need_mk (by first | omega | (unfold i64ok; omega) | (simp only [List.length_cons, List.length_nil]; omega) | (simp; omega) | simp) ?_
        refine need_mk (by first | omega | (unfold i64ok; omega) | (simp only [List.length_cons, List.length_nil]; omega) | (simp; omega) | simp) ?_
        refine need_mk (by first | omega | (unfold i64ok; omega) | (simp only [List.length_cons, List.length_nil]; omega) | (simp; omega) | simp) ?_
        refine need_mk (by first | omega | (unfold i64ok; omega) | (simp only [List.length_cons, List.length_nil]; omega) | (simp; omega) | simp) ?_
        dsimp only
        have htl := mid_len s (a + 3) b
        generalize s.getD (a + 1) 0 = k
        generalize (s.take b).drop (a + 3) = t at htl ⊢
        have fin : ∀ u : List UInt8, u.length ≤ 1000000 → Bone_3 0 s ((i + 2 : Nat) : Int) (a : Int) (b : Int) u =
            some (oneT ((saysS ((s.take a).drop (i + 2)) u).1, ((b + 2 : Nat) : Int), (saysS ((s.take a).drop (i + 2)) u).2), []) := fun u hu => by
          have hm := mid_len s (i + 2) a
          rw [Bone_3_eq, show (((i + 2 : Nat) : Int)).toNat = i + 2 from rfl, show ((a : Int)).toNat = a from rfl]
          refine need_mk (by omega) (need_mk ⟨by omega, hu⟩ (need_mk (by unfold i64ok; omega) ?_))
          rfl
        have hl := looseG_len t 0 0
        have hq := qdec_len _ (repS t 95 32) (Nat.le_refl _)
        rw [rep_len] at hq
        have two : ∀ B, B = decide (k = 66 ∨ k = 98) → Bone_2 0 s (i : Int) ((i + 2 : Nat) : Int) (a : Int) (b : Int) t (k.toNat : Int) B = some (oneT (match bodyS k t with
            | none => ([], (i : Int), false)
            | some u => ((saysS ((s.take a).drop (i + 2)) u).1, ((b + 2 : Nat) : Int), (saysS ((s.take a).drop (i + 2)) u).2)), []) := by
          intro B hB
          rw [hB, Bone_2_eq, bodyS]
          by_cases k1 : k = 66 ∨ k = 98
          · refine cond_t (decide_eq_true k1) (need_mk (by omega) ?_)
            rw [if_pos k1]
            exact fin _ (by unfold looseB; omega)
          · refine cond_f (decide_eq_false k1) ?_
            rw [if_neg k1]
            have four : ∀ B, B = decide (k = 81 ∨ k = 113) → Bone_4 0 s (i : Int) ((i + 2 : Nat) : Int) (a : Int) (b : Int) t B = some (oneT (match (if k = 81 ∨ k = 113 then some (qdec (repS t 95 32)) else none) with
                | none => ([], (i : Int), false)
                | some u => ((saysS ((s.take a).drop (i + 2)) u).1, ((b + 2 : Nat) : Int), (saysS ((s.take a).drop (i + 2)) u).2)), []) := by
              intro B hB
              rw [hB, Bone_4_eq]
              by_cases k2 : k = 81 ∨ k = 113
              · refine cond_t (decide_eq_true k2) (need_mk (by omega) (need_mk (by rw [rep_len]; omega) ?_))
                rw [if_pos k2]
                exact fin _ (by omega)
              · refine cond_f (decide_eq_false k2) ?_
                rw [if_neg k2]; rfl
            rw [show (81 : Int) = ((81 : UInt8).toNat : Int) from rfl, show (113 : Int) = ((113 : UInt8).toNat : Int) from rfl, u8n, u8n]
            by_cases k3 : k = 81
            · refine cond_t (by simpa using k3) (four _ (by simp [k3]))
            · refine cond_f (by simpa using k3) (four _ (by rw [Bool.eq_iff_iff]; simp [k3]))
        rw [show (66 : Int) = ((66 : UInt8).toNat : Int) from rfl, show (98 : Int) = ((98 : UInt8).toNat : Int) from rfl, u8n, u8n]
        by_cases k3 : k = 66
        · refine cond_t (by simpa using k3) (two _ (by simp [k3]))
        · refine cond_f (by simpa using k3) (two _ (by rw [Bool.eq_iff_iff]; simp [k3]))
def sp_one : List AV → Option (AV × Option Prop)
  | [.p (.str s), .p (.int .i64 i)] => some (.tup [.p (.str ((oneS s i).1)), .p (.int .i64 ((oneS s i).2.1)), .p (.bool ((oneS s i).2.2))], some (wposok s i))
  | _ => none
theorem ok_one : SpecOk Tryz.prog 28 sp_one := by
  intro zs r ok he hok
  unfold sp_one at he
  split at he
  · cases he; exact ⟨by kernel_rfl, fn_one 0 _ _ _ fun hx => one_eq _ _ hok⟩
  · cases he
end Go.Proofs.YtfadnlnmlkemfaaGreatDoor
namespace Go.Proofs.YtfadnlnmlkemfaaGreatDoor
open Go Go.Am
set_option linter.unusedVariables false
def okAt (s : List UInt8) (i : Nat) : Option (List UInt8 × Nat) := if (oneS s (i : Int)).2.2 = true then some ((oneS s (i : Int)).1, (oneS s (i : Int)).2.1.toNat) else none
def contN (s : List UInt8) (n : Nat) : Nat := if blN s n < s.length ∧ (okAt s (blN s n)).isSome = true then blN s n else n
def decF : Nat → List UInt8 → Nat → List UInt8
  | 0, _, _ => []
  | f + 1, s, i => if i < s.length then
      match okAt s i with
      | none => s.getD i 0 :: decF f s (i + 1)
      | some (t, n) => t ++ decF f s (contN s n)
    else []
def dec (s : List UInt8) (i : Nat) : List UInt8 := decF (s.length - i + 1) s i
def wordS (s : List UInt8) : List UInt8 := dec s 0
theorem bytesS_len : ∀ u : List UInt8, (bytesS u).length ≤ 4 * u.length
  | [] => by simp [bytesS]
  | c :: r => by
    have := bytesS_len r
    have h := putS_len (c.toNat : Int)
    unfold bytesS at *
    rw [List.flatMap_cons, List.length_append, List.length_cons]; omega
theorem bodyS_len {k : UInt8} {t u : List UInt8} (h : bodyS k t = some u) : u.length ≤ 3 * t.length + 2 := by
  unfold bodyS at h
  split at h
  · cases h; exact looseG_len t 0 0
  · split at h
    · cases h
      have := qdec_len _ (repS t 95 32) (Nat.le_refl _)
      rw [rep_len] at this; omega
    · cases h
theorem saysS_len (c u : List UInt8) : (saysS c u).1.length ≤ 4 * u.length := by
  unfold saysS
  split
  · simp; omega
  · split
    · exact bytesS_len u
    · simp
theorem parse_some {s : List UInt8} {i a b : Nat} (h : parse s i = some (a, b)) : i + 3 ≤ a ∧ a + 3 ≤ b ∧ b + 2 ≤ s.length ∧ s.getD i 0 = 61 := by
  unfold parse at h
  split at h
  · cases h
  · rename_i c1
    split at h
    · cases h
    · rename_i c2
      split at h
      · cases h
      · rename_i c3
        cases h
        have c1' : hasP (s.drop i) sOpen = true := by simpa using c1
        have c3' : hasP (s.drop (runN s (runN s (i + 2) + 3))) sShut = true := by simpa using c3
        have h1 := hasP2 c1'
        have h3 := hasP2 c3'
        simp only [List.length_drop, List.length_cons, List.length_nil] at h1 h3
        have r1 := runN_le (s := s) (i := i + 2) (by omega)
        have n1 : runN s (i + 2) ≠ i + 2 := fun e => c2 (.inl e)
        have n2 : ¬ s.length < runN s (i + 2) + 3 := fun e => c2 (.inr (.inl e))
        have r2 := runN_le (s := s) (i := runN s (i + 2) + 3) (by omega)
        refine ⟨by omega, by omega, by omega, ?_⟩
        unfold hasP at c1'
        rw [beq_iff_eq] at c1'
        have := take_cons (s := s) (j := i) (m := 1) (by omega)
        rw [show sOpen.length = 1 + 1 from rfl, this] at c1'
        exact (List.cons.inj c1').1
theorem okAt_some {s : List UInt8} {i : Nat} {t : List UInt8} {n : Nat} (h : okAt s i = some (t, n)) : oneS s (i : Int) = (t, (n : Int), true) ∧ i + 8 ≤ n ∧ n ≤ s.length ∧ s.getD i 0 = 61 ∧ t.length + 8 * i ≤ 12 * n + 8 * i ∧ t.length ≤ 12 * (n - i) := by
  unfold okAt at h
  split at h
  · rename_i hok
    cases h
    unfold oneS at *
    rw [show ((i : Int)).toNat = i from rfl] at *
    cases hp : parse s i with
    | none => rw [hp] at hok; cases hok
    | some p =>
      obtain ⟨a, b⟩ := p
      obtain ⟨h1, h2, h3, h4⟩ := parse_some hp
      rw [hp] at hok
      dsimp only at hok ⊢
      cases hb : bodyS (s.getD (a + 1) 0) ((s.take b).drop (a + 3)) with
      | none => rw [hb] at hok; cases hok
      | some u =>
        rw [hb] at hok
        dsimp only at hok ⊢
        have l1 := bodyS_len hb
        have l2 := saysS_len ((s.take a).drop (i + 2)) u
        have l3 : ((s.take b).drop (a + 3)).length ≤ b - (a + 3) := by simp; omega
        rw [hok]
        refine ⟨rfl, ?_, ?_, h4, ?_, ?_⟩ <;> rw [show (((b + 2 : Nat) : Int)).toNat = b + 2 from rfl] <;> omega
  · cases h
theorem okAt_none {s : List UInt8} {i : Nat} (h : okAt s i = none) : (oneS s (i : Int)).2.2 = false := by
  unfold okAt at h
  split at h
  · cases h
  · rename_i hok; simpa using hok
theorem contN_le {s : List UInt8} {n : Nat} (h : n ≤ s.length) : n ≤ contN s n ∧ contN s n ≤ s.length := by
  have := blN_le h
  unfold contN
  split <;> omega
theorem decF_eq (s : List UInt8) : ∀ (f g i : Nat), s.length - i < f → s.length - i < g → decF f s i = decF g s i := by
  intro f
  induction f with
  | zero => intro g i h; omega
  | succ f ih =>
    intro g i hf hg
    cases g with
    | zero => omega
    | succ g =>
      rw [decF, decF]
      by_cases hi : i < s.length
      · rw [if_pos hi, if_pos hi]
        cases ho : okAt s i with
        | none => dsimp only; rw [ih g (i + 1) (by omega) (by omega)]
        | some p =>
          obtain ⟨t, n⟩ := p
          obtain ⟨_, h1, h2, _⟩ := okAt_some ho
          have := contN_le h2
          dsimp only
          rw [ih g (contN s n) (by omega) (by omega)]
      · rw [if_neg hi, if_neg hi]
theorem dec_end {s : List UInt8} {i : Nat} (h : s.length ≤ i) : dec s i = [] := by rw [dec, decF, if_neg (by omega)]
theorem dec_none {s : List UInt8} {i : Nat} (h : i < s.length) (ho : okAt s i = none) : dec s i = s.getD i 0 :: dec s (i + 1) := by
  rw [dec, decF, if_pos h, ho]
  dsimp only
  rw [dec, decF_eq s (s.length - i) (s.length - (i + 1) + 1) (i + 1) (by omega) (by omega)]
theorem dec_some {s : List UInt8} {i n : Nat} {t : List UInt8} (h : i < s.length) (ho : okAt s i = some (t, n)) : dec s i = t ++ dec s (contN s n) := by
  obtain ⟨_, h1, h2, _⟩ := okAt_some ho
  have := contN_le h2
  rw [dec, decF, if_pos h, ho]
  dsimp only
  rw [dec, decF_eq s (s.length - i) (s.length - (contN s n) + 1) (contN s n) (by omega) (by omega)]
noncomputable def cwdec : Code := bodyOf Tryz.f20

noncomputable def Gwdec : Cfg := ⟨Tryz.prog, mkEnv [(28, sp_one), (31, sp_wbl)], mkEnvR [(29, sp_wbyte), (30, sp_wstr), (32, sp_bstr)], 51, [], [([0, 0, 1, 1, 1, 0, 1], ⟨[0, 3, 4], [⟨.slot 3, 3, .cells []⟩, ⟨.cell 3 1, 4001, (.barr 5 false [])⟩]⟩)], [([0, 0, 1, 0, 1, 0, 1, 0, 0, 0, 1, 1, 1, 0, 1], [3]), ([0, 1, 1, 0, 1, 0, 0, 0, 1, 1, 1, 0, 1], [1]), ([0, 1, 1, 1, 1, 0, 1], [0])]⟩

noncomputable def Bwdec_1 (F f1 : Nat) (s : List UInt8) (vi1 : Int) (vb2 : List UInt8) : Option Ans := runR Gwdec cwdec (kP Tryz.prog Tryz.f20.results.toList) F [] [1, 0, 1, 1, 1, 0, 0] f1 [(0, .p (.str s)), (3, .ref 3 0), (4, .p (.int .i64 vi1))] [(3, .bldr 67 (.arr 4001)), (4001, .barr 5 false vb2)]

noncomputable def Fwdec (F : Nat) (s : List UInt8) : Option Ans := runF Gwdec Tryz.f20 F [.p (.str s)]

theorem Bwdec_1_eq (F f1 : Nat) (s : List UInt8) (vi1 : Int) (vb2 : List UInt8) : Bwdec_1 F (f1 + 1) s vi1 vb2 = cond (decide (vi1 < (s.length : Int))) (need (wposok s vi1) (cond (!((oneS s vi1).2.2)) (need (0 ≤ vi1 ∧ vi1 < (s.length : Int)) (need (vb2.length + 1 ≤ 140737488355328) (need (i64ok (vi1 + (1 : Int))) (Bwdec_1 F f1 s (vi1 + (1 : Int)) (vb2 ++ [UInt8.ofNat (((s.getD (vi1).toNat 0).toNat : Int)).toNat]))))) (need (vb2.length + ((oneS s vi1).1).length ≤ 140737488355328) (need (wposok s ((oneS s vi1).2.1)) (cond (decide ((blankS s ((oneS s vi1).2.1)) < (s.length : Int))) (need (wposok s (blankS s ((oneS s vi1).2.1))) (cond ((oneS s (blankS s ((oneS s vi1).2.1))).2.2) (Bwdec_1 F f1 s (blankS s ((oneS s vi1).2.1)) (vb2 ++ ((oneS s vi1).1))) (Bwdec_1 F f1 s ((oneS s vi1).2.1) (vb2 ++ ((oneS s vi1).1))))) (Bwdec_1 F f1 s ((oneS s vi1).2.1) (vb2 ++ ((oneS s vi1).1)))))))) (some (.p (.str vb2), [])) := by kernel_rfl

theorem Fwdec_eq (F : Nat) (s : List UInt8) : Fwdec F s = Bwdec_1 F F s (0 : Int) [] := by kernel_rfl

theorem fn_wdec (F : Nat) (s : List UInt8) (r : AV) (h : (∃ M vs, ARels γ0 M [.p (.str s)] vs) → Fwdec F s = some (r, [])) : FnP Tryz.prog 20 [.p (.str s)] r :=
  FnP_run Gwdec F rfl (EnvOk_mk (l := [(28, sp_one), (31, sp_wbl)]) ⟨ok_one.any, ok_wbl.any, trivial⟩) (EnvROk_mk (l := [(29, sp_wbyte), (30, sp_wstr), (32, sp_bstr)]) ⟨ok_wbyte, ok_wstr, ok_bstr, trivial⟩) (Checked.mixed Tryz.checked) (fn := Tryz.f20) (by kernel_rfl) (by kernel_rfl) rfl h
theorem u8self (c : UInt8) : UInt8.ofNat ((c.toNat : Int)).toNat = c := by simp
theorem Bwdec_spec (F : Nat) (s : List UInt8) (hs : s.length ≤ 100000) : ∀ (f i : Nat) (acc : List UInt8), s.length - i < f → i ≤ s.length → acc.length ≤ 12 * i →
    Bwdec_1 F f s (i : Int) acc = some (.p (.str (acc ++ dec s i)), []) := by
  intro f
  induction f with
  | zero => intro i acc h; omega
  | succ f ih =>
    intro i acc hf hi ha
    rw [Bwdec_1_eq]
    by_cases h : i < s.length
    · refine cond_t (by simpa using h) (need_mk ⟨by omega, by omega, hs⟩ ?_)
      rw [show ((i : Int)).toNat = i from rfl, u8self]
      cases ho : okAt s i with
      | none =>
        rw [okAt_none ho]
        refine cond_t rfl ?_
        refine need_mk (by first | omega | (unfold i64ok; omega) | (simp only [List.length_cons, List.length_nil]; omega) | (simp; omega) | simp) ?_
        refine need_mk (by first | omega | (unfold i64ok; omega) | (simp only [List.length_cons, List.length_nil]; omega) | (simp; omega) | simp) ?_
        refine need_mk (by first | omega | (unfold i64ok; omega) | (simp only [List.length_cons, List.length_nil]; omega) | (simp; omega) | simp) ?_
        have e : (i : Int) + 1 = ((i + 1 : Nat) : Int) := by omega
        rw [e, ih (i + 1) _ (by omega) (by omega) (by simp; omega), dec_none h ho]
        simp
      | some p =>
        obtain ⟨t, n⟩ := p
        obtain ⟨h1, h2, h3, _, _, h4⟩ := okAt_some ho
        rw [h1]
        refine cond_f rfl (need_mk (by dsimp only; omega) (need_mk ⟨by dsimp only; omega, by dsimp only; omega, hs⟩ ?_))
        dsimp only
        rw [show blankS s (n : Int) = (blN s n : Int) from rfl, dec_some h ho]
        have hb := blN_le h3
        have fin : ∀ m, m = contN s n → Bwdec_1 F f s (m : Int) (acc ++ t) = some (.p (.str (acc ++ (t ++ dec s (contN s n)))), []) := fun m hm => by
          have := contN_le h3
          rw [hm, ih (contN s n) (acc ++ t) (by omega) (by omega) (by simp; omega), List.append_assoc]
        by_cases c1 : blN s n < s.length
        · refine cond_t (by simpa using c1) (need_mk ⟨by omega, by omega, hs⟩ ?_)
          cases ho2 : okAt s (blN s n) with
          | none =>
            rw [okAt_none ho2]
            exact cond_f rfl (fin n (by unfold contN; rw [if_neg (by rw [ho2]; simp)]))
          | some q =>
            obtain ⟨t2, n2⟩ := q
            rw [(okAt_some ho2).1]
            exact cond_t rfl (fin (blN s n) (by unfold contN; rw [if_pos ⟨c1, by rw [ho2]; rfl⟩]))
        · exact cond_f (by simpa using c1) (fin n (by unfold contN; rw [if_neg (fun h => c1 h.1)]))
    · refine cond_f (by simpa using h) ?_
      rw [dec_end (by omega)]; simp
theorem wdec_eq (s : List UInt8) (hs : s.length ≤ 100000) : Fwdec (s.length + 1) s = some (.p (.str (wordS s)), []) := by
  rw [Fwdec_eq]
  exact Bwdec_spec _ s hs (s.length + 1) 0 [] (by omega) (by omega) (by simp)
def sp_wdec : List AV → Option (AV × Option Prop)
  | [.p (.str s)] => some (.p (.str (wordS s)), some (s.length ≤ 100000))
  | _ => none
theorem ok_wdec : SpecOk Tryz.prog 20 sp_wdec := by
  intro zs r ok he hok
  unfold sp_wdec at he
  split at he
  · cases he; exact ⟨by kernel_rfl, fn_wdec (_) _ _ fun hx => wdec_eq _ hok⟩
  · cases he
end Go.Proofs.YtfadnlnmlkemfaaGreatDoor
namespace Go.Proofs.YtfadnlnmlkemfaaGreatDoor
open Go Go.Am
set_option linter.unusedVariables false
/-! strings.Replacer: the once and the lock. The frame is that of the kit's worked row of sync.Once. -/
end Go.Proofs.YtfadnlnmlkemfaaGreatDoor
namespace Go.Proofs.YtfadnlnmlkemfaaGreatDoor
open Go Go.RowKit
theorem rp_disable (w : World) : (callFunc 69 #[]).run Tryz.prog w = .ok (.value (.tuple #[])) w := run_call_mark0 Tryz.func69 (by kernel_rfl) (by kernel_rfl) (by kernel_rfl) .disable (by kernel_rfl) w
theorem rp_enable (w : World) : (callFunc 71 #[]).run Tryz.prog w = .ok (.value (.tuple #[])) w := run_call_mark0 Tryz.func71 (by kernel_rfl) (by kernel_rfl) (by kernel_rfl) .enable (by kernel_rfl) w
theorem rp_acquire (a : Addr) (w : World) : (callFunc 72 #[.pointer (some a)]).run Tryz.prog w = .ok (.value (.tuple #[])) w := run_call_marked Tryz.func72 (by kernel_rfl) (by kernel_rfl) (by kernel_rfl) .acquire (by kernel_rfl) a w
theorem rp_releaseMerge (a : Addr) (w : World) : (callFunc 74 #[.pointer (some a)]).run Tryz.prog w = .ok (.value (.tuple #[])) w := run_call_marked Tryz.func74 (by kernel_rfl) (by kernel_rfl) (by kernel_rfl) .releaseMerge (by kernel_rfl) a w
set_option maxRecDepth 100000 in
set_option maxHeartbeats 1600000 in
theorem rp_store (a : Addr) (x : Value) (u : FrameMode) (w : World) (hc : w.cell? a = some x) (hz : w.frozen? a = false) :
    CallsD Tryz.prog 42 #[.pointer (some a), .bool true] u w fun e u' w' => u' = u ∧ (e = .returned (.tuple #[]) ∧ w' = w.drew.setCell a (.int .u32 1)) := by
  have hc' : w.drew.cell? a = some x := by go_simp
  have hz' : w.drew.frozen? a = false := by go_simp
  have hst := run_call_store (P := Tryz.prog) Tryz.func57 (by kernel_rfl) (by kernel_rfl) (by kernel_rfl) (by kernel_rfl) (k := .u32) (y := 1) hc' hz'
  go_enter_d Tryz.func42, Tryz.ntmps42
  go_wp2
  go_region_calls
  all_goals (go_end0; exact ⟨rfl, rfl⟩)
set_option maxRecDepth 100000 in
set_option maxHeartbeats 1600000 in
theorem rp_unlock (a : Addr) (u : FrameMode) (w : World) (hc : w.cell? a = some (.int .i32 1)) (hz : w.frozen? a = false) :
    CallsD Tryz.prog 41 #[.pointer (some a)] u w fun e u' w' => u' = u ∧ (e = .returned (.tuple #[]) ∧ w' = w.setCell a (.int .i32 0)) := by
  have hd := rp_disable
  have he := rp_enable
  have hr := rp_releaseMerge
  have hadd := run_call_add (P := Tryz.prog) Tryz.func75 (by kernel_rfl) (by kernel_rfl) (by kernel_rfl) .i32 (by kernel_rfl) (y := -1) (s := 0) hc hz (by simp [go_sem]; rfl)
  have hcv := run_convert_to_unsafe (P := Tryz.prog) (src := 122) (dst := 119) Tryz.underlying122 Tryz.underlying119 (by kernel_rfl) hc
  go_enter_d Tryz.func41, Tryz.ntmps41
  go_wp2
  go_end0
  go_wp2
  go_end0
  exact ⟨rfl, rfl⟩
set_option maxRecDepth 100000 in
set_option maxHeartbeats 1600000 in
theorem rp_lock (a : Addr) (w : World) (hc : w.cell? a = some (.int .i32 0)) (hz : w.frozen? a = false) :
    Calls Tryz.prog 40 #[.pointer (some a)] w fun e w' => e = .returned (.tuple #[]) ∧ w' = w.setCell a (.int .i32 1) := by
  have hd := rp_disable
  have he := rp_enable
  have ha := rp_acquire
  have hcas := run_call_cas_hit (P := Tryz.prog) Tryz.func70 (by kernel_rfl) (by kernel_rfl) (by kernel_rfl) .i32 (by kernel_rfl) (y := 1) hc hz
  have hc' : (w.setCell a (.int .i32 1)).cell? a = some (.int .i32 1) := World.cell?_setCell_same w a _ hc
  have hcv := run_convert_to_unsafe (P := Tryz.prog) (src := 122) (dst := 119) Tryz.underlying122 Tryz.underlying119 (by kernel_rfl) hc'
  go_enter Tryz.func40, Tryz.ntmps40
  go_wp2
  first | go_end0 | (simp only [Exit.inBlock, Exit.then]; refine bodyPost_ret (results_none rfl _ _ _) rfl ?_) | refine bodyPost_ret (results_none rfl _ _ _) rfl ?_
  go_wp2
  go_end0
  exact ⟨rfl, rfl⟩
end Go.Proofs.YtfadnlnmlkemfaaGreatDoor
namespace Go.Proofs.YtfadnlnmlkemfaaGreatDoor
open Go Go.Am
set_option linter.unusedVariables false
/-! strings.Replacer: what is built of two blanks. -/
end Go.Proofs.YtfadnlnmlkemfaaGreatDoor
namespace Go.Proofs.YtfadnlnmlkemfaaGreatDoor
open Go Go.RowKit
noncomputable def rpA (v : Value) : Array Value := (Tryz.zeroCells93.toList.set 256 v).toArray
theorem rp_made (w : World) : (storeCells ⟨w.heap.size + 1, 0, none⟩ (Tryz.zeroCells93.toList.set 256 (.slice (some ⟨w.heap.size, 0, none⟩) 0 2))).run Tryz.prog ((w.alloc (.cells #[.string ⟨#[]⟩, .string ⟨#[]⟩] 9)).alloc (.cells Tryz.zeroCells93 93)) =
    .ok () ((w.alloc (.cells #[.string ⟨#[]⟩, .string ⟨#[]⟩] 9)).alloc (.cells (rpA (.slice (some ⟨w.heap.size, 0, none⟩) 0 2)) 93)) := by
  have h := run_storeCells_new (P := Tryz.prog) (w.alloc (.cells #[.string ⟨#[]⟩, .string ⟨#[]⟩] 9)) 93 Tryz.zeroCells93 (rpA (.slice (some ⟨w.heap.size, 0, none⟩) 0 2)) (by kernel_rfl) (by kernel_rfl) (by kernel_rfl)
  rw [World.size_alloc] at h
  exact h
/-- What has been built behind n of the two. -/
def RpSt (w wx : World) (n : Nat) : Prop := Below w.heap.size w wx ∧ w.heap.size + 2 ≤ wx.heap.size ∧
  ∃ (arr : Array Value) (c0 c1 : Value), wx.heap[w.heap.size + 1]? = some (.cells arr 93 (0, 0)) ∧ arr.size = 257 ∧ wx.heap[w.heap.size]? = some (.cells #[c0, c1] 9 (0, 0)) ∧
    arr[256]? = some (.slice (some ⟨w.heap.size, 0, none⟩) n 2) ∧ (∀ j, j < 256 → if (j = 9 ∧ 1 ≤ n) ∨ (j = 32 ∧ 2 ≤ n) then ∃ a c, arr[j]? = some (.slice (some a) 0 c) else arr[j]? = some (.slice none 0 0)) ∧
    ((1 ≤ n → c0 = .string ⟨#[9]⟩) ∧ (2 ≤ n → c1 = .string ⟨#[32]⟩))
theorem below_some {w w' : World} (hB : Below w.heap.size w w') {a : Addr} {v : Value} (h : w.cell? a = some v) : w'.cell? a = some v := by
  rw [World.cell?_of_block (w := w) (hB.block _ (World.block_lt_of_cell? w a h))]; exact h
theorem rp_st0 (w : World) : RpSt w ((w.alloc (.cells #[.string ⟨#[]⟩, .string ⟨#[]⟩] 9)).alloc (.cells (rpA (.slice (some ⟨w.heap.size, 0, none⟩) 0 2)) 93)) 0 := by
  refine ⟨((Below.refl _ _).alloc (Nat.le_refl _) _).alloc (by simp) _, by simp, rpA (.slice (some ⟨w.heap.size, 0, none⟩) 0 2), .string ⟨#[]⟩, .string ⟨#[]⟩, ?_, by kernel_rfl, ?_, by kernel_rfl, fun j hj => ?_, fun h => absurd h (by decide), fun h => absurd h (by decide)⟩
  · have := heap_alloc_new (w.alloc (.cells #[.string ⟨#[]⟩, .string ⟨#[]⟩] 9)) (.cells (rpA (.slice (some ⟨w.heap.size, 0, none⟩) 0 2)) 93)
    rw [World.size_alloc] at this
    exact this
  · rw [Below.heap_alloc _ _ _ (by simp)]
    exact heap_alloc_new w _
  · rw [if_neg (by omega)]
    have h : ∀ v : Value, (List.range 256).all (fun j => match (rpA v)[j]? with | some (.slice none 0 0) => true | _ => false) = true := fun v => by kernel_rfl
    have h2 := List.all_eq_true.1 (h (.slice (some ⟨w.heap.size, 0, none⟩) 0 2)) j (List.mem_range.2 hj)
    split at h2
    · rename_i e; exact e
    · cases h2
theorem rp_bts (c : UInt8) (w : World) : (convert 23 9 (.slice (some ⟨w.heap.size, 0, none⟩) 1 1)).run Tryz.prog (w.alloc (.cells #[.int .u8 c.toNat] 5)) = .ok (.string ⟨#[c]⟩) (w.alloc (.cells #[.int .u8 c.toNat] 5)) := by
  rw [Go.Am.run_convert_bytes (by kernel_rfl) _ ⟨_, _, _, rfl⟩]
  refine Go.Am.run_bytesToString w.heap.size 0 1 [c] fun i d hd => ?_
  cases i with
  | zero => cases hd; exact (cell_of_row _ w.heap.size 0 #[.int .u8 c.toNat] _ (0, 0) (heap_alloc_new w _)).trans rfl
  | succ i => simp at hd
theorem rp_step {ops : Array Oper} {rest : List Oper} {o : Oper} {a : Act} {w w' : World} {Q : Exit → Act → World → Prop} {v vs vx : Value} {s x : Operand} {t : TypeId} (hgd : o.guard = none)
    (ho : o.op = .call { callee := .builtin .append, args := #[s, x], argTypes := #[t, t] }) (hs : a.eval s = vs) (hx : a.eval x = vx) (hr : (Builtin.append_ #[t, t] o.type #[vs, vx]).run Tryz.prog w = .ok v w')
    (h : wpList Tryz.prog ops Q rest (a.put o.dst v) w') : wpList Tryz.prog ops Q (o :: rest) a w :=
  wpList_plain hgd fun K hK => by
    unfold Oper.wp execOp
    simp only [ho, resolve, invoke, builtin, Sem.run_bind, Sem.run_pure, Result.andThen_ok, List.map_toArray, List.map_cons, List.map_nil, hs, hx, hr]
    exact hK _ _ h
theorem rp_row {w : World} {b : Nat} {cur : Array Value} {ty : TypeId} (h : w.heap[b]? = some (.cells cur ty (0, 0))) (i : Nat) : w.cell? ⟨b, i, none⟩ = cur[i]? := cell_of_row w b i cur ty (0, 0) h
theorem rp_thaw {w : World} {b : Nat} {cur : Array Value} {ty : TypeId} (h : w.heap[b]? = some (.cells cur ty (0, 0))) (i : Nat) : w.frozen? ⟨b, i, none⟩ = false := by
  unfold World.frozen?
  rw [h]
  simp
theorem rp_A {w wr : World} {arr : Array Value} {c0 c1 : Value} (n : Nat) (hn : n < 2) (o : UInt8) (hB : Below w.heap.size w wr) (hsz : w.heap.size + 2 ≤ wr.heap.size)
    (q1 : wr.heap[w.heap.size + 1]? = some (.cells arr 93 (0, 0))) (q3 : wr.heap[w.heap.size]? = some (.cells #[c0, c1] 9 (0, 0))) :
    ∃ (Wa : World) (d0 d1 : Value), (Builtin.append_ #[22, 22] 22 #[.slice (some ⟨w.heap.size, 0, none⟩) n 2, .slice (some ⟨wr.heap.size + 1, 0, none⟩) 1 1]).run Tryz.prog
        ((wr.alloc (.cells #[.int .u8 o.toNat] 5)).alloc (.cells #[.string ⟨#[o]⟩] 9)) = .ok (.slice (some ⟨w.heap.size, 0, none⟩) (n + 1) 2) Wa ∧ Below w.heap.size w Wa ∧ w.heap.size + 2 ≤ Wa.heap.size ∧
      Wa.heap[w.heap.size + 1]? = some (.cells arr 93 (0, 0)) ∧ Wa.heap[w.heap.size]? = some (.cells #[d0, d1] 9 (0, 0)) ∧ (n = 0 → d0 = .string ⟨#[o]⟩) ∧ (n = 1 → d0 = c0 ∧ d1 = .string ⟨#[o]⟩) := by
  obtain ⟨W1, hW⟩ : ∃ W1, W1 = (wr.alloc (.cells #[.int .u8 o.toNat] 5)).alloc (.cells #[.string ⟨#[o]⟩] 9) := ⟨_, rfl⟩
  rw [← hW]
  have hz : W1.heap.size = wr.heap.size + 2 := by rw [hW]; simp
  have k3 : W1.heap[w.heap.size]? = some (.cells #[c0, c1] 9 (0, 0)) := by
    rw [hW, Below.heap_alloc _ _ _ (by simp; omega), Below.heap_alloc _ _ _ (by omega)]; exact q3
  have k1 : W1.heap[w.heap.size + 1]? = some (.cells arr 93 (0, 0)) := by
    rw [hW, Below.heap_alloc _ _ _ (by simp; omega), Below.heap_alloc _ _ _ (by omega)]; exact q1
  have kn : W1.heap[wr.heap.size + 1]? = some (.cells #[.string ⟨#[o]⟩] 9 (0, 0)) := by
    have := heap_alloc_new (wr.alloc (.cells #[.int .u8 o.toNat] 5)) (.cells #[.string ⟨#[o]⟩] 9)
    rw [World.size_alloc] at this
    rw [hW]; exact this
  have hsrc : Src Tryz.prog 1 22 (.slice (some ⟨wr.heap.size + 1, 0, none⟩) 1 1) 1 [.string ⟨#[o]⟩] W1 := by
    refine Src.ofSlice W1 Tryz.underlying22 ⟨wr.heap.size + 1, 0, none⟩ 1 1 [.string ⟨#[o]⟩] rfl (fun j u hu => ?_) (fun u hu => by rw [List.mem_singleton.1 hu]; rfl)
    cases j with
    | zero => cases hu; exact (rp_row kn 0).trans rfl
    | succ j => simp at hu
  have happ := run_append_room_src (P := Tryz.prog) W1 22 22 22 9 Tryz.t9 Tryz.underlying22 (by kernel_rfl) w.heap.size 0 n 2 _ 1 [.string ⟨#[o]⟩] hsrc (by omega)
    (fun j hj => by
      obtain rfl : j = 0 := by simpa using hj
      rw [rp_row k3]
      have : n = 0 ∨ n = 1 := by omega
      rcases this with rfl | rfl <;> rfl) (fun j hj => rp_thaw k3 _)
  have e : W1.setCells w.heap.size (0 + n * 1) [.string ⟨#[o]⟩] = W1.setCell ⟨w.heap.size, n, none⟩ (.string ⟨#[o]⟩) := by
    rw [Nat.zero_add, Nat.mul_one]; rfl
  have hWB : Below w.heap.size w W1 := by rw [hW]; exact (hB.alloc (by omega) _).alloc (by simp; omega) _
  have er := setCell_eq_setRow W1 w.heap.size n #[c0, c1] 9 (0, 0) (.string ⟨#[o]⟩) k3
  refine ⟨W1.setCell ⟨w.heap.size, n, none⟩ (.string ⟨#[o]⟩), (#[c0, c1].setIfInBounds n (.string ⟨#[o]⟩)).getD 0 undef, (#[c0, c1].setIfInBounds n (.string ⟨#[o]⟩)).getD 1 undef, happ.trans (congrArg _ e), hWB.setCell (Nat.le_refl _) _, ?_, ?_, ?_, ?_, ?_⟩
  · rw [er]; simp [World.setRow]; omega
  · rw [Below.heap_setCell _ _ _ _ (by simp)]; exact k1
  · rw [er, setRow_heap W1 _ _ _ _ _ k3]
    have : n = 0 ∨ n = 1 := by omega
    rcases this with rfl | rfl <;> rfl
  · rintro rfl; rfl
  · rintro rfl; exact ⟨rfl, rfl⟩
/-- The list's cell is written; a text without letters is turned. -/
theorem rp_B {w Wa : World} {arr : Array Value} {d0 d1 : Value} (v : Value) (hB : Below w.heap.size w Wa) (hsz : w.heap.size + 2 ≤ Wa.heap.size) (_ha : arr.size = 257)
    (q1 : Wa.heap[w.heap.size + 1]? = some (.cells arr 93 (0, 0))) (q3 : Wa.heap[w.heap.size]? = some (.cells #[d0, d1] 9 (0, 0))) :
    ∃ (Wb : World) (p : Addr) (c : Nat), (convert 9 23 (.string ⟨#[]⟩)).run Tryz.prog (Wa.setCell ⟨w.heap.size + 1, 256, none⟩ v) = .ok (.slice (some p) 0 c) Wb ∧ Below w.heap.size w Wb ∧ w.heap.size + 2 ≤ Wb.heap.size ∧
      Wb.heap[w.heap.size + 1]? = some (.cells (arr.setIfInBounds 256 v) 93 (0, 0)) ∧ Wb.heap[w.heap.size]? = some (.cells #[d0, d1] 9 (0, 0)) := by
  have er := setCell_eq_setRow Wa (w.heap.size + 1) 256 arr 93 (0, 0) v q1
  have hz : (Wa.setCell ⟨w.heap.size + 1, 256, none⟩ v).heap.size = Wa.heap.size := by rw [er]; simp [World.setRow]
  have hb := hB.setCell (p := ⟨w.heap.size + 1, 256, none⟩) (by simp) v
  refine ⟨_, _, _, run_bytes_of_string (P := Tryz.prog) (Wa.setCell ⟨w.heap.size + 1, 256, none⟩ v) 9 23 5 ⟨#[]⟩ Tryz.underlying9 Tryz.underlying23 Tryz.underlying5, hb.drew.alloc (by show _ ≤ (Wa.setCell _ v).heap.size; rw [hz]; omega) _, ?_, ?_, ?_⟩
  · rw [World.size_alloc]; show _ ≤ (Wa.setCell _ v).heap.size + 1; rw [hz]; omega
  · rw [Below.heap_alloc _ _ _ (by show _ < (Wa.setCell _ v).heap.size; rw [hz]; omega)]
    show (Wa.setCell _ v).heap[w.heap.size + 1]? = _
    rw [er, setRow_heap Wa _ _ _ _ _ q1]
  · rw [Below.heap_alloc _ _ _ (by show _ < (Wa.setCell _ v).heap.size; rw [hz]; omega)]
    show (Wa.setCell _ v).heap[w.heap.size]? = _
    rw [Below.heap_setCell _ _ _ _ (by simp)]; exact q3
theorem rp_C {w Wb : World} {arr : Array Value} {d0 d1 : Value} (n o : Nat) (p : Addr) (c : Nat) (ho : (n = 0 ∧ o = 9) ∨ (n = 1 ∧ o = 32)) (hB : Below w.heap.size w Wb) (hsz : w.heap.size + 2 ≤ Wb.heap.size) (ha : arr.size = 257)
    (q1 : Wb.heap[w.heap.size + 1]? = some (.cells (arr.setIfInBounds 256 (.slice (some ⟨w.heap.size, 0, none⟩) (n + 1) 2)) 93 (0, 0))) (q3 : Wb.heap[w.heap.size]? = some (.cells #[d0, d1] 9 (0, 0)))
    (q5 : ∀ j, j < 256 → if (j = 9 ∧ 1 ≤ n) ∨ (j = 32 ∧ 2 ≤ n) then ∃ a c, arr[j]? = some (.slice (some a) 0 c) else arr[j]? = some (.slice none 0 0)) (h0 : d0 = .string ⟨#[9]⟩) (h1 : n = 1 → d1 = .string ⟨#[32]⟩) :
    RpSt w (Wb.setCell ⟨w.heap.size + 1, o, none⟩ (.slice (some p) 0 c)) (n + 1) := by
  have er := setCell_eq_setRow Wb (w.heap.size + 1) o _ 93 (0, 0) (.slice (some p) 0 c) q1
  have ho2 : o < 256 := by omega
  refine ⟨hB.setCell (by simp) _, ?_, (arr.setIfInBounds 256 (.slice (some ⟨w.heap.size, 0, none⟩) (n + 1) 2)).setIfInBounds o (.slice (some p) 0 c), d0, d1, ?_, by simp [ha], ?_, ?_, fun j hj => ?_, fun _ => h0, fun h => h1 (by omega)⟩
  · rw [er]; simp [World.setRow]; omega
  · rw [er, setRow_heap Wb _ _ _ _ _ q1]
  · rw [Below.heap_setCell _ _ _ _ (by simp)]; exact q3
  · rw [Array.getElem?_setIfInBounds, if_neg (by omega), Array.getElem?_setIfInBounds, if_pos rfl, if_pos (by omega)]
  · have hq := q5 j hj
    by_cases e : o = j
    · subst e
      have hc : (o = 9 ∧ 1 ≤ n + 1) ∨ (o = 32 ∧ 2 ≤ n + 1) := by omega
      rw [if_pos hc]
      exact ⟨p, c, by rw [Array.getElem?_setIfInBounds, if_pos rfl, if_pos (by simp [ha]; omega)]⟩
    · have ev : ((arr.setIfInBounds 256 (.slice (some ⟨w.heap.size, 0, none⟩) (n + 1) 2)).setIfInBounds o (.slice (some p) 0 c))[j]? = arr[j]? := by
        rw [Array.getElem?_setIfInBounds, if_neg e, Array.getElem?_setIfInBounds, if_neg (by omega)]
      by_cases h : (j = 9 ∧ 1 ≤ n) ∨ (j = 32 ∧ 2 ≤ n)
      · rw [if_pos h] at hq
        obtain ⟨a, c', h'⟩ := hq
        have hc : (j = 9 ∧ 1 ≤ n + 1) ∨ (j = 32 ∧ 2 ≤ n + 1) := by omega
        rw [if_pos hc]; exact ⟨a, c', ev.trans h'⟩
      · rw [if_neg h] at hq
        have hc : ¬ ((j = 9 ∧ 1 ≤ n + 1) ∨ (j = 32 ∧ 2 ≤ n + 1)) := by omega
        rw [if_neg hc]; exact ev.trans hq
set_option maxRecDepth 100000 in
set_option maxHeartbeats 8000000 in
theorem rp_build (b R off cap : Nat) (w : World) (h4 : w.cell? ⟨b, 4, none⟩ = some (.slice (some ⟨R, off, none⟩) 4 cap))
    (r0 : w.cell? ⟨R, off, none⟩ = some (.string ⟨#[32]⟩)) (r1 : w.cell? ⟨R, off + 1, none⟩ = some (.string ⟨#[]⟩)) (r2 : w.cell? ⟨R, off + 2, none⟩ = some (.string ⟨#[9]⟩)) (r3 : w.cell? ⟨R, off + 3, none⟩ = some (.string ⟨#[]⟩)) :
    Calls Tryz.prog 27 #[.pointer (some ⟨b, 0, none⟩)] w fun e w' => e = .returned (.iface 94 (.pointer (some ⟨w.heap.size + 1, 0, none⟩))) ∧ RpSt w w' 2 := by
  have hmk : ∀ w : World, (Instr.makeSlice 22 (.int .i64 0) (.int .i64 2)).run Tryz.prog w = .ok (.slice (some ⟨w.heap.size, 0, none⟩) 0 2) (w.alloc (.cells #[.string ⟨#[]⟩, .string ⟨#[]⟩] 9)) := fun w => (run_make w 22 9 _ _ Tryz.underlying22 rfl rfl .i64 .i64 0 2 (by decide) (by decide) (by decide) (by decide)).trans (by kernel_rfl)
  have hst := fun w : World => rp_made w
  have e9 : ((⟨#[9]⟩ : ByteArray)[0]'(by decide)).toNat = 9 := rfl
  have e32 : ((⟨#[32]⟩ : ByteArray)[0]'(by decide)).toNat = 32 := rfl
  have hnil : ∀ w : World, (binOp .eql 23 (.slice none 0 0) (.slice none 0 0)).run Tryz.prog w = .ok (.bool true) w := fun w => rfl
  go_enter Tryz.func27, Tryz.ntmps27
  go_wp2
  go_loopg [4, 5] 2 (fun g s4 s5 wx => w = wx ∧ ((g = 2 ∧ s4 = .bool true ∧ s5 = .int .i64 0) ∨ (g = 1 ∧ s4 = .bool false ∧ s5 = .int .i64 2) ∨ (g = 0 ∧ s4 = .bool false ∧ s5 = .int .i64 4)))
  case atStart => exact ⟨rfl, .inl ⟨rfl, rfl, rfl⟩⟩
  case round =>
    obtain ⟨rfl, hrel⟩ := hrel
    rcases hrel with ⟨rfl, rfl, rfl⟩ | ⟨rfl, rfl, rfl⟩ | ⟨rfl, rfl, rfl⟩
    · go_wp2
      go_roundg 1
      case measure => omega
      case rel => exact ⟨rfl, .inr (.inl ⟨rfl, rfl, rfl⟩)⟩
    · go_wp2
      go_roundg 0
      case measure => omega
      case rel => exact ⟨rfl, .inr (.inr ⟨rfl, rfl, rfl⟩)⟩
    · go_wp2
      go_loopg [12, 13, 14] 2 (fun g s12 s13 s14 wx => ∃ n, RpSt w wx n ∧ ((g = 2 ∧ n = 0 ∧ s12 = .int .i64 2) ∨ (g = 1 ∧ n = 1 ∧ s12 = .int .i64 0) ∨ (g = 0 ∧ n = 2 ∧ s12 = .int .i64 (-2))))
      case atStart =>
        refine ⟨0, ?_, .inl ⟨rfl, rfl, rfl⟩⟩
        exact rp_st0 w
      case round =>
        obtain ⟨n, hst, hrel⟩ := hrel
        rcases hrel with ⟨rfl, rfl, rfl⟩ | ⟨rfl, rfl, rfl⟩ | ⟨rfl, rfl, rfl⟩
        · obtain ⟨hB, hsz, arr, c0, c1, q1, q2, q3, q4, q5, q6, q7⟩ := hst
          have g0 := below_some hB r0
          have g1 := below_some hB r1
          have g2 := below_some hB r2
          have g3 := below_some hB r3
          have zo : wr.cell? ⟨w.heap.size + 1, 9, none⟩ = some (.slice none 0 0) := by
            have h := q5 9 (by decide)
            rw [if_neg (by decide)] at h
            rw [rp_row q1]; exact h
          have z256 : wr.cell? ⟨w.heap.size + 1, 256, none⟩ = some (.slice (some ⟨w.heap.size, 0, none⟩) 0 2) := by rw [rp_row q1]; exact q4
          have hbts : (convert 23 9 (.slice (some ⟨wr.heap.size, 0, none⟩) 1 1)).run Tryz.prog (wr.alloc (.cells #[.int .u8 9] 5)) = .ok (.string ⟨#[9]⟩) (wr.alloc (.cells #[.int .u8 9] 5)) := rp_bts 9 wr
          obtain ⟨Wa, d0, d1, happ0, hB1, hsz1, k1, k3, k4, k5⟩ := rp_A 0 (by decide) 9 hB hsz q1 q3
          have happ : (Builtin.append_ #[22, 22] 22 #[.slice (some ⟨w.heap.size, 0, none⟩) 0 2, .slice (some ⟨wr.heap.size + 1, 0, none⟩) 1 1]).run Tryz.prog
            ((wr.alloc (.cells #[.int .u8 9] 5)).alloc (.cells #[.string ⟨#[9]⟩] 9)) = .ok (.slice (some ⟨w.heap.size, 0, none⟩) 1 2) Wa := happ0
          have za : Wa.cell? ⟨w.heap.size + 1, 256, none⟩ = some (.slice (some ⟨w.heap.size, 0, none⟩) 0 2) := by rw [rp_row k1]; exact q4
          have ya := rp_thaw k1 256
          obtain ⟨Wb, p, c, hcv, hB2, hsz2, m1, m3⟩ := rp_B (.slice (some ⟨w.heap.size, 0, none⟩) 1 2) hB1 hsz1 q2 k1 k3
          have zb : Wb.cell? ⟨w.heap.size + 1, 9, none⟩ = some (.slice none 0 0) := by
            have h := q5 9 (by decide)
            rw [if_neg (by decide)] at h
            rw [rp_row m1, Array.getElem?_setIfInBounds, if_neg (by decide)]; exact h
          have yb := rp_thaw m1 9
          go_wp2_with (at_builtin; refine rp_step rfl rfl rfl rfl happ ?_)
          go_roundg 1
          case measure => omega
          case rel => exact ⟨1, rp_C 0 9 p c (by decide) hB2 hsz2 q2 m1 m3 q5 (k4 (by trivial)) (fun h => absurd h (by decide)), .inr (.inl ⟨rfl, rfl, rfl⟩)⟩
        · obtain ⟨hB, hsz, arr, c0, c1, q1, q2, q3, q4, q5, q6, q7⟩ := hst
          have g0 := below_some hB r0
          have g1 := below_some hB r1
          have g2 := below_some hB r2
          have g3 := below_some hB r3
          have zo : wr.cell? ⟨w.heap.size + 1, 32, none⟩ = some (.slice none 0 0) := by
            have h := q5 32 (by decide)
            rw [if_neg (by decide)] at h
            rw [rp_row q1]; exact h
          have z256 : wr.cell? ⟨w.heap.size + 1, 256, none⟩ = some (.slice (some ⟨w.heap.size, 0, none⟩) 1 2) := by rw [rp_row q1]; exact q4
          have hbts : (convert 23 9 (.slice (some ⟨wr.heap.size, 0, none⟩) 1 1)).run Tryz.prog (wr.alloc (.cells #[.int .u8 32] 5)) = .ok (.string ⟨#[32]⟩) (wr.alloc (.cells #[.int .u8 32] 5)) := rp_bts 32 wr
          obtain ⟨Wa, d0, d1, happ0, hB1, hsz1, k1, k3, k4, k5⟩ := rp_A 1 (by decide) 32 hB hsz q1 q3
          have happ : (Builtin.append_ #[22, 22] 22 #[.slice (some ⟨w.heap.size, 0, none⟩) 1 2, .slice (some ⟨wr.heap.size + 1, 0, none⟩) 1 1]).run Tryz.prog
            ((wr.alloc (.cells #[.int .u8 32] 5)).alloc (.cells #[.string ⟨#[32]⟩] 9)) = .ok (.slice (some ⟨w.heap.size, 0, none⟩) 2 2) Wa := happ0
          have za : Wa.cell? ⟨w.heap.size + 1, 256, none⟩ = some (.slice (some ⟨w.heap.size, 0, none⟩) 1 2) := by rw [rp_row k1]; exact q4
          have ya := rp_thaw k1 256
          obtain ⟨Wb, p, c, hcv, hB2, hsz2, m1, m3⟩ := rp_B (.slice (some ⟨w.heap.size, 0, none⟩) 2 2) hB1 hsz1 q2 k1 k3
          have zb : Wb.cell? ⟨w.heap.size + 1, 32, none⟩ = some (.slice none 0 0) := by
            have h := q5 32 (by decide)
            rw [if_neg (by decide)] at h
            rw [rp_row m1, Array.getElem?_setIfInBounds, if_neg (by decide)]; exact h
          have yb := rp_thaw m1 32
          go_wp2_with (at_builtin; refine rp_step rfl rfl rfl rfl happ ?_)
          go_roundg 0
          case measure => omega
          case rel => exact ⟨2, rp_C 1 32 p c (by decide) hB2 hsz2 q2 m1 m3 q5 ((k5 (by trivial)).1.trans (q6 (by decide))) (fun _ => (k5 (by trivial)).2), .inr (.inr ⟨rfl, rfl, rfl⟩)⟩
        · go_wp2
          go_ret
          exact ⟨rfl, hst⟩
end Go.Proofs.YtfadnlnmlkemfaaGreatDoor
