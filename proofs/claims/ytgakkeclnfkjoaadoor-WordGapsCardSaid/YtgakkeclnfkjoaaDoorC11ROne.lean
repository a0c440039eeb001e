/-
  Lifted functions, and facts about them.
-/
import Derived.Test.YtgakkeclnfkjoaaDoorRows
import Derived.Test.YtgakkeclnfkjoaaDoorAmC
import Derived.Test.YtgakkeclnfkjoaaDoorAmNeed
import Derived.Test.YtgakkeclnfkjoaaDoorC11WOne
namespace Go.Proofs.YtgakkeclnfkjoaaDoor
open Go Go.Am
set_option linter.unusedVariables false
def oneR (s : List UInt8) (i : Int) : List UInt8 × Int × Bool :=
  match parse s i.toNat with
  | none => ([], 0, false)
  | some (a, b) => match bodyS (s.getD (a + 1) 0) ((s.take b).drop (a + 3)) with
    | none => ([], 0, false)
    | some u => if foldS ((s.take a).drop (i.toNat + 2)) = cUtf8 ∨ foldS ((s.take a).drop (i.toNat + 2)) = cAscii then (u, ((b + 2 : Nat) : Int), validS u)
        else if foldS ((s.take a).drop (i.toNat + 2)) = cIso then (bytesS u, ((b + 2 : Nat) : Int), true) else ([], 0, false)
theorem low_98 (k : UInt8) : (lowB k = 98 ↔ k = 66 ∨ k = 98) ∧ (lowB k = 113 ↔ k = 81 ∨ k = 113) := by
  have : ∀ x : Fin 256, (lowB (UInt8.ofNat x.val) = 98 ↔ UInt8.ofNat x.val = 66 ∨ UInt8.ofNat x.val = 98) ∧ (lowB (UInt8.ofNat x.val) = 113 ↔ UInt8.ofNat x.val = 81 ∨ UInt8.ofNat x.val = 113) := by decide +kernel
  have h := this ⟨k.toNat, k.toNat_lt⟩
  simpa using h
theorem hasP_mid {s : List UInt8} {i : Nat} {p : List UInt8} (h : i + p.length ≤ s.length) : ((s.take (i + p.length)).drop i == p) = hasP (s.drop i) p := by
  rw [fin_drop]; rfl
theorem hasP_short {s p : List UInt8} (h : s.length < p.length) : hasP s p = false := by
  cases hq : hasP s p with
  | false => rfl
  | true => have := hasP2 hq; omega
noncomputable def cr7one : Code := bodyOf Tryd.f20

noncomputable def Gr7one : Cfg := ⟨Tryd.prog, mkEnv [(11, sp_rvalid), (30, sp_r7run), (31, sp_rFold), (32, sp_rLoose), (33, sp_QPlain), (34, sp_rbytes)], mkEnvR [], 134, [], [([1, 0, 1], ⟨[0, 1, 25], []⟩), ([1, 0, 1, 1, 1], ⟨[0, 1, 7, 53], []⟩), ([1, 0, 1, 1, 1, 1, 1, 1], ⟨[0, 1, 7, 8, 9, 85], []⟩), ([0, 1, 0, 1, 1, 1, 0, 1, 1, 1, 1, 1, 1, 1, 1], ⟨[0, 1, 7, 9, 11, 12], [⟨.slot 11, 11, .cells []⟩]⟩), ([1, 1, 0, 0, 1, 0, 1, 1, 1, 0, 1, 1, 1, 1, 1, 1, 1, 1], ⟨[0, 1, 7, 9, 11, 12], [⟨.slot 11, 11, .cells []⟩]⟩), ([1, 1, 1, 1, 1, 1, 1, 1, 1], ⟨[0, 1, 7, 9, 10], []⟩), ([1, 0, 0, 1, 0, 1, 1, 1, 1, 1, 1, 1, 1, 1], ⟨[9, 10, 119, 120], []⟩), ([1, 0, 1, 0, 1, 1, 1, 1, 1, 1, 1, 1, 1], ⟨[9, 10, 119, 120], []⟩)], [([0, 1, 1, 0, 1, 1, 1, 1, 1, 1, 1, 1], [1])]⟩

noncomputable def Br7one_1 (F : Nat) (s : List UInt8) (i : Int) (vc1 : Bool) : Option Ans := runB Gr7one cr7one (kP Tryd.prog Tryd.f20.results.toList) F [] [1, 0, 1] [(0, .p (.str s)), (1, .p (.int .i64 i)), (25, .p (.bool vc1))] []

noncomputable def Br7one_2 (F : Nat) (s : List UInt8) (i : Int) (vi2 : Int) (vc3 : Bool) : Option Ans := runB Gr7one cr7one (kP Tryd.prog Tryd.f20.results.toList) F [] [1, 1, 1, 0, 1] [(0, .p (.str s)), (1, .p (.int .i64 i)), (7, .p (.int .i64 vi2)), (53, .p (.bool vc3))] []

noncomputable def Br7one_3 (F : Nat) (s : List UInt8) (i : Int) (vi2 : Int) (vs4 : List UInt8) (vi5 : Int) (vc6 : Bool) : Option Ans := runB Gr7one cr7one (kP Tryd.prog Tryd.f20.results.toList) F [] [1, 1, 1, 1, 1, 1, 0, 1] [(0, .p (.str s)), (1, .p (.int .i64 i)), (7, .p (.int .i64 vi2)), (8, .p (.str vs4)), (9, .p (.int .i64 vi5)), (85, .p (.bool vc6))] []

noncomputable def Br7one_4 (F : Nat) (s : List UInt8) (i : Int) (vi2 : Int) (vi5 : Int) (vs7 : List UInt8) : Option Ans := runB Gr7one cr7one (kP Tryd.prog Tryd.f20.results.toList) F [] [1, 1, 1, 1, 1, 1, 1, 1, 1] [(0, .p (.str s)), (1, .p (.int .i64 i)), (7, .p (.int .i64 vi2)), (9, .p (.int .i64 vi5)), (10, .p (.str vs7))] []

noncomputable def Br7one_5 (F : Nat) (vi5 : Int) (vs7 : List UInt8) (vs8 : List UInt8) (vc9 : Bool) : Option Ans := runB Gr7one cr7one (kP Tryd.prog Tryd.f20.results.toList) F [] [1, 1, 1, 1, 1, 1, 1, 1, 1, 0, 1, 0, 0, 1] [(9, .p (.int .i64 vi5)), (10, .p (.str vs7)), (119, .p (.str vs8)), (120, .p (.bool vc9))] []

noncomputable def Br7one_6 (F : Nat) (vi5 : Int) (vs7 : List UInt8) (vs8 : List UInt8) (vc10 : Bool) : Option Ans := runB Gr7one cr7one (kP Tryd.prog Tryd.f20.results.toList) F [] [1, 1, 1, 1, 1, 1, 1, 1, 1, 0, 1, 0, 1] [(9, .p (.int .i64 vi5)), (10, .p (.str vs7)), (119, .p (.str vs8)), (120, .p (.bool vc10))] []

noncomputable def Br7one_7 (F f1 : Nat) (s : List UInt8) (i : Int) (vi2 : Int) (vi5 : Int) (vi11 : Int) (vb12 : List UInt8) : Option Ans := runR Gr7one cr7one (kP Tryd.prog Tryd.f20.results.toList) F [] [1, 1, 1, 1, 1, 1, 1, 1, 0, 1, 1, 1, 0, 1, 0] f1 [(0, .p (.str s)), (1, .p (.int .i64 i)), (7, .p (.int .i64 vi2)), (9, .p (.int .i64 vi5)), (11, .arr 11), (12, .p (.int .i64 vi11))] [(11, .bcv 5 vb12)]

noncomputable def Br7one_8 (F f1 : Nat) (s : List UInt8) (i : Int) (vi2 : Int) (vi5 : Int) (vi11 : Int) (vb13 : List UInt8) : Option Ans := runB Gr7one cr7one (kP Tryd.prog Tryd.f20.results.toList) F [f1] [1, 1, 1, 1, 1, 1, 1, 1, 0, 1, 1, 1, 0, 1, 0, 0, 1, 1] [(0, .p (.str s)), (1, .p (.int .i64 i)), (7, .p (.int .i64 vi2)), (9, .p (.int .i64 vi5)), (11, .arr 11), (12, .p (.int .i64 vi11))] [(11, .bcv 5 vb13)]

noncomputable def Fr7one (F : Nat) (s : List UInt8) (i : Int) : Option Ans := runF Gr7one Tryd.f20 F [.p (.str s), .p (.int .i64 i)]

theorem Br7one_1_eq (F : Nat) (s : List UInt8) (i : Int) (vc1 : Bool) : Br7one_1 F s i vc1 = cond (vc1) (some (.tup [.p (.str ([] : List UInt8)), .p (.int .i64 (0 : Int)), .p (.bool false)], [])) (need (i64ok (i + (2 : Int))) (need (wposok s (i + (2 : Int))) (need (i64ok (i + (2 : Int))) (need ((!((runS s (i + (2 : Int))) == (i + (2 : Int)))) = true → i64ok ((runS s (i + (2 : Int))) + (3 : Int))) (need ((!(((runS s (i + (2 : Int))) == (i + (2 : Int))) || (decide (((runS s (i + (2 : Int))) + (3 : Int)) > (s.length : Int))))) = true → 0 ≤ (runS s (i + (2 : Int))) ∧ (runS s (i + (2 : Int))) < (s.length : Int)) (need ((!((((runS s (i + (2 : Int))) == (i + (2 : Int))) || (decide (((runS s (i + (2 : Int))) + (3 : Int)) > (s.length : Int)))) || (((s.getD (runS s (i + (2 : Int))).toNat 0).toNat : Int) != (63 : Int)))) = true → i64ok ((runS s (i + (2 : Int))) + (2 : Int))) (need ((!((((runS s (i + (2 : Int))) == (i + (2 : Int))) || (decide (((runS s (i + (2 : Int))) + (3 : Int)) > (s.length : Int)))) || (((s.getD (runS s (i + (2 : Int))).toNat 0).toNat : Int) != (63 : Int)))) = true → 0 ≤ ((runS s (i + (2 : Int))) + (2 : Int)) ∧ ((runS s (i + (2 : Int))) + (2 : Int)) < (s.length : Int)) (Br7one_2 F s i (runS s (i + (2 : Int))) (((((runS s (i + (2 : Int))) == (i + (2 : Int))) || (decide (((runS s (i + (2 : Int))) + (3 : Int)) > (s.length : Int)))) || (((s.getD (runS s (i + (2 : Int))).toNat 0).toNat : Int) != (63 : Int))) || (((s.getD ((runS s (i + (2 : Int))) + (2 : Int)).toNat 0).toNat : Int) != (63 : Int))))))))))) :=
  Eq.trans (show Br7one_1 F s i vc1 = cond (vc1) (some (.tup [.p (.str ([] : List UInt8)), .p (.int .i64 (0 : Int)), .p (.bool false)], [])) (need (i64ok (i + (2 : Int))) (need (wposok s (i + (2 : Int))) (need (i64ok (i + (2 : Int))) (need ((!((runS s (i + (2 : Int))) == (i + (2 : Int)))) = true → (!((runS s (i + (2 : Int))) == (i + (2 : Int)))) = true) (need ((!((runS s (i + (2 : Int))) == (i + (2 : Int)))) = true → i64ok ((runS s (i + (2 : Int))) + (3 : Int))) (need ((!((runS s (i + (2 : Int))) == (i + (2 : Int)))) = true → (!((runS s (i + (2 : Int))) == (i + (2 : Int)))) = true) (need ((!((runS s (i + (2 : Int))) == (i + (2 : Int)))) = true → (!((runS s (i + (2 : Int))) == (i + (2 : Int)))) = true) (need ((!((runS s (i + (2 : Int))) == (i + (2 : Int)))) = true → (!((runS s (i + (2 : Int))) == (i + (2 : Int)))) = true) (need (((runS s (i + (2 : Int))) == (i + (2 : Int))) = false → (!((runS s (i + (2 : Int))) == (i + (2 : Int)))) = true) (need ((!(((runS s (i + (2 : Int))) == (i + (2 : Int))) || (decide (((runS s (i + (2 : Int))) + (3 : Int)) > (s.length : Int))))) = true → (!(((runS s (i + (2 : Int))) == (i + (2 : Int))) || (decide (((runS s (i + (2 : Int))) + (3 : Int)) > (s.length : Int))))) = true) (need ((!(((runS s (i + (2 : Int))) == (i + (2 : Int))) || (decide (((runS s (i + (2 : Int))) + (3 : Int)) > (s.length : Int))))) = true → (!(((runS s (i + (2 : Int))) == (i + (2 : Int))) || (decide (((runS s (i + (2 : Int))) + (3 : Int)) > (s.length : Int))))) = true) (need ((!(((runS s (i + (2 : Int))) == (i + (2 : Int))) || (decide (((runS s (i + (2 : Int))) + (3 : Int)) > (s.length : Int))))) = true → 0 ≤ (runS s (i + (2 : Int))) ∧ (runS s (i + (2 : Int))) < (s.length : Int)) (need ((!(((runS s (i + (2 : Int))) == (i + (2 : Int))) || (decide (((runS s (i + (2 : Int))) + (3 : Int)) > (s.length : Int))))) = true → (!(((runS s (i + (2 : Int))) == (i + (2 : Int))) || (decide (((runS s (i + (2 : Int))) + (3 : Int)) > (s.length : Int))))) = true) (need ((((runS s (i + (2 : Int))) == (i + (2 : Int))) || (decide (((runS s (i + (2 : Int))) + (3 : Int)) > (s.length : Int)))) = false → (!(((runS s (i + (2 : Int))) == (i + (2 : Int))) || (decide (((runS s (i + (2 : Int))) + (3 : Int)) > (s.length : Int))))) = true) (need ((!((((runS s (i + (2 : Int))) == (i + (2 : Int))) || (decide (((runS s (i + (2 : Int))) + (3 : Int)) > (s.length : Int)))) || (((s.getD (runS s (i + (2 : Int))).toNat 0).toNat : Int) != (63 : Int)))) = true → (!((((runS s (i + (2 : Int))) == (i + (2 : Int))) || (decide (((runS s (i + (2 : Int))) + (3 : Int)) > (s.length : Int)))) || (((s.getD (runS s (i + (2 : Int))).toNat 0).toNat : Int) != (63 : Int)))) = true) (need ((!((((runS s (i + (2 : Int))) == (i + (2 : Int))) || (decide (((runS s (i + (2 : Int))) + (3 : Int)) > (s.length : Int)))) || (((s.getD (runS s (i + (2 : Int))).toNat 0).toNat : Int) != (63 : Int)))) = true → i64ok ((runS s (i + (2 : Int))) + (2 : Int))) (need ((!((((runS s (i + (2 : Int))) == (i + (2 : Int))) || (decide (((runS s (i + (2 : Int))) + (3 : Int)) > (s.length : Int)))) || (((s.getD (runS s (i + (2 : Int))).toNat 0).toNat : Int) != (63 : Int)))) = true → (!((((runS s (i + (2 : Int))) == (i + (2 : Int))) || (decide (((runS s (i + (2 : Int))) + (3 : Int)) > (s.length : Int)))) || (((s.getD (runS s (i + (2 : Int))).toNat 0).toNat : Int) != (63 : Int)))) = true) (need ((!((((runS s (i + (2 : Int))) == (i + (2 : Int))) || (decide (((runS s (i + (2 : Int))) + (3 : Int)) > (s.length : Int)))) || (((s.getD (runS s (i + (2 : Int))).toNat 0).toNat : Int) != (63 : Int)))) = true → (!((((runS s (i + (2 : Int))) == (i + (2 : Int))) || (decide (((runS s (i + (2 : Int))) + (3 : Int)) > (s.length : Int)))) || (((s.getD (runS s (i + (2 : Int))).toNat 0).toNat : Int) != (63 : Int)))) = true) (need ((!((((runS s (i + (2 : Int))) == (i + (2 : Int))) || (decide (((runS s (i + (2 : Int))) + (3 : Int)) > (s.length : Int)))) || (((s.getD (runS s (i + (2 : Int))).toNat 0).toNat : Int) != (63 : Int)))) = true → 0 ≤ ((runS s (i + (2 : Int))) + (2 : Int)) ∧ ((runS s (i + (2 : Int))) + (2 : Int)) < (s.length : Int)) (need ((!((((runS s (i + (2 : Int))) == (i + (2 : Int))) || (decide (((runS s (i + (2 : Int))) + (3 : Int)) > (s.length : Int)))) || (((s.getD (runS s (i + (2 : Int))).toNat 0).toNat : Int) != (63 : Int)))) = true → (!((((runS s (i + (2 : Int))) == (i + (2 : Int))) || (decide (((runS s (i + (2 : Int))) + (3 : Int)) > (s.length : Int)))) || (((s.getD (runS s (i + (2 : Int))).toNat 0).toNat : Int) != (63 : Int)))) = true) (need (((((runS s (i + (2 : Int))) == (i + (2 : Int))) || (decide (((runS s (i + (2 : Int))) + (3 : Int)) > (s.length : Int)))) || (((s.getD (runS s (i + (2 : Int))).toNat 0).toNat : Int) != (63 : Int))) = false → (!((((runS s (i + (2 : Int))) == (i + (2 : Int))) || (decide (((runS s (i + (2 : Int))) + (3 : Int)) > (s.length : Int)))) || (((s.getD (runS s (i + (2 : Int))).toNat 0).toNat : Int) != (63 : Int)))) = true) (Br7one_2 F s i (runS s (i + (2 : Int))) (((((runS s (i + (2 : Int))) == (i + (2 : Int))) || (decide (((runS s (i + (2 : Int))) + (3 : Int)) > (s.length : Int)))) || (((s.getD (runS s (i + (2 : Int))).toNat 0).toNat : Int) != (63 : Int))) || (((s.getD ((runS s (i + (2 : Int))) + (2 : Int)).toNat 0).toNat : Int) != (63 : Int))))))))))))))))))))))))) by kernel_rfl) (cond_congr (rfl) (need_congr (need_congr (need_congr (need_strike (show (!((runS s (i + (2 : Int))) == (i + (2 : Int)))) = true → (!((runS s (i + (2 : Int))) == (i + (2 : Int)))) = true from (fun q0 => q0)) (need_congr (need_strike (show (!((runS s (i + (2 : Int))) == (i + (2 : Int)))) = true → (!((runS s (i + (2 : Int))) == (i + (2 : Int)))) = true from (fun q0 => q0)) (need_strike (show (!((runS s (i + (2 : Int))) == (i + (2 : Int)))) = true → (!((runS s (i + (2 : Int))) == (i + (2 : Int)))) = true from (fun q0 => q0)) (need_strike (show (!((runS s (i + (2 : Int))) == (i + (2 : Int)))) = true → (!((runS s (i + (2 : Int))) == (i + (2 : Int)))) = true from (fun q0 => q0)) (need_strike (show ((runS s (i + (2 : Int))) == (i + (2 : Int))) = false → (!((runS s (i + (2 : Int))) == (i + (2 : Int)))) = true from (fun q0 => (not_mk q0))) (need_strike (show (!(((runS s (i + (2 : Int))) == (i + (2 : Int))) || (decide (((runS s (i + (2 : Int))) + (3 : Int)) > (s.length : Int))))) = true → (!(((runS s (i + (2 : Int))) == (i + (2 : Int))) || (decide (((runS s (i + (2 : Int))) + (3 : Int)) > (s.length : Int))))) = true from (fun q0 => q0)) (need_strike (show (!(((runS s (i + (2 : Int))) == (i + (2 : Int))) || (decide (((runS s (i + (2 : Int))) + (3 : Int)) > (s.length : Int))))) = true → (!(((runS s (i + (2 : Int))) == (i + (2 : Int))) || (decide (((runS s (i + (2 : Int))) + (3 : Int)) > (s.length : Int))))) = true from (fun q0 => q0)) (need_congr (need_strike (show (!(((runS s (i + (2 : Int))) == (i + (2 : Int))) || (decide (((runS s (i + (2 : Int))) + (3 : Int)) > (s.length : Int))))) = true → (!(((runS s (i + (2 : Int))) == (i + (2 : Int))) || (decide (((runS s (i + (2 : Int))) + (3 : Int)) > (s.length : Int))))) = true from (fun q0 => q0)) (need_strike (show (((runS s (i + (2 : Int))) == (i + (2 : Int))) || (decide (((runS s (i + (2 : Int))) + (3 : Int)) > (s.length : Int)))) = false → (!(((runS s (i + (2 : Int))) == (i + (2 : Int))) || (decide (((runS s (i + (2 : Int))) + (3 : Int)) > (s.length : Int))))) = true from (fun q0 => (not_mk q0))) (need_strike (show (!((((runS s (i + (2 : Int))) == (i + (2 : Int))) || (decide (((runS s (i + (2 : Int))) + (3 : Int)) > (s.length : Int)))) || (((s.getD (runS s (i + (2 : Int))).toNat 0).toNat : Int) != (63 : Int)))) = true → (!((((runS s (i + (2 : Int))) == (i + (2 : Int))) || (decide (((runS s (i + (2 : Int))) + (3 : Int)) > (s.length : Int)))) || (((s.getD (runS s (i + (2 : Int))).toNat 0).toNat : Int) != (63 : Int)))) = true from (fun q0 => q0)) (need_congr (need_strike (show (!((((runS s (i + (2 : Int))) == (i + (2 : Int))) || (decide (((runS s (i + (2 : Int))) + (3 : Int)) > (s.length : Int)))) || (((s.getD (runS s (i + (2 : Int))).toNat 0).toNat : Int) != (63 : Int)))) = true → (!((((runS s (i + (2 : Int))) == (i + (2 : Int))) || (decide (((runS s (i + (2 : Int))) + (3 : Int)) > (s.length : Int)))) || (((s.getD (runS s (i + (2 : Int))).toNat 0).toNat : Int) != (63 : Int)))) = true from (fun q0 => q0)) (need_strike (show (!((((runS s (i + (2 : Int))) == (i + (2 : Int))) || (decide (((runS s (i + (2 : Int))) + (3 : Int)) > (s.length : Int)))) || (((s.getD (runS s (i + (2 : Int))).toNat 0).toNat : Int) != (63 : Int)))) = true → (!((((runS s (i + (2 : Int))) == (i + (2 : Int))) || (decide (((runS s (i + (2 : Int))) + (3 : Int)) > (s.length : Int)))) || (((s.getD (runS s (i + (2 : Int))).toNat 0).toNat : Int) != (63 : Int)))) = true from (fun q0 => q0)) (need_congr (need_strike (show (!((((runS s (i + (2 : Int))) == (i + (2 : Int))) || (decide (((runS s (i + (2 : Int))) + (3 : Int)) > (s.length : Int)))) || (((s.getD (runS s (i + (2 : Int))).toNat 0).toNat : Int) != (63 : Int)))) = true → (!((((runS s (i + (2 : Int))) == (i + (2 : Int))) || (decide (((runS s (i + (2 : Int))) + (3 : Int)) > (s.length : Int)))) || (((s.getD (runS s (i + (2 : Int))).toNat 0).toNat : Int) != (63 : Int)))) = true from (fun q0 => q0)) (need_strike (show ((((runS s (i + (2 : Int))) == (i + (2 : Int))) || (decide (((runS s (i + (2 : Int))) + (3 : Int)) > (s.length : Int)))) || (((s.getD (runS s (i + (2 : Int))).toNat 0).toNat : Int) != (63 : Int))) = false → (!((((runS s (i + (2 : Int))) == (i + (2 : Int))) || (decide (((runS s (i + (2 : Int))) + (3 : Int)) > (s.length : Int)))) || (((s.getD (runS s (i + (2 : Int))).toNat 0).toNat : Int) != (63 : Int)))) = true from (fun q0 => (not_mk q0))) (rfl)))))))))))))))))))))))

theorem Br7one_2_eq (F : Nat) (s : List UInt8) (i : Int) (vi2 : Int) (vc3 : Bool) : Br7one_2 F s i vi2 vc3 = cond (vc3) (some (.tup [.p (.str ([] : List UInt8)), .p (.int .i64 (0 : Int)), .p (.bool false)], [])) (need (i64ok (vi2 + (1 : Int))) (need (i64ok (vi2 + (2 : Int))) (need (0 ≤ (vi2 + (1 : Int)) ∧ (vi2 + (1 : Int)) ≤ (vi2 + (2 : Int)) ∧ (vi2 + (2 : Int)) ≤ (s.length : Int)) (need (((s.take (vi2 + (2 : Int)).toNat).drop (vi2 + (1 : Int)).toNat).length ≤ 1000000) (need (i64ok (vi2 + (3 : Int))) (need (wposok s (vi2 + (3 : Int))) (need ((!(((foldS ((s.take (vi2 + (2 : Int)).toNat).drop (vi2 + (1 : Int)).toNat)) != ([98] : List UInt8)) && ((foldS ((s.take (vi2 + (2 : Int)).toNat).drop (vi2 + (1 : Int)).toNat)) != ([113] : List UInt8)))) = true → i64ok ((runS s (vi2 + (3 : Int))) + (2 : Int))) (need ((!((((foldS ((s.take (vi2 + (2 : Int)).toNat).drop (vi2 + (1 : Int)).toNat)) != ([98] : List UInt8)) && ((foldS ((s.take (vi2 + (2 : Int)).toNat).drop (vi2 + (1 : Int)).toNat)) != ([113] : List UInt8))) || (decide (((runS s (vi2 + (3 : Int))) + (2 : Int)) > (s.length : Int))))) = true → i64ok ((runS s (vi2 + (3 : Int))) + (2 : Int))) (need ((!((((foldS ((s.take (vi2 + (2 : Int)).toNat).drop (vi2 + (1 : Int)).toNat)) != ([98] : List UInt8)) && ((foldS ((s.take (vi2 + (2 : Int)).toNat).drop (vi2 + (1 : Int)).toNat)) != ([113] : List UInt8))) || (decide (((runS s (vi2 + (3 : Int))) + (2 : Int)) > (s.length : Int))))) = true → 0 ≤ (runS s (vi2 + (3 : Int))) ∧ (runS s (vi2 + (3 : Int))) ≤ ((runS s (vi2 + (3 : Int))) + (2 : Int)) ∧ ((runS s (vi2 + (3 : Int))) + (2 : Int)) ≤ (s.length : Int)) (Br7one_3 F s i vi2 (foldS ((s.take (vi2 + (2 : Int)).toNat).drop (vi2 + (1 : Int)).toNat)) (runS s (vi2 + (3 : Int))) (((((foldS ((s.take (vi2 + (2 : Int)).toNat).drop (vi2 + (1 : Int)).toNat)) != ([98] : List UInt8)) && ((foldS ((s.take (vi2 + (2 : Int)).toNat).drop (vi2 + (1 : Int)).toNat)) != ([113] : List UInt8))) || (decide (((runS s (vi2 + (3 : Int))) + (2 : Int)) > (s.length : Int)))) || (((s.take ((runS s (vi2 + (3 : Int))) + (2 : Int)).toNat).drop (runS s (vi2 + (3 : Int))).toNat) != ([63, 61] : List UInt8))))))))))))) :=
  Eq.trans (show Br7one_2 F s i vi2 vc3 = cond (vc3) (some (.tup [.p (.str ([] : List UInt8)), .p (.int .i64 (0 : Int)), .p (.bool false)], [])) (need (i64ok (vi2 + (1 : Int))) (need (i64ok (vi2 + (2 : Int))) (need (0 ≤ (vi2 + (1 : Int)) ∧ (vi2 + (1 : Int)) ≤ (vi2 + (2 : Int)) ∧ (vi2 + (2 : Int)) ≤ (s.length : Int)) (need (((s.take (vi2 + (2 : Int)).toNat).drop (vi2 + (1 : Int)).toNat).length ≤ 1000000) (need (i64ok (vi2 + (3 : Int))) (need (wposok s (vi2 + (3 : Int))) (need (((foldS ((s.take (vi2 + (2 : Int)).toNat).drop (vi2 + (1 : Int)).toNat)) != ([98] : List UInt8)) = true → ((foldS ((s.take (vi2 + (2 : Int)).toNat).drop (vi2 + (1 : Int)).toNat)) != ([98] : List UInt8)) = true) (need (((foldS ((s.take (vi2 + (2 : Int)).toNat).drop (vi2 + (1 : Int)).toNat)) != ([98] : List UInt8)) = true → ((foldS ((s.take (vi2 + (2 : Int)).toNat).drop (vi2 + (1 : Int)).toNat)) != ([98] : List UInt8)) = true) (need ((!(((foldS ((s.take (vi2 + (2 : Int)).toNat).drop (vi2 + (1 : Int)).toNat)) != ([98] : List UInt8)) && ((foldS ((s.take (vi2 + (2 : Int)).toNat).drop (vi2 + (1 : Int)).toNat)) != ([113] : List UInt8)))) = true → (!(((foldS ((s.take (vi2 + (2 : Int)).toNat).drop (vi2 + (1 : Int)).toNat)) != ([98] : List UInt8)) && ((foldS ((s.take (vi2 + (2 : Int)).toNat).drop (vi2 + (1 : Int)).toNat)) != ([113] : List UInt8)))) = true) (need ((!(((foldS ((s.take (vi2 + (2 : Int)).toNat).drop (vi2 + (1 : Int)).toNat)) != ([98] : List UInt8)) && ((foldS ((s.take (vi2 + (2 : Int)).toNat).drop (vi2 + (1 : Int)).toNat)) != ([113] : List UInt8)))) = true → i64ok ((runS s (vi2 + (3 : Int))) + (2 : Int))) (need ((!(((foldS ((s.take (vi2 + (2 : Int)).toNat).drop (vi2 + (1 : Int)).toNat)) != ([98] : List UInt8)) && ((foldS ((s.take (vi2 + (2 : Int)).toNat).drop (vi2 + (1 : Int)).toNat)) != ([113] : List UInt8)))) = true → (!(((foldS ((s.take (vi2 + (2 : Int)).toNat).drop (vi2 + (1 : Int)).toNat)) != ([98] : List UInt8)) && ((foldS ((s.take (vi2 + (2 : Int)).toNat).drop (vi2 + (1 : Int)).toNat)) != ([113] : List UInt8)))) = true) (need ((!(((foldS ((s.take (vi2 + (2 : Int)).toNat).drop (vi2 + (1 : Int)).toNat)) != ([98] : List UInt8)) && ((foldS ((s.take (vi2 + (2 : Int)).toNat).drop (vi2 + (1 : Int)).toNat)) != ([113] : List UInt8)))) = true → (!(((foldS ((s.take (vi2 + (2 : Int)).toNat).drop (vi2 + (1 : Int)).toNat)) != ([98] : List UInt8)) && ((foldS ((s.take (vi2 + (2 : Int)).toNat).drop (vi2 + (1 : Int)).toNat)) != ([113] : List UInt8)))) = true) (need ((!(((foldS ((s.take (vi2 + (2 : Int)).toNat).drop (vi2 + (1 : Int)).toNat)) != ([98] : List UInt8)) && ((foldS ((s.take (vi2 + (2 : Int)).toNat).drop (vi2 + (1 : Int)).toNat)) != ([113] : List UInt8)))) = true → (!(((foldS ((s.take (vi2 + (2 : Int)).toNat).drop (vi2 + (1 : Int)).toNat)) != ([98] : List UInt8)) && ((foldS ((s.take (vi2 + (2 : Int)).toNat).drop (vi2 + (1 : Int)).toNat)) != ([113] : List UInt8)))) = true) (need ((((foldS ((s.take (vi2 + (2 : Int)).toNat).drop (vi2 + (1 : Int)).toNat)) != ([98] : List UInt8)) && ((foldS ((s.take (vi2 + (2 : Int)).toNat).drop (vi2 + (1 : Int)).toNat)) != ([113] : List UInt8))) = false → (!(((foldS ((s.take (vi2 + (2 : Int)).toNat).drop (vi2 + (1 : Int)).toNat)) != ([98] : List UInt8)) && ((foldS ((s.take (vi2 + (2 : Int)).toNat).drop (vi2 + (1 : Int)).toNat)) != ([113] : List UInt8)))) = true) (need ((!((((foldS ((s.take (vi2 + (2 : Int)).toNat).drop (vi2 + (1 : Int)).toNat)) != ([98] : List UInt8)) && ((foldS ((s.take (vi2 + (2 : Int)).toNat).drop (vi2 + (1 : Int)).toNat)) != ([113] : List UInt8))) || (decide (((runS s (vi2 + (3 : Int))) + (2 : Int)) > (s.length : Int))))) = true → (!((((foldS ((s.take (vi2 + (2 : Int)).toNat).drop (vi2 + (1 : Int)).toNat)) != ([98] : List UInt8)) && ((foldS ((s.take (vi2 + (2 : Int)).toNat).drop (vi2 + (1 : Int)).toNat)) != ([113] : List UInt8))) || (decide (((runS s (vi2 + (3 : Int))) + (2 : Int)) > (s.length : Int))))) = true) (need ((!((((foldS ((s.take (vi2 + (2 : Int)).toNat).drop (vi2 + (1 : Int)).toNat)) != ([98] : List UInt8)) && ((foldS ((s.take (vi2 + (2 : Int)).toNat).drop (vi2 + (1 : Int)).toNat)) != ([113] : List UInt8))) || (decide (((runS s (vi2 + (3 : Int))) + (2 : Int)) > (s.length : Int))))) = true → i64ok ((runS s (vi2 + (3 : Int))) + (2 : Int))) (need ((!((((foldS ((s.take (vi2 + (2 : Int)).toNat).drop (vi2 + (1 : Int)).toNat)) != ([98] : List UInt8)) && ((foldS ((s.take (vi2 + (2 : Int)).toNat).drop (vi2 + (1 : Int)).toNat)) != ([113] : List UInt8))) || (decide (((runS s (vi2 + (3 : Int))) + (2 : Int)) > (s.length : Int))))) = true → (!((((foldS ((s.take (vi2 + (2 : Int)).toNat).drop (vi2 + (1 : Int)).toNat)) != ([98] : List UInt8)) && ((foldS ((s.take (vi2 + (2 : Int)).toNat).drop (vi2 + (1 : Int)).toNat)) != ([113] : List UInt8))) || (decide (((runS s (vi2 + (3 : Int))) + (2 : Int)) > (s.length : Int))))) = true) (need ((!((((foldS ((s.take (vi2 + (2 : Int)).toNat).drop (vi2 + (1 : Int)).toNat)) != ([98] : List UInt8)) && ((foldS ((s.take (vi2 + (2 : Int)).toNat).drop (vi2 + (1 : Int)).toNat)) != ([113] : List UInt8))) || (decide (((runS s (vi2 + (3 : Int))) + (2 : Int)) > (s.length : Int))))) = true → (!((((foldS ((s.take (vi2 + (2 : Int)).toNat).drop (vi2 + (1 : Int)).toNat)) != ([98] : List UInt8)) && ((foldS ((s.take (vi2 + (2 : Int)).toNat).drop (vi2 + (1 : Int)).toNat)) != ([113] : List UInt8))) || (decide (((runS s (vi2 + (3 : Int))) + (2 : Int)) > (s.length : Int))))) = true) (need ((!((((foldS ((s.take (vi2 + (2 : Int)).toNat).drop (vi2 + (1 : Int)).toNat)) != ([98] : List UInt8)) && ((foldS ((s.take (vi2 + (2 : Int)).toNat).drop (vi2 + (1 : Int)).toNat)) != ([113] : List UInt8))) || (decide (((runS s (vi2 + (3 : Int))) + (2 : Int)) > (s.length : Int))))) = true → (!((((foldS ((s.take (vi2 + (2 : Int)).toNat).drop (vi2 + (1 : Int)).toNat)) != ([98] : List UInt8)) && ((foldS ((s.take (vi2 + (2 : Int)).toNat).drop (vi2 + (1 : Int)).toNat)) != ([113] : List UInt8))) || (decide (((runS s (vi2 + (3 : Int))) + (2 : Int)) > (s.length : Int))))) = true) (need ((!((((foldS ((s.take (vi2 + (2 : Int)).toNat).drop (vi2 + (1 : Int)).toNat)) != ([98] : List UInt8)) && ((foldS ((s.take (vi2 + (2 : Int)).toNat).drop (vi2 + (1 : Int)).toNat)) != ([113] : List UInt8))) || (decide (((runS s (vi2 + (3 : Int))) + (2 : Int)) > (s.length : Int))))) = true → 0 ≤ (runS s (vi2 + (3 : Int))) ∧ (runS s (vi2 + (3 : Int))) ≤ ((runS s (vi2 + (3 : Int))) + (2 : Int)) ∧ ((runS s (vi2 + (3 : Int))) + (2 : Int)) ≤ (s.length : Int)) (need ((!((((foldS ((s.take (vi2 + (2 : Int)).toNat).drop (vi2 + (1 : Int)).toNat)) != ([98] : List UInt8)) && ((foldS ((s.take (vi2 + (2 : Int)).toNat).drop (vi2 + (1 : Int)).toNat)) != ([113] : List UInt8))) || (decide (((runS s (vi2 + (3 : Int))) + (2 : Int)) > (s.length : Int))))) = true → (!((((foldS ((s.take (vi2 + (2 : Int)).toNat).drop (vi2 + (1 : Int)).toNat)) != ([98] : List UInt8)) && ((foldS ((s.take (vi2 + (2 : Int)).toNat).drop (vi2 + (1 : Int)).toNat)) != ([113] : List UInt8))) || (decide (((runS s (vi2 + (3 : Int))) + (2 : Int)) > (s.length : Int))))) = true) (need (((((foldS ((s.take (vi2 + (2 : Int)).toNat).drop (vi2 + (1 : Int)).toNat)) != ([98] : List UInt8)) && ((foldS ((s.take (vi2 + (2 : Int)).toNat).drop (vi2 + (1 : Int)).toNat)) != ([113] : List UInt8))) || (decide (((runS s (vi2 + (3 : Int))) + (2 : Int)) > (s.length : Int)))) = false → (!((((foldS ((s.take (vi2 + (2 : Int)).toNat).drop (vi2 + (1 : Int)).toNat)) != ([98] : List UInt8)) && ((foldS ((s.take (vi2 + (2 : Int)).toNat).drop (vi2 + (1 : Int)).toNat)) != ([113] : List UInt8))) || (decide (((runS s (vi2 + (3 : Int))) + (2 : Int)) > (s.length : Int))))) = true) (Br7one_3 F s i vi2 (foldS ((s.take (vi2 + (2 : Int)).toNat).drop (vi2 + (1 : Int)).toNat)) (runS s (vi2 + (3 : Int))) (((((foldS ((s.take (vi2 + (2 : Int)).toNat).drop (vi2 + (1 : Int)).toNat)) != ([98] : List UInt8)) && ((foldS ((s.take (vi2 + (2 : Int)).toNat).drop (vi2 + (1 : Int)).toNat)) != ([113] : List UInt8))) || (decide (((runS s (vi2 + (3 : Int))) + (2 : Int)) > (s.length : Int)))) || (((s.take ((runS s (vi2 + (3 : Int))) + (2 : Int)).toNat).drop (runS s (vi2 + (3 : Int))).toNat) != ([63, 61] : List UInt8)))))))))))))))))))))))))) by kernel_rfl) (cond_congr (rfl) (need_congr (need_congr (need_congr (need_congr (need_congr (need_congr (need_strike (show ((foldS ((s.take (vi2 + (2 : Int)).toNat).drop (vi2 + (1 : Int)).toNat)) != ([98] : List UInt8)) = true → ((foldS ((s.take (vi2 + (2 : Int)).toNat).drop (vi2 + (1 : Int)).toNat)) != ([98] : List UInt8)) = true from (fun q0 => q0)) (need_strike (show ((foldS ((s.take (vi2 + (2 : Int)).toNat).drop (vi2 + (1 : Int)).toNat)) != ([98] : List UInt8)) = true → ((foldS ((s.take (vi2 + (2 : Int)).toNat).drop (vi2 + (1 : Int)).toNat)) != ([98] : List UInt8)) = true from (fun q0 => q0)) (need_strike (show (!(((foldS ((s.take (vi2 + (2 : Int)).toNat).drop (vi2 + (1 : Int)).toNat)) != ([98] : List UInt8)) && ((foldS ((s.take (vi2 + (2 : Int)).toNat).drop (vi2 + (1 : Int)).toNat)) != ([113] : List UInt8)))) = true → (!(((foldS ((s.take (vi2 + (2 : Int)).toNat).drop (vi2 + (1 : Int)).toNat)) != ([98] : List UInt8)) && ((foldS ((s.take (vi2 + (2 : Int)).toNat).drop (vi2 + (1 : Int)).toNat)) != ([113] : List UInt8)))) = true from (fun q0 => q0)) (need_congr (need_strike (show (!(((foldS ((s.take (vi2 + (2 : Int)).toNat).drop (vi2 + (1 : Int)).toNat)) != ([98] : List UInt8)) && ((foldS ((s.take (vi2 + (2 : Int)).toNat).drop (vi2 + (1 : Int)).toNat)) != ([113] : List UInt8)))) = true → (!(((foldS ((s.take (vi2 + (2 : Int)).toNat).drop (vi2 + (1 : Int)).toNat)) != ([98] : List UInt8)) && ((foldS ((s.take (vi2 + (2 : Int)).toNat).drop (vi2 + (1 : Int)).toNat)) != ([113] : List UInt8)))) = true from (fun q0 => q0)) (need_strike (show (!(((foldS ((s.take (vi2 + (2 : Int)).toNat).drop (vi2 + (1 : Int)).toNat)) != ([98] : List UInt8)) && ((foldS ((s.take (vi2 + (2 : Int)).toNat).drop (vi2 + (1 : Int)).toNat)) != ([113] : List UInt8)))) = true → (!(((foldS ((s.take (vi2 + (2 : Int)).toNat).drop (vi2 + (1 : Int)).toNat)) != ([98] : List UInt8)) && ((foldS ((s.take (vi2 + (2 : Int)).toNat).drop (vi2 + (1 : Int)).toNat)) != ([113] : List UInt8)))) = true from (fun q0 => q0)) (need_strike (show (!(((foldS ((s.take (vi2 + (2 : Int)).toNat).drop (vi2 + (1 : Int)).toNat)) != ([98] : List UInt8)) && ((foldS ((s.take (vi2 + (2 : Int)).toNat).drop (vi2 + (1 : Int)).toNat)) != ([113] : List UInt8)))) = true → (!(((foldS ((s.take (vi2 + (2 : Int)).toNat).drop (vi2 + (1 : Int)).toNat)) != ([98] : List UInt8)) && ((foldS ((s.take (vi2 + (2 : Int)).toNat).drop (vi2 + (1 : Int)).toNat)) != ([113] : List UInt8)))) = true from (fun q0 => q0)) (need_strike (show (((foldS ((s.take (vi2 + (2 : Int)).toNat).drop (vi2 + (1 : Int)).toNat)) != ([98] : List UInt8)) && ((foldS ((s.take (vi2 + (2 : Int)).toNat).drop (vi2 + (1 : Int)).toNat)) != ([113] : List UInt8))) = false → (!(((foldS ((s.take (vi2 + (2 : Int)).toNat).drop (vi2 + (1 : Int)).toNat)) != ([98] : List UInt8)) && ((foldS ((s.take (vi2 + (2 : Int)).toNat).drop (vi2 + (1 : Int)).toNat)) != ([113] : List UInt8)))) = true from (fun q0 => (not_mk q0))) (need_strike (show (!((((foldS ((s.take (vi2 + (2 : Int)).toNat).drop (vi2 + (1 : Int)).toNat)) != ([98] : List UInt8)) && ((foldS ((s.take (vi2 + (2 : Int)).toNat).drop (vi2 + (1 : Int)).toNat)) != ([113] : List UInt8))) || (decide (((runS s (vi2 + (3 : Int))) + (2 : Int)) > (s.length : Int))))) = true → (!((((foldS ((s.take (vi2 + (2 : Int)).toNat).drop (vi2 + (1 : Int)).toNat)) != ([98] : List UInt8)) && ((foldS ((s.take (vi2 + (2 : Int)).toNat).drop (vi2 + (1 : Int)).toNat)) != ([113] : List UInt8))) || (decide (((runS s (vi2 + (3 : Int))) + (2 : Int)) > (s.length : Int))))) = true from (fun q0 => q0)) (need_congr (need_strike (show (!((((foldS ((s.take (vi2 + (2 : Int)).toNat).drop (vi2 + (1 : Int)).toNat)) != ([98] : List UInt8)) && ((foldS ((s.take (vi2 + (2 : Int)).toNat).drop (vi2 + (1 : Int)).toNat)) != ([113] : List UInt8))) || (decide (((runS s (vi2 + (3 : Int))) + (2 : Int)) > (s.length : Int))))) = true → (!((((foldS ((s.take (vi2 + (2 : Int)).toNat).drop (vi2 + (1 : Int)).toNat)) != ([98] : List UInt8)) && ((foldS ((s.take (vi2 + (2 : Int)).toNat).drop (vi2 + (1 : Int)).toNat)) != ([113] : List UInt8))) || (decide (((runS s (vi2 + (3 : Int))) + (2 : Int)) > (s.length : Int))))) = true from (fun q0 => q0)) (need_strike (show (!((((foldS ((s.take (vi2 + (2 : Int)).toNat).drop (vi2 + (1 : Int)).toNat)) != ([98] : List UInt8)) && ((foldS ((s.take (vi2 + (2 : Int)).toNat).drop (vi2 + (1 : Int)).toNat)) != ([113] : List UInt8))) || (decide (((runS s (vi2 + (3 : Int))) + (2 : Int)) > (s.length : Int))))) = true → (!((((foldS ((s.take (vi2 + (2 : Int)).toNat).drop (vi2 + (1 : Int)).toNat)) != ([98] : List UInt8)) && ((foldS ((s.take (vi2 + (2 : Int)).toNat).drop (vi2 + (1 : Int)).toNat)) != ([113] : List UInt8))) || (decide (((runS s (vi2 + (3 : Int))) + (2 : Int)) > (s.length : Int))))) = true from (fun q0 => q0)) (need_strike (show (!((((foldS ((s.take (vi2 + (2 : Int)).toNat).drop (vi2 + (1 : Int)).toNat)) != ([98] : List UInt8)) && ((foldS ((s.take (vi2 + (2 : Int)).toNat).drop (vi2 + (1 : Int)).toNat)) != ([113] : List UInt8))) || (decide (((runS s (vi2 + (3 : Int))) + (2 : Int)) > (s.length : Int))))) = true → (!((((foldS ((s.take (vi2 + (2 : Int)).toNat).drop (vi2 + (1 : Int)).toNat)) != ([98] : List UInt8)) && ((foldS ((s.take (vi2 + (2 : Int)).toNat).drop (vi2 + (1 : Int)).toNat)) != ([113] : List UInt8))) || (decide (((runS s (vi2 + (3 : Int))) + (2 : Int)) > (s.length : Int))))) = true from (fun q0 => q0)) (need_congr (need_strike (show (!((((foldS ((s.take (vi2 + (2 : Int)).toNat).drop (vi2 + (1 : Int)).toNat)) != ([98] : List UInt8)) && ((foldS ((s.take (vi2 + (2 : Int)).toNat).drop (vi2 + (1 : Int)).toNat)) != ([113] : List UInt8))) || (decide (((runS s (vi2 + (3 : Int))) + (2 : Int)) > (s.length : Int))))) = true → (!((((foldS ((s.take (vi2 + (2 : Int)).toNat).drop (vi2 + (1 : Int)).toNat)) != ([98] : List UInt8)) && ((foldS ((s.take (vi2 + (2 : Int)).toNat).drop (vi2 + (1 : Int)).toNat)) != ([113] : List UInt8))) || (decide (((runS s (vi2 + (3 : Int))) + (2 : Int)) > (s.length : Int))))) = true from (fun q0 => q0)) (need_strike (show ((((foldS ((s.take (vi2 + (2 : Int)).toNat).drop (vi2 + (1 : Int)).toNat)) != ([98] : List UInt8)) && ((foldS ((s.take (vi2 + (2 : Int)).toNat).drop (vi2 + (1 : Int)).toNat)) != ([113] : List UInt8))) || (decide (((runS s (vi2 + (3 : Int))) + (2 : Int)) > (s.length : Int)))) = false → (!((((foldS ((s.take (vi2 + (2 : Int)).toNat).drop (vi2 + (1 : Int)).toNat)) != ([98] : List UInt8)) && ((foldS ((s.take (vi2 + (2 : Int)).toNat).drop (vi2 + (1 : Int)).toNat)) != ([113] : List UInt8))) || (decide (((runS s (vi2 + (3 : Int))) + (2 : Int)) > (s.length : Int))))) = true from (fun q0 => (not_mk q0))) (rfl))))))))))))))))))))))))

theorem Br7one_3_eq (F : Nat) (s : List UInt8) (i : Int) (vi2 : Int) (vs4 : List UInt8) (vi5 : Int) (vc6 : Bool) : Br7one_3 F s i vi2 vs4 vi5 vc6 = cond (vc6) (some (.tup [.p (.str ([] : List UInt8)), .p (.int .i64 (0 : Int)), .p (.bool false)], [])) (need (i64ok (vi2 + (3 : Int))) (need (0 ≤ (vi2 + (3 : Int)) ∧ (vi2 + (3 : Int)) ≤ vi5 ∧ vi5 ≤ (s.length : Int)) (cond (vs4 == ([98] : List UInt8)) (need (((s.take (vi5).toNat).drop (vi2 + (3 : Int)).toNat).length ≤ 1000000) (Br7one_4 F s i vi2 vi5 (looseB ((s.take (vi5).toNat).drop (vi2 + (3 : Int)).toNat)))) (Br7one_7 F F s i vi2 vi5 (0 : Int) ((s.take (vi5).toNat).drop (vi2 + (3 : Int)).toNat))))) := by kernel_rfl

theorem Br7one_4_eq (F : Nat) (s : List UInt8) (i : Int) (vi2 : Int) (vi5 : Int) (vs7 : List UInt8) : Br7one_4 F s i vi2 vi5 vs7 = need (i64ok (i + (2 : Int))) (need (0 ≤ (i + (2 : Int)) ∧ (i + (2 : Int)) ≤ vi2 ∧ vi2 ≤ (s.length : Int)) (need (((s.take (vi2).toNat).drop (i + (2 : Int)).toNat).length ≤ 1000000) (Br7one_5 F vi5 vs7 (foldS ((s.take (vi2).toNat).drop (i + (2 : Int)).toNat)) ((foldS ((s.take (vi2).toNat).drop (i + (2 : Int)).toNat)) == ([117, 116, 102, 45, 56] : List UInt8))))) := by kernel_rfl

theorem Br7one_5_eq (F : Nat) (vi5 : Int) (vs7 : List UInt8) (vs8 : List UInt8) (vc9 : Bool) : Br7one_5 F vi5 vs7 vs8 vc9 = cond (vc9) (Br7one_6 F vi5 vs7 vs8 vc9) (Br7one_6 F vi5 vs7 vs8 (vs8 == ([117, 115, 45, 97, 115, 99, 105, 105] : List UInt8))) := by kernel_rfl

theorem Br7one_6_eq (F : Nat) (vi5 : Int) (vs7 : List UInt8) (vs8 : List UInt8) (vc10 : Bool) : Br7one_6 F vi5 vs7 vs8 vc10 = cond (vc10) (need (i64ok (vi5 + (2 : Int))) (need (vs7.length ≤ 1000000) (some (.tup [.p (.str vs7), .p (.int .i64 (vi5 + (2 : Int))), .p (.bool (validS vs7))], [])))) (cond (vs8 == ([105, 115, 111, 45, 56, 56, 53, 57, 45, 49] : List UInt8)) (need (vs7.length ≤ 1000000) (need (i64ok (vi5 + (2 : Int))) (some (.tup [.p (.str (bytesS vs7)), .p (.int .i64 (vi5 + (2 : Int))), .p (.bool true)], [])))) (some (.tup [.p (.str ([] : List UInt8)), .p (.int .i64 (0 : Int)), .p (.bool false)], []))) := by kernel_rfl

theorem Br7one_7_eq (F f1 : Nat) (s : List UInt8) (i : Int) (vi2 : Int) (vi5 : Int) (vi11 : Int) (vb12 : List UInt8) : Br7one_7 F (f1 + 1) s i vi2 vi5 vi11 vb12 = cond (decide (vi11 < (vb12.length : Int))) (need (0 ≤ vi11 ∧ vi11 < (vb12.length : Int)) (need ((vi11).toNat < vb12.length) (cond (((vb12.getD ((vi11).toNat) 0).toNat : Int) == (95 : Int)) (need (0 ≤ vi11 ∧ vi11 < (vb12.length : Int)) (need ((vi11).toNat < vb12.length) (Br7one_8 F f1 s i vi2 vi5 vi11 (vb12.set ((vi11).toNat) (UInt8.ofNat ((32 : Int)).toNat))))) (Br7one_8 F f1 s i vi2 vi5 vi11 vb12)))) (need (vb12.length ≤ 1000000) (Br7one_4 F s i vi2 vi5 (qdec vb12))) := by kernel_rfl

theorem Br7one_8_eq (F f1 : Nat) (s : List UInt8) (i : Int) (vi2 : Int) (vi5 : Int) (vi11 : Int) (vb13 : List UInt8) : Br7one_8 F f1 s i vi2 vi5 vi11 vb13 = need (i64ok (vi11 + (1 : Int))) (Br7one_7 F f1 s i vi2 vi5 (vi11 + (1 : Int)) vb13) := by kernel_rfl

theorem Fr7one_eq (F : Nat) (s : List UInt8) (i : Int) : Fr7one F s i = need (i64ok (i + (1 : Int))) ((need ((!(decide ((i + (1 : Int)) ≥ (s.length : Int)))) = true → i64ok (i + (2 : Int))) ((((need ((!(decide ((i + (1 : Int)) ≥ (s.length : Int)))) = true → 0 ≤ i ∧ i ≤ (i + (2 : Int)) ∧ (i + (2 : Int)) ≤ (s.length : Int)) (((Br7one_1 F s i ((decide ((i + (1 : Int)) ≥ (s.length : Int))) || (((s.take (i + (2 : Int)).toNat).drop (i).toNat) != ([61, 63] : List UInt8)))))))))))) := by
  have h : Fr7one F s i = need (i64ok (i + (1 : Int))) (need ((!(decide ((i + (1 : Int)) ≥ (s.length : Int)))) = true → (!(decide ((i + (1 : Int)) ≥ (s.length : Int)))) = true) (need ((!(decide ((i + (1 : Int)) ≥ (s.length : Int)))) = true → i64ok (i + (2 : Int))) (need ((!(decide ((i + (1 : Int)) ≥ (s.length : Int)))) = true → (!(decide ((i + (1 : Int)) ≥ (s.length : Int)))) = true) (need ((!(decide ((i + (1 : Int)) ≥ (s.length : Int)))) = true → (!(decide ((i + (1 : Int)) ≥ (s.length : Int)))) = true) (need ((!(decide ((i + (1 : Int)) ≥ (s.length : Int)))) = true → (!(decide ((i + (1 : Int)) ≥ (s.length : Int)))) = true) (need ((!(decide ((i + (1 : Int)) ≥ (s.length : Int)))) = true → 0 ≤ i ∧ i ≤ (i + (2 : Int)) ∧ (i + (2 : Int)) ≤ (s.length : Int)) (need ((!(decide ((i + (1 : Int)) ≥ (s.length : Int)))) = true → (!(decide ((i + (1 : Int)) ≥ (s.length : Int)))) = true) (need ((decide ((i + (1 : Int)) ≥ (s.length : Int))) = false → (!(decide ((i + (1 : Int)) ≥ (s.length : Int)))) = true) (Br7one_1 F s i ((decide ((i + (1 : Int)) ≥ (s.length : Int))) || (((s.take (i + (2 : Int)).toNat).drop (i).toNat) != ([61, 63] : List UInt8)))))))))))) := by kernel_rfl
  rw [h, need_pos (show (decide ((i + (1 : Int)) ≥ (s.length : Int))) = false → (!(decide ((i + (1 : Int)) ≥ (s.length : Int)))) = true from (fun q0 => (not_mk q0))), need_pos (show (!(decide ((i + (1 : Int)) ≥ (s.length : Int)))) = true → (!(decide ((i + (1 : Int)) ≥ (s.length : Int)))) = true from (fun q0 => q0)), need_pos (show (!(decide ((i + (1 : Int)) ≥ (s.length : Int)))) = true → (!(decide ((i + (1 : Int)) ≥ (s.length : Int)))) = true from (fun q0 => q0)), need_pos (show (!(decide ((i + (1 : Int)) ≥ (s.length : Int)))) = true → (!(decide ((i + (1 : Int)) ≥ (s.length : Int)))) = true from (fun q0 => q0)), need_pos (show (!(decide ((i + (1 : Int)) ≥ (s.length : Int)))) = true → (!(decide ((i + (1 : Int)) ≥ (s.length : Int)))) = true from (fun q0 => q0)), need_pos (show (!(decide ((i + (1 : Int)) ≥ (s.length : Int)))) = true → (!(decide ((i + (1 : Int)) ≥ (s.length : Int)))) = true from (fun q0 => q0))]

theorem fn_r7one (F : Nat) (s : List UInt8) (i : Int) (r : AV) (h : (∃ M vs, ARels γ0 M [.p (.str s), .p (.int .i64 i)] vs) → Fr7one F s i = some (r, [])) : FnP Tryd.prog 20 [.p (.str s), .p (.int .i64 i)] r :=
  FnP_run Gr7one F rfl (EnvOk_mk (l := [(11, sp_rvalid), (30, sp_r7run), (31, sp_rFold), (32, sp_rLoose), (33, sp_QPlain), (34, sp_rbytes)]) ⟨ok_rvalid.any, ok_r7run.any, ok_rFold.any, ok_rLoose.any, ok_QPlain.any, ok_rbytes.any, trivial⟩) (EnvROk_mk (l := []) trivial) (Checked.mixed Tryd.checked) (fn := Tryd.f20) (by kernel_rfl) (by kernel_rfl) rfl h
theorem Br7_loop (F : Nat) (s : List UInt8) (i a b : Int) : ∀ (r : List UInt8) (f k : Nat) (t : List UInt8), t.drop k = r → r.length < f → k ≤ t.length → t.length ≤ 1000000 →
    Br7one_7 F f s i a b (k : Int) t = Br7one_4 F s i a b (qdec (t.take k ++ repS r 95 32)) := by
  intro r
  induction r with
  | nil =>
    intro f k t hd hf hk ht
    have : k = t.length := by have := congrArg List.length hd; simp at this; omega
    cases f with
    | zero => omega
    | succ f =>
      rw [Br7one_7_eq]
      rw [show decide ((k : Int) < (t.length : Int)) = false by simp; omega]
      rw [cond_false, need_pos ht, this]
      simp [repS]
  | cons c r ih =>
    intro f k t hd hf hk ht
    obtain ⟨h1, h2, h3⟩ := drop_cons hd
    cases f with
    | zero => omega
    | succ f =>
      rw [Br7one_7_eq]
      rw [show decide ((k : Int) < (t.length : Int)) = true by simp; omega]
      have e : (k : Int) + 1 = ((k + 1 : Nat) : Int) := by omega
      rw [cond_true, need_pos (by omega), need_pos (by omega), show ((k : Int)).toNat = k from rfl, h1, show (95 : Int) = ((95 : UInt8).toNat : Int) from rfl, u8n]
      have hg : t[k]? = some c := by
        have : (t.drop k)[0]? = some c := by rw [hd]; rfl
        simpa using this
      by_cases hc : c = 95
      · rw [show (c == 95) = true by simpa using hc, cond_true, need_pos (by omega), need_pos (by omega), Br7one_8_eq, need_pos (by unfold i64ok; omega), e]
        rw [ih f (k + 1) (t.set k (UInt8.ofNat ((32 : Int)).toNat)) (by rw [List.drop_set_of_lt (by omega)]; exact h2) (by simp at hf; omega) (by simp; omega) (by simpa using ht)]
        congr 2
        rw [List.take_set, List.take_add_one, hg]
        have hlen : (t.take k).length = k := by simp; omega
        rw [Option.toList_some, List.set_append_right _ _ (by omega), hlen]
        simp [repS, hc]
      · rw [show (c == 95) = false by simpa using hc, cond_false, Br7one_8_eq, need_pos (by unfold i64ok; omega), e]
        rw [ih f (k + 1) t h2 (by simp at hf; omega) (by omega) ht]
        rw [List.take_add_one, hg]
        simp [repS, hc]
theorem r7one_eq (s : List UInt8) (i : Int) (h : wposok s i) : Fr7one (s.length + 1) s i = some (oneT (oneR s i), []) := by
  obtain ⟨h0, h1, h2⟩ := h
  obtain ⟨i, rfl⟩ := Int.eq_ofNat_of_zero_le h0
  have hi : i ≤ s.length := by omega
  rw [Fr7one_eq, oneR, parse, show ((i : Int)).toNat = i from rfl]
  have e2 : (i : Int) + 2 = ((i + 2 : Nat) : Int) := by omega
  refine need_mk (by first | omega | (unfold i64ok; omega) | (simp only [List.length_cons, List.length_nil]; omega) | (simp; omega) | simp) ?_
  refine need_mk (fun _ => by unfold i64ok; omega) (need_mk (fun h => by simp at h; omega) ?_)
  have hB1 : ((decide ((i : Int) + (1 : Int) ≥ (s.length : Int))) || ((s.take ((i : Int) + (2 : Int)).toNat).drop i != ([61, 63] : List UInt8))) = !(hasP (s.drop i) sOpen) := by
    rw [e2, show (((i + 2 : Nat) : Int)).toNat = i + 2 from rfl]
    by_cases hs2 : i + 2 ≤ s.length
    · rw [show decide ((i : Int) + (1 : Int) ≥ (s.length : Int)) = false by simp; omega, Bool.false_or, ← hasP_mid (p := sOpen) hs2]; rfl
    · rw [show decide ((i : Int) + (1 : Int) ≥ (s.length : Int)) = true by simp; omega, hasP_short (by simp; omega)]; rfl
  rw [hB1, Br7one_1_eq]
  by_cases c1 : hasP (s.drop i) sOpen = false
  · refine cond_t (by rw [c1]; rfl) ?_
    rw [if_pos c1]; rfl
  · have c1' : hasP (s.drop i) sOpen = true := by simpa using c1
    refine cond_f (by rw [c1']; rfl) ?_
    rw [if_neg c1]
    have hlen : i + 2 ≤ s.length := by have := hasP2 c1'; simp at this; omega
    refine need_mk (by first | omega | (unfold i64ok; omega) | (simp only [List.length_cons, List.length_nil]; omega) | (simp; omega) | simp) ?_
    rw [e2]
    refine need_mk ⟨by omega, by omega, h2⟩ ?_
    have hr := runN_le (s := s) (i := i + 2) hlen
    rw [show runS s ((i + 2 : Nat) : Int) = (runN s (i + 2) : Int) from rfl]
    generalize runN s (i + 2) = a at hr ⊢
    rw [show ((a : Int)).toNat = a from rfl]
    have ea2 : ((a : Int) + 2).toNat = a + 2 := by omega
    rw [ea2]
    refine need_mk (by first | omega | (unfold i64ok; omega) | (simp only [List.length_cons, List.length_nil]; omega) | (simp; omega) | simp) ?_
    refine need_mk (fun _ => by unfold i64ok; omega) (need_mk (fun h => by simp at h; omega) (need_mk (fun h => by unfold i64ok; omega) (need_mk (fun h => by simp at h; omega) ?_)))
    have hB : ((((a : Int) == ((i + 2 : Nat) : Int)) || (decide ((a : Int) + (3 : Int) > (s.length : Int)))) || (((s.getD a 0).toNat : Int) != (63 : Int)) || (((s.getD (a + 2) 0).toNat : Int) != (63 : Int))) =
        decide (a = i + 2 ∨ s.length < a + 3 ∨ s.getD a 0 ≠ 63 ∨ s.getD (a + 2) 0 ≠ 63) := by
      rw [show (63 : Int) = ((63 : UInt8).toNat : Int) from rfl, u8ne, u8ne, Bool.eq_iff_iff]
      simp only [Bool.or_eq_true, decide_eq_true_eq, beq_iff_eq, bne_iff_ne]
      constructor
      · rintro (((h | h) | h) | h)
        · exact .inl (by omega)
        · exact .inr (.inl (by omega))
        · exact .inr (.inr (.inl h))
        · exact .inr (.inr (.inr h))
      · rintro (h | h | h | h)
        · exact .inl (.inl (.inl (by omega)))
        · exact .inl (.inl (.inr (by omega)))
        · exact .inl (.inr h)
        · exact .inr h
    rw [hB, Br7one_2_eq]
    by_cases c2 : a = i + 2 ∨ s.length < a + 3 ∨ s.getD a 0 ≠ 63 ∨ s.getD (a + 2) 0 ≠ 63
    · refine cond_t (decide_eq_true c2) ?_
      rw [if_pos c2]; rfl
    · refine cond_f (decide_eq_false c2) ?_
      rw [if_neg c2]
      have ha3 : a + 3 ≤ s.length := by
        rcases Nat.lt_or_ge s.length (a + 3) with h | h
        · exact absurd (.inr (.inl h)) c2
        · exact h
      have e3 : (a : Int) + 3 = ((a + 3 : Nat) : Int) := by omega
      have e1 : ((a : Int) + 1).toNat = a + 1 := by omega
      rw [e3, e1, ea2]
      have hk1 : (s.take (a + 2)).drop (a + 1) = [s.getD (a + 1) 0] := by
        rw [show a + 2 = (a + 1) + 1 from rfl, fin_drop, take_cons (m := 0) (by omega)]; rfl
      rw [hk1]
      refine need_mk (by first | omega | (unfold i64ok; omega) | (simp only [List.length_cons, List.length_nil]; omega) | (simp; omega) | simp) ?_
      refine need_mk (by first | omega | (unfold i64ok; omega) | (simp only [List.length_cons, List.length_nil]; omega) | (simp; omega) | simp) ?_
      refine need_mk (by first | omega | (unfold i64ok; omega) | (simp only [List.length_cons, List.length_nil]; omega) | (simp; omega) | simp) ?_
      refine need_mk (by simp) ?_
      refine need_mk (by first | omega | (unfold i64ok; omega) | (simp only [List.length_cons, List.length_nil]; omega) | (simp; omega) | simp) ?_
      refine need_mk ⟨by omega, by omega, h2⟩ ?_
      have hb := runN_le (s := s) (i := a + 3) ha3
      rw [show runS s ((a + 3 : Nat) : Int) = (runN s (a + 3) : Int) from rfl]
      generalize runN s (a + 3) = b at hb ⊢
      have eb2 : ((b : Int) + 2).toNat = b + 2 := by omega
      rw [show ((b : Int)).toNat = b from rfl, eb2]
      refine need_mk (fun _ => by unfold i64ok; omega) (need_mk (fun _ => by unfold i64ok; omega) (need_mk (fun h => by simp at h; omega) ?_))
      have hkf : foldS [s.getD (a + 1) 0] = [lowB (s.getD (a + 1) 0)] := rfl
      rw [hkf]
      have hlk := low_98 (s.getD (a + 1) 0)
      obtain ⟨k, hkd⟩ : ∃ k, s.getD (a + 1) 0 = k := ⟨_, rfl⟩
      rw [hkd] at hlk ⊢
      have hk98 : ([lowB k] == ([98] : List UInt8)) = decide (k = 66 ∨ k = 98) := by
        rw [Bool.eq_iff_iff, decide_eq_true_eq, beq_iff_eq, ← hlk.1]; simp
      have hk113 : ([lowB k] == ([113] : List UInt8)) = decide (k = 81 ∨ k = 113) := by
        rw [Bool.eq_iff_iff, decide_eq_true_eq, beq_iff_eq, ← hlk.2]; simp
      have hB3 : ((((([lowB k] != ([98] : List UInt8)) && ([lowB k] != ([113] : List UInt8))) || (decide ((b : Int) + (2 : Int) > (s.length : Int)))) || ((s.take (b + 2)).drop b != ([63, 61] : List UInt8)))) =
          decide (¬ ((k = 66 ∨ k = 98) ∨ (k = 81 ∨ k = 113)) ∨ hasP (s.drop b) sShut = false) := by
        simp only [bne, hk98, hk113]
        by_cases hs2 : b + 2 ≤ s.length
        · rw [show decide ((b : Int) + (2 : Int) > (s.length : Int)) = false by simp; omega, Bool.or_false, show ((s.take (b + 2)).drop b == ([63, 61] : List UInt8)) = hasP (s.drop b) sShut from hasP_mid (p := sShut) hs2, Bool.eq_iff_iff]
          simp only [Bool.or_eq_true, Bool.and_eq_true, Bool.not_eq_true', decide_eq_true_eq, decide_eq_false_iff_not, not_or]
        · rw [show decide ((b : Int) + (2 : Int) > (s.length : Int)) = true by simp; omega, Bool.or_true, Bool.true_or, hasP_short (s := s.drop b) (by simp; omega)]
          simp
      rw [hB3, Br7one_3_eq]
      by_cases c3 : hasP (s.drop b) sShut = false
      · refine cond_t (decide_eq_true (.inr c3)) ?_
        rw [if_pos c3]; rfl
      · rw [if_neg c3]
        have c3' : hasP (s.drop b) sShut = true := by simpa using c3
        have hb2 : b + 2 ≤ s.length := by have := hasP2 c3'; simp at this; omega
        by_cases c4 : ¬ ((k = 66 ∨ k = 98) ∨ (k = 81 ∨ k = 113))
        · refine cond_t (decide_eq_true (.inl c4)) ?_
          dsimp only
          rw [hkd, bodyS, if_neg (fun h => c4 (.inl h)), if_neg (fun h => c4 (.inr h))]; rfl
        · refine cond_f (decide_eq_false (fun h => h.elim c4 c3)) ?_
          rw [e3, show (((a + 3 : Nat) : Int)).toNat = a + 3 from rfl, show ((b : Int)).toNat = b from rfl]
          refine need_mk (by first | omega | (unfold i64ok; omega) | (simp only [List.length_cons, List.length_nil]; omega) | (simp; omega) | simp) ?_
          refine need_mk (by first | omega | (unfold i64ok; omega) | (simp only [List.length_cons, List.length_nil]; omega) | (simp; omega) | simp) ?_
          have htl := mid_len s (a + 3) b
          dsimp only
          generalize (s.take b).drop (a + 3) = t at htl ⊢
          have hm := mid_len s (i + 2) a
          have fin : ∀ u : List UInt8, u.length ≤ 1000000 → Br7one_4 (s.length + 1) s (i : Int) (a : Int) (b : Int) u =
              some (oneT (if foldS ((s.take a).drop (i + 2)) = cUtf8 ∨ foldS ((s.take a).drop (i + 2)) = cAscii then (u, ((b + 2 : Nat) : Int), validS u)
                else if foldS ((s.take a).drop (i + 2)) = cIso then (bytesS u, ((b + 2 : Nat) : Int), true) else ([], 0, false)), []) := fun u hu => by
            rw [Br7one_4_eq, e2, show (((i + 2 : Nat) : Int)).toNat = i + 2 from rfl, show ((a : Int)).toNat = a from rfl]
            refine need_mk (by first | omega | (unfold i64ok; omega) | (simp only [List.length_cons, List.length_nil]; omega) | (simp; omega) | simp) ?_
            refine need_mk (by first | omega | (unfold i64ok; omega) | (simp only [List.length_cons, List.length_nil]; omega) | (simp; omega) | simp) ?_
            refine need_mk (by omega) ?_
            generalize foldS ((s.take a).drop (i + 2)) = q
            have six : ∀ B, B = decide (q = cUtf8 ∨ q = cAscii) → Br7one_6 (s.length + 1) (b : Int) u q B = some (oneT (if q = cUtf8 ∨ q = cAscii then (u, ((b + 2 : Nat) : Int), validS u)
                else if q = cIso then (bytesS u, ((b + 2 : Nat) : Int), true) else ([], 0, false)), []) := by
              intro B hB
              rw [hB, Br7one_6_eq]
              by_cases q1 : q = cUtf8 ∨ q = cAscii
              · refine cond_t (decide_eq_true q1) (need_mk (by unfold i64ok; omega) (need_mk hu ?_))
                rw [if_pos q1]; rfl
              · refine cond_f (decide_eq_false q1) ?_
                rw [if_neg q1]
                by_cases q2 : q = cIso
                · refine cond_t (by rw [q2]; rfl) (need_mk hu (need_mk (by unfold i64ok; omega) ?_))
                  rw [if_pos q2]; rfl
                · refine cond_f (by simpa using q2) ?_
                  rw [if_neg q2]; rfl
            rw [Br7one_5_eq]
            by_cases q3 : q = cUtf8
            · refine cond_t (by rw [q3]; rfl) (six _ (by rw [q3]; rfl))
            · refine cond_f (by simpa using q3) (six _ (by rw [Bool.eq_iff_iff]; simp [q3]))
          have hl := looseG_len t 0 0
          have hq := qdec_len _ (repS t 95 32) (Nat.le_refl _)
          rw [rep_len] at hq
          rw [hkd, bodyS, hk98]
          by_cases k1 : k = 66 ∨ k = 98
          · refine cond_t (decide_eq_true k1) (need_mk (by omega) ?_)
            rw [if_pos k1]
            exact fin _ (by unfold looseB; omega)
          · refine cond_f (decide_eq_false k1) ?_
            have k2 : k = 81 ∨ k = 113 := (Classical.not_not.1 c4).resolve_left k1
            rw [if_neg k1, if_pos k2]
            have := Br7_loop (s.length + 1) s (i : Int) (a : Int) (b : Int) t (s.length + 1) 0 t rfl (by omega) (by omega) (by omega)
            refine Eq.trans this ?_
            exact fin _ (by simpa using Nat.le_trans hq (by omega))
def sp_r7one : List AV → Option (AV × Option Prop)
  | [.p (.str s), .p (.int .i64 i)] => some (.tup [.p (.str ((oneR s i).1)), .p (.int .i64 ((oneR s i).2.1)), .p (.bool ((oneR s i).2.2))], some (wposok s i))
  | _ => none
theorem ok_r7one : SpecOk Tryd.prog 20 sp_r7one := by
  intro zs r ok he hok
  unfold sp_r7one at he
  split at he
  · cases he; exact ⟨by kernel_rfl, fn_r7one (_) _ _ _ fun hx => r7one_eq _ _ hok⟩
  · cases he
end Go.Proofs.YtgakkeclnfkjoaaDoor
