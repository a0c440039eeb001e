/-
  Lifted functions, and facts about them.
-/
import Derived.Test.YthfgklcdkehgjaaDoorRows
import Derived.Test.YthfgklcdkehgjaaDoorAmC
import Derived.Test.YthfgklcdkehgjaaDoorAmNeed
import Derived.Test.YthfgklcdkehgjaaDoorC13PartH
namespace Go.Proofs.YthfgklcdkehgjaaDoor
open Go Go.Am
set_option linter.unusedVariables false
/-! The tree of parts, both sides. -/
theorem ok_cpart : ∀ k, SpecROk Tryd.prog 35 (sp_cpart k)
  | 0 => by
    intro args ib kept r outs ok he hok
    simp only [sp_cpart] at he
    split at he
    · cases he
      exfalso
      obtain ⟨d0, d1, d2, _⟩ := hok
      omega
    · cases he
  | k + 1 => by
    intro args ib kept r outs ok he hok
    simp only [sp_cpart] at he
    split at he
    · cases he
      exact ⟨by kernel_rfl, fn_cpart k (ok_cpart k) _ _ _ _ _ _ _ _ fun _ => cpart_eq k _ _ _ _ _ hok⟩
    · cases he
def cntR (n m : Int) : Prop := n = m ∨ (30 ≤ n ∧ 30 ≤ m)
theorem kids_e {r1 r0 : Int → Int → Int → Part × Int} (hr : ∀ x y n m, cntR n m → (r1 x y n).1 = (r0 x y m).1 ∧ cntR (r1 x y n).2 (r0 x y m).2) : ∀ (l : List (Int × Int)) (n m : Int), cntR n m → (kidsP 1 r1 l n).1 = (kidsP 0 r0 l m).1 ∧ cntR (kidsP 1 r1 l n).2 (kidsP 0 r0 l m).2
  | [], n, m, h => ⟨rfl, h⟩
  | x :: r, n, m, h => by
    rw [kidsP, kidsP]
    by_cases hn : n + 1 ≤ 30
    · have : n = m := by rcases h with h | h <;> omega
      subst this
      rw [if_pos hn, if_pos hn]
      obtain ⟨h1, h2⟩ := hr x.1 x.2 (n + 1) (n + 1) (.inl rfl)
      obtain ⟨h3, h4⟩ := kids_e hr r _ _ h2
      exact ⟨by dsimp only; rw [h1, h3], h4⟩
    · have hm : ¬ m + 1 ≤ 30 := by rcases h with h | h <;> omega
      rw [if_neg hn, if_neg hm]
      exact ⟨rfl, .inr (by dsimp only; rcases h with h | h <;> omega)⟩
theorem tree_e (s : List UInt8) : ∀ (d : Nat) (a b n m : Int), cntR n m → (treeP 1 s d a b n).1 = (treeP 0 s d a b m).1 ∧ cntR (treeP 1 s d a b n).2 (treeP 0 s d a b m).2
  | 0, a, b, n, m, h => by rw [treeP, treeP]; exact ⟨rfl, h⟩
  | d + 1, a, b, n, m, h => by
    rw [treeP, treeP]
    split
    · exact ⟨rfl, h⟩
    · obtain ⟨h1, h2⟩ := kids_e (tree_e s d) (spansP s a b) n m h
      exact ⟨by dsimp only; rw [h1], h2⟩

noncomputable def Gr13tree : Cfg := ⟨Tryd.prog, mkEnv [], mkEnvR [(35, sp_cpart 7)], 11, [], [], [([0, 1, 1], [3])]⟩

noncomputable def Fr13tree (F : Nat) (s : List UInt8) : Option Ans := runF Gr13tree Tryd.f17 F [.p (.str s)]

theorem Fr13tree_eq (F : Nat) (s : List UInt8) : Fr13tree F s = need (ofok 7 s (0 : Int) (0 : Int) (s.length : Int) ((0 : Int) + 1)) (some (.agg [.p (.str (((treeP 0 s (6 - (0 : Int)).toNat (0 : Int) (s.length : Int) ((0 : Int) + 1)).1).type)), .p (.list 2 (.dat (.pair .str .str) (((treeP 0 s (6 - (0 : Int)).toNat (0 : Int) (s.length : Int) ((0 : Int) + 1)).1).params))), .p (.str (((treeP 0 s (6 - (0 : Int)).toNat (0 : Int) (s.length : Int) ((0 : Int) + 1)).1).enc)), .p (.bool (((treeP 0 s (6 - (0 : Int)).toNat (0 : Int) (s.length : Int) ((0 : Int) + 1)).1).attach)), .p (.int .i64 (((treeP 0 s (6 - (0 : Int)).toNat (0 : Int) (s.length : Int) ((0 : Int) + 1)).1).head)), .p (.int .i64 (((treeP 0 s (6 - (0 : Int)).toNat (0 : Int) (s.length : Int) ((0 : Int) + 1)).1).frm)), .p (.int .i64 (((treeP 0 s (6 - (0 : Int)).toNat (0 : Int) (s.length : Int) ((0 : Int) + 1)).1).til)), .p (.list 8 (.dat .part (((treeP 0 s (6 - (0 : Int)).toNat (0 : Int) (s.length : Int) ((0 : Int) + 1)).1).kids)))], [])) := by kernel_rfl

theorem fn_r13tree (F : Nat) (s : List UInt8) (r : AV) (h : (∃ M vs, ARels γ0 M [.p (.str s)] vs) → Fr13tree F s = some (r, [])) : FnP Tryd.prog 17 [.p (.str s)] r :=
  FnP_run Gr13tree F rfl (EnvOk_mk (l := []) trivial) (EnvROk_mk (l := [(35, sp_cpart 7)]) ⟨ok_cpart 7, trivial⟩) (Checked.mixed Tryd.checked) (fn := Tryd.f17) (by kernel_rfl) (by kernel_rfl) rfl h
theorem r13tree_eq (s : List UInt8) (hs : s.length ≤ 1000000) : Fr13tree 0 s = some (.agg [.p (.str (treeT s).type), .p (.list 2 (.dat (.pair .str .str) (treeT s).params)), .p (.str (treeT s).enc), .p (.bool (treeT s).attach), .p (.int .i64 (treeT s).head), .p (.int .i64 (treeT s).frm), .p (.int .i64 (treeT s).til), .p (.list 8 (.dat .part (treeT s).kids))], []) := by
  rw [Fr13tree_eq, ← (tree_e s (6 - (0 : Int)).toNat 0 s.length ((0 : Int) + 1) ((0 : Int) + 1) (.inl rfl)).1]
  exact need_mk (tree_ok7 s hs) rfl
def sp_r13tree : List AV → Option (AV × Option Prop)
  | [.p (.str s)] => some (.agg [.p (.str ((treeT s).type)), .p (.list 2 (.dat (.pair .str .str) ((treeT s).params))), .p (.str ((treeT s).enc)), .p (.bool ((treeT s).attach)), .p (.int .i64 ((treeT s).head)), .p (.int .i64 ((treeT s).frm)), .p (.int .i64 ((treeT s).til)), .p (.list 8 (.dat .part ((treeT s).kids)))], some (s.length ≤ 1000000))
  | _ => none
theorem ok_r13tree : SpecOk Tryd.prog 17 sp_r13tree := by
  intro zs r ok he hok
  unfold sp_r13tree at he
  split at he
  · cases he; exact ⟨by kernel_rfl, fn_r13tree 0 _ _ fun hx => r13tree_eq _ hok⟩
  · cases he










theorem treeT_deep (s : List UInt8) (hs : s.length ≤ 1000000) : deepP 7 (treeT s) := tree_deep hs 6 _ _ _ (by omega) (by omega) (by omega)




end Go.Proofs.YthfgklcdkehgjaaDoor
