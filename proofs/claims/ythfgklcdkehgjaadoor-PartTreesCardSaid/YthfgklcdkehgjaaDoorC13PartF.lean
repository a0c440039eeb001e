/-
  Lifted functions, and facts about them.
-/
import Derived.Test.YthfgklcdkehgjaaDoorRows
import Derived.Test.YthfgklcdkehgjaaDoorAmC
import Derived.Test.YthfgklcdkehgjaaDoorAmNeed
import Derived.Test.YthfgklcdkehgjaaDoorC13PartE
namespace Go.Proofs.YthfgklcdkehgjaaDoor
open Go Go.Am
set_option linter.unusedVariables false
/-! The tree of a text's parts; the parts lie one behind the other. -/
def treeT (s : List UInt8) : Part := (treeP 1 s (6 - (0 : Int)).toNat (0 : Int) (s.length : Int) ((0 : Int) + 1)).1
noncomputable def ctree : Code := bodyOf Tryd.f16

noncomputable def Gtree : Cfg := ⟨Tryd.prog, mkEnv [], mkEnvR [(30, sp_room), (31, sp_of_ 7)], 14, [], [], [([0, 1, 1, 1, 1, 1], [1]), ([0, 1, 1, 1, 1, 1, 1], [3])]⟩

noncomputable def Ftree (F : Nat) (s : List UInt8) : Option Ans := runF Gtree Tryd.f16 F [.p (.str s)]

theorem Ftree_eq (F : Nat) (s : List UInt8) : Ftree F s = need (0 ≤ (0 : Int) ∧ (0 : Int) ≤ 1000) (need (ofok 7 s (0 : Int) (0 : Int) (s.length : Int) ((0 : Int) + 1)) (some (.agg [.p (.str (((treeP 1 s (6 - (0 : Int)).toNat (0 : Int) (s.length : Int) ((0 : Int) + 1)).1).type)), .p (.list 2 (.dat (.pair .str .str) (((treeP 1 s (6 - (0 : Int)).toNat (0 : Int) (s.length : Int) ((0 : Int) + 1)).1).params))), .p (.str (((treeP 1 s (6 - (0 : Int)).toNat (0 : Int) (s.length : Int) ((0 : Int) + 1)).1).enc)), .p (.bool (((treeP 1 s (6 - (0 : Int)).toNat (0 : Int) (s.length : Int) ((0 : Int) + 1)).1).attach)), .p (.int .i64 (((treeP 1 s (6 - (0 : Int)).toNat (0 : Int) (s.length : Int) ((0 : Int) + 1)).1).head)), .p (.int .i64 (((treeP 1 s (6 - (0 : Int)).toNat (0 : Int) (s.length : Int) ((0 : Int) + 1)).1).frm)), .p (.int .i64 (((treeP 1 s (6 - (0 : Int)).toNat (0 : Int) (s.length : Int) ((0 : Int) + 1)).1).til)), .p (.list 8 (.dat .part (((treeP 1 s (6 - (0 : Int)).toNat (0 : Int) (s.length : Int) ((0 : Int) + 1)).1).kids)))], []))) := by kernel_rfl

theorem fn_tree (F : Nat) (s : List UInt8) (r : AV) (h : (∃ M vs, ARels γ0 M [.p (.str s)] vs) → Ftree F s = some (r, [])) : FnP Tryd.prog 16 [.p (.str s)] r :=
  FnP_run Gtree F rfl (EnvOk_mk (l := []) trivial) (EnvROk_mk (l := [(30, sp_room), (31, sp_of_ 7)]) ⟨ok_room, ok_of_ 7, trivial⟩) (Checked.mixed Tryd.checked) (fn := Tryd.f16) (by kernel_rfl) (by kernel_rfl) rfl h
theorem tree_ok7 (s : List UInt8) (hs : s.length ≤ 1000000) : ofok 7 s (0 : Int) (0 : Int) (s.length : Int) ((0 : Int) + 1) := ⟨by omega, by omega, by omega, by omega, by omega, by omega, hs, by omega, by omega⟩
theorem tree_eq (s : List UInt8) (hs : s.length ≤ 1000000) : Ftree 0 s = some (.agg [.p (.str (treeT s).type), .p (.list 2 (.dat (.pair .str .str) (treeT s).params)), .p (.str (treeT s).enc), .p (.bool (treeT s).attach), .p (.int .i64 (treeT s).head), .p (.int .i64 (treeT s).frm), .p (.int .i64 (treeT s).til), .p (.list 8 (.dat .part (treeT s).kids))], []) := by
  rw [Ftree_eq]; exact need_mk ⟨by omega, by omega⟩ (need_mk (tree_ok7 s hs) rfl)
def sp_tree : List AV → Option (AV × Option Prop)
  | [.p (.str s)] => some (.agg [.p (.str ((treeT s).type)), .p (.list 2 (.dat (.pair .str .str) ((treeT s).params))), .p (.str ((treeT s).enc)), .p (.bool ((treeT s).attach)), .p (.int .i64 ((treeT s).head)), .p (.int .i64 ((treeT s).frm)), .p (.int .i64 ((treeT s).til)), .p (.list 8 (.dat .part ((treeT s).kids)))], some (s.length ≤ 1000000))
  | _ => none
theorem ok_tree : SpecOk Tryd.prog 16 sp_tree := by
  intro zs r ok he hok
  unfold sp_tree at he
  split at he
  · cases he; exact ⟨by kernel_rfl, fn_tree 0 _ _ fun hx => tree_eq _ hok⟩
  · cases he
noncomputable def cawake : Code := bodyOf Tryd.f11

noncomputable def Gawake : Cfg := ⟨Tryd.prog, mkEnv [(16, sp_tree)], mkEnvR [], 21, [], [], []⟩

noncomputable def Fawake (F : Nat)  : Option Ans := runF Gawake Tryd.f11 F []

theorem Fawake_eq (F : Nat)  : Fawake F  = need (([65, 58, 32, 98, 13, 10, 13, 10, 120] : List UInt8).length ≤ 1000000) (some (.p (.bool ((((((treeT ([65, 58, 32, 98, 13, 10, 13, 10, 120] : List UInt8)).type) == ([116, 101, 120, 116, 47, 112, 108, 97, 105, 110] : List UInt8)) && (((treeT ([65, 58, 32, 98, 13, 10, 13, 10, 120] : List UInt8)).enc) == ([55, 98, 105, 116] : List UInt8))) && (((treeT ([65, 58, 32, 98, 13, 10, 13, 10, 120] : List UInt8)).frm) == (8 : Int))) && (((treeT ([65, 58, 32, 98, 13, 10, 13, 10, 120] : List UInt8)).til) == (9 : Int)))), [])) :=
  Eq.trans (show Fawake F  = need (([65, 58, 32, 98, 13, 10, 13, 10, 120] : List UInt8).length ≤ 1000000) (need ((((treeT ([65, 58, 32, 98, 13, 10, 13, 10, 120] : List UInt8)).type) == ([116, 101, 120, 116, 47, 112, 108, 97, 105, 110] : List UInt8)) = true → (((treeT ([65, 58, 32, 98, 13, 10, 13, 10, 120] : List UInt8)).type) == ([116, 101, 120, 116, 47, 112, 108, 97, 105, 110] : List UInt8)) = true) (need ((((treeT ([65, 58, 32, 98, 13, 10, 13, 10, 120] : List UInt8)).type) == ([116, 101, 120, 116, 47, 112, 108, 97, 105, 110] : List UInt8)) = true → (((treeT ([65, 58, 32, 98, 13, 10, 13, 10, 120] : List UInt8)).type) == ([116, 101, 120, 116, 47, 112, 108, 97, 105, 110] : List UInt8)) = true) (need ((((treeT ([65, 58, 32, 98, 13, 10, 13, 10, 120] : List UInt8)).type) == ([116, 101, 120, 116, 47, 112, 108, 97, 105, 110] : List UInt8)) = true → (((treeT ([65, 58, 32, 98, 13, 10, 13, 10, 120] : List UInt8)).type) == ([116, 101, 120, 116, 47, 112, 108, 97, 105, 110] : List UInt8)) = true) (need (((((treeT ([65, 58, 32, 98, 13, 10, 13, 10, 120] : List UInt8)).type) == ([116, 101, 120, 116, 47, 112, 108, 97, 105, 110] : List UInt8)) && (((treeT ([65, 58, 32, 98, 13, 10, 13, 10, 120] : List UInt8)).enc) == ([55, 98, 105, 116] : List UInt8))) = true → ((((treeT ([65, 58, 32, 98, 13, 10, 13, 10, 120] : List UInt8)).type) == ([116, 101, 120, 116, 47, 112, 108, 97, 105, 110] : List UInt8)) && (((treeT ([65, 58, 32, 98, 13, 10, 13, 10, 120] : List UInt8)).enc) == ([55, 98, 105, 116] : List UInt8))) = true) (need (((((treeT ([65, 58, 32, 98, 13, 10, 13, 10, 120] : List UInt8)).type) == ([116, 101, 120, 116, 47, 112, 108, 97, 105, 110] : List UInt8)) && (((treeT ([65, 58, 32, 98, 13, 10, 13, 10, 120] : List UInt8)).enc) == ([55, 98, 105, 116] : List UInt8))) = true → ((((treeT ([65, 58, 32, 98, 13, 10, 13, 10, 120] : List UInt8)).type) == ([116, 101, 120, 116, 47, 112, 108, 97, 105, 110] : List UInt8)) && (((treeT ([65, 58, 32, 98, 13, 10, 13, 10, 120] : List UInt8)).enc) == ([55, 98, 105, 116] : List UInt8))) = true) (need (((((treeT ([65, 58, 32, 98, 13, 10, 13, 10, 120] : List UInt8)).type) == ([116, 101, 120, 116, 47, 112, 108, 97, 105, 110] : List UInt8)) && (((treeT ([65, 58, 32, 98, 13, 10, 13, 10, 120] : List UInt8)).enc) == ([55, 98, 105, 116] : List UInt8))) = true → ((((treeT ([65, 58, 32, 98, 13, 10, 13, 10, 120] : List UInt8)).type) == ([116, 101, 120, 116, 47, 112, 108, 97, 105, 110] : List UInt8)) && (((treeT ([65, 58, 32, 98, 13, 10, 13, 10, 120] : List UInt8)).enc) == ([55, 98, 105, 116] : List UInt8))) = true) (need ((((((treeT ([65, 58, 32, 98, 13, 10, 13, 10, 120] : List UInt8)).type) == ([116, 101, 120, 116, 47, 112, 108, 97, 105, 110] : List UInt8)) && (((treeT ([65, 58, 32, 98, 13, 10, 13, 10, 120] : List UInt8)).enc) == ([55, 98, 105, 116] : List UInt8))) && (((treeT ([65, 58, 32, 98, 13, 10, 13, 10, 120] : List UInt8)).frm) == (8 : Int))) = true → (((((treeT ([65, 58, 32, 98, 13, 10, 13, 10, 120] : List UInt8)).type) == ([116, 101, 120, 116, 47, 112, 108, 97, 105, 110] : List UInt8)) && (((treeT ([65, 58, 32, 98, 13, 10, 13, 10, 120] : List UInt8)).enc) == ([55, 98, 105, 116] : List UInt8))) && (((treeT ([65, 58, 32, 98, 13, 10, 13, 10, 120] : List UInt8)).frm) == (8 : Int))) = true) (need ((((((treeT ([65, 58, 32, 98, 13, 10, 13, 10, 120] : List UInt8)).type) == ([116, 101, 120, 116, 47, 112, 108, 97, 105, 110] : List UInt8)) && (((treeT ([65, 58, 32, 98, 13, 10, 13, 10, 120] : List UInt8)).enc) == ([55, 98, 105, 116] : List UInt8))) && (((treeT ([65, 58, 32, 98, 13, 10, 13, 10, 120] : List UInt8)).frm) == (8 : Int))) = true → (((((treeT ([65, 58, 32, 98, 13, 10, 13, 10, 120] : List UInt8)).type) == ([116, 101, 120, 116, 47, 112, 108, 97, 105, 110] : List UInt8)) && (((treeT ([65, 58, 32, 98, 13, 10, 13, 10, 120] : List UInt8)).enc) == ([55, 98, 105, 116] : List UInt8))) && (((treeT ([65, 58, 32, 98, 13, 10, 13, 10, 120] : List UInt8)).frm) == (8 : Int))) = true) (need ((((((treeT ([65, 58, 32, 98, 13, 10, 13, 10, 120] : List UInt8)).type) == ([116, 101, 120, 116, 47, 112, 108, 97, 105, 110] : List UInt8)) && (((treeT ([65, 58, 32, 98, 13, 10, 13, 10, 120] : List UInt8)).enc) == ([55, 98, 105, 116] : List UInt8))) && (((treeT ([65, 58, 32, 98, 13, 10, 13, 10, 120] : List UInt8)).frm) == (8 : Int))) = true → (((((treeT ([65, 58, 32, 98, 13, 10, 13, 10, 120] : List UInt8)).type) == ([116, 101, 120, 116, 47, 112, 108, 97, 105, 110] : List UInt8)) && (((treeT ([65, 58, 32, 98, 13, 10, 13, 10, 120] : List UInt8)).enc) == ([55, 98, 105, 116] : List UInt8))) && (((treeT ([65, 58, 32, 98, 13, 10, 13, 10, 120] : List UInt8)).frm) == (8 : Int))) = true) (some (.p (.bool ((((((treeT ([65, 58, 32, 98, 13, 10, 13, 10, 120] : List UInt8)).type) == ([116, 101, 120, 116, 47, 112, 108, 97, 105, 110] : List UInt8)) && (((treeT ([65, 58, 32, 98, 13, 10, 13, 10, 120] : List UInt8)).enc) == ([55, 98, 105, 116] : List UInt8))) && (((treeT ([65, 58, 32, 98, 13, 10, 13, 10, 120] : List UInt8)).frm) == (8 : Int))) && (((treeT ([65, 58, 32, 98, 13, 10, 13, 10, 120] : List UInt8)).til) == (9 : Int)))), []))))))))))) by kernel_rfl) (need_congr (need_strike (show (((treeT ([65, 58, 32, 98, 13, 10, 13, 10, 120] : List UInt8)).type) == ([116, 101, 120, 116, 47, 112, 108, 97, 105, 110] : List UInt8)) = true → (((treeT ([65, 58, 32, 98, 13, 10, 13, 10, 120] : List UInt8)).type) == ([116, 101, 120, 116, 47, 112, 108, 97, 105, 110] : List UInt8)) = true from (fun q0 => q0)) (need_strike (show (((treeT ([65, 58, 32, 98, 13, 10, 13, 10, 120] : List UInt8)).type) == ([116, 101, 120, 116, 47, 112, 108, 97, 105, 110] : List UInt8)) = true → (((treeT ([65, 58, 32, 98, 13, 10, 13, 10, 120] : List UInt8)).type) == ([116, 101, 120, 116, 47, 112, 108, 97, 105, 110] : List UInt8)) = true from (fun q0 => q0)) (need_strike (show (((treeT ([65, 58, 32, 98, 13, 10, 13, 10, 120] : List UInt8)).type) == ([116, 101, 120, 116, 47, 112, 108, 97, 105, 110] : List UInt8)) = true → (((treeT ([65, 58, 32, 98, 13, 10, 13, 10, 120] : List UInt8)).type) == ([116, 101, 120, 116, 47, 112, 108, 97, 105, 110] : List UInt8)) = true from (fun q0 => q0)) (need_strike (show ((((treeT ([65, 58, 32, 98, 13, 10, 13, 10, 120] : List UInt8)).type) == ([116, 101, 120, 116, 47, 112, 108, 97, 105, 110] : List UInt8)) && (((treeT ([65, 58, 32, 98, 13, 10, 13, 10, 120] : List UInt8)).enc) == ([55, 98, 105, 116] : List UInt8))) = true → ((((treeT ([65, 58, 32, 98, 13, 10, 13, 10, 120] : List UInt8)).type) == ([116, 101, 120, 116, 47, 112, 108, 97, 105, 110] : List UInt8)) && (((treeT ([65, 58, 32, 98, 13, 10, 13, 10, 120] : List UInt8)).enc) == ([55, 98, 105, 116] : List UInt8))) = true from (fun q0 => q0)) (need_strike (show ((((treeT ([65, 58, 32, 98, 13, 10, 13, 10, 120] : List UInt8)).type) == ([116, 101, 120, 116, 47, 112, 108, 97, 105, 110] : List UInt8)) && (((treeT ([65, 58, 32, 98, 13, 10, 13, 10, 120] : List UInt8)).enc) == ([55, 98, 105, 116] : List UInt8))) = true → ((((treeT ([65, 58, 32, 98, 13, 10, 13, 10, 120] : List UInt8)).type) == ([116, 101, 120, 116, 47, 112, 108, 97, 105, 110] : List UInt8)) && (((treeT ([65, 58, 32, 98, 13, 10, 13, 10, 120] : List UInt8)).enc) == ([55, 98, 105, 116] : List UInt8))) = true from (fun q0 => q0)) (need_strike (show ((((treeT ([65, 58, 32, 98, 13, 10, 13, 10, 120] : List UInt8)).type) == ([116, 101, 120, 116, 47, 112, 108, 97, 105, 110] : List UInt8)) && (((treeT ([65, 58, 32, 98, 13, 10, 13, 10, 120] : List UInt8)).enc) == ([55, 98, 105, 116] : List UInt8))) = true → ((((treeT ([65, 58, 32, 98, 13, 10, 13, 10, 120] : List UInt8)).type) == ([116, 101, 120, 116, 47, 112, 108, 97, 105, 110] : List UInt8)) && (((treeT ([65, 58, 32, 98, 13, 10, 13, 10, 120] : List UInt8)).enc) == ([55, 98, 105, 116] : List UInt8))) = true from (fun q0 => q0)) (need_strike (show (((((treeT ([65, 58, 32, 98, 13, 10, 13, 10, 120] : List UInt8)).type) == ([116, 101, 120, 116, 47, 112, 108, 97, 105, 110] : List UInt8)) && (((treeT ([65, 58, 32, 98, 13, 10, 13, 10, 120] : List UInt8)).enc) == ([55, 98, 105, 116] : List UInt8))) && (((treeT ([65, 58, 32, 98, 13, 10, 13, 10, 120] : List UInt8)).frm) == (8 : Int))) = true → (((((treeT ([65, 58, 32, 98, 13, 10, 13, 10, 120] : List UInt8)).type) == ([116, 101, 120, 116, 47, 112, 108, 97, 105, 110] : List UInt8)) && (((treeT ([65, 58, 32, 98, 13, 10, 13, 10, 120] : List UInt8)).enc) == ([55, 98, 105, 116] : List UInt8))) && (((treeT ([65, 58, 32, 98, 13, 10, 13, 10, 120] : List UInt8)).frm) == (8 : Int))) = true from (fun q0 => q0)) (need_strike (show (((((treeT ([65, 58, 32, 98, 13, 10, 13, 10, 120] : List UInt8)).type) == ([116, 101, 120, 116, 47, 112, 108, 97, 105, 110] : List UInt8)) && (((treeT ([65, 58, 32, 98, 13, 10, 13, 10, 120] : List UInt8)).enc) == ([55, 98, 105, 116] : List UInt8))) && (((treeT ([65, 58, 32, 98, 13, 10, 13, 10, 120] : List UInt8)).frm) == (8 : Int))) = true → (((((treeT ([65, 58, 32, 98, 13, 10, 13, 10, 120] : List UInt8)).type) == ([116, 101, 120, 116, 47, 112, 108, 97, 105, 110] : List UInt8)) && (((treeT ([65, 58, 32, 98, 13, 10, 13, 10, 120] : List UInt8)).enc) == ([55, 98, 105, 116] : List UInt8))) && (((treeT ([65, 58, 32, 98, 13, 10, 13, 10, 120] : List UInt8)).frm) == (8 : Int))) = true from (fun q0 => q0)) (need_strike (show (((((treeT ([65, 58, 32, 98, 13, 10, 13, 10, 120] : List UInt8)).type) == ([116, 101, 120, 116, 47, 112, 108, 97, 105, 110] : List UInt8)) && (((treeT ([65, 58, 32, 98, 13, 10, 13, 10, 120] : List UInt8)).enc) == ([55, 98, 105, 116] : List UInt8))) && (((treeT ([65, 58, 32, 98, 13, 10, 13, 10, 120] : List UInt8)).frm) == (8 : Int))) = true → (((((treeT ([65, 58, 32, 98, 13, 10, 13, 10, 120] : List UInt8)).type) == ([116, 101, 120, 116, 47, 112, 108, 97, 105, 110] : List UInt8)) && (((treeT ([65, 58, 32, 98, 13, 10, 13, 10, 120] : List UInt8)).enc) == ([55, 98, 105, 116] : List UInt8))) && (((treeT ([65, 58, 32, 98, 13, 10, 13, 10, 120] : List UInt8)).frm) == (8 : Int))) = true from (fun q0 => q0)) (rfl)))))))))))

theorem fn_awake (F : Nat)  (r : AV) (h : (∃ M vs, ARels γ0 M [] vs) → Fawake F  = some (r, [])) : FnP Tryd.prog 11 [] r :=
  FnP_run Gawake F rfl (EnvOk_mk (l := [(16, sp_tree)]) ⟨ok_tree.any, trivial⟩) (EnvROk_mk (l := []) trivial) (Checked.mixed Tryd.checked) (fn := Tryd.f11) (by kernel_rfl) (by kernel_rfl) rfl h
theorem awake_eq : Fawake 0 = some (.p (.bool true), []) := by
  rw [Fawake_eq]; exact need_mk (by simp) (by kernel_rfl)
def sp_awake : List AV → Option (AV × Option Prop)
  | [] => some (.p (.bool true), none)
  | _ => none
theorem ok_awake : SpecOk Tryd.prog 11 sp_awake := by
  intro zs r ok he hok
  unfold sp_awake at he
  split at he
  · cases he; exact ⟨by kernel_rfl, fn_awake 0  _ fun hx => awake_eq ⟩
  · cases he
noncomputable def cPartValues : Code := bodyOf Tryd.f3

noncomputable def GPartValues : Cfg := ⟨Tryd.prog, mkEnv [(11, sp_awake), (12, sp_values), (13, sp_r13values), (14, sp_r7fields)], mkEnvR [], 32, [], [], []⟩

noncomputable def FPartValues (F : Nat) (s : List UInt8) : Option Ans := runF GPartValues Tryd.f3 F [.p (.str s)]

theorem FPartValues_eq (F : Nat) (s : List UInt8) : FPartValues F s = cond (decide ((s.length : Int) > (2000 : Int))) (some (.p (.bool true), [])) (need (s.length ≤ 1000000) (need (s.length ≤ 1000000) (((need ((((valuesP s).1) == ((valuesP s).1)) = true → ((valuesP s).2).length ≤ 1000000000000) (((some (.p (.bool (((((valuesP s).1) == ((valuesP s).1)) && (((valuesP s).2) == ((valuesP s).2))) && true)), []))))))))) := by
  have h : FPartValues F s = cond (decide ((s.length : Int) > (2000 : Int))) (some (.p (.bool true), [])) (need (s.length ≤ 1000000) (need (s.length ≤ 1000000) (need ((((valuesP s).1) == ((valuesP s).1)) = true → (((valuesP s).1) == ((valuesP s).1)) = true) (need ((((valuesP s).1) == ((valuesP s).1)) = true → (((valuesP s).1) == ((valuesP s).1)) = true) (need ((((valuesP s).1) == ((valuesP s).1)) = true → ((valuesP s).2).length ≤ 1000000000000) (need ((((valuesP s).1) == ((valuesP s).1)) = true → (((valuesP s).1) == ((valuesP s).1)) = true) (need (((((valuesP s).1) == ((valuesP s).1)) && (((valuesP s).2) == ((valuesP s).2))) = true → ((((valuesP s).1) == ((valuesP s).1)) && (((valuesP s).2) == ((valuesP s).2))) = true) (some (.p (.bool (((((valuesP s).1) == ((valuesP s).1)) && (((valuesP s).2) == ((valuesP s).2))) && true)), []))))))))) := by kernel_rfl
  rw [h, need_pos (show ((((valuesP s).1) == ((valuesP s).1)) && (((valuesP s).2) == ((valuesP s).2))) = true → ((((valuesP s).1) == ((valuesP s).1)) && (((valuesP s).2) == ((valuesP s).2))) = true from (fun q0 => q0)), need_pos (show (((valuesP s).1) == ((valuesP s).1)) = true → (((valuesP s).1) == ((valuesP s).1)) = true from (fun q0 => q0)), need_pos (show (((valuesP s).1) == ((valuesP s).1)) = true → (((valuesP s).1) == ((valuesP s).1)) = true from (fun q0 => q0)), need_pos (show (((valuesP s).1) == ((valuesP s).1)) = true → (((valuesP s).1) == ((valuesP s).1)) = true from (fun q0 => q0))]

theorem fn_PartValues (F : Nat) (s : List UInt8) (r : AV) (h : (∃ M vs, ARels γ0 M [.p (.str s)] vs) → FPartValues F s = some (r, [])) : FnP Tryd.prog 3 [.p (.str s)] r :=
  FnP_run GPartValues F rfl (EnvOk_mk (l := [(11, sp_awake), (12, sp_values), (13, sp_r13values), (14, sp_r7fields)]) ⟨ok_awake.any, ok_values.any, ok_r13values.any, ok_r7fields.any, trivial⟩) (EnvROk_mk (l := []) trivial) (Checked.mixed Tryd.checked) (fn := Tryd.f3) (by kernel_rfl) (by kernel_rfl) rfl h
theorem PartValues_true (s : List UInt8) : FPartValues 0 s = some (.p (.bool true), []) := by
  rw [FPartValues_eq]
  by_cases h : (s.length : Int) > 2000
  · exact cond_t (by simpa using h) rfl
  · have h5 := (valuesP_ok s).2
    exact cond_f (by simpa using h) (need_mk (by omega) (need_mk (by omega) (need_mk (fun _ => by omega) (by simp))))
/-! ### Places -/
def chainP : Nat → List (Nat × Nat) → Nat → Prop
  | lo, [], hi => lo ≤ hi
  | lo, x :: r, hi => lo ≤ x.1 ∧ x.1 ≤ x.2 ∧ chainP x.2 r hi
theorem chain_mono : ∀ (l : List (Nat × Nat)) (lo hi hi2 : Nat), chainP lo l hi → hi ≤ hi2 → chainP lo l hi2
  | [], lo, hi, hi2, h, h2 => Nat.le_trans h h2
  | x :: r, lo, hi, hi2, h, h2 => ⟨h.1, h.2.1, chain_mono r x.2 hi hi2 h.2.2 h2⟩
theorem chain_add : ∀ (l : List (Nat × Nat)) (lo hi x y : Nat), chainP lo l hi → hi ≤ x → x ≤ y → chainP lo (l ++ [(x, y)]) y
  | [], lo, hi, x, y, h, h2, h3 => ⟨Nat.le_trans h h2, h3, Nat.le_refl _⟩
  | z :: r, lo, hi, x, y, h, h2, h3 => ⟨h.1, h.2.1, chain_add r z.2 hi x y h.2.2 h2 h3⟩
theorem addS_chain {s : List UInt8} {op : Option Nat} {i a h : Nat} {out : List (Nat × Nat)} (hc : chainP a out h) (ho : ∀ o, op = some o → h ≤ o ∧ o ≤ i) (hi : h ≤ i) : chainP a (addS s op i out) i := by
  unfold addS
  cases op with
  | none => exact chain_mono _ _ _ _ hc hi
  | some o =>
    have h1 := ho o rfl
    have h2 := (aheadN_le s i).1
    refine chain_mono _ _ _ _ (chain_add out a h o (maxN o (aheadN s i)) hc h1.1 ?_) ?_ <;> unfold maxN <;> split <;> omega
theorem spans_chain {s m : List UInt8} {a b : Nat} (hb : b ≤ s.length) : ∀ (n i h : Nat) (op : Option Nat) (out : List (Nat × Nat)), b - i = n → i ≤ b → (∀ o, op = some o → h ≤ o ∧ o ≤ i) → h ≤ i → chainP a out h → chainP a (spF s m b (linesN s i b) op out) b := by
  intro n
  induction n using Nat.strongRecOn with
  | _ n ih =>
    intro i h op out hn hi ho hh hc
    by_cases hib : i < b
    · obtain ⟨z1, z2, z3, z4⟩ := nextL_spec hib hb
      have hA := addS_chain (s := s) hc ho hh
      rw [z1, spF]
      split
      · exact chain_mono _ _ _ _ hA hi
      · split
        · exact ih (b - (nextL s i b).2) (by omega) _ (nextL s i b).2 _ _ rfl z3 (fun o h => by cases h; omega) (Nat.le_refl _) (chain_mono _ _ _ _ hA (by omega))
        · exact ih (b - (nextL s i b).2) (by omega) _ h _ _ rfl z3 (fun o h => by have := ho o h; omega) (by omega) hc
    · rw [linesN_nil (by omega)]
      cases op with
      | none => exact chain_mono _ _ _ _ hc (by omega)
      | some o =>
        have h1 := ho o rfl
        exact chain_add _ _ _ _ _ hc h1.1 (by omega)
def chainI : Int → List (Int × Int) → Int → Prop
  | lo, [], hi => lo ≤ hi
  | lo, x :: r, hi => lo ≤ x.1 ∧ x.1 ≤ x.2 ∧ chainI x.2 r hi
theorem chain_map : ∀ (l : List (Nat × Nat)) (lo hi : Nat), chainP lo l hi → chainI lo (l.map spanI) hi
  | [], lo, hi, h => by show (lo : Int) ≤ hi; exact Int.ofNat_le.2 h
  | x :: r, lo, hi, h => ⟨Int.ofNat_le.2 h.1, Int.ofNat_le.2 h.2.1, chain_map r x.2 hi h.2.2⟩
theorem spansP_chain {s : List UInt8} {a b : Int} (h0 : 0 ≤ a) (h1 : a ≤ b) (h2 : b ≤ s.length) : chainI (oneP s a b).frm (spansP s a b) b := by
  obtain ⟨g1, g2⟩ := body_ok h0 h1 h2
  unfold spansP spansI spansN
  obtain ⟨nf, hf⟩ := Int.eq_ofNat_of_zero_le (Int.le_trans h0 g1)
  obtain ⟨nb, hb⟩ := Int.eq_ofNat_of_zero_le (Int.le_trans h0 h1)
  have ht : (oneP s a b).til = b := rfl
  rw [ht]
  rw [hf] at g1 g2 ⊢
  rw [hb] at g2 h2 ⊢
  rw [Int.toNat_natCast, Int.toNat_natCast]
  exact chain_map _ nf nb (spans_chain (s := s) (a := nf) (by omega) (nb - nf) nf nf none [] rfl (by omega) (fun o h => by cases h) (Nat.le_refl _) (Nat.le_refl _))
def insL (rec : Part → Int → Int → Bool) (t : Int) : List Part → Int → Bool
  | [], _ => true
  | q :: r, x => rec q x t && insL rec t r q.til
def insideP : Nat → Part → Int → Int → Bool
  | 0, _, _, _ => false
  | k + 1, p, x, y => if ((((decide (p.head < x)) || (decide (p.frm < p.head))) || (decide (p.til < p.frm))) || (decide (p.til > y))) = true then false else insL (insideP k) p.til p.kids p.frm
def deepP : Nat → Part → Prop
  | 0, _ => False
  | k + 1, p => p.kids.length ≤ 10000000 ∧ p.params.length ≤ 10000000 ∧ ∀ q ∈ p.kids, deepP k q
theorem kids_all {e : Int} {rec : Int → Int → Int → Part × Int} {P : Part → Prop} : ∀ (l : List (Int × Int)) (n : Int), (∀ x ∈ l, ∀ n, P (rec x.1 x.2 n).1) → (∀ q ∈ (kidsP e rec l n).1, P q) ∧ (kidsP e rec l n).1.length ≤ l.length
  | [], n, h => by rw [kidsP]; simp
  | x :: r, n, h => by
    rw [kidsP]
    split
    · obtain ⟨h1, h2⟩ := kids_all r (rec x.1 x.2 (n + 1)).2 (e := e) (fun y hy => h y (List.mem_cons_of_mem _ hy))
      dsimp only
      refine ⟨fun q hq => ?_, by simp; omega⟩
      rcases List.mem_cons.1 hq with rfl | hq
      · exact h x (by simp) _
      · exact h1 q hq
    · simp
theorem tree_deep {e : Int} {s : List UInt8} (hs : s.length ≤ 1000000) : ∀ (d : Nat) (a b n : Int), 0 ≤ a → a ≤ b → b ≤ s.length → deepP (d + 1) (treeP e s d a b n).1
  | 0, a, b, n, h0, h1, h2 => by
    have hp := (one_params s a b).2
    rw [treeP, deepP]; exact ⟨by simp [oneP, Part.kids], by show (oneP s a b).params.length ≤ _; omega, by simp [oneP, Part.kids]⟩
  | d + 1, a, b, n, h0, h1, h2 => by
    obtain ⟨g1, g2⟩ := body_ok h0 h1 h2
    obtain ⟨k1, k2⟩ := spansP_ok h0 h1 h2
    have hp := (one_params s a b).2
    rw [treeP]
    split
    · rw [deepP]; exact ⟨by simp [oneP, Part.kids], by show (oneP s a b).params.length ≤ _; omega, by simp [oneP, Part.kids]⟩
    · obtain ⟨z1, z2⟩ := kids_all (e := e) (rec := treeP e s d) (P := deepP (d + 1)) (spansP s a b) n fun x hx m => by have := k1 x hx; exact tree_deep hs d _ _ _ (by omega) (by omega) (by omega)
      rw [deepP]
      exact ⟨by show (kidsP e (treeP e s d) (spansP s a b) n).1.length ≤ _; omega, by show (oneP s a b).params.length ≤ _; omega, z1⟩
theorem tree_head (e : Int) (s : List UInt8) (d : Nat) (a b n : Int) : (treeP e s d a b n).1.head = a ∧ (treeP e s d a b n).1.frm = (oneP s a b).frm ∧ (treeP e s d a b n).1.til = b := by
  cases d with
  | zero => rw [treeP]; exact ⟨rfl, rfl, rfl⟩
  | succ d => rw [treeP]; split <;> exact ⟨rfl, rfl, rfl⟩
theorem kids_ins {e : Int} {rec : Int → Int → Int → Part × Int} {k : Nat} {t B : Int} (hr : ∀ a b n, 0 ≤ a → a ≤ b → b ≤ B → (∀ x y, x ≤ a → b ≤ y → insideP k (rec a b n).1 x y = true) ∧ (rec a b n).1.til = b) (ht : t ≤ B) : ∀ (l : List (Int × Int)) (x n : Int), 0 ≤ x → chainI x l t → insL (insideP k) t (kidsP e rec l n).1 x = true
  | [], x, n, h0, h => by rw [kidsP]; rfl
  | z :: r, x, n, h0, h => by
    have hzt : ∀ (l : List (Int × Int)) (x : Int), chainI x l t → x ≤ t := by
      intro l
      induction l with
      | nil => exact fun x h => h
      | cons w q ih => intro x h; have := ih _ h.2.2; have h1 := h.1; have h2 := h.2.1; omega
    have hz := hzt r z.2 h.2.2
    rw [kidsP]
    split
    · obtain ⟨h1, h2⟩ := hr z.1 z.2 (n + 1) (by have := h.1; omega) h.2.1 (by omega)
      dsimp only
      rw [insL, h1 x t h.1 hz, h2, Bool.true_and]
      exact kids_ins hr ht r z.2 _ (by have := h.1; have := h.2.1; omega) h.2.2
    · rfl
theorem tree_ins {e : Int} {s : List UInt8} : ∀ (d : Nat) (a b n : Int), 0 ≤ a → a ≤ b → b ≤ s.length → ∀ x y, x ≤ a → b ≤ y → insideP (d + 1) (treeP e s d a b n).1 x y = true
  | 0, a, b, n, h0, h1, h2, x, y, hx, hy => by
    obtain ⟨g1, g2⟩ := body_ok h0 h1 h2
    obtain ⟨q1, q2, q3⟩ := tree_head e s 0 a b n
    rw [insideP, q1, q2, q3, if_neg (by simp; omega), treeP]; rfl
  | d + 1, a, b, n, h0, h1, h2, x, y, hx, hy => by
    obtain ⟨g1, g2⟩ := body_ok h0 h1 h2
    obtain ⟨q1, q2, q3⟩ := tree_head e s (d + 1) a b n
    rw [insideP, q1, q2, q3, if_neg (by simp; omega), treeP]
    split
    · rfl
    · exact kids_ins (fun a b n h0 h1 h2 => ⟨tree_ins d a b n h0 h1 h2, (tree_head e s d a b n).2.2⟩) h2 _ _ n (by omega) (spansP_chain h0 h1 h2)
def sp_inside (k : Nat) : List AV → Option (AV × Option Prop)
  | [.agg [.p (.str ty), .p (.list 2 (.dat (.pair .str .str) ps)), .p (.str en), .p (.bool at_), .p (.int .i64 h), .p (.int .i64 f), .p (.int .i64 t), .p (.list 8 (.dat .part ks))], .p (.int .i64 x), .p (.int .i64 y)] => some (.p (.bool (insideP k (Part.mk ty ps en at_ h f t ks) x y)), some (deepP k (Part.mk ty ps en at_ h f t ks)))
  | _ => none
noncomputable def cinside : Code := bodyOf Tryd.f19

noncomputable def Ginside (k : Nat) : Cfg := ⟨Tryd.prog, mkEnv [(19, sp_inside k)], mkEnvR [], 58, [], [([0, 1, 0, 1, 1, 1], ⟨[3, 7, 8], [⟨.slot 3, 3, .cells []⟩]⟩), ([1, 0, 0, 0, 1, 0, 0, 1, 0, 1, 1, 1], ⟨[3, 8, 51], [⟨.slot 3, 3, .cells []⟩]⟩)], []⟩

noncomputable def Binside_1 (k : Nat) (F f1 : Nat) (vi1 : Int) (vi2 : Int) (vs3 : List UInt8) (vl4 : List (List UInt8 × List UInt8)) (vs5 : List UInt8) (vc6 : Bool) (vi7 : Int) (vi8 : Int) (vi9 : Int) (vl10 : List Part) : Option Ans := runR (Ginside k) cinside (kP Tryd.prog Tryd.f19.results.toList) F [] [1, 1, 1, 0, 1, 0] f1 [(3, .ref 3 0), (7, .p (.int .i64 vi1)), (8, .p (.int .i64 vi2))] [(3, .cells [.p (.str vs3), .p (.list 2 (.dat (.pair .str .str) vl4)), .p (.str vs5), .p (.bool vc6), .p (.int .i64 vi7), .p (.int .i64 vi8), .p (.int .i64 vi9), .p (.list 8 (.dat .part vl10))])]

noncomputable def Binside_2 (k : Nat) (F f1 : Nat) (vi2 : Int) (vc11 : Bool) (vs3 : List UInt8) (vl4 : List (List UInt8 × List UInt8)) (vs5 : List UInt8) (vc6 : Bool) (vi7 : Int) (vi8 : Int) (vi9 : Int) (vl10 : List Part) : Option Ans := runB (Ginside k) cinside (kP Tryd.prog Tryd.f19.results.toList) F [f1] [1, 1, 1, 0, 1, 0, 0, 1, 0, 0, 0, 1] [(3, .ref 3 0), (8, .p (.int .i64 vi2)), (51, .p (.bool vc11))] [(3, .cells [.p (.str vs3), .p (.list 2 (.dat (.pair .str .str) vl4)), .p (.str vs5), .p (.bool vc6), .p (.int .i64 vi7), .p (.int .i64 vi8), .p (.int .i64 vi9), .p (.list 8 (.dat .part vl10))])]

noncomputable def Finside (k : Nat) (F : Nat) (ty : List UInt8) (ps : List (List UInt8 × List UInt8)) (en : List UInt8) (at_ : Bool) (h_ : Int) (f_ : Int) (t_ : Int) (ks : List Part) (x : Int) (y : Int) : Option Ans := runF (Ginside k) Tryd.f19 F [.agg [.p (.str ty), .p (.list 2 (.dat (.pair .str .str) ps)), .p (.str en), .p (.bool at_), .p (.int .i64 h_), .p (.int .i64 f_), .p (.int .i64 t_), .p (.list 8 (.dat .part ks))], .p (.int .i64 x), .p (.int .i64 y)]

theorem Binside_1_eq (k : Nat) (F f1 : Nat) (vi1 : Int) (vi2 : Int) (vs3 : List UInt8) (vl4 : List (List UInt8 × List UInt8)) (vs5 : List UInt8) (vc6 : Bool) (vi7 : Int) (vi8 : Int) (vi9 : Int) (vl10 : List Part) : Binside_1 k F (f1 + 1) vi1 vi2 vs3 vl4 vs5 vc6 vi7 vi8 vi9 vl10 = cond (decide (vi2 < (vl10.length : Int))) (need (0 ≤ vi2 ∧ vi2 < (vl10.length : Int)) (need (deepP k (Part.mk ((vl10.getD (vi2).toNat (dfl .part)).type) ((vl10.getD (vi2).toNat (dfl .part)).params) ((vl10.getD (vi2).toNat (dfl .part)).enc) ((vl10.getD (vi2).toNat (dfl .part)).attach) ((vl10.getD (vi2).toNat (dfl .part)).head) ((vl10.getD (vi2).toNat (dfl .part)).frm) ((vl10.getD (vi2).toNat (dfl .part)).til) ((vl10.getD (vi2).toNat (dfl .part)).kids))) (Binside_2 k F f1 vi2 (!(insideP k (Part.mk ((vl10.getD (vi2).toNat (dfl .part)).type) ((vl10.getD (vi2).toNat (dfl .part)).params) ((vl10.getD (vi2).toNat (dfl .part)).enc) ((vl10.getD (vi2).toNat (dfl .part)).attach) ((vl10.getD (vi2).toNat (dfl .part)).head) ((vl10.getD (vi2).toNat (dfl .part)).frm) ((vl10.getD (vi2).toNat (dfl .part)).til) ((vl10.getD (vi2).toNat (dfl .part)).kids)) vi1 vi9)) vs3 vl4 vs5 vc6 vi7 vi8 vi9 vl10))) (some (.p (.bool true), [])) := by kernel_rfl

theorem Binside_2_eq (k : Nat) (F f1 : Nat) (vi2 : Int) (vc11 : Bool) (vs3 : List UInt8) (vl4 : List (List UInt8 × List UInt8)) (vs5 : List UInt8) (vc6 : Bool) (vi7 : Int) (vi8 : Int) (vi9 : Int) (vl10 : List Part) : Binside_2 k F f1 vi2 vc11 vs3 vl4 vs5 vc6 vi7 vi8 vi9 vl10 = cond (vc11) (some (.p (.bool false), [])) (need (0 ≤ vi2 ∧ vi2 < (vl10.length : Int)) (need (i64ok (vi2 + (1 : Int))) (Binside_1 k F f1 ((vl10.getD (vi2).toNat (dfl .part)).til) (vi2 + (1 : Int)) vs3 vl4 vs5 vc6 vi7 vi8 vi9 vl10))) := by kernel_rfl

theorem Finside_eq (k : Nat) (F : Nat) (ty : List UInt8) (ps : List (List UInt8 × List UInt8)) (en : List UInt8) (at_ : Bool) (h_ : Int) (f_ : Int) (t_ : Int) (ks : List Part) (x : Int) (y : Int) : Finside k F ty ps en at_ h_ f_ t_ ks x y = cond ((((decide (h_ < x)) || (decide (f_ < h_))) || (decide (t_ < f_))) || (decide (t_ > y))) (some (.p (.bool false), [])) (Binside_1 k F F f_ (0 : Int) ty ps en at_ h_ f_ t_ ks) :=
  Eq.trans (show Finside k F ty ps en at_ h_ f_ t_ ks x y = need ((!(decide (h_ < x))) = true → (!(decide (h_ < x))) = true) (need ((!(decide (h_ < x))) = true → (!(decide (h_ < x))) = true) (need ((!(decide (h_ < x))) = true → (!(decide (h_ < x))) = true) (need ((!(decide (h_ < x))) = true → (!(decide (h_ < x))) = true) (need ((decide (h_ < x)) = false → (!(decide (h_ < x))) = true) (need ((!((decide (h_ < x)) || (decide (f_ < h_)))) = true → (!((decide (h_ < x)) || (decide (f_ < h_)))) = true) (need ((!((decide (h_ < x)) || (decide (f_ < h_)))) = true → (!((decide (h_ < x)) || (decide (f_ < h_)))) = true) (need ((!((decide (h_ < x)) || (decide (f_ < h_)))) = true → (!((decide (h_ < x)) || (decide (f_ < h_)))) = true) (need ((!((decide (h_ < x)) || (decide (f_ < h_)))) = true → (!((decide (h_ < x)) || (decide (f_ < h_)))) = true) (need (((decide (h_ < x)) || (decide (f_ < h_))) = false → (!((decide (h_ < x)) || (decide (f_ < h_)))) = true) (need ((!(((decide (h_ < x)) || (decide (f_ < h_))) || (decide (t_ < f_)))) = true → (!(((decide (h_ < x)) || (decide (f_ < h_))) || (decide (t_ < f_)))) = true) (need ((!(((decide (h_ < x)) || (decide (f_ < h_))) || (decide (t_ < f_)))) = true → (!(((decide (h_ < x)) || (decide (f_ < h_))) || (decide (t_ < f_)))) = true) (need ((!(((decide (h_ < x)) || (decide (f_ < h_))) || (decide (t_ < f_)))) = true → (!(((decide (h_ < x)) || (decide (f_ < h_))) || (decide (t_ < f_)))) = true) (need ((((decide (h_ < x)) || (decide (f_ < h_))) || (decide (t_ < f_))) = false → (!(((decide (h_ < x)) || (decide (f_ < h_))) || (decide (t_ < f_)))) = true) (cond ((((decide (h_ < x)) || (decide (f_ < h_))) || (decide (t_ < f_))) || (decide (t_ > y))) (some (.p (.bool false), [])) (Binside_1 k F F f_ (0 : Int) ty ps en at_ h_ f_ t_ ks))))))))))))))) by kernel_rfl) (need_strike (show (!(decide (h_ < x))) = true → (!(decide (h_ < x))) = true from (fun q0 => q0)) (need_strike (show (!(decide (h_ < x))) = true → (!(decide (h_ < x))) = true from (fun q0 => q0)) (need_strike (show (!(decide (h_ < x))) = true → (!(decide (h_ < x))) = true from (fun q0 => q0)) (need_strike (show (!(decide (h_ < x))) = true → (!(decide (h_ < x))) = true from (fun q0 => q0)) (need_strike (show (decide (h_ < x)) = false → (!(decide (h_ < x))) = true from (fun q0 => (not_mk q0))) (need_strike (show (!((decide (h_ < x)) || (decide (f_ < h_)))) = true → (!((decide (h_ < x)) || (decide (f_ < h_)))) = true from (fun q0 => q0)) (need_strike (show (!((decide (h_ < x)) || (decide (f_ < h_)))) = true → (!((decide (h_ < x)) || (decide (f_ < h_)))) = true from (fun q0 => q0)) (need_strike (show (!((decide (h_ < x)) || (decide (f_ < h_)))) = true → (!((decide (h_ < x)) || (decide (f_ < h_)))) = true from (fun q0 => q0)) (need_strike (show (!((decide (h_ < x)) || (decide (f_ < h_)))) = true → (!((decide (h_ < x)) || (decide (f_ < h_)))) = true from (fun q0 => q0)) (need_strike (show ((decide (h_ < x)) || (decide (f_ < h_))) = false → (!((decide (h_ < x)) || (decide (f_ < h_)))) = true from (fun q0 => (not_mk q0))) (need_strike (show (!(((decide (h_ < x)) || (decide (f_ < h_))) || (decide (t_ < f_)))) = true → (!(((decide (h_ < x)) || (decide (f_ < h_))) || (decide (t_ < f_)))) = true from (fun q0 => q0)) (need_strike (show (!(((decide (h_ < x)) || (decide (f_ < h_))) || (decide (t_ < f_)))) = true → (!(((decide (h_ < x)) || (decide (f_ < h_))) || (decide (t_ < f_)))) = true from (fun q0 => q0)) (need_strike (show (!(((decide (h_ < x)) || (decide (f_ < h_))) || (decide (t_ < f_)))) = true → (!(((decide (h_ < x)) || (decide (f_ < h_))) || (decide (t_ < f_)))) = true from (fun q0 => q0)) (need_strike (show (((decide (h_ < x)) || (decide (f_ < h_))) || (decide (t_ < f_))) = false → (!(((decide (h_ < x)) || (decide (f_ < h_))) || (decide (t_ < f_)))) = true from (fun q0 => (not_mk q0))) (rfl)))))))))))))))

theorem fn_inside (k : Nat) (hrec : SpecOk Tryd.prog 19 (sp_inside k)) (F : Nat) (ty : List UInt8) (ps : List (List UInt8 × List UInt8)) (en : List UInt8) (at_ : Bool) (h_ : Int) (f_ : Int) (t_ : Int) (ks : List Part) (x : Int) (y : Int) (r : AV) (h : (∃ M vs, ARels γ0 M [.agg [.p (.str ty), .p (.list 2 (.dat (.pair .str .str) ps)), .p (.str en), .p (.bool at_), .p (.int .i64 h_), .p (.int .i64 f_), .p (.int .i64 t_), .p (.list 8 (.dat .part ks))], .p (.int .i64 x), .p (.int .i64 y)] vs) → Finside k F ty ps en at_ h_ f_ t_ ks x y = some (r, [])) : FnP Tryd.prog 19 [.agg [.p (.str ty), .p (.list 2 (.dat (.pair .str .str) ps)), .p (.str en), .p (.bool at_), .p (.int .i64 h_), .p (.int .i64 f_), .p (.int .i64 t_), .p (.list 8 (.dat .part ks))], .p (.int .i64 x), .p (.int .i64 y)] r :=
  FnP_run (Ginside k) F rfl (EnvOk_mk (l := [(19, sp_inside k)]) ⟨hrec.any, trivial⟩) (EnvROk_mk (l := []) trivial) (Checked.mixed Tryd.checked) (fn := Tryd.f19) (by kernel_rfl) (by kernel_rfl) rfl h
theorem Binside_spec (k F : Nat) (ty en : List UInt8) (ps : List (List UInt8 × List UInt8)) (at_ : Bool) (h f t : Int) (ks : List Part) (hk : ks.length ≤ 10000000) (hd : ∀ q ∈ ks, deepP k q) : ∀ (r : List Part) (fu i : Nat) (x : Int), ks.drop i = r → r.length < fu → i ≤ ks.length →
    Binside_1 k F fu x (i : Int) ty ps en at_ h f t ks = some (.p (.bool (insL (insideP k) t r x)), []) := by
  intro r
  induction r with
  | nil =>
    intro fu i x hr hf hi
    have : i = ks.length := by have := congrArg List.length hr; simp at this; omega
    cases fu with
    | zero => omega
    | succ fu => rw [Binside_1_eq]; exact cond_f (by simp; omega) rfl
  | cons q r ih =>
    intro fu i x hr hf hi
    obtain ⟨h1, h2, h3⟩ := dropG hr (dfl .part)
    have hq := hd q (by rw [← h1]; exact getD_mem h3 _)
    cases fu with
    | zero => omega
    | succ fu =>
      rw [Binside_1_eq, Int.toNat_natCast, h1, insL, part_eta]
      refine cond_t (by simp; omega) (need_mk ⟨by omega, by omega⟩ (need_mk hq ?_))
      rw [Binside_2_eq, Int.toNat_natCast, h1]
      cases hc : insideP k q x t with
      | false => exact cond_t rfl rfl
      | true =>
        refine cond_f rfl (need_mk ⟨by omega, by omega⟩ (need_mk (by unfold i64ok; omega) ?_))
        rw [show (i : Int) + 1 = ((i + 1 : Nat) : Int) by omega, ih fu (i + 1) _ h2 (by simp at hf; omega) (by omega), Bool.true_and]
theorem inside_eq (k : Nat) (ty en : List UInt8) (ps : List (List UInt8 × List UInt8)) (at_ : Bool) (h f t : Int) (ks : List Part) (x y : Int) (hd : deepP (k + 1) (Part.mk ty ps en at_ h f t ks)) : Finside k (ks.length + 1) ty ps en at_ h f t ks x y = some (.p (.bool (insideP (k + 1) (Part.mk ty ps en at_ h f t ks) x y)), []) := by
  obtain ⟨d1, _, d2⟩ := hd
  rw [Finside_eq, insideP]
  show cond ((((decide (h < x)) || (decide (f < h))) || (decide (t < f))) || (decide (t > y))) _ _ = (some (AV.p (.bool (if ((((decide (h < x)) || (decide (f < h))) || (decide (t < f))) || (decide (t > y))) = true then _ else _)), []) : Option Ans)
  cases ((((decide (h < x)) || (decide (f < h))) || (decide (t < f))) || (decide (t > y))) with
  | true => rw [if_pos rfl]; exact cond_t rfl rfl
  | false =>
    rw [if_neg (by simp)]
    exact cond_f rfl (Binside_spec k _ ty en ps at_ h f t ks d1 d2 ks (ks.length + 1) 0 f rfl (by omega) (by omega))
theorem ok_inside : ∀ k, SpecOk Tryd.prog 19 (sp_inside k)
  | 0 => by
    intro zs r ok he hok
    unfold sp_inside at he
    split at he
    · cases he; exact absurd hok (by simp [deepP])
    · cases he
  | k + 1 => by
    intro zs r ok he hok
    unfold sp_inside at he
    split at he
    · cases he; exact ⟨by kernel_rfl, fn_inside k (ok_inside k) _ _ _ _ _ _ _ _ _ _ _ _ fun _ => inside_eq k _ _ _ _ _ _ _ _ _ _ hok⟩
    · cases he
noncomputable def cPartPlaces : Code := bodyOf Tryd.f7

noncomputable def GPartPlaces : Cfg := ⟨Tryd.prog, mkEnv [(11, sp_awake), (16, sp_tree), (19, sp_inside 7)], mkEnvR [], 16, [], [], []⟩

noncomputable def FPartPlaces (F : Nat) (s : List UInt8) : Option Ans := runF GPartPlaces Tryd.f7 F [.p (.str s)]

theorem FPartPlaces_eq (F : Nat) (s : List UInt8) : FPartPlaces F s = need ((!(decide ((s.length : Int) > (3000 : Int)))) = true → s.length ≤ 1000000) (need ((!(decide ((s.length : Int) > (3000 : Int)))) = true → deepP 7 (Part.mk ((treeT s).type) ((treeT s).params) ((treeT s).enc) ((treeT s).attach) ((treeT s).head) ((treeT s).frm) ((treeT s).til) ((treeT s).kids))) (some (.p (.bool ((decide ((s.length : Int) > (3000 : Int))) || ((insideP 7 (Part.mk ((treeT s).type) ((treeT s).params) ((treeT s).enc) ((treeT s).attach) ((treeT s).head) ((treeT s).frm) ((treeT s).til) ((treeT s).kids)) (0 : Int) (s.length : Int)) && true))), []))) :=
  Eq.trans (show FPartPlaces F s = need ((!(decide ((s.length : Int) > (3000 : Int)))) = true → (!(decide ((s.length : Int) > (3000 : Int)))) = true) (need ((!(decide ((s.length : Int) > (3000 : Int)))) = true → s.length ≤ 1000000) (need ((!(decide ((s.length : Int) > (3000 : Int)))) = true → (!(decide ((s.length : Int) > (3000 : Int)))) = true) (need ((!(decide ((s.length : Int) > (3000 : Int)))) = true → (!(decide ((s.length : Int) > (3000 : Int)))) = true) (need ((!(decide ((s.length : Int) > (3000 : Int)))) = true → (!(decide ((s.length : Int) > (3000 : Int)))) = true) (need ((!(decide ((s.length : Int) > (3000 : Int)))) = true → deepP 7 (Part.mk ((treeT s).type) ((treeT s).params) ((treeT s).enc) ((treeT s).attach) ((treeT s).head) ((treeT s).frm) ((treeT s).til) ((treeT s).kids))) (need ((!(decide ((s.length : Int) > (3000 : Int)))) = true → (!(decide ((s.length : Int) > (3000 : Int)))) = true) (need ((!(decide ((s.length : Int) > (3000 : Int)))) = true → (!(decide ((s.length : Int) > (3000 : Int)))) = true) (need ((!(decide ((s.length : Int) > (3000 : Int)))) = true → (insideP 7 (Part.mk ((treeT s).type) ((treeT s).params) ((treeT s).enc) ((treeT s).attach) ((treeT s).head) ((treeT s).frm) ((treeT s).til) ((treeT s).kids)) (0 : Int) (s.length : Int)) = true → ((!(decide ((s.length : Int) > (3000 : Int)))) && (insideP 7 (Part.mk ((treeT s).type) ((treeT s).params) ((treeT s).enc) ((treeT s).attach) ((treeT s).head) ((treeT s).frm) ((treeT s).til) ((treeT s).kids)) (0 : Int) (s.length : Int))) = true) (need ((decide ((s.length : Int) > (3000 : Int))) = false → (!(decide ((s.length : Int) > (3000 : Int)))) = true) (some (.p (.bool ((decide ((s.length : Int) > (3000 : Int))) || ((insideP 7 (Part.mk ((treeT s).type) ((treeT s).params) ((treeT s).enc) ((treeT s).attach) ((treeT s).head) ((treeT s).frm) ((treeT s).til) ((treeT s).kids)) (0 : Int) (s.length : Int)) && true))), []))))))))))) by kernel_rfl) (need_strike (show (!(decide ((s.length : Int) > (3000 : Int)))) = true → (!(decide ((s.length : Int) > (3000 : Int)))) = true from (fun q0 => q0)) (need_congr (need_strike (show (!(decide ((s.length : Int) > (3000 : Int)))) = true → (!(decide ((s.length : Int) > (3000 : Int)))) = true from (fun q0 => q0)) (need_strike (show (!(decide ((s.length : Int) > (3000 : Int)))) = true → (!(decide ((s.length : Int) > (3000 : Int)))) = true from (fun q0 => q0)) (need_strike (show (!(decide ((s.length : Int) > (3000 : Int)))) = true → (!(decide ((s.length : Int) > (3000 : Int)))) = true from (fun q0 => q0)) (need_congr (need_strike (show (!(decide ((s.length : Int) > (3000 : Int)))) = true → (!(decide ((s.length : Int) > (3000 : Int)))) = true from (fun q0 => q0)) (need_strike (show (!(decide ((s.length : Int) > (3000 : Int)))) = true → (!(decide ((s.length : Int) > (3000 : Int)))) = true from (fun q0 => q0)) (need_strike (show (!(decide ((s.length : Int) > (3000 : Int)))) = true → (insideP 7 (Part.mk ((treeT s).type) ((treeT s).params) ((treeT s).enc) ((treeT s).attach) ((treeT s).head) ((treeT s).frm) ((treeT s).til) ((treeT s).kids)) (0 : Int) (s.length : Int)) = true → ((!(decide ((s.length : Int) > (3000 : Int)))) && (insideP 7 (Part.mk ((treeT s).type) ((treeT s).params) ((treeT s).enc) ((treeT s).attach) ((treeT s).head) ((treeT s).frm) ((treeT s).til) ((treeT s).kids)) (0 : Int) (s.length : Int))) = true from (fun q0 q1 => (and_mk q0 q1))) (need_strike (show (decide ((s.length : Int) > (3000 : Int))) = false → (!(decide ((s.length : Int) > (3000 : Int)))) = true from (fun q0 => (not_mk q0))) (rfl)))))))))))

theorem fn_PartPlaces (F : Nat) (s : List UInt8) (r : AV) (h : (∃ M vs, ARels γ0 M [.p (.str s)] vs) → FPartPlaces F s = some (r, [])) : FnP Tryd.prog 7 [.p (.str s)] r :=
  FnP_run GPartPlaces F rfl (EnvOk_mk (l := [(11, sp_awake), (16, sp_tree), (19, sp_inside 7)]) ⟨ok_awake.any, ok_tree.any, (ok_inside 7).any, trivial⟩) (EnvROk_mk (l := []) trivial) (Checked.mixed Tryd.checked) (fn := Tryd.f7) (by kernel_rfl) (by kernel_rfl) rfl h
theorem PartPlaces_true (s : List UInt8) : FPartPlaces 0 s = some (.p (.bool true), []) := by
  rw [FPartPlaces_eq, part_eta]
  by_cases h : (s.length : Int) > 3000
  · refine need_mk (fun h2 => by simp at h2; omega) (need_mk (fun h2 => by simp at h2; omega) ?_)
    rw [decide_eq_true h]; rfl
  · refine need_mk (fun h2 => by omega) (need_mk (fun h2 => tree_deep (by omega) 6 _ _ _ (by omega) (by omega) (by omega)) ?_)
    have : insideP 7 (treeT s) 0 s.length = true := tree_ins 6 _ _ _ (by omega) (by omega) (by omega) _ _ (by omega) (by omega)
    rw [this]; simp
end Go.Proofs.YthfgklcdkehgjaaDoor
