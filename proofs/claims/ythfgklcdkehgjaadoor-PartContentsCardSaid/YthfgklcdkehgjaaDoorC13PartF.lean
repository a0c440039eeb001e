/-
  Lifted functions, and facts about them.
-/
import Derived.Test.YthfgklcdkehgjaaDoorRows
import Derived.Test.YthfgklcdkehgjaaDoorAmC
import Derived.Test.YthfgklcdkehgjaaDoorAmNeed
import Derived.Test.YthfgklcdkehgjaaDoorC13PartE
namespace Go.Proofs.YthfgklcdkehgjaaDoor
open Go Go.Am
set_option linter.unusedVariables false
/-! The tree of a text's parts; the parts lie one behind the other. -/
def treeT (s : List UInt8) : Part := (treeP 1 s (6 - (0 : Int)).toNat (0 : Int) (s.length : Int) ((0 : Int) + 1)).1

noncomputable def Gtree : Cfg := ⟨Tryd.prog, mkEnv [], mkEnvR [(30, sp_room), (31, sp_of_ 7)], 14, [], [], [([0, 1, 1, 1, 1, 1], [1]), ([0, 1, 1, 1, 1, 1, 1], [3])]⟩

noncomputable def Ftree (F : Nat) (s : List UInt8) : Option Ans := runF Gtree Tryd.f16 F [.p (.str s)]

theorem Ftree_eq (F : Nat) (s : List UInt8) : Ftree F s = need (0 ≤ (0 : Int) ∧ (0 : Int) ≤ 1000) (need (ofok 7 s (0 : Int) (0 : Int) (s.length : Int) ((0 : Int) + 1)) (some (.agg [.p (.str (((treeP 1 s (6 - (0 : Int)).toNat (0 : Int) (s.length : Int) ((0 : Int) + 1)).1).type)), .p (.list 2 (.dat (.pair .str .str) (((treeP 1 s (6 - (0 : Int)).toNat (0 : Int) (s.length : Int) ((0 : Int) + 1)).1).params))), .p (.str (((treeP 1 s (6 - (0 : Int)).toNat (0 : Int) (s.length : Int) ((0 : Int) + 1)).1).enc)), .p (.bool (((treeP 1 s (6 - (0 : Int)).toNat (0 : Int) (s.length : Int) ((0 : Int) + 1)).1).attach)), .p (.int .i64 (((treeP 1 s (6 - (0 : Int)).toNat (0 : Int) (s.length : Int) ((0 : Int) + 1)).1).head)), .p (.int .i64 (((treeP 1 s (6 - (0 : Int)).toNat (0 : Int) (s.length : Int) ((0 : Int) + 1)).1).frm)), .p (.int .i64 (((treeP 1 s (6 - (0 : Int)).toNat (0 : Int) (s.length : Int) ((0 : Int) + 1)).1).til)), .p (.list 8 (.dat .part (((treeP 1 s (6 - (0 : Int)).toNat (0 : Int) (s.length : Int) ((0 : Int) + 1)).1).kids)))], []))) := by kernel_rfl

theorem fn_tree (F : Nat) (s : List UInt8) (r : AV) (h : (∃ M vs, ARels γ0 M [.p (.str s)] vs) → Ftree F s = some (r, [])) : FnP Tryd.prog 16 [.p (.str s)] r :=
  FnP_run Gtree F rfl (EnvOk_mk (l := []) trivial) (EnvROk_mk (l := [(30, sp_room), (31, sp_of_ 7)]) ⟨ok_room, ok_of_ 7, trivial⟩) (Checked.mixed Tryd.checked) (fn := Tryd.f16) (by kernel_rfl) (by kernel_rfl) rfl h
theorem tree_ok7 (s : List UInt8) (hs : s.length ≤ 1000000) : ofok 7 s (0 : Int) (0 : Int) (s.length : Int) ((0 : Int) + 1) := ⟨by omega, by omega, by omega, by omega, by omega, by omega, hs, by omega, by omega⟩
theorem tree_eq (s : List UInt8) (hs : s.length ≤ 1000000) : Ftree 0 s = some (.agg [.p (.str (treeT s).type), .p (.list 2 (.dat (.pair .str .str) (treeT s).params)), .p (.str (treeT s).enc), .p (.bool (treeT s).attach), .p (.int .i64 (treeT s).head), .p (.int .i64 (treeT s).frm), .p (.int .i64 (treeT s).til), .p (.list 8 (.dat .part (treeT s).kids))], []) := by
  rw [Ftree_eq]; exact need_mk ⟨by omega, by omega⟩ (need_mk (tree_ok7 s hs) rfl)
def sp_tree : List AV → Option (AV × Option Prop)
  | [.p (.str s)] => some (.agg [.p (.str ((treeT s).type)), .p (.list 2 (.dat (.pair .str .str) ((treeT s).params))), .p (.str ((treeT s).enc)), .p (.bool ((treeT s).attach)), .p (.int .i64 ((treeT s).head)), .p (.int .i64 ((treeT s).frm)), .p (.int .i64 ((treeT s).til)), .p (.list 8 (.dat .part ((treeT s).kids)))], some (s.length ≤ 1000000))
  | _ => none
theorem ok_tree : SpecOk Tryd.prog 16 sp_tree := by
  intro zs r ok he hok
  unfold sp_tree at he
  split at he
  · cases he; exact ⟨by kernel_rfl, fn_tree 0 _ _ fun hx => tree_eq _ hok⟩
  · cases he

noncomputable def Gawake : Cfg := ⟨Tryd.prog, mkEnv [(16, sp_tree)], mkEnvR [], 21, [], [], []⟩

noncomputable def Fawake (F : Nat)  : Option Ans := runF Gawake Tryd.f11 F []

theorem Fawake_eq (F : Nat)  : Fawake F  = need (([65, 58, 32, 98, 13, 10, 13, 10, 120] : List UInt8).length ≤ 1000000) (some (.p (.bool ((((((treeT ([65, 58, 32, 98, 13, 10, 13, 10, 120] : List UInt8)).type) == ([116, 101, 120, 116, 47, 112, 108, 97, 105, 110] : List UInt8)) && (((treeT ([65, 58, 32, 98, 13, 10, 13, 10, 120] : List UInt8)).enc) == ([55, 98, 105, 116] : List UInt8))) && (((treeT ([65, 58, 32, 98, 13, 10, 13, 10, 120] : List UInt8)).frm) == (8 : Int))) && (((treeT ([65, 58, 32, 98, 13, 10, 13, 10, 120] : List UInt8)).til) == (9 : Int)))), [])) :=
  Eq.trans (show Fawake F  = need (([65, 58, 32, 98, 13, 10, 13, 10, 120] : List UInt8).length ≤ 1000000) (need ((((treeT ([65, 58, 32, 98, 13, 10, 13, 10, 120] : List UInt8)).type) == ([116, 101, 120, 116, 47, 112, 108, 97, 105, 110] : List UInt8)) = true → (((treeT ([65, 58, 32, 98, 13, 10, 13, 10, 120] : List UInt8)).type) == ([116, 101, 120, 116, 47, 112, 108, 97, 105, 110] : List UInt8)) = true) (need ((((treeT ([65, 58, 32, 98, 13, 10, 13, 10, 120] : List UInt8)).type) == ([116, 101, 120, 116, 47, 112, 108, 97, 105, 110] : List UInt8)) = true → (((treeT ([65, 58, 32, 98, 13, 10, 13, 10, 120] : List UInt8)).type) == ([116, 101, 120, 116, 47, 112, 108, 97, 105, 110] : List UInt8)) = true) (need ((((treeT ([65, 58, 32, 98, 13, 10, 13, 10, 120] : List UInt8)).type) == ([116, 101, 120, 116, 47, 112, 108, 97, 105, 110] : List UInt8)) = true → (((treeT ([65, 58, 32, 98, 13, 10, 13, 10, 120] : List UInt8)).type) == ([116, 101, 120, 116, 47, 112, 108, 97, 105, 110] : List UInt8)) = true) (need (((((treeT ([65, 58, 32, 98, 13, 10, 13, 10, 120] : List UInt8)).type) == ([116, 101, 120, 116, 47, 112, 108, 97, 105, 110] : List UInt8)) && (((treeT ([65, 58, 32, 98, 13, 10, 13, 10, 120] : List UInt8)).enc) == ([55, 98, 105, 116] : List UInt8))) = true → ((((treeT ([65, 58, 32, 98, 13, 10, 13, 10, 120] : List UInt8)).type) == ([116, 101, 120, 116, 47, 112, 108, 97, 105, 110] : List UInt8)) && (((treeT ([65, 58, 32, 98, 13, 10, 13, 10, 120] : List UInt8)).enc) == ([55, 98, 105, 116] : List UInt8))) = true) (need (((((treeT ([65, 58, 32, 98, 13, 10, 13, 10, 120] : List UInt8)).type) == ([116, 101, 120, 116, 47, 112, 108, 97, 105, 110] : List UInt8)) && (((treeT ([65, 58, 32, 98, 13, 10, 13, 10, 120] : List UInt8)).enc) == ([55, 98, 105, 116] : List UInt8))) = true → ((((treeT ([65, 58, 32, 98, 13, 10, 13, 10, 120] : List UInt8)).type) == ([116, 101, 120, 116, 47, 112, 108, 97, 105, 110] : List UInt8)) && (((treeT ([65, 58, 32, 98, 13, 10, 13, 10, 120] : List UInt8)).enc) == ([55, 98, 105, 116] : List UInt8))) = true) (need (((((treeT ([65, 58, 32, 98, 13, 10, 13, 10, 120] : List UInt8)).type) == ([116, 101, 120, 116, 47, 112, 108, 97, 105, 110] : List UInt8)) && (((treeT ([65, 58, 32, 98, 13, 10, 13, 10, 120] : List UInt8)).enc) == ([55, 98, 105, 116] : List UInt8))) = true → ((((treeT ([65, 58, 32, 98, 13, 10, 13, 10, 120] : List UInt8)).type) == ([116, 101, 120, 116, 47, 112, 108, 97, 105, 110] : List UInt8)) && (((treeT ([65, 58, 32, 98, 13, 10, 13, 10, 120] : List UInt8)).enc) == ([55, 98, 105, 116] : List UInt8))) = true) (need ((((((treeT ([65, 58, 32, 98, 13, 10, 13, 10, 120] : List UInt8)).type) == ([116, 101, 120, 116, 47, 112, 108, 97, 105, 110] : List UInt8)) && (((treeT ([65, 58, 32, 98, 13, 10, 13, 10, 120] : List UInt8)).enc) == ([55, 98, 105, 116] : List UInt8))) && (((treeT ([65, 58, 32, 98, 13, 10, 13, 10, 120] : List UInt8)).frm) == (8 : Int))) = true → (((((treeT ([65, 58, 32, 98, 13, 10, 13, 10, 120] : List UInt8)).type) == ([116, 101, 120, 116, 47, 112, 108, 97, 105, 110] : List UInt8)) && (((treeT ([65, 58, 32, 98, 13, 10, 13, 10, 120] : List UInt8)).enc) == ([55, 98, 105, 116] : List UInt8))) && (((treeT ([65, 58, 32, 98, 13, 10, 13, 10, 120] : List UInt8)).frm) == (8 : Int))) = true) (need ((((((treeT ([65, 58, 32, 98, 13, 10, 13, 10, 120] : List UInt8)).type) == ([116, 101, 120, 116, 47, 112, 108, 97, 105, 110] : List UInt8)) && (((treeT ([65, 58, 32, 98, 13, 10, 13, 10, 120] : List UInt8)).enc) == ([55, 98, 105, 116] : List UInt8))) && (((treeT ([65, 58, 32, 98, 13, 10, 13, 10, 120] : List UInt8)).frm) == (8 : Int))) = true → (((((treeT ([65, 58, 32, 98, 13, 10, 13, 10, 120] : List UInt8)).type) == ([116, 101, 120, 116, 47, 112, 108, 97, 105, 110] : List UInt8)) && (((treeT ([65, 58, 32, 98, 13, 10, 13, 10, 120] : List UInt8)).enc) == ([55, 98, 105, 116] : List UInt8))) && (((treeT ([65, 58, 32, 98, 13, 10, 13, 10, 120] : List UInt8)).frm) == (8 : Int))) = true) (need ((((((treeT ([65, 58, 32, 98, 13, 10, 13, 10, 120] : List UInt8)).type) == ([116, 101, 120, 116, 47, 112, 108, 97, 105, 110] : List UInt8)) && (((treeT ([65, 58, 32, 98, 13, 10, 13, 10, 120] : List UInt8)).enc) == ([55, 98, 105, 116] : List UInt8))) && (((treeT ([65, 58, 32, 98, 13, 10, 13, 10, 120] : List UInt8)).frm) == (8 : Int))) = true → (((((treeT ([65, 58, 32, 98, 13, 10, 13, 10, 120] : List UInt8)).type) == ([116, 101, 120, 116, 47, 112, 108, 97, 105, 110] : List UInt8)) && (((treeT ([65, 58, 32, 98, 13, 10, 13, 10, 120] : List UInt8)).enc) == ([55, 98, 105, 116] : List UInt8))) && (((treeT ([65, 58, 32, 98, 13, 10, 13, 10, 120] : List UInt8)).frm) == (8 : Int))) = true) (some (.p (.bool ((((((treeT ([65, 58, 32, 98, 13, 10, 13, 10, 120] : List UInt8)).type) == ([116, 101, 120, 116, 47, 112, 108, 97, 105, 110] : List UInt8)) && (((treeT ([65, 58, 32, 98, 13, 10, 13, 10, 120] : List UInt8)).enc) == ([55, 98, 105, 116] : List UInt8))) && (((treeT ([65, 58, 32, 98, 13, 10, 13, 10, 120] : List UInt8)).frm) == (8 : Int))) && (((treeT ([65, 58, 32, 98, 13, 10, 13, 10, 120] : List UInt8)).til) == (9 : Int)))), []))))))))))) by kernel_rfl) (need_congr (need_strike (show (((treeT ([65, 58, 32, 98, 13, 10, 13, 10, 120] : List UInt8)).type) == ([116, 101, 120, 116, 47, 112, 108, 97, 105, 110] : List UInt8)) = true → (((treeT ([65, 58, 32, 98, 13, 10, 13, 10, 120] : List UInt8)).type) == ([116, 101, 120, 116, 47, 112, 108, 97, 105, 110] : List UInt8)) = true from (fun q0 => q0)) (need_strike (show (((treeT ([65, 58, 32, 98, 13, 10, 13, 10, 120] : List UInt8)).type) == ([116, 101, 120, 116, 47, 112, 108, 97, 105, 110] : List UInt8)) = true → (((treeT ([65, 58, 32, 98, 13, 10, 13, 10, 120] : List UInt8)).type) == ([116, 101, 120, 116, 47, 112, 108, 97, 105, 110] : List UInt8)) = true from (fun q0 => q0)) (need_strike (show (((treeT ([65, 58, 32, 98, 13, 10, 13, 10, 120] : List UInt8)).type) == ([116, 101, 120, 116, 47, 112, 108, 97, 105, 110] : List UInt8)) = true → (((treeT ([65, 58, 32, 98, 13, 10, 13, 10, 120] : List UInt8)).type) == ([116, 101, 120, 116, 47, 112, 108, 97, 105, 110] : List UInt8)) = true from (fun q0 => q0)) (need_strike (show ((((treeT ([65, 58, 32, 98, 13, 10, 13, 10, 120] : List UInt8)).type) == ([116, 101, 120, 116, 47, 112, 108, 97, 105, 110] : List UInt8)) && (((treeT ([65, 58, 32, 98, 13, 10, 13, 10, 120] : List UInt8)).enc) == ([55, 98, 105, 116] : List UInt8))) = true → ((((treeT ([65, 58, 32, 98, 13, 10, 13, 10, 120] : List UInt8)).type) == ([116, 101, 120, 116, 47, 112, 108, 97, 105, 110] : List UInt8)) && (((treeT ([65, 58, 32, 98, 13, 10, 13, 10, 120] : List UInt8)).enc) == ([55, 98, 105, 116] : List UInt8))) = true from (fun q0 => q0)) (need_strike (show ((((treeT ([65, 58, 32, 98, 13, 10, 13, 10, 120] : List UInt8)).type) == ([116, 101, 120, 116, 47, 112, 108, 97, 105, 110] : List UInt8)) && (((treeT ([65, 58, 32, 98, 13, 10, 13, 10, 120] : List UInt8)).enc) == ([55, 98, 105, 116] : List UInt8))) = true → ((((treeT ([65, 58, 32, 98, 13, 10, 13, 10, 120] : List UInt8)).type) == ([116, 101, 120, 116, 47, 112, 108, 97, 105, 110] : List UInt8)) && (((treeT ([65, 58, 32, 98, 13, 10, 13, 10, 120] : List UInt8)).enc) == ([55, 98, 105, 116] : List UInt8))) = true from (fun q0 => q0)) (need_strike (show ((((treeT ([65, 58, 32, 98, 13, 10, 13, 10, 120] : List UInt8)).type) == ([116, 101, 120, 116, 47, 112, 108, 97, 105, 110] : List UInt8)) && (((treeT ([65, 58, 32, 98, 13, 10, 13, 10, 120] : List UInt8)).enc) == ([55, 98, 105, 116] : List UInt8))) = true → ((((treeT ([65, 58, 32, 98, 13, 10, 13, 10, 120] : List UInt8)).type) == ([116, 101, 120, 116, 47, 112, 108, 97, 105, 110] : List UInt8)) && (((treeT ([65, 58, 32, 98, 13, 10, 13, 10, 120] : List UInt8)).enc) == ([55, 98, 105, 116] : List UInt8))) = true from (fun q0 => q0)) (need_strike (show (((((treeT ([65, 58, 32, 98, 13, 10, 13, 10, 120] : List UInt8)).type) == ([116, 101, 120, 116, 47, 112, 108, 97, 105, 110] : List UInt8)) && (((treeT ([65, 58, 32, 98, 13, 10, 13, 10, 120] : List UInt8)).enc) == ([55, 98, 105, 116] : List UInt8))) && (((treeT ([65, 58, 32, 98, 13, 10, 13, 10, 120] : List UInt8)).frm) == (8 : Int))) = true → (((((treeT ([65, 58, 32, 98, 13, 10, 13, 10, 120] : List UInt8)).type) == ([116, 101, 120, 116, 47, 112, 108, 97, 105, 110] : List UInt8)) && (((treeT ([65, 58, 32, 98, 13, 10, 13, 10, 120] : List UInt8)).enc) == ([55, 98, 105, 116] : List UInt8))) && (((treeT ([65, 58, 32, 98, 13, 10, 13, 10, 120] : List UInt8)).frm) == (8 : Int))) = true from (fun q0 => q0)) (need_strike (show (((((treeT ([65, 58, 32, 98, 13, 10, 13, 10, 120] : List UInt8)).type) == ([116, 101, 120, 116, 47, 112, 108, 97, 105, 110] : List UInt8)) && (((treeT ([65, 58, 32, 98, 13, 10, 13, 10, 120] : List UInt8)).enc) == ([55, 98, 105, 116] : List UInt8))) && (((treeT ([65, 58, 32, 98, 13, 10, 13, 10, 120] : List UInt8)).frm) == (8 : Int))) = true → (((((treeT ([65, 58, 32, 98, 13, 10, 13, 10, 120] : List UInt8)).type) == ([116, 101, 120, 116, 47, 112, 108, 97, 105, 110] : List UInt8)) && (((treeT ([65, 58, 32, 98, 13, 10, 13, 10, 120] : List UInt8)).enc) == ([55, 98, 105, 116] : List UInt8))) && (((treeT ([65, 58, 32, 98, 13, 10, 13, 10, 120] : List UInt8)).frm) == (8 : Int))) = true from (fun q0 => q0)) (need_strike (show (((((treeT ([65, 58, 32, 98, 13, 10, 13, 10, 120] : List UInt8)).type) == ([116, 101, 120, 116, 47, 112, 108, 97, 105, 110] : List UInt8)) && (((treeT ([65, 58, 32, 98, 13, 10, 13, 10, 120] : List UInt8)).enc) == ([55, 98, 105, 116] : List UInt8))) && (((treeT ([65, 58, 32, 98, 13, 10, 13, 10, 120] : List UInt8)).frm) == (8 : Int))) = true → (((((treeT ([65, 58, 32, 98, 13, 10, 13, 10, 120] : List UInt8)).type) == ([116, 101, 120, 116, 47, 112, 108, 97, 105, 110] : List UInt8)) && (((treeT ([65, 58, 32, 98, 13, 10, 13, 10, 120] : List UInt8)).enc) == ([55, 98, 105, 116] : List UInt8))) && (((treeT ([65, 58, 32, 98, 13, 10, 13, 10, 120] : List UInt8)).frm) == (8 : Int))) = true from (fun q0 => q0)) (rfl)))))))))))

theorem fn_awake (F : Nat)  (r : AV) (h : (∃ M vs, ARels γ0 M [] vs) → Fawake F  = some (r, [])) : FnP Tryd.prog 11 [] r :=
  FnP_run Gawake F rfl (EnvOk_mk (l := [(16, sp_tree)]) ⟨ok_tree.any, trivial⟩) (EnvROk_mk (l := []) trivial) (Checked.mixed Tryd.checked) (fn := Tryd.f11) (by kernel_rfl) (by kernel_rfl) rfl h
theorem awake_eq : Fawake 0 = some (.p (.bool true), []) := by
  rw [Fawake_eq]; exact need_mk (by simp) (by kernel_rfl)
def sp_awake : List AV → Option (AV × Option Prop)
  | [] => some (.p (.bool true), none)
  | _ => none
theorem ok_awake : SpecOk Tryd.prog 11 sp_awake := by
  intro zs r ok he hok
  unfold sp_awake at he
  split at he
  · cases he; exact ⟨by kernel_rfl, fn_awake 0  _ fun hx => awake_eq ⟩
  · cases he




/-! ### Places -/
def deepP : Nat → Part → Prop
  | 0, _ => False
  | k + 1, p => p.kids.length ≤ 10000000 ∧ p.params.length ≤ 10000000 ∧ ∀ q ∈ p.kids, deepP k q
theorem kids_all {e : Int} {rec : Int → Int → Int → Part × Int} {P : Part → Prop} : ∀ (l : List (Int × Int)) (n : Int), (∀ x ∈ l, ∀ n, P (rec x.1 x.2 n).1) → (∀ q ∈ (kidsP e rec l n).1, P q) ∧ (kidsP e rec l n).1.length ≤ l.length
  | [], n, h => by rw [kidsP]; simp
  | x :: r, n, h => by
    rw [kidsP]
    split
    · obtain ⟨h1, h2⟩ := kids_all r (rec x.1 x.2 (n + 1)).2 (e := e) (fun y hy => h y (List.mem_cons_of_mem _ hy))
      dsimp only
      refine ⟨fun q hq => ?_, by simp; omega⟩
      rcases List.mem_cons.1 hq with rfl | hq
      · exact h x (by simp) _
      · exact h1 q hq
    · simp
theorem tree_deep {e : Int} {s : List UInt8} (hs : s.length ≤ 1000000) : ∀ (d : Nat) (a b n : Int), 0 ≤ a → a ≤ b → b ≤ s.length → deepP (d + 1) (treeP e s d a b n).1
  | 0, a, b, n, h0, h1, h2 => by
    have hp := (one_params s a b).2
    rw [treeP, deepP]; exact ⟨by simp [oneP, Part.kids], by show (oneP s a b).params.length ≤ _; omega, by simp [oneP, Part.kids]⟩
  | d + 1, a, b, n, h0, h1, h2 => by
    obtain ⟨g1, g2⟩ := body_ok h0 h1 h2
    obtain ⟨k1, k2⟩ := spansP_ok h0 h1 h2
    have hp := (one_params s a b).2
    rw [treeP]
    split
    · rw [deepP]; exact ⟨by simp [oneP, Part.kids], by show (oneP s a b).params.length ≤ _; omega, by simp [oneP, Part.kids]⟩
    · obtain ⟨z1, z2⟩ := kids_all (e := e) (rec := treeP e s d) (P := deepP (d + 1)) (spansP s a b) n fun x hx m => by have := k1 x hx; exact tree_deep hs d _ _ _ (by omega) (by omega) (by omega)
      rw [deepP]
      exact ⟨by show (kidsP e (treeP e s d) (spansP s a b) n).1.length ≤ _; omega, by show (oneP s a b).params.length ≤ _; omega, z1⟩












end Go.Proofs.YthfgklcdkehgjaaDoor
