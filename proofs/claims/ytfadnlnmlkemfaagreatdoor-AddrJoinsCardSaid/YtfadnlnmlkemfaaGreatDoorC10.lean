/-
  Lifted functions, and facts about them.
-/
import Derived.Test.YtfadnlnmlkemfaaGreatDoorRows
import Derived.Test.YtfadnlnmlkemfaaGreatDoorAmC
import Derived.Test.YtfadnlnmlkemfaaGreatDoorC09
import Derived.Deep.Slices
import Derived.Carry
import Derived.Handed
import Derived.Shelf.Vars
import Derived.WalkKit
import Derived.ProofKit
import Derived.OpenShut
namespace Go.Proofs.YtfadnlnmlkemfaaGreatDoor
open Go Go.Am
set_option linter.unusedVariables false
theorem adF_len : ∀ (f : Nat) (r : List UInt8) (ws : List (List UInt8)) (an : List UInt8) (hs : Bool) (out : List AddrT), (adF f r ws an hs out).length ≤ out.length + r.length + 1
  | 0, r, ws, an, hs, out => by have := tellS_len ws an hs out; rw [adF]; omega
  | f + 1, [], ws, an, hs, out => by have := tellS_len ws an hs out; rw [adF]; simp; omega
  | f + 1, c :: r, ws, an, hs, out => by
    have h1 := adF_len f (r.drop (wiF r).2) (ws ++ [(wiF r).1]) an hs out
    have h2 := adF_len f (r.drop (rmF 1 r)) ws an hs out
    have h3 := adF_len f (r.drop ((cutS r 62).1.length + 1)) ws (unbS (cutS r 62).1) true out
    have h4 := adF_len f r [] [] false out
    have h5 := adF_len f r [] [] false (tellS ws an hs out)
    have h6 := adF_len f r ws an hs out
    have h7 := adF_len f (r.dropWhile isAt) (ws ++ [c :: r.takeWhile isAt]) an hs out
    have h8 := tellS_len ws an hs out
    have h9 := takeW_le isAt r
    rw [List.length_drop] at h1 h2 h3
    rw [adF, List.length_cons]
    split
    · omega
    · split
      · omega
      · split
        · omega
        · split
          · omega
          · split
            · omega
            · split <;> omega
theorem listA_len (s : List UInt8) : (listA s).length ≤ s.length + 1 := by
  have := adF_len (s.length + 1) s [] [] false []
  unfold listA
  simp at this ⊢
  omega
noncomputable def csame : Code := bodyOf Tryz.f6

noncomputable def Gsame : Cfg := ⟨Tryz.prog, mkEnv [], mkEnvR [], 26, [], [([0, 1, 0, 1, 1], ⟨[0, 1, 5], []⟩), ([1, 0, 0, 1, 0, 0, 1, 0, 1, 1], ⟨[0, 1, 5, 25], []⟩)], []⟩

noncomputable def Bsame_1 (F f1 : Nat) (l : List (List UInt8 × List UInt8 × List UInt8)) (q : List (List UInt8 × List UInt8 × List UInt8)) (vi1 : Int) : Option Ans := runR Gsame csame (kP Tryz.prog Tryz.f6.results.toList) F [] [1, 1, 0, 1, 0] f1 [(0, .p (.list 3 (.dat (.pair .str (.pair .str .str)) l))), (1, .p (.list 3 (.dat (.pair .str (.pair .str .str)) q))), (5, .p (.int .i64 vi1))] []

noncomputable def Bsame_2 (F f1 : Nat) (l : List (List UInt8 × List UInt8 × List UInt8)) (q : List (List UInt8 × List UInt8 × List UInt8)) (vi1 : Int) (vc2 : Bool) : Option Ans := runB Gsame csame (kP Tryz.prog Tryz.f6.results.toList) F [f1] [1, 1, 0, 1, 0, 0, 1, 0, 0, 1] [(0, .p (.list 3 (.dat (.pair .str (.pair .str .str)) l))), (1, .p (.list 3 (.dat (.pair .str (.pair .str .str)) q))), (5, .p (.int .i64 vi1)), (25, .p (.bool vc2))] []

noncomputable def Fsame (F : Nat) (l : List (List UInt8 × List UInt8 × List UInt8)) (q : List (List UInt8 × List UInt8 × List UInt8)) : Option Ans := runF Gsame Tryz.f6 F [.p (.list 3 (.dat (.pair .str (.pair .str .str)) l)), .p (.list 3 (.dat (.pair .str (.pair .str .str)) q))]

theorem Bsame_1_eq (F f1 : Nat) (l : List (List UInt8 × List UInt8 × List UInt8)) (q : List (List UInt8 × List UInt8 × List UInt8)) (vi1 : Int) : Bsame_1 F (f1 + 1) l q vi1 = cond (decide (vi1 < (l.length : Int))) (need (0 ≤ vi1 ∧ vi1 < (l.length : Int)) (need (0 ≤ vi1 ∧ vi1 < (q.length : Int)) (Bsame_2 F f1 l q vi1 (!((((l.getD (vi1).toNat ([], ([], []))).1) == ((q.getD (vi1).toNat ([], ([], []))).1)) && (((((l.getD (vi1).toNat ([], ([], []))).2).1) == (((q.getD (vi1).toNat ([], ([], []))).2).1)) && (((((l.getD (vi1).toNat ([], ([], []))).2).2) == (((q.getD (vi1).toNat ([], ([], []))).2).2)) && true))))))) (some (.p (.bool true), [])) := by kernel_rfl

theorem Bsame_2_eq (F f1 : Nat) (l : List (List UInt8 × List UInt8 × List UInt8)) (q : List (List UInt8 × List UInt8 × List UInt8)) (vi1 : Int) (vc2 : Bool) : Bsame_2 F f1 l q vi1 vc2 = cond (vc2) (some (.p (.bool false), [])) (need (i64ok (vi1 + (1 : Int))) (Bsame_1 F f1 l q (vi1 + (1 : Int)))) := by kernel_rfl

theorem Fsame_eq (F : Nat) (l : List (List UInt8 × List UInt8 × List UInt8)) (q : List (List UInt8 × List UInt8 × List UInt8)) : Fsame F l q = cond ((l.length : Int) != (q.length : Int)) (some (.p (.bool false), [])) (Bsame_1 F F l q (0 : Int)) := by kernel_rfl

theorem fn_same (F : Nat) (l : List (List UInt8 × List UInt8 × List UInt8)) (q : List (List UInt8 × List UInt8 × List UInt8)) (r : AV) (h : (∃ M vs, ARels γ0 M [.p (.list 3 (.dat (.pair .str (.pair .str .str)) l)), .p (.list 3 (.dat (.pair .str (.pair .str .str)) q))] vs) → Fsame F l q = some (r, [])) : FnP Tryz.prog 6 [.p (.list 3 (.dat (.pair .str (.pair .str .str)) l)), .p (.list 3 (.dat (.pair .str (.pair .str .str)) q))] r :=
  FnP_run Gsame F rfl (EnvOk_mk (l := []) trivial) (EnvROk_mk (l := []) trivial) (Checked.mixed Tryz.checked) (fn := Tryz.f6) (by kernel_rfl) (by kernel_rfl) rfl h
theorem same_loop (F : Nat) (l q : List AddrT) (hl : l.length ≤ 1000000) (hq : l.length = q.length) : ∀ (r p : List AddrT) (i f : Nat), l.drop i = r → q.drop i = p → i + r.length = l.length → r.length < f → Bsame_1 F f l q (i : Int) = some (.p (.bool (decide (r = p))), [])
  | [], p, i, f, hd, hp, hi, hf => by
    obtain ⟨f, rfl⟩ : ∃ k, f = k + 1 := ⟨f - 1, by omega⟩
    have hi : i = l.length := by simpa using hi
    have : p = [] := by rw [← hp]; exact List.drop_eq_nil_of_le (by omega)
    subst this
    rw [Bsame_1_eq]
    exact cond_f (decide_eq_false (by omega)) rfl
  | x :: r, p, i, f, hd, hp, hi, hf => by
    obtain ⟨f, rfl⟩ : ∃ k, f = k + 1 := ⟨f - 1, by omega⟩
    rw [List.length_cons] at hi hf
    cases p with
    | nil =>
      have := congrArg List.length hp
      simp at this; omega
    | cons y p =>
      obtain ⟨g1, d1, i1⟩ := dropG hd ([], ([], []))
      obtain ⟨g2, d2, i2⟩ := dropG hp ([], ([], []))
      rw [Bsame_1_eq]
      refine cond_t (decide_eq_true (by omega)) (need_mk ⟨by omega, by omega⟩ (need_mk ⟨by omega, by omega⟩ ?_))
      rw [Int.toNat_natCast, g1, g2, Bsame_2_eq]
      by_cases h : x = y
      · subst h
        refine cond_f (by simp) (need_mk ⟨by omega, by omega⟩ ?_)
        rw [show ((i : Int) + 1) = ((i + 1 : Nat) : Int) by omega, same_loop F l q hl hq r p (i + 1) f d1 d2 (by omega) (by omega)]
        congr 4
        simp
      · refine cond_t ?_ ?_
        · rw [Bool.not_eq_true']
          rw [← Bool.not_eq_true]
          intro hh
          simp only [Bool.and_eq_true, beq_iff_eq, Bool.and_true] at hh
          exact h (Prod.ext hh.1 (Prod.ext hh.2.1 hh.2.2))
        · rw [decide_eq_false (fun e => h (List.cons.inj e).1)]
theorem same_eq (l q : List AddrT) (h : l.length ≤ 1000000 ∧ q.length ≤ 1000000) : Fsame (l.length + 1) l q = some (.p (.bool (sameA l q)), []) := by
  rw [Fsame_eq, sameA]
  by_cases hq : l.length = q.length
  · refine cond_f (by simp; omega) ?_
    exact same_loop _ l q h.1 hq l q 0 (l.length + 1) rfl rfl (by simp) (by omega)
  · refine cond_t (by simp; omega) ?_
    rw [decide_eq_false (fun e => hq (by rw [e]))]
def sp_same : List AV → Option (AV × Option Prop)
  | [.p (.list 3 (.dat (.pair .str (.pair .str .str)) l)), .p (.list 3 (.dat (.pair .str (.pair .str .str)) q))] => some (.p (.bool (sameA l q)), some (l.length ≤ 1000000 ∧ q.length ≤ 1000000))
  | _ => none
theorem ok_same : SpecOk Tryz.prog 6 sp_same := by
  intro zs r ok he hok
  unfold sp_same at he
  split at he
  · cases he; exact ⟨by kernel_rfl, fn_same (_) _ _ _ fun hx => same_eq _ _ hok⟩
  · cases he

noncomputable def Gawake12 : Cfg := ⟨Tryz.prog, mkEnv [(6, sp_same), (7, sp_alist)], mkEnvR [], 6, [], [], []⟩

noncomputable def Fawake12 (F : Nat)  : Option Ans := runF Gawake12 Tryz.f8 F []

theorem Fawake12_eq (F : Nat)  : Fawake12 F  = need (([65, 32, 66, 32, 60, 97, 64, 98, 62, 44, 32, 99, 64, 100] : List UInt8).length ≤ 40000) (need ((listA ([65, 32, 66, 32, 60, 97, 64, 98, 62, 44, 32, 99, 64, 100] : List UInt8)).length ≤ 1000000 ∧ [(([65, 32, 66] : List UInt8), (([97] : List UInt8), ([98] : List UInt8))), (([] : List UInt8), (([99] : List UInt8), ([100] : List UInt8)))].length ≤ 1000000) (some (.p (.bool (sameA (listA ([65, 32, 66, 32, 60, 97, 64, 98, 62, 44, 32, 99, 64, 100] : List UInt8)) [(([65, 32, 66] : List UInt8), (([97] : List UInt8), ([98] : List UInt8))), (([] : List UInt8), (([99] : List UInt8), ([100] : List UInt8)))])), []))) := by kernel_rfl

theorem fn_awake12 (F : Nat)  (r : AV) (h : (∃ M vs, ARels γ0 M [] vs) → Fawake12 F  = some (r, [])) : FnP Tryz.prog 8 [] r :=
  FnP_run Gawake12 F rfl (EnvOk_mk (l := [(6, sp_same), (7, sp_alist)]) ⟨ok_same.any, ok_alist.any, trivial⟩) (EnvROk_mk (l := []) trivial) (Checked.mixed Tryz.checked) (fn := Tryz.f8) (by kernel_rfl) (by kernel_rfl) rfl h
set_option maxRecDepth 100000 in
theorem awake12_eq : Fawake12 0 = some (.p (.bool true), []) := by
  rw [Fawake12_eq]
  refine need_mk (by decide) (need_mk ⟨Nat.le_trans (listA_len _) (by decide), by decide⟩ ?_)
  have h : sameA (listA ([65, 32, 66, 32, 60, 97, 64, 98, 62, 44, 32, 99, 64, 100] : List UInt8)) [(([65, 32, 66] : List UInt8), (([97] : List UInt8), ([98] : List UInt8))), (([] : List UInt8), (([99] : List UInt8), ([100] : List UInt8)))] = true := by kernel_rfl
  rw [h]
def sp_awake12 : List AV → Option (AV × Option Prop)
  | [] => some (.p (.bool true), none)
  | _ => none
theorem ok_awake12 : SpecOk Tryz.prog 8 sp_awake12 := by
  intro zs r ok he hok
  unfold sp_awake12 at he
  split at he
  · cases he; exact ⟨by kernel_rfl, fn_awake12 0  _ fun hx => awake12_eq ⟩
  · cases he
noncomputable def cjoins12 : Code := bodyOf Tryz.f4

noncomputable def Gjoins12 : Cfg := ⟨Tryz.prog, mkEnv [(6, sp_same), (8, sp_awake12)], mkEnvR [(7, sp_alistr)], 66, [], [([0, 1, 0, 1, 1], ⟨[0, 1, 5], []⟩), ([1, 1, 0, 0, 1, 0, 0, 1, 0, 1, 1], ⟨[0, 1, 5, 37], []⟩), ([0, 1, 0, 1, 1, 1, 1, 1], ⟨[1, 7, 8, 9], [⟨.slot 7, 7, .cells []⟩, ⟨.slot 8, 8, .cells []⟩]⟩)], [([0, 1, 1, 1], [1, 3]), ([0, 1, 1, 1, 1], [4])]⟩

noncomputable def Bjoins12_1 (F f1 : Nat) (a b : List UInt8) (vi1 : Int) : Option Ans := runR Gjoins12 cjoins12 (kP Tryz.prog Tryz.f4.results.toList) F [] [1, 1, 0, 1, 0] f1 [(0, .p (.str a)), (1, .p (.str b)), (5, .p (.int .i64 vi1))] []

noncomputable def Bjoins12_2 (F f1 : Nat) (a b : List UInt8) (vi1 : Int) (vc2 : Bool) : Option Ans := runB Gjoins12 cjoins12 (kP Tryz.prog Tryz.f4.results.toList) F [f1] [1, 1, 0, 1, 0, 0, 1, 0, 0, 1, 1] [(0, .p (.str a)), (1, .p (.str b)), (5, .p (.int .i64 vi1)), (37, .p (.bool vc2))] []

noncomputable def Bjoins12_3 (F f2 : Nat) (b : List UInt8) (vi3 : Int) (vl4 : List (List UInt8 × List UInt8 × List UInt8)) (vl5 : List (List UInt8 × List UInt8 × List UInt8)) : Option Ans := runR Gjoins12 cjoins12 (kP Tryz.prog Tryz.f4.results.toList) F [] [1, 1, 1, 1, 1, 0, 1, 0] f2 [(1, .p (.str b)), (7, .arr 7), (8, .arr 8), (9, .p (.int .i64 vi3))] [(7, .larr 27 false 3 (.dat (.pair .str (.pair .str .str)) vl4)), (8, .larr 27 false 3 (.dat (.pair .str (.pair .str .str)) vl5))]

noncomputable def Fjoins12 (F : Nat) (a b : List UInt8) : Option Ans := runF Gjoins12 Tryz.f4 F [.p (.str a), .p (.str b)]

theorem Bjoins12_1_eq (F f1 : Nat) (a b : List UInt8) (vi1 : Int) : Bjoins12_1 F (f1 + 1) a b vi1 = cond (decide (vi1 < (a.length : Int))) (need (0 ≤ vi1 ∧ vi1 < (a.length : Int)) (((((Bjoins12_2 F f1 a b vi1 (((((a.getD (vi1).toNat 0).toNat : Int) == (34 : Int)) || (((a.getD (vi1).toNat 0).toNat : Int) == (40 : Int))) || (((a.getD (vi1).toNat 0).toNat : Int) == (60 : Int))))))))) (need (a.length ≤ 40000) (need (b.length ≤ 40000) (need (((listA a).length + (listA b).length) * 48 ≤ 140737488355328) (need (lenok (a.length + ([44] : List UInt8).length)) (need (lenok ((a ++ ([44] : List UInt8)).length + b.length)) (need (((a ++ ([44] : List UInt8)) ++ b).length ≤ 40000) (Bjoins12_3 F F b (0 : Int) ((listA a) ++ (listA b)) (listA ((a ++ ([44] : List UInt8)) ++ b))))))))) := by
  have h : Bjoins12_1 F (f1 + 1) a b vi1 = cond (decide (vi1 < (a.length : Int))) (need (0 ≤ vi1 ∧ vi1 < (a.length : Int)) (need ((!(((a.getD (vi1).toNat 0).toNat : Int) == (34 : Int))) = true → (!(((a.getD (vi1).toNat 0).toNat : Int) == (34 : Int))) = true) (need ((((a.getD (vi1).toNat 0).toNat : Int) == (34 : Int)) = false → (!(((a.getD (vi1).toNat 0).toNat : Int) == (34 : Int))) = true) (need ((!((((a.getD (vi1).toNat 0).toNat : Int) == (34 : Int)) || (((a.getD (vi1).toNat 0).toNat : Int) == (40 : Int)))) = true → (!((((a.getD (vi1).toNat 0).toNat : Int) == (34 : Int)) || (((a.getD (vi1).toNat 0).toNat : Int) == (40 : Int)))) = true) (need (((((a.getD (vi1).toNat 0).toNat : Int) == (34 : Int)) || (((a.getD (vi1).toNat 0).toNat : Int) == (40 : Int))) = false → (!((((a.getD (vi1).toNat 0).toNat : Int) == (34 : Int)) || (((a.getD (vi1).toNat 0).toNat : Int) == (40 : Int)))) = true) (Bjoins12_2 F f1 a b vi1 (((((a.getD (vi1).toNat 0).toNat : Int) == (34 : Int)) || (((a.getD (vi1).toNat 0).toNat : Int) == (40 : Int))) || (((a.getD (vi1).toNat 0).toNat : Int) == (60 : Int))))))))) (need (a.length ≤ 40000) (need (b.length ≤ 40000) (need (((listA a).length + (listA b).length) * 48 ≤ 140737488355328) (need (lenok (a.length + ([44] : List UInt8).length)) (need (lenok ((a ++ ([44] : List UInt8)).length + b.length)) (need (((a ++ ([44] : List UInt8)) ++ b).length ≤ 40000) (Bjoins12_3 F F b (0 : Int) ((listA a) ++ (listA b)) (listA ((a ++ ([44] : List UInt8)) ++ b))))))))) := by kernel_rfl
  rw [h, need_pos (show ((((a.getD (vi1).toNat 0).toNat : Int) == (34 : Int)) || (((a.getD (vi1).toNat 0).toNat : Int) == (40 : Int))) = false → (!((((a.getD (vi1).toNat 0).toNat : Int) == (34 : Int)) || (((a.getD (vi1).toNat 0).toNat : Int) == (40 : Int)))) = true from (fun q0 => (not_mk q0))), need_pos (show (!((((a.getD (vi1).toNat 0).toNat : Int) == (34 : Int)) || (((a.getD (vi1).toNat 0).toNat : Int) == (40 : Int)))) = true → (!((((a.getD (vi1).toNat 0).toNat : Int) == (34 : Int)) || (((a.getD (vi1).toNat 0).toNat : Int) == (40 : Int)))) = true from (fun q0 => q0)), need_pos (show (((a.getD (vi1).toNat 0).toNat : Int) == (34 : Int)) = false → (!(((a.getD (vi1).toNat 0).toNat : Int) == (34 : Int))) = true from (fun q0 => (not_mk q0))), need_pos (show (!(((a.getD (vi1).toNat 0).toNat : Int) == (34 : Int))) = true → (!(((a.getD (vi1).toNat 0).toNat : Int) == (34 : Int))) = true from (fun q0 => q0))]

theorem Bjoins12_2_eq (F f1 : Nat) (a b : List UInt8) (vi1 : Int) (vc2 : Bool) : Bjoins12_2 F f1 a b vi1 vc2 = cond (vc2) (some (.p (.bool true), [])) (need (i64ok (vi1 + (1 : Int))) (Bjoins12_1 F f1 a b (vi1 + (1 : Int)))) := by kernel_rfl

theorem Bjoins12_3_eq (F f2 : Nat) (b : List UInt8) (vi3 : Int) (vl4 : List (List UInt8 × List UInt8 × List UInt8)) (vl5 : List (List UInt8 × List UInt8 × List UInt8)) : Bjoins12_3 F (f2 + 1) b vi3 vl4 vl5 = cond (decide (vi3 < (b.length : Int))) (need (0 ≤ vi3 ∧ vi3 < (b.length : Int)) (cond (((b.getD (vi3).toNat 0).toNat : Int) == (58 : Int)) (some (.p (.bool true), [])) (need (i64ok (vi3 + (1 : Int))) (Bjoins12_3 F f2 b (vi3 + (1 : Int)) vl4 vl5)))) (need (vl5.length ≤ 1000000 ∧ vl4.length ≤ 1000000) ((some (.p (.bool ((sameA vl5 vl4) && true)), [])))) := by
  have h : Bjoins12_3 F (f2 + 1) b vi3 vl4 vl5 = cond (decide (vi3 < (b.length : Int))) (need (0 ≤ vi3 ∧ vi3 < (b.length : Int)) (cond (((b.getD (vi3).toNat 0).toNat : Int) == (58 : Int)) (some (.p (.bool true), [])) (need (i64ok (vi3 + (1 : Int))) (Bjoins12_3 F f2 b (vi3 + (1 : Int)) vl4 vl5)))) (need (vl5.length ≤ 1000000 ∧ vl4.length ≤ 1000000) (need ((sameA vl5 vl4) = true → (sameA vl5 vl4) = true) (some (.p (.bool ((sameA vl5 vl4) && true)), [])))) := by kernel_rfl
  rw [h, need_pos (show (sameA vl5 vl4) = true → (sameA vl5 vl4) = true from (fun q0 => q0))]

theorem Fjoins12_eq (F : Nat) (a b : List UInt8) : Fjoins12 F a b = (((cond ((decide ((a.length : Int) > (500 : Int))) || (decide ((b.length : Int) > (500 : Int)))) (some (.p (.bool true), [])) (Bjoins12_1 F F a b (0 : Int))))) := by
  have h : Fjoins12 F a b = need ((!(decide ((a.length : Int) > (500 : Int)))) = true → (!(decide ((a.length : Int) > (500 : Int)))) = true) (need ((!(decide ((a.length : Int) > (500 : Int)))) = true → (!(decide ((a.length : Int) > (500 : Int)))) = true) (need ((decide ((a.length : Int) > (500 : Int))) = false → (!(decide ((a.length : Int) > (500 : Int)))) = true) (cond ((decide ((a.length : Int) > (500 : Int))) || (decide ((b.length : Int) > (500 : Int)))) (some (.p (.bool true), [])) (Bjoins12_1 F F a b (0 : Int))))) := by kernel_rfl
  rw [h, need_pos (show (decide ((a.length : Int) > (500 : Int))) = false → (!(decide ((a.length : Int) > (500 : Int)))) = true from (fun q0 => (not_mk q0))), need_pos (show (!(decide ((a.length : Int) > (500 : Int)))) = true → (!(decide ((a.length : Int) > (500 : Int)))) = true from (fun q0 => q0)), need_pos (show (!(decide ((a.length : Int) > (500 : Int)))) = true → (!(decide ((a.length : Int) > (500 : Int)))) = true from (fun q0 => q0))]

theorem fn_joins12 (F : Nat) (a b : List UInt8) (r : AV) (h : (∃ M vs, ARels γ0 M [.p (.str a), .p (.str b)] vs) → Fjoins12 F a b = some (r, [])) : FnP Tryz.prog 4 [.p (.str a), .p (.str b)] r :=
  FnP_run Gjoins12 F rfl (EnvOk_mk (l := [(6, sp_same), (8, sp_awake12)]) ⟨ok_same.any, ok_awake12.any, trivial⟩) (EnvROk_mk (l := [(7, sp_alistr)]) ⟨ok_alistr, trivial⟩) (Checked.mixed Tryz.checked) (fn := Tryz.f4) (by kernel_rfl) (by kernel_rfl) rfl h
theorem joins_3 (F : Nat) (b : List UInt8) (v : List AddrT) (hb : b.length ≤ 500) (hv : v.length ≤ 1000000) : ∀ (r : List UInt8) (i f : Nat), b.drop i = r → i + r.length = b.length → r.length < f → Bjoins12_3 F f b (i : Int) v v = some (.p (.bool true), [])
  | [], i, f, hd, hi, hf => by
    obtain ⟨f, rfl⟩ : ∃ k, f = k + 1 := ⟨f - 1, by omega⟩
    have hi : i = b.length := by simpa using hi
    rw [Bjoins12_3_eq]
    refine cond_f (decide_eq_false (by omega)) (need_mk ⟨hv, hv⟩ ?_)
    rw [sameA, decide_eq_true rfl]; rfl
  | c :: r, i, f, hd, hi, hf => by
    obtain ⟨f, rfl⟩ : ∃ k, f = k + 1 := ⟨f - 1, by omega⟩
    obtain ⟨hg, hd2, hi2⟩ := adr_drop hd
    rw [List.length_cons] at hi hf
    rw [Bjoins12_3_eq, Int.toNat_natCast, hg]
    refine cond_t (decide_eq_true (by omega)) (need_mk ⟨by omega, by omega⟩ ?_)
    by_cases h58 : (((c.toNat : Nat) : Int) == (58 : Int)) = true
    · exact cond_t h58 rfl
    · refine cond_f (by simpa using h58) (need_mk ⟨by omega, by omega⟩ ?_)
      rw [show ((i : Int) + 1) = ((i + 1 : Nat) : Int) by omega]
      exact joins_3 F b v hb hv r (i + 1) f hd2 (by omega) (by omega)
theorem joins_1 (F : Nat) (a b : List UInt8) (ha : a.length ≤ 500) (hb : b.length ≤ 500) (hF : 1000 < F) : ∀ (r : List UInt8) (i f : Nat), a.drop i = r → i + r.length = a.length → (∀ c ∈ a.take i, c ≠ 34 ∧ c ≠ 40 ∧ c ≠ 60) → r.length < f → Bjoins12_1 F f a b (i : Int) = some (.p (.bool true), [])
  | [], i, f, hd, hi, hok, hf => by
    obtain ⟨f, rfl⟩ : ∃ k, f = k + 1 := ⟨f - 1, by omega⟩
    have hi : i = a.length := by simpa using hi
    rw [hi, List.take_length] at hok
    have la := listA_len a
    have lb := listA_len b
    rw [Bjoins12_1_eq]
    refine cond_f (decide_eq_false (by omega)) (need_mk (by omega) (need_mk (by omega) (need_mk (by omega) (need_mk (by unfold lenok; simp; omega) (need_mk (by unfold lenok; simp; omega) (need_mk (by simp; omega) ?_))))))
    rw [show (a ++ ([44] : List UInt8)) ++ b = a ++ 44 :: b by simp, listA_join a b hok]
    exact joins_3 F b _ hb (by rw [List.length_append]; omega) b 0 F rfl (by simp) (by omega)
  | c :: r, i, f, hd, hi, hok, hf => by
    obtain ⟨f, rfl⟩ : ∃ k, f = k + 1 := ⟨f - 1, by omega⟩
    obtain ⟨hg, hd2, hi2⟩ := adr_drop hd
    rw [List.length_cons] at hi hf
    rw [Bjoins12_1_eq, Int.toNat_natCast, hg, adr_u8 c 34 34 34 rfl rfl, adr_u8 c 40 40 40 rfl rfl, adr_u8 c 60 60 60 rfl rfl]
    refine cond_t (decide_eq_true (by omega)) (need_mk ⟨by omega, by omega⟩ ?_)
    rw [Bjoins12_2_eq]
    by_cases h : c = 34 ∨ c = 40 ∨ c = 60
    · refine cond_t ?_ rfl
      rcases h with h | h | h <;> simp [h]
    · have h34 : c ≠ 34 := fun e => h (.inl e)
      have h40 : c ≠ 40 := fun e => h (.inr (.inl e))
      have h60 : c ≠ 60 := fun e => h (.inr (.inr e))
      refine cond_f (by simp [h34, h40, h60]) (need_mk ⟨by omega, by omega⟩ ?_)
      rw [show ((i : Int) + 1) = ((i + 1 : Nat) : Int) by omega]
      refine joins_1 F a b ha hb hF r (i + 1) f hd2 (by omega) (fun d hd' => ?_) (by omega)
      rw [List.take_add_one, List.mem_append] at hd'
      rcases hd' with hd' | hd'
      · exact hok d hd'
      · have hq : a[i]? = some c := by rw [← List.head?_drop, hd]; rfl
        rw [hq] at hd'
        have : d = c := by simpa using hd'
        subst this
        exact ⟨h34, h40, h60⟩
theorem joins12_eq (a b : List UInt8) : Fjoins12 1002 a b = some (.p (.bool true), []) := by
  rw [Fjoins12_eq]
  by_cases h : a.length > 500 ∨ b.length > 500
  · refine cond_t ?_ rfl
    rw [Bool.or_eq_true, decide_eq_true_iff, decide_eq_true_iff]; omega
  · refine cond_f ?_ ?_
    · rw [← Bool.not_eq_true, Bool.or_eq_true, decide_eq_true_iff, decide_eq_true_iff]; omega
    · exact joins_1 1002 a b (by omega) (by omega) (by omega) a 0 1002 rfl (by simp) (fun c hc => by simp at hc) (by omega)
end Go.Proofs.YtfadnlnmlkemfaaGreatDoor
/-! Slices among the arguments of a row. -/
namespace Go.Am
open Go Go.RowKit Go.ChangeShapes Go.WideShapes

def memOf (w : World) : Mem := fun b o => w.cell? ⟨b, o, none⟩
theorem memOf_ok (w : World) (hg : GOk (memOf w)) : MOk (memOf w) w := ⟨fun _ _ _ h => h, hg⟩



section
variable {H : Type} {enc : TypeId × Value → H} {P : Program} {w : World} {spare : Nat → Bool} {held : Bool} {M : Mem}





end

theorem walk_of_FnP2 {P : Program} {f : FuncId} {args : List AV} (h : FnP P f args (.p (.bool true))) {vs : List Value} (w : World) (hg : GOk (memOf w)) (hv : ARels γ0 (memOf w) args vs) :
    Calls P f vs.toArray w fun e w' => e = .returned (.bool true) ∧ Below w.heap.size w w' := by
  refine (h (memOf w) w vs (memOf_ok w hg) hv).mono fun e w' ⟨v, M', he, _, _, _, hr, hb⟩ => ?_
  rw [hr.bool_inv] at he
  exact ⟨he, hb⟩
theorem str_argM (M : Mem) (a : ByteArray) (h : a.size ≤ maxLen) : ARel γ0 M (.p (.str a.data.toList)) (.string a) :=
  .p _ _ (.str a.data.toList (by rw [Array.length_toList]; exact h))
end Go.Am
set_option linter.unusedVariables false
/-! The row's wrap, with what the world's shape says of the globals. -/
namespace Go.Am
open Go Go.RowKit Go.ChangeShapes Go.WideShapes Go.ChangeAt
variable {H : Type} {enc : TypeId × Value → H}
theorem returns_shaped {a : Assume} {C : Checked} {os : Os} {f : FuncId} {fn : Func} {s : ChangeSpec} {conds : List PathCond} {apart fresh handsOn again : Bool} {X : World → Array Value → Prop}
    (own : ownKnob C.prog.godebug = none) (started : os.Started) (noInit : C.prog.inits.idxOf? f = none) (hfn : C.prog.funcs[f]? = some fn)
    (witness : ∃ (w : World) (tape : Tape) (i : Input), w.os = os ∧ (w.forCall tape i).Shaped C.prog ∧ i.vars = [] ∧ Input.okWide C.prog (w.forCall tape i) .any w.heap.size f i ∧
      ((s.pre enc C.prog fn conds apart (w.forCall tape i).memory i.args ∧ X (w.forCall tape i).memory i.args) ∧ sizedMet enc C.prog fn (OpenSpec.ofChange s) apart (w.forCall tape i).memory i.args) ∧ a.holds C.prog (lone (Frame.enter C.prog f i.args .normal) [] (w.forCall tape i)))
    (contract : ∀ (W : World) (base : Nat) (args : Array Value) (ds gs : List (DataW H)) (before : List MemPlace), W.ShapedOpen C.prog →
      (∀ (j : Nat) t v, fn.params[j]? = some t → args[j]? = some v → Value.okWide C.prog W .any base t v) →
      DataW.Whole enc C.prog fn.params.toList s.vars apart W args.toList ds gs before →
      (DataW.weightsEach C.prog (fn.params.toList ++ s.plain.varTypes C.prog) (ds ++ gs)).all (· ≤ reachBytes) = true →
      Calls C.prog f args W fun e W' => ∃ v, e = .returned v ∧ s.post enc C.prog fn apart fresh handsOn again W args v W') :
    ReturnsInHanded a C os f .any (fun w args => (s.pre enc C.prog fn conds apart w args ∧ X w args) ∧ sizedMet enc C.prog fn (OpenSpec.ofChange s) apart w args) (s.post enc C.prog fn apart fresh handsOn again) := by
  refine returnsInHanded_of_calls own started noInit witness ?_
  intro w tape i _ hsh _ hok hpre _
  obtain ⟨_, _, _, fn', hfn', _, _, _, _, hval⟩ := hok
  have e : fn' = fn := Option.some.inj (hfn'.symm.trans hfn)
  subst e
  obtain ⟨⟨⟨ds, gs, before, hw, _⟩, _⟩, hz⟩ := hpre
  have hw' := DataW.Whole.of_heap (w' := w.forCall tape i) (by rfl) hw
  refine (contract (w.forCall tape i) w.heap.size i.args ds gs before hsh hval hw' (hz.weights hw)).mono fun e W' ⟨v, he, hp⟩ => ?_
  subst he
  exact ChangeSpec.post_blind hp
end Go.Am
