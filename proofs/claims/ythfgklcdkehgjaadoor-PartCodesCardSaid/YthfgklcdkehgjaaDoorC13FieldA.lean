/-
  Lifted functions, and facts about them.
-/
import Derived.Test.YthfgklcdkehgjaaDoorRows
import Derived.Test.YthfgklcdkehgjaaDoorAmC
import Derived.Test.YthfgklcdkehgjaaDoorAmNeed
import Derived.Test.YthfgklcdkehgjaaDoorC13CutF
import Derived.Test.YthfgklcdkehgjaaDoorC13TSuf
import Derived.Test.YthfgklcdkehgjaaDoorC13Trim2
import Derived.Test.YthfgklcdkehgjaaDoorC13R1Idx
import Derived.Test.YthfgklcdkehgjaaDoorAmLend
namespace Go.Proofs.YthfgklcdkehgjaaDoor
open Go Go.Am
set_option linter.unusedVariables false
/-! Headers: what is computed. -/
def inName (c : UInt8) : Bool := decide (33 ≤ c.toNat) && decide (c.toNat ≤ 126)
def oneF (s : List UInt8) : (List UInt8 × List UInt8) × Bool := (((cutS s 58).1, trimBl (cutS s 58).2.1), ((cutS s 58).2.2 && (cutS s 58).1.all inName) && ((cutS s 58).1 != []))
theorem cutS_len (s : List UInt8) (c : UInt8) : (cutS s c).1.length + (cutS s c).2.1.length ≤ s.length := by
  rcases cut_split c s with ⟨p, q, e, _, hc⟩ | ⟨_, hc⟩
  · rw [hc, e]; simp
  · rw [hc]; simp
noncomputable def cfone : Code := bodyOf Tryd.f78

noncomputable def Gfone : Cfg := ⟨Tryd.prog, mkEnv [(24, sp_cut), (48, sp_trim2)], mkEnvR [], 42, [], [([0, 1, 0, 1, 1], ⟨[2, 4, 5, 6, 15, 16], [⟨.slot 2, 2, .cells []⟩]⟩), ([1, 1, 1, 0, 0, 1, 0, 1, 1], ⟨[2, 4, 5, 6, 15, 16], [⟨.slot 2, 2, .cells []⟩]⟩)], []⟩

noncomputable def Bfone_1 (F f1 : Nat) (vs1 vs2 : List UInt8) (vc3 : Bool) (vi4 vi5 : Int) : Option Ans := runR Gfone cfone (kP Tryd.prog Tryd.f78.results.toList) F [] [1, 1, 0, 1, 0] f1 [(2, .ref 2 0), (4, .p (.str vs1)), (5, .p (.str vs2)), (6, .p (.bool vc3)), (15, .p (.int .i64 vi4)), (16, .p (.int .i64 vi5))] [(2, .cells [.p (.str ([] : List UInt8)), .p (.str ([] : List UInt8))])]

noncomputable def Bfone_2 (F f1 : Nat) (vs1 vs2 : List UInt8) (vc6 : Bool) (vi4 vi5 : Int) : Option Ans := runB Gfone cfone (kP Tryd.prog Tryd.f78.results.toList) F [f1] [1, 1, 0, 1, 0, 0, 1, 1, 1] [(2, .ref 2 0), (4, .p (.str vs1)), (5, .p (.str vs2)), (6, .p (.bool vc6)), (15, .p (.int .i64 vi4)), (16, .p (.int .i64 vi5))] [(2, .cells [.p (.str ([] : List UInt8)), .p (.str ([] : List UInt8))])]

noncomputable def Ffone (F : Nat) (s : List UInt8) : Option Ans := runF Gfone Tryd.f78 F [.p (.str s)]

theorem Bfone_1_eq (F f1 : Nat) (vs1 vs2 : List UInt8) (vc3 : Bool) (vi4 vi5 : Int) : Bfone_1 F (f1 + 1) vs1 vs2 vc3 vi4 vi5 = cond (decide (vi5 < vi4)) (need (vc3 = true → 0 ≤ vi5 ∧ vi5 < (vs1.length : Int)) (need ((vc3 && (decide (((vs1.getD (vi5).toNat 0).toNat : Int) ≥ (33 : Int)))) = true → 0 ≤ vi5 ∧ vi5 < (vs1.length : Int)) (Bfone_2 F f1 vs1 vs2 ((vc3 && (decide (((vs1.getD (vi5).toNat 0).toNat : Int) ≥ (33 : Int)))) && (decide (((vs1.getD (vi5).toNat 0).toNat : Int) ≤ (126 : Int)))) vi4 vi5))) (need (vs2.length ≤ 1000000) (some (.tup [.agg [.p (.str vs1), .p (.str (trimBl vs2))], .p (.bool (vc3 && (vs1 != ([] : List UInt8))))], []))) :=
  Eq.trans (show Bfone_1 F (f1 + 1) vs1 vs2 vc3 vi4 vi5 = cond (decide (vi5 < vi4)) (need (vc3 = true → vc3 = true) (need (vc3 = true → vc3 = true) (need (vc3 = true → 0 ≤ vi5 ∧ vi5 < (vs1.length : Int)) (need (vc3 = true → vc3 = true) (need (vc3 = true → vc3 = true) (need ((vc3 && (decide (((vs1.getD (vi5).toNat 0).toNat : Int) ≥ (33 : Int)))) = true → (vc3 && (decide (((vs1.getD (vi5).toNat 0).toNat : Int) ≥ (33 : Int)))) = true) (need ((vc3 && (decide (((vs1.getD (vi5).toNat 0).toNat : Int) ≥ (33 : Int)))) = true → (vc3 && (decide (((vs1.getD (vi5).toNat 0).toNat : Int) ≥ (33 : Int)))) = true) (need ((vc3 && (decide (((vs1.getD (vi5).toNat 0).toNat : Int) ≥ (33 : Int)))) = true → 0 ≤ vi5 ∧ vi5 < (vs1.length : Int)) (need ((vc3 && (decide (((vs1.getD (vi5).toNat 0).toNat : Int) ≥ (33 : Int)))) = true → (vc3 && (decide (((vs1.getD (vi5).toNat 0).toNat : Int) ≥ (33 : Int)))) = true) (need ((vc3 && (decide (((vs1.getD (vi5).toNat 0).toNat : Int) ≥ (33 : Int)))) = true → (vc3 && (decide (((vs1.getD (vi5).toNat 0).toNat : Int) ≥ (33 : Int)))) = true) (Bfone_2 F f1 vs1 vs2 ((vc3 && (decide (((vs1.getD (vi5).toNat 0).toNat : Int) ≥ (33 : Int)))) && (decide (((vs1.getD (vi5).toNat 0).toNat : Int) ≤ (126 : Int)))) vi4 vi5))))))))))) (need (vs2.length ≤ 1000000) (need (vc3 = true → vc3 = true) (need (vc3 = true → vc3 = true) (some (.tup [.agg [.p (.str vs1), .p (.str (trimBl vs2))], .p (.bool (vc3 && (vs1 != ([] : List UInt8))))], []))))) by kernel_rfl) (cond_congr (need_strike (show vc3 = true → vc3 = true from (fun q0 => q0)) (need_strike (show vc3 = true → vc3 = true from (fun q0 => q0)) (need_congr (need_strike (show vc3 = true → vc3 = true from (fun q0 => q0)) (need_strike (show vc3 = true → vc3 = true from (fun q0 => q0)) (need_strike (show (vc3 && (decide (((vs1.getD (vi5).toNat 0).toNat : Int) ≥ (33 : Int)))) = true → (vc3 && (decide (((vs1.getD (vi5).toNat 0).toNat : Int) ≥ (33 : Int)))) = true from (fun q0 => q0)) (need_strike (show (vc3 && (decide (((vs1.getD (vi5).toNat 0).toNat : Int) ≥ (33 : Int)))) = true → (vc3 && (decide (((vs1.getD (vi5).toNat 0).toNat : Int) ≥ (33 : Int)))) = true from (fun q0 => q0)) (need_congr (need_strike (show (vc3 && (decide (((vs1.getD (vi5).toNat 0).toNat : Int) ≥ (33 : Int)))) = true → (vc3 && (decide (((vs1.getD (vi5).toNat 0).toNat : Int) ≥ (33 : Int)))) = true from (fun q0 => q0)) (need_strike (show (vc3 && (decide (((vs1.getD (vi5).toNat 0).toNat : Int) ≥ (33 : Int)))) = true → (vc3 && (decide (((vs1.getD (vi5).toNat 0).toNat : Int) ≥ (33 : Int)))) = true from (fun q0 => q0)) (rfl))))))))))) (need_congr (need_strike (show vc3 = true → vc3 = true from (fun q0 => q0)) (need_strike (show vc3 = true → vc3 = true from (fun q0 => q0)) (rfl)))))

theorem Bfone_2_eq (F f1 : Nat) (vs1 vs2 : List UInt8) (vc6 : Bool) (vi4 vi5 : Int) : Bfone_2 F f1 vs1 vs2 vc6 vi4 vi5 = need (i64ok (vi5 + (1 : Int))) (Bfone_1 F f1 vs1 vs2 vc6 vi4 (vi5 + (1 : Int))) := by kernel_rfl

theorem Ffone_eq (F : Nat) (s : List UInt8) : Ffone F s = need (s.length ≤ 1000000) (Bfone_1 F F ((cutS s 58).1) ((cutS s 58).2.1) ((cutS s 58).2.2) (((cutS s 58).1).length : Int) (0 : Int)) := by kernel_rfl

theorem fn_fone (F : Nat) (s : List UInt8) (r : AV) (h : (∃ M vs, ARels γ0 M [.p (.str s)] vs) → Ffone F s = some (r, [])) : FnP Tryd.prog 78 [.p (.str s)] r :=
  FnP_run Gfone F rfl (EnvOk_mk (l := [(24, sp_cut), (48, sp_trim2)]) ⟨ok_cut.any, ok_trim2.any, trivial⟩) (EnvROk_mk (l := []) trivial) (Checked.mixed Tryd.checked) (fn := Tryd.f78) (by kernel_rfl) (by kernel_rfl) rfl h
theorem inName_dec (c : UInt8) (m : Bool) : ((m && (decide ((c.toNat : Int) ≥ (33 : Int)))) && (decide ((c.toNat : Int) ≤ (126 : Int)))) = (m && inName c) := by
  unfold inName
  rw [Bool.and_assoc, show decide ((c.toNat : Int) ≥ (33 : Int)) = decide (33 ≤ c.toNat) from decide_eq_decide.2 (by omega), show decide ((c.toNat : Int) ≤ (126 : Int)) = decide (c.toNat ≤ 126) from decide_eq_decide.2 (by omega)]
theorem Bfone_spec (F : Nat) (a b : List UInt8) (ha : a.length ≤ 1000000) (hb : b.length ≤ 1000000) : ∀ (r : List UInt8) (f i : Nat) (m : Bool), a.drop i = r → r.length < f → i ≤ a.length →
    Bfone_1 F f a b m (a.length : Int) (i : Int) = some (.tup [.agg [.p (.str a), .p (.str (trimBl b))], .p (.bool ((m && r.all inName) && (a != [])))], []) := by
  intro r
  induction r with
  | nil =>
    intro f i m hd hf hi
    have : i = a.length := by have := congrArg List.length hd; simp at this; omega
    cases f with
    | zero => omega
    | succ f =>
      rw [Bfone_1_eq]
      refine cond_f (by simp; omega) (need_mk hb ?_)
      simp
  | cons c r ih =>
    intro f i m hd hf hi
    obtain ⟨h1, h2, h3⟩ := drop_cons hd
    cases f with
    | zero => omega
    | succ f =>
      rw [Bfone_1_eq]
      refine cond_t (by simp; omega) (need_mk (fun _ => ⟨by omega, by omega⟩) (need_mk (fun _ => ⟨by omega, by omega⟩) ?_))
      rw [Int.toNat_natCast, h1, inName_dec, Bfone_2_eq]
      refine need_mk (by unfold i64ok; omega) ?_
      rw [show (i : Int) + 1 = ((i + 1 : Nat) : Int) by omega, ih f (i + 1) _ h2 (by simp at hf; omega) (by omega), List.all_cons, Bool.and_assoc m]
theorem fone_eq (s : List UInt8) (hs : s.length ≤ 1000000) : Ffone (s.length + 1) s = some (.tup [.agg [.p (.str (oneF s).1.1), .p (.str (oneF s).1.2)], .p (.bool (oneF s).2)], []) := by
  have hl := cutS_len s 58
  rw [Ffone_eq]
  refine need_mk hs ?_
  have := Bfone_spec (s.length + 1) (cutS s 58).1 (cutS s 58).2.1 (by omega) (by omega) (cutS s 58).1 (s.length + 1) 0 (cutS s 58).2.2 rfl (by omega) (by omega)
  exact this
def sp_fone : List AV → Option (AV × Option Prop)
  | [.p (.str s)] => some (.tup [.agg [.p (.str ((oneF s).1.1)), .p (.str ((oneF s).1.2))], .p (.bool ((oneF s).2))], some (s.length ≤ 1000000))
  | _ => none
theorem ok_fone : SpecOk Tryd.prog 78 sp_fone := by
  intro zs r ok he hok
  unfold sp_fone at he
  split at he
  · cases he; exact ⟨by kernel_rfl, fn_fone (_) _ _ fun hx => fone_eq _ hok⟩
  · cases he
/-! ### Lines -/
def lnF : List UInt8 → Nat → List UInt8 → List (Nat × List UInt8 × Nat)
  | acc, a, [] => if acc = [] then [] else [(a, acc, a + acc.length)]
  | acc, a, c :: r => if c = 10 then (a, trimSuf acc [13], a + acc.length + 1) :: lnF [] (a + acc.length + 1) r else lnF (acc ++ [c]) a r
theorem lnF_nl {q : List UInt8} : ∀ {p : List UInt8} (acc : List UInt8) (a : Nat), (∀ x ∈ p, x ≠ 10) → lnF acc a (p ++ 10 :: q) = (a, trimSuf (acc ++ p) [13], a + (acc ++ p).length + 1) :: lnF [] (a + (acc ++ p).length + 1) q
  | [], acc, a, _ => by rw [List.nil_append, lnF, if_pos rfl, List.append_nil]
  | c :: p, acc, a, h => by rw [List.cons_append, lnF, if_neg (h c (by simp)), lnF_nl (acc ++ [c]) a (fun x hx => h x (List.mem_cons_of_mem _ hx)), List.append_assoc]; rfl
theorem lnF_end : ∀ {p : List UInt8} (acc : List UInt8) (a : Nat), (∀ x ∈ p, x ≠ 10) → lnF acc a p = if acc ++ p = [] then [] else [(a, acc ++ p, a + (acc ++ p).length)]
  | [], acc, a, _ => by rw [lnF, List.append_nil]
  | c :: p, acc, a, h => by rw [lnF, if_neg (h c (by simp)), lnF_end (acc ++ [c]) a (fun x hx => h x (List.mem_cons_of_mem _ hx)), List.append_assoc]; rfl
theorem trimSuf_len (s p : List UInt8) : (trimSuf s p).length ≤ s.length := by unfold trimSuf; split <;> simp
def linesN (s : List UInt8) (a b : Nat) : List (Nat × List UInt8 × Nat) := lnF [] a ((s.take b).drop a)
/-! ### Fields -/
def isBlank1 : List UInt8 → Bool
  | c :: _ => c == 32 || c == 9
  | [] => false
def gathS : List (Nat × List UInt8 × Nat) → Int → List (List UInt8) → List (List UInt8) × Int
  | [], body, g => (g, body)
  | (_, t, nx) :: r, body, g => if t = [] then (g, (nx : Int)) else if g ≠ [] ∧ isBlank1 t = true then gathS r body (g.set (g.length - 1) (g.getD (g.length - 1) [] ++ t)) else gathS r body (g ++ [t])
def fieldsS (g : List (List UInt8)) : List (List UInt8 × List UInt8) := g.filterMap fun t => if (oneF t).2 = true then some (oneF t).1 else none
def splitS (s : List UInt8) (a b : Int) : List (List UInt8 × List UInt8) × Int := if a < 0 ∨ b > s.length ∨ a > b then ([], a) else (fieldsS (gathS (linesN s a.toNat b.toNat) b []).1, (gathS (linesN s a.toNat b.toNat) b []).2)
theorem oneF_blank {t : List UInt8} (h : isBlank1 t = true) : (oneF t).2 = false := by
  cases t with
  | nil => cases h
  | cons c r =>
    have hc : c = 32 ∨ c = 9 := by simpa [isBlank1] using h
    unfold oneF
    rcases cut_split 58 (c :: r) with ⟨p, q, e, _, he⟩ | ⟨_, he⟩
    · rw [he]
      dsimp only
      cases p with
      | nil => simp at e; rcases hc with h | h <;> rw [h] at e <;> exact absurd e.1 (by decide)
      | cons x p =>
        have : c = x := (List.cons.inj e).1
        subst this
        rcases hc with h | h <;> subst h <;> simp [inName]
    · rw [he]; rfl
end Go.Proofs.YthfgklcdkehgjaaDoor
