/-
  Lifted functions, and facts about them.
-/
import Derived.Test.YtdabeedpleoakaaDoorRows
import Derived.Test.YtdabeedpleoakaaDoorAmC
import Derived.Test.YtdabeedpleoakaaDoorAmNeed
import Derived.Test.YtdabeedpleoakaaDoorC10FieldC
namespace Go.Proofs.YtdabeedpleoakaaDoor
open Go Go.Am
set_option linter.unusedVariables false
/-! Headers: the laws. -/
theorem awake_val : splitS [65, 58, 32, 98, 13, 10, 32, 99, 13, 10, 13, 10, 120] 0 13 = ([([65], [98, 32, 99])], 12) := by kernel_rfl
noncomputable def cawake : Code := bodyOf Tryd.f9

noncomputable def Gawake : Cfg := ⟨Tryd.prog, mkEnv [(10, sp_split)], mkEnvR [], 21, [], [([1, 1], ⟨[1, 2], []⟩)], []⟩

noncomputable def Bawake_1 (F : Nat) (vl1 : List (List UInt8 × List UInt8)) (vi2 : Int) : Option Ans := runB Gawake cawake (kP Tryd.prog Tryd.f9.results.toList) F [] [1, 1] [(1, .p (.list 2 (.dat (.pair .str .str) vl1))), (2, .p (.int .i64 vi2))] []

noncomputable def Fawake (F : Nat)  : Option Ans := runF Gawake Tryd.f9 F []

theorem Bawake_1_eq (F : Nat) (vl1 : List (List UInt8 × List UInt8)) (vi2 : Int) : Bawake_1 F vl1 vi2 = need (((vl1.length : Int) == (1 : Int)) = true → 0 ≤ (0 : Int) ∧ (0 : Int) < (vl1.length : Int)) (some (.p (.bool ((((vl1.length : Int) == (1 : Int)) && ((((vl1.getD ((0 : Int)).toNat ([], [])).1) == ([65] : List UInt8)) && ((((vl1.getD ((0 : Int)).toNat ([], [])).2) == ([98, 32, 99] : List UInt8)) && true))) && (vi2 == (12 : Int)))), [])) :=
  Eq.trans (show Bawake_1 F vl1 vi2 = need (((vl1.length : Int) == (1 : Int)) = true → ((vl1.length : Int) == (1 : Int)) = true) (need (((vl1.length : Int) == (1 : Int)) = true → 0 ≤ (0 : Int) ∧ (0 : Int) < (vl1.length : Int)) (need (((vl1.length : Int) == (1 : Int)) = true → ((vl1.length : Int) == (1 : Int)) = true) (need (((vl1.length : Int) == (1 : Int)) = true → ((vl1.length : Int) == (1 : Int)) = true) (need (((vl1.length : Int) == (1 : Int)) = true → ((vl1.length : Int) == (1 : Int)) = true) (need (((vl1.length : Int) == (1 : Int)) = true → ((vl1.length : Int) == (1 : Int)) = true) (need ((((vl1.length : Int) == (1 : Int)) && ((((vl1.getD ((0 : Int)).toNat ([], [])).1) == ([65] : List UInt8)) && ((((vl1.getD ((0 : Int)).toNat ([], [])).2) == ([98, 32, 99] : List UInt8)) && true))) = true → (((vl1.length : Int) == (1 : Int)) && ((((vl1.getD ((0 : Int)).toNat ([], [])).1) == ([65] : List UInt8)) && ((((vl1.getD ((0 : Int)).toNat ([], [])).2) == ([98, 32, 99] : List UInt8)) && true))) = true) (need ((((vl1.length : Int) == (1 : Int)) && ((((vl1.getD ((0 : Int)).toNat ([], [])).1) == ([65] : List UInt8)) && ((((vl1.getD ((0 : Int)).toNat ([], [])).2) == ([98, 32, 99] : List UInt8)) && true))) = true → (((vl1.length : Int) == (1 : Int)) && ((((vl1.getD ((0 : Int)).toNat ([], [])).1) == ([65] : List UInt8)) && ((((vl1.getD ((0 : Int)).toNat ([], [])).2) == ([98, 32, 99] : List UInt8)) && true))) = true) (some (.p (.bool ((((vl1.length : Int) == (1 : Int)) && ((((vl1.getD ((0 : Int)).toNat ([], [])).1) == ([65] : List UInt8)) && ((((vl1.getD ((0 : Int)).toNat ([], [])).2) == ([98, 32, 99] : List UInt8)) && true))) && (vi2 == (12 : Int)))), []))))))))) by kernel_rfl) (need_strike (show ((vl1.length : Int) == (1 : Int)) = true → ((vl1.length : Int) == (1 : Int)) = true from (fun q0 => q0)) (need_congr (need_strike (show ((vl1.length : Int) == (1 : Int)) = true → ((vl1.length : Int) == (1 : Int)) = true from (fun q0 => q0)) (need_strike (show ((vl1.length : Int) == (1 : Int)) = true → ((vl1.length : Int) == (1 : Int)) = true from (fun q0 => q0)) (need_strike (show ((vl1.length : Int) == (1 : Int)) = true → ((vl1.length : Int) == (1 : Int)) = true from (fun q0 => q0)) (need_strike (show ((vl1.length : Int) == (1 : Int)) = true → ((vl1.length : Int) == (1 : Int)) = true from (fun q0 => q0)) (need_strike (show (((vl1.length : Int) == (1 : Int)) && ((((vl1.getD ((0 : Int)).toNat ([], [])).1) == ([65] : List UInt8)) && ((((vl1.getD ((0 : Int)).toNat ([], [])).2) == ([98, 32, 99] : List UInt8)) && true))) = true → (((vl1.length : Int) == (1 : Int)) && ((((vl1.getD ((0 : Int)).toNat ([], [])).1) == ([65] : List UInt8)) && ((((vl1.getD ((0 : Int)).toNat ([], [])).2) == ([98, 32, 99] : List UInt8)) && true))) = true from (fun q0 => q0)) (need_strike (show (((vl1.length : Int) == (1 : Int)) && ((((vl1.getD ((0 : Int)).toNat ([], [])).1) == ([65] : List UInt8)) && ((((vl1.getD ((0 : Int)).toNat ([], [])).2) == ([98, 32, 99] : List UInt8)) && true))) = true → (((vl1.length : Int) == (1 : Int)) && ((((vl1.getD ((0 : Int)).toNat ([], [])).1) == ([65] : List UInt8)) && ((((vl1.getD ((0 : Int)).toNat ([], [])).2) == ([98, 32, 99] : List UInt8)) && true))) = true from (fun q0 => q0)) (rfl)))))))))

theorem Fawake_eq (F : Nat)  : Fawake F  = need (([65, 58, 32, 98, 13, 10, 32, 99, 13, 10, 13, 10, 120] : List UInt8).length ≤ 1000000) (Bawake_1 F ((splitS ([65, 58, 32, 98, 13, 10, 32, 99, 13, 10, 13, 10, 120] : List UInt8) (0 : Int) (13 : Int)).1) ((splitS ([65, 58, 32, 98, 13, 10, 32, 99, 13, 10, 13, 10, 120] : List UInt8) (0 : Int) (13 : Int)).2)) := by kernel_rfl

theorem fn_awake (F : Nat)  (r : AV) (h : (∃ M vs, ARels γ0 M [] vs) → Fawake F  = some (r, [])) : FnP Tryd.prog 9 [] r :=
  FnP_run Gawake F rfl (EnvOk_mk (l := [(10, sp_split)]) ⟨ok_split.any, trivial⟩) (EnvROk_mk (l := []) trivial) (Checked.mixed Tryd.checked) (fn := Tryd.f9) (by kernel_rfl) (by kernel_rfl) rfl h
theorem awake_eq : Fawake 0 = some (.p (.bool true), []) := by
  rw [Fawake_eq]
  refine need_mk (by decide) ?_
  rw [awake_val, Bawake_1_eq]
  exact need_mk (fun _ => by decide) rfl
def sp_awake : List AV → Option (AV × Option Prop)
  | [] => some (.p (.bool true), none)
  | _ => none
theorem ok_awake : SpecOk Tryd.prog 9 sp_awake := by
  intro zs r ok he hok
  unfold sp_awake at he
  split at he
  · cases he; exact ⟨by kernel_rfl, fn_awake (0)  _ fun hx => awake_eq ⟩
  · cases he
theorem gath_len : ∀ (L : List (Nat × List UInt8 × Nat)) (body : Int) (g : List (List UInt8)), (gathS L body g).1.length ≤ g.length + L.length
  | [], body, g => by rw [gathS]; simp
  | (i, t, nx) :: r, body, g => by
    rw [gathS]
    split
    · simp
    · split
      · have := gath_len r body (g.set (g.length - 1) (g.getD (g.length - 1) [] ++ t)); simp at this ⊢; omega
      · have := gath_len r body (g ++ [t]); simp at this ⊢; omega
theorem splitS_len (s : List UInt8) (a b : Int) : (splitS s a b).1.length ≤ s.length := by
  unfold splitS
  split
  · simp
  · rename_i h
    have h1 := (linesN_ok (s := s) (b := b.toNat) (by omega) (b.toNat - a.toNat) a.toNat rfl (by omega)).2
    have h2 := gath_len (linesN s a.toNat b.toNat) b []
    have h3 : ∀ l : List (List UInt8), (fieldsS l).length ≤ l.length := fun l => by unfold fieldsS; exact List.length_filterMap_le _ _
    have h4 := h3 (gathS (linesN s a.toNat b.toNat) b []).1
    simp at h2
    show (fieldsS _).length ≤ _
    omega
noncomputable def cFieldSplits : Code := bodyOf Tryd.f3

noncomputable def GFieldSplits : Cfg := ⟨Tryd.prog, mkEnv [(9, sp_awake), (10, sp_split), (11, sp_r7split), (12, sp_r7fields)], mkEnvR [], 68, [], [], []⟩

noncomputable def FFieldSplits (F : Nat) (s : List UInt8) (a : Int) (b : Int) : Option Ans := runF GFieldSplits Tryd.f3 F [.p (.str s), .p (.int .i64 a), .p (.int .i64 b)]

theorem FFieldSplits_eq (F : Nat) (s : List UInt8) (a : Int) (b : Int) : FFieldSplits F s a b = cond (decide ((s.length : Int) > (3000 : Int))) (some (.p (.bool true), [])) (need (s.length ≤ 1000000) (need (s.length ≤ 1000000) (need (s.length ≤ 1000000) (need (s.length ≤ 1000000) (need (((splitS s a b).1).length ≤ 1000000000000) (need (((((splitS s a b).1) == ((splitS s a b).1)) && (((splitS s a b).2) == ((splitS s a b).2))) = true → ((splitS s (0 : Int) (s.length : Int)).1).length ≤ 1000000000000) (some (.p (.bool (((((((splitS s a b).1) == ((splitS s a b).1)) && (((splitS s a b).2) == ((splitS s a b).2))) && (((splitS s (0 : Int) (s.length : Int)).1) == ((splitS s (0 : Int) (s.length : Int)).1))) && (((splitS s (0 : Int) (s.length : Int)).2) == ((splitS s (0 : Int) (s.length : Int)).2))) && true)), [])))))))) :=
  Eq.trans (show FFieldSplits F s a b = cond (decide ((s.length : Int) > (3000 : Int))) (some (.p (.bool true), [])) (need (s.length ≤ 1000000) (need (s.length ≤ 1000000) (need (s.length ≤ 1000000) (need (s.length ≤ 1000000) (need (((splitS s a b).1).length ≤ 1000000000000) (need ((((splitS s a b).1) == ((splitS s a b).1)) = true → (((splitS s a b).1) == ((splitS s a b).1)) = true) (need ((((splitS s a b).1) == ((splitS s a b).1)) = true → (((splitS s a b).1) == ((splitS s a b).1)) = true) (need ((((splitS s a b).1) == ((splitS s a b).1)) = true → (((splitS s a b).1) == ((splitS s a b).1)) = true) (need (((((splitS s a b).1) == ((splitS s a b).1)) && (((splitS s a b).2) == ((splitS s a b).2))) = true → ((((splitS s a b).1) == ((splitS s a b).1)) && (((splitS s a b).2) == ((splitS s a b).2))) = true) (need (((((splitS s a b).1) == ((splitS s a b).1)) && (((splitS s a b).2) == ((splitS s a b).2))) = true → ((((splitS s a b).1) == ((splitS s a b).1)) && (((splitS s a b).2) == ((splitS s a b).2))) = true) (need (((((splitS s a b).1) == ((splitS s a b).1)) && (((splitS s a b).2) == ((splitS s a b).2))) = true → ((splitS s (0 : Int) (s.length : Int)).1).length ≤ 1000000000000) (need (((((splitS s a b).1) == ((splitS s a b).1)) && (((splitS s a b).2) == ((splitS s a b).2))) = true → ((((splitS s a b).1) == ((splitS s a b).1)) && (((splitS s a b).2) == ((splitS s a b).2))) = true) (need ((((((splitS s a b).1) == ((splitS s a b).1)) && (((splitS s a b).2) == ((splitS s a b).2))) && (((splitS s (0 : Int) (s.length : Int)).1) == ((splitS s (0 : Int) (s.length : Int)).1))) = true → (((((splitS s a b).1) == ((splitS s a b).1)) && (((splitS s a b).2) == ((splitS s a b).2))) && (((splitS s (0 : Int) (s.length : Int)).1) == ((splitS s (0 : Int) (s.length : Int)).1))) = true) (need ((((((splitS s a b).1) == ((splitS s a b).1)) && (((splitS s a b).2) == ((splitS s a b).2))) && (((splitS s (0 : Int) (s.length : Int)).1) == ((splitS s (0 : Int) (s.length : Int)).1))) = true → (((((splitS s a b).1) == ((splitS s a b).1)) && (((splitS s a b).2) == ((splitS s a b).2))) && (((splitS s (0 : Int) (s.length : Int)).1) == ((splitS s (0 : Int) (s.length : Int)).1))) = true) (need ((((((splitS s a b).1) == ((splitS s a b).1)) && (((splitS s a b).2) == ((splitS s a b).2))) && (((splitS s (0 : Int) (s.length : Int)).1) == ((splitS s (0 : Int) (s.length : Int)).1))) = true → (((((splitS s a b).1) == ((splitS s a b).1)) && (((splitS s a b).2) == ((splitS s a b).2))) && (((splitS s (0 : Int) (s.length : Int)).1) == ((splitS s (0 : Int) (s.length : Int)).1))) = true) (need (((((((splitS s a b).1) == ((splitS s a b).1)) && (((splitS s a b).2) == ((splitS s a b).2))) && (((splitS s (0 : Int) (s.length : Int)).1) == ((splitS s (0 : Int) (s.length : Int)).1))) && (((splitS s (0 : Int) (s.length : Int)).2) == ((splitS s (0 : Int) (s.length : Int)).2))) = true → ((((((splitS s a b).1) == ((splitS s a b).1)) && (((splitS s a b).2) == ((splitS s a b).2))) && (((splitS s (0 : Int) (s.length : Int)).1) == ((splitS s (0 : Int) (s.length : Int)).1))) && (((splitS s (0 : Int) (s.length : Int)).2) == ((splitS s (0 : Int) (s.length : Int)).2))) = true) (some (.p (.bool (((((((splitS s a b).1) == ((splitS s a b).1)) && (((splitS s a b).2) == ((splitS s a b).2))) && (((splitS s (0 : Int) (s.length : Int)).1) == ((splitS s (0 : Int) (s.length : Int)).1))) && (((splitS s (0 : Int) (s.length : Int)).2) == ((splitS s (0 : Int) (s.length : Int)).2))) && true)), [])))))))))))))))))) by kernel_rfl) (cond_congr (rfl) (need_congr (need_congr (need_congr (need_congr (need_congr (need_strike (show (((splitS s a b).1) == ((splitS s a b).1)) = true → (((splitS s a b).1) == ((splitS s a b).1)) = true from (fun q0 => q0)) (need_strike (show (((splitS s a b).1) == ((splitS s a b).1)) = true → (((splitS s a b).1) == ((splitS s a b).1)) = true from (fun q0 => q0)) (need_strike (show (((splitS s a b).1) == ((splitS s a b).1)) = true → (((splitS s a b).1) == ((splitS s a b).1)) = true from (fun q0 => q0)) (need_strike (show ((((splitS s a b).1) == ((splitS s a b).1)) && (((splitS s a b).2) == ((splitS s a b).2))) = true → ((((splitS s a b).1) == ((splitS s a b).1)) && (((splitS s a b).2) == ((splitS s a b).2))) = true from (fun q0 => q0)) (need_strike (show ((((splitS s a b).1) == ((splitS s a b).1)) && (((splitS s a b).2) == ((splitS s a b).2))) = true → ((((splitS s a b).1) == ((splitS s a b).1)) && (((splitS s a b).2) == ((splitS s a b).2))) = true from (fun q0 => q0)) (need_congr (need_strike (show ((((splitS s a b).1) == ((splitS s a b).1)) && (((splitS s a b).2) == ((splitS s a b).2))) = true → ((((splitS s a b).1) == ((splitS s a b).1)) && (((splitS s a b).2) == ((splitS s a b).2))) = true from (fun q0 => q0)) (need_strike (show (((((splitS s a b).1) == ((splitS s a b).1)) && (((splitS s a b).2) == ((splitS s a b).2))) && (((splitS s (0 : Int) (s.length : Int)).1) == ((splitS s (0 : Int) (s.length : Int)).1))) = true → (((((splitS s a b).1) == ((splitS s a b).1)) && (((splitS s a b).2) == ((splitS s a b).2))) && (((splitS s (0 : Int) (s.length : Int)).1) == ((splitS s (0 : Int) (s.length : Int)).1))) = true from (fun q0 => q0)) (need_strike (show (((((splitS s a b).1) == ((splitS s a b).1)) && (((splitS s a b).2) == ((splitS s a b).2))) && (((splitS s (0 : Int) (s.length : Int)).1) == ((splitS s (0 : Int) (s.length : Int)).1))) = true → (((((splitS s a b).1) == ((splitS s a b).1)) && (((splitS s a b).2) == ((splitS s a b).2))) && (((splitS s (0 : Int) (s.length : Int)).1) == ((splitS s (0 : Int) (s.length : Int)).1))) = true from (fun q0 => q0)) (need_strike (show (((((splitS s a b).1) == ((splitS s a b).1)) && (((splitS s a b).2) == ((splitS s a b).2))) && (((splitS s (0 : Int) (s.length : Int)).1) == ((splitS s (0 : Int) (s.length : Int)).1))) = true → (((((splitS s a b).1) == ((splitS s a b).1)) && (((splitS s a b).2) == ((splitS s a b).2))) && (((splitS s (0 : Int) (s.length : Int)).1) == ((splitS s (0 : Int) (s.length : Int)).1))) = true from (fun q0 => q0)) (need_strike (show ((((((splitS s a b).1) == ((splitS s a b).1)) && (((splitS s a b).2) == ((splitS s a b).2))) && (((splitS s (0 : Int) (s.length : Int)).1) == ((splitS s (0 : Int) (s.length : Int)).1))) && (((splitS s (0 : Int) (s.length : Int)).2) == ((splitS s (0 : Int) (s.length : Int)).2))) = true → ((((((splitS s a b).1) == ((splitS s a b).1)) && (((splitS s a b).2) == ((splitS s a b).2))) && (((splitS s (0 : Int) (s.length : Int)).1) == ((splitS s (0 : Int) (s.length : Int)).1))) && (((splitS s (0 : Int) (s.length : Int)).2) == ((splitS s (0 : Int) (s.length : Int)).2))) = true from (fun q0 => q0)) (rfl))))))))))))))))))

theorem fn_FieldSplits (F : Nat) (s : List UInt8) (a : Int) (b : Int) (r : AV) (h : (∃ M vs, ARels γ0 M [.p (.str s), .p (.int .i64 a), .p (.int .i64 b)] vs) → FFieldSplits F s a b = some (r, [])) : FnP Tryd.prog 3 [.p (.str s), .p (.int .i64 a), .p (.int .i64 b)] r :=
  FnP_run GFieldSplits F rfl (EnvOk_mk (l := [(9, sp_awake), (10, sp_split), (11, sp_r7split), (12, sp_r7fields)]) ⟨ok_awake.any, ok_split.any, ok_r7split.any, ok_r7fields.any, trivial⟩) (EnvROk_mk (l := []) trivial) (Checked.mixed Tryd.checked) (fn := Tryd.f3) (by kernel_rfl) (by kernel_rfl) rfl h
theorem FieldSplits_true (s : List UInt8) (a b : Int) : FFieldSplits 0 s a b = some (.p (.bool true), []) := by
  rw [FFieldSplits_eq]
  by_cases h : s.length > 3000
  · exact cond_t (by simp; omega) rfl
  · refine cond_f (by simp; omega) (need_mk (by omega) (need_mk (by omega) (need_mk (by omega) (need_mk (by omega) (need_mk (by have := splitS_len s a b; omega) (need_mk (by have := splitS_len s 0 s.length; omega) ?_))))))
    simp
/-! ### Places -/
def shL (d : Nat) (l : Nat × List UInt8 × Nat) : Nat × List UInt8 × Nat := (l.1 + d, l.2.1, l.2.2 + d)
theorem lnF_sh (d : Nat) : ∀ (u acc : List UInt8) (a : Nat), lnF acc (a + d) u = (lnF acc a u).map (shL d)
  | [], acc, a => by
    rw [lnF, lnF]
    split
    · rfl
    · simp [shL]; omega
  | c :: r, acc, a => by
    rw [lnF, lnF]
    split
    · rw [List.map_cons, ← lnF_sh d r [] (a + acc.length + 1)]
      simp only [shL]
      rw [show a + d + acc.length + 1 = a + acc.length + 1 + d by omega]
    · exact lnF_sh d r _ a
theorem gath_sh (d : Nat) : ∀ (L : List (Nat × List UInt8 × Nat)) (body : Int) (g : List (List UInt8)), gathS (L.map (shL d)) (body + d) g = ((gathS L body g).1, (gathS L body g).2 + d)
  | [], body, g => rfl
  | (i, t, nx) :: r, body, g => by
    rw [List.map_cons]
    show gathS ((i + d, t, nx + d) :: r.map (shL d)) (body + d) g = _
    rw [gathS, gathS]
    split
    · simp
    · split
      · exact gath_sh d r body _
      · exact gath_sh d r body _
theorem splitS_of {s : List UInt8} {a b : Nat} (h1 : a ≤ b) (h2 : b ≤ s.length) : splitS s a b = (fieldsS (gathS (lnF [] a ((s.take b).drop a)) b []).1, (gathS (lnF [] a ((s.take b).drop a)) b []).2) := by
  unfold splitS
  rw [if_neg (by omega), Int.toNat_natCast, Int.toNat_natCast]; rfl
theorem splitS_all (s : List UInt8) : splitS s 0 s.length = (fieldsS (gathS (lnF [] 0 s) s.length []).1, (gathS (lnF [] 0 s) s.length []).2) := by
  have := splitS_of (s := s) (a := 0) (b := s.length) (by omega) (by omega)
  rw [show (0 : Int) = ((0 : Nat) : Int) from rfl, this, List.take_length, List.drop_zero]
theorem splitS_mid (a s b : List UInt8) : splitS ((a ++ s) ++ b) a.length ((a.length : Int) + s.length) = ((splitS s 0 s.length).1, (splitS s 0 s.length).2 + a.length) := by
  have e : ((a.length : Int) + s.length) = ((a.length + s.length : Nat) : Int) := by omega
  rw [e, splitS_of (by omega) (by simp), splitS_all]
  have e2 : (((a ++ s) ++ b).take (a.length + s.length)).drop a.length = s := by
    rw [show a.length + s.length = (a ++ s).length by simp, List.take_left, List.drop_left]
  have h1 := lnF_sh a.length s [] 0
  rw [Nat.zero_add] at h1
  have h2 := gath_sh a.length (lnF [] 0 s) (s.length : Int) []
  rw [e2, h1, show ((a.length + s.length : Nat) : Int) = (s.length : Int) + (a.length : Int) by omega, h2]
noncomputable def cFieldPlaces : Code := bodyOf Tryd.f6

noncomputable def GFieldPlaces : Cfg := ⟨Tryd.prog, mkEnv [(9, sp_awake), (10, sp_split), (12, sp_r7fields)], mkEnvR [], 62, [], [([1, 0, 1], ⟨[0, 1, 2, 23], []⟩)], []⟩

noncomputable def BFieldPlaces_1 (F : Nat) (s : List UInt8) (a : List UInt8) (b : List UInt8) (vc1 : Bool) : Option Ans := runB GFieldPlaces cFieldPlaces (kP Tryd.prog Tryd.f6.results.toList) F [] [1, 0, 1] [(0, .p (.str s)), (1, .p (.str a)), (2, .p (.str b)), (23, .p (.bool vc1))] []

noncomputable def FFieldPlaces (F : Nat) (s : List UInt8) (a : List UInt8) (b : List UInt8) : Option Ans := runF GFieldPlaces Tryd.f6 F [.p (.str s), .p (.str a), .p (.str b)]

theorem BFieldPlaces_1_eq (F : Nat) (s : List UInt8) (a : List UInt8) (b : List UInt8) (vc1 : Bool) : BFieldPlaces_1 F s a b vc1 = cond (vc1) (some (.p (.bool true), [])) (need (s.length ≤ 1000000) (need (lenok (a.length + s.length)) (need (lenok ((a ++ s).length + b.length)) (need (i64ok ((a.length : Int) + (s.length : Int))) (need (((a ++ s) ++ b).length ≤ 1000000) (need (((splitS s (0 : Int) (s.length : Int)).1).length ≤ 1000000000000) (need ((((splitS s (0 : Int) (s.length : Int)).1) == ((splitS ((a ++ s) ++ b) (a.length : Int) ((a.length : Int) + (s.length : Int))).1)) = true → i64ok (((splitS s (0 : Int) (s.length : Int)).2) + (a.length : Int))) (some (.p (.bool (((((splitS s (0 : Int) (s.length : Int)).1) == ((splitS ((a ++ s) ++ b) (a.length : Int) ((a.length : Int) + (s.length : Int))).1)) && (((splitS ((a ++ s) ++ b) (a.length : Int) ((a.length : Int) + (s.length : Int))).2) == (((splitS s (0 : Int) (s.length : Int)).2) + (a.length : Int)))) && true)), []))))))))) :=
  Eq.trans (show BFieldPlaces_1 F s a b vc1 = cond (vc1) (some (.p (.bool true), [])) (need (s.length ≤ 1000000) (need (lenok (a.length + s.length)) (need (lenok ((a ++ s).length + b.length)) (need (i64ok ((a.length : Int) + (s.length : Int))) (need (((a ++ s) ++ b).length ≤ 1000000) (need (((splitS s (0 : Int) (s.length : Int)).1).length ≤ 1000000000000) (need ((((splitS s (0 : Int) (s.length : Int)).1) == ((splitS ((a ++ s) ++ b) (a.length : Int) ((a.length : Int) + (s.length : Int))).1)) = true → (((splitS s (0 : Int) (s.length : Int)).1) == ((splitS ((a ++ s) ++ b) (a.length : Int) ((a.length : Int) + (s.length : Int))).1)) = true) (need ((((splitS s (0 : Int) (s.length : Int)).1) == ((splitS ((a ++ s) ++ b) (a.length : Int) ((a.length : Int) + (s.length : Int))).1)) = true → (((splitS s (0 : Int) (s.length : Int)).1) == ((splitS ((a ++ s) ++ b) (a.length : Int) ((a.length : Int) + (s.length : Int))).1)) = true) (need ((((splitS s (0 : Int) (s.length : Int)).1) == ((splitS ((a ++ s) ++ b) (a.length : Int) ((a.length : Int) + (s.length : Int))).1)) = true → (((splitS s (0 : Int) (s.length : Int)).1) == ((splitS ((a ++ s) ++ b) (a.length : Int) ((a.length : Int) + (s.length : Int))).1)) = true) (need ((((splitS s (0 : Int) (s.length : Int)).1) == ((splitS ((a ++ s) ++ b) (a.length : Int) ((a.length : Int) + (s.length : Int))).1)) = true → i64ok (((splitS s (0 : Int) (s.length : Int)).2) + (a.length : Int))) (need ((((splitS s (0 : Int) (s.length : Int)).1) == ((splitS ((a ++ s) ++ b) (a.length : Int) ((a.length : Int) + (s.length : Int))).1)) = true → (((splitS s (0 : Int) (s.length : Int)).1) == ((splitS ((a ++ s) ++ b) (a.length : Int) ((a.length : Int) + (s.length : Int))).1)) = true) (need ((((splitS s (0 : Int) (s.length : Int)).1) == ((splitS ((a ++ s) ++ b) (a.length : Int) ((a.length : Int) + (s.length : Int))).1)) = true → (((splitS s (0 : Int) (s.length : Int)).1) == ((splitS ((a ++ s) ++ b) (a.length : Int) ((a.length : Int) + (s.length : Int))).1)) = true) (need ((((splitS s (0 : Int) (s.length : Int)).1) == ((splitS ((a ++ s) ++ b) (a.length : Int) ((a.length : Int) + (s.length : Int))).1)) = true → (((splitS s (0 : Int) (s.length : Int)).1) == ((splitS ((a ++ s) ++ b) (a.length : Int) ((a.length : Int) + (s.length : Int))).1)) = true) (need (((((splitS s (0 : Int) (s.length : Int)).1) == ((splitS ((a ++ s) ++ b) (a.length : Int) ((a.length : Int) + (s.length : Int))).1)) && (((splitS ((a ++ s) ++ b) (a.length : Int) ((a.length : Int) + (s.length : Int))).2) == (((splitS s (0 : Int) (s.length : Int)).2) + (a.length : Int)))) = true → ((((splitS s (0 : Int) (s.length : Int)).1) == ((splitS ((a ++ s) ++ b) (a.length : Int) ((a.length : Int) + (s.length : Int))).1)) && (((splitS ((a ++ s) ++ b) (a.length : Int) ((a.length : Int) + (s.length : Int))).2) == (((splitS s (0 : Int) (s.length : Int)).2) + (a.length : Int)))) = true) (some (.p (.bool (((((splitS s (0 : Int) (s.length : Int)).1) == ((splitS ((a ++ s) ++ b) (a.length : Int) ((a.length : Int) + (s.length : Int))).1)) && (((splitS ((a ++ s) ++ b) (a.length : Int) ((a.length : Int) + (s.length : Int))).2) == (((splitS s (0 : Int) (s.length : Int)).2) + (a.length : Int)))) && true)), [])))))))))))))))) by kernel_rfl) (cond_congr (rfl) (need_congr (need_congr (need_congr (need_congr (need_congr (need_congr (need_strike (show (((splitS s (0 : Int) (s.length : Int)).1) == ((splitS ((a ++ s) ++ b) (a.length : Int) ((a.length : Int) + (s.length : Int))).1)) = true → (((splitS s (0 : Int) (s.length : Int)).1) == ((splitS ((a ++ s) ++ b) (a.length : Int) ((a.length : Int) + (s.length : Int))).1)) = true from (fun q0 => q0)) (need_strike (show (((splitS s (0 : Int) (s.length : Int)).1) == ((splitS ((a ++ s) ++ b) (a.length : Int) ((a.length : Int) + (s.length : Int))).1)) = true → (((splitS s (0 : Int) (s.length : Int)).1) == ((splitS ((a ++ s) ++ b) (a.length : Int) ((a.length : Int) + (s.length : Int))).1)) = true from (fun q0 => q0)) (need_strike (show (((splitS s (0 : Int) (s.length : Int)).1) == ((splitS ((a ++ s) ++ b) (a.length : Int) ((a.length : Int) + (s.length : Int))).1)) = true → (((splitS s (0 : Int) (s.length : Int)).1) == ((splitS ((a ++ s) ++ b) (a.length : Int) ((a.length : Int) + (s.length : Int))).1)) = true from (fun q0 => q0)) (need_congr (need_strike (show (((splitS s (0 : Int) (s.length : Int)).1) == ((splitS ((a ++ s) ++ b) (a.length : Int) ((a.length : Int) + (s.length : Int))).1)) = true → (((splitS s (0 : Int) (s.length : Int)).1) == ((splitS ((a ++ s) ++ b) (a.length : Int) ((a.length : Int) + (s.length : Int))).1)) = true from (fun q0 => q0)) (need_strike (show (((splitS s (0 : Int) (s.length : Int)).1) == ((splitS ((a ++ s) ++ b) (a.length : Int) ((a.length : Int) + (s.length : Int))).1)) = true → (((splitS s (0 : Int) (s.length : Int)).1) == ((splitS ((a ++ s) ++ b) (a.length : Int) ((a.length : Int) + (s.length : Int))).1)) = true from (fun q0 => q0)) (need_strike (show (((splitS s (0 : Int) (s.length : Int)).1) == ((splitS ((a ++ s) ++ b) (a.length : Int) ((a.length : Int) + (s.length : Int))).1)) = true → (((splitS s (0 : Int) (s.length : Int)).1) == ((splitS ((a ++ s) ++ b) (a.length : Int) ((a.length : Int) + (s.length : Int))).1)) = true from (fun q0 => q0)) (need_strike (show ((((splitS s (0 : Int) (s.length : Int)).1) == ((splitS ((a ++ s) ++ b) (a.length : Int) ((a.length : Int) + (s.length : Int))).1)) && (((splitS ((a ++ s) ++ b) (a.length : Int) ((a.length : Int) + (s.length : Int))).2) == (((splitS s (0 : Int) (s.length : Int)).2) + (a.length : Int)))) = true → ((((splitS s (0 : Int) (s.length : Int)).1) == ((splitS ((a ++ s) ++ b) (a.length : Int) ((a.length : Int) + (s.length : Int))).1)) && (((splitS ((a ++ s) ++ b) (a.length : Int) ((a.length : Int) + (s.length : Int))).2) == (((splitS s (0 : Int) (s.length : Int)).2) + (a.length : Int)))) = true from (fun q0 => q0)) (rfl))))))))))))))))

theorem FFieldPlaces_eq (F : Nat) (s : List UInt8) (a : List UInt8) (b : List UInt8) : FFieldPlaces F s a b = ((((((BFieldPlaces_1 F s a b (((decide ((s.length : Int) > (1000 : Int))) || (decide ((a.length : Int) > (300 : Int)))) || (decide ((b.length : Int) > (300 : Int)))))))))) := by
  have h : FFieldPlaces F s a b = need ((!(decide ((s.length : Int) > (1000 : Int)))) = true → (!(decide ((s.length : Int) > (1000 : Int)))) = true) (need ((!(decide ((s.length : Int) > (1000 : Int)))) = true → (!(decide ((s.length : Int) > (1000 : Int)))) = true) (need ((decide ((s.length : Int) > (1000 : Int))) = false → (!(decide ((s.length : Int) > (1000 : Int)))) = true) (need ((!((decide ((s.length : Int) > (1000 : Int))) || (decide ((a.length : Int) > (300 : Int))))) = true → (!((decide ((s.length : Int) > (1000 : Int))) || (decide ((a.length : Int) > (300 : Int))))) = true) (need ((!((decide ((s.length : Int) > (1000 : Int))) || (decide ((a.length : Int) > (300 : Int))))) = true → (!((decide ((s.length : Int) > (1000 : Int))) || (decide ((a.length : Int) > (300 : Int))))) = true) (need (((decide ((s.length : Int) > (1000 : Int))) || (decide ((a.length : Int) > (300 : Int)))) = false → (!((decide ((s.length : Int) > (1000 : Int))) || (decide ((a.length : Int) > (300 : Int))))) = true) (BFieldPlaces_1 F s a b (((decide ((s.length : Int) > (1000 : Int))) || (decide ((a.length : Int) > (300 : Int)))) || (decide ((b.length : Int) > (300 : Int)))))))))) := by kernel_rfl
  rw [h, need_pos (show ((decide ((s.length : Int) > (1000 : Int))) || (decide ((a.length : Int) > (300 : Int)))) = false → (!((decide ((s.length : Int) > (1000 : Int))) || (decide ((a.length : Int) > (300 : Int))))) = true from (fun q0 => (not_mk q0))), need_pos (show (!((decide ((s.length : Int) > (1000 : Int))) || (decide ((a.length : Int) > (300 : Int))))) = true → (!((decide ((s.length : Int) > (1000 : Int))) || (decide ((a.length : Int) > (300 : Int))))) = true from (fun q0 => q0)), need_pos (show (!((decide ((s.length : Int) > (1000 : Int))) || (decide ((a.length : Int) > (300 : Int))))) = true → (!((decide ((s.length : Int) > (1000 : Int))) || (decide ((a.length : Int) > (300 : Int))))) = true from (fun q0 => q0)), need_pos (show (decide ((s.length : Int) > (1000 : Int))) = false → (!(decide ((s.length : Int) > (1000 : Int)))) = true from (fun q0 => (not_mk q0))), need_pos (show (!(decide ((s.length : Int) > (1000 : Int)))) = true → (!(decide ((s.length : Int) > (1000 : Int)))) = true from (fun q0 => q0)), need_pos (show (!(decide ((s.length : Int) > (1000 : Int)))) = true → (!(decide ((s.length : Int) > (1000 : Int)))) = true from (fun q0 => q0))]

theorem fn_FieldPlaces (F : Nat) (s : List UInt8) (a : List UInt8) (b : List UInt8) (r : AV) (h : (∃ M vs, ARels γ0 M [.p (.str s), .p (.str a), .p (.str b)] vs) → FFieldPlaces F s a b = some (r, [])) : FnP Tryd.prog 6 [.p (.str s), .p (.str a), .p (.str b)] r :=
  FnP_run GFieldPlaces F rfl (EnvOk_mk (l := [(9, sp_awake), (10, sp_split), (12, sp_r7fields)]) ⟨ok_awake.any, ok_split.any, ok_r7fields.any, trivial⟩) (EnvROk_mk (l := []) trivial) (Checked.mixed Tryd.checked) (fn := Tryd.f6) (by kernel_rfl) (by kernel_rfl) rfl h
theorem FieldPlaces_true (s a b : List UInt8) : FFieldPlaces 0 s a b = some (.p (.bool true), []) := by
  rw [FFieldPlaces_eq, BFieldPlaces_1_eq]
  by_cases h : s.length > 1000 ∨ a.length > 300 ∨ b.length > 300
  · exact cond_t (by simp only [Bool.or_eq_true, decide_eq_true_eq]; omega) rfl
  · refine cond_f (by simp only [Bool.or_eq_false_iff, decide_eq_false_iff_not]; omega) (need_mk (by omega) (need_mk (by unfold lenok; omega) (need_mk (by unfold lenok; simp; omega) (need_mk (by unfold i64ok; omega) (need_mk (by simp; omega) (need_mk (by have := splitS_len s 0 s.length; omega) (need_mk (fun _ => ?_) ?_)))))))
    · obtain ⟨k1, k2⟩ := linesN_ok (s := s) (b := s.length) (by omega) (s.length - 0) 0 rfl (by omega)
      have hb : ∀ (L : List (Nat × List UInt8 × Nat)) (x y : Nat) (body : Int) (g : List (List UInt8)), lnOk x y L → 0 ≤ body → body ≤ y → 0 ≤ (gathS L body g).2 ∧ (gathS L body g).2 ≤ y := by
        intro L
        induction L with
        | nil => intro x y body g _ q1 q2; exact ⟨q1, q2⟩
        | cons c L ih =>
          obtain ⟨i, t, nx⟩ := c
          intro x y body g hl q1 q2
          obtain ⟨l1, l2, l3, l4⟩ := hl
          rw [gathS]
          split
          · dsimp only; omega
          · split
            · exact ih nx y _ _ l4 q1 q2
            · exact ih nx y _ _ l4 q1 q2
      have h3 := hb _ 0 s.length (s.length : Int) [] k1 (by omega) (by omega)
      have h4 : (splitS s 0 (s.length : Int)).2 = (gathS (linesN s 0 s.length) (s.length : Int) []).2 := by
        rw [splitS_all]; unfold linesN; rw [List.take_length, List.drop_zero]
      rw [h4]; unfold i64ok; omega
    · rw [splitS_mid]
      simp
/-! ### What stands behind -/
theorem gath_crlf (x y : List UInt8) : ∀ (u acc : List UInt8) (a : Nat) (b b' : Int) (g : List (List UInt8)),
    gathS (lnF acc a (u ++ 13 :: 10 :: 13 :: 10 :: x)) b g = gathS (lnF acc a (u ++ 13 :: 10 :: 13 :: 10 :: y)) b' g ∧
    (gathS (lnF acc a (u ++ 13 :: 10 :: 13 :: 10 :: x)) b g).2 ≤ (a : Int) + acc.length + u.length + 4 ∧ (a : Int) + acc.length + Lib.indexByte (u ++ 13 :: 10 :: 13 :: 10 :: x) 10 < (gathS (lnF acc a (u ++ 13 :: 10 :: 13 :: 10 :: x)) b g).2
  | [], acc, a, b, b', g => by
    have e : ∀ z : List UInt8, ∃ t, lnF acc a ([] ++ 13 :: 10 :: 13 :: 10 :: z) = (a, trimSuf (acc ++ [13]) [13], a + acc.length + 2) :: (a + acc.length + 2, [], a + acc.length + 4) :: t := by
      intro z
      refine ⟨lnF [] (a + acc.length + 4) z, ?_⟩
      rw [List.nil_append, lnF, if_neg (by decide), lnF, if_pos rfl, lnF, if_neg (by decide), lnF, if_pos rfl]
      simp only [List.length_append, List.length_nil, List.nil_append, List.length_cons]
      rw [show trimSuf [13] [13] = [] from rfl, show a + (acc.length + (0 + 1)) + 1 = a + acc.length + 2 by omega, show a + acc.length + 2 + (0 + 1) + 1 = a + acc.length + 4 by omega]
    obtain ⟨t1, e1⟩ := e x
    obtain ⟨t2, e2⟩ := e y
    have hi : Lib.indexByte ([] ++ 13 :: 10 :: 13 :: 10 :: x) 10 = 1 := by
      have := (cut_ix (c := 10) (p := [13]) (q := 13 :: 10 :: x) (by decide)).2
      exact this
    rw [e1, e2, hi]
    obtain ⟨T, hT⟩ : ∃ T, trimSuf (acc ++ [13]) [13] = T := ⟨_, rfl⟩
    rw [hT]
    have g1 : ∀ (t : List (Nat × List UInt8 × Nat)) (b : Int), gathS ((a, T, a + acc.length + 2) :: (a + acc.length + 2, [], a + acc.length + 4) :: t) b g = if T = [] then (g, ((a + acc.length + 2 : Nat) : Int)) else (if g ≠ [] ∧ isBlank1 T = true then (g.set (g.length - 1) (g.getD (g.length - 1) [] ++ T), ((a + acc.length + 4 : Nat) : Int)) else (g ++ [T], ((a + acc.length + 4 : Nat) : Int))) := by
      intro t b
      rw [gathS]
      split
      · rfl
      · split <;> rw [gathS, if_pos rfl]
    rw [g1, g1]
    have g2 : (if T = [] then (g, ((a + acc.length + 2 : Nat) : Int)) else (if g ≠ [] ∧ isBlank1 T = true then (g.set (g.length - 1) (g.getD (g.length - 1) [] ++ T), ((a + acc.length + 4 : Nat) : Int)) else (g ++ [T], ((a + acc.length + 4 : Nat) : Int)))).2 = ((a + acc.length + 2 : Nat) : Int) ∨
        (if T = [] then (g, ((a + acc.length + 2 : Nat) : Int)) else (if g ≠ [] ∧ isBlank1 T = true then (g.set (g.length - 1) (g.getD (g.length - 1) [] ++ T), ((a + acc.length + 4 : Nat) : Int)) else (g ++ [T], ((a + acc.length + 4 : Nat) : Int)))).2 = ((a + acc.length + 4 : Nat) : Int) := by
      split
      · exact .inl rfl
      · split
        · exact .inr rfl
        · exact .inr rfl
    refine ⟨rfl, ?_, ?_⟩
    · simp only [List.length_nil]; omega
    · omega
  | c :: r, acc, a, b, b', g => by
    rw [List.cons_append, List.cons_append, lnF, lnF]
    by_cases hc : c = 10
    · subst hc
      rw [if_pos rfl, if_pos rfl, gathS, gathS]
      have hi : Lib.indexByte (10 :: (r ++ 13 :: 10 :: 13 :: 10 :: x)) 10 = 0 := (cut_ix (c := 10) (p := []) (q := r ++ 13 :: 10 :: 13 :: 10 :: x) (by simp)).2
      have hm : ∀ l : List UInt8, -1 ≤ Lib.indexByte l 10 := by
        intro l
        rcases ixb_split 10 l with ⟨p, q, _, _, h⟩ | ⟨_, h⟩ <;> omega
      have hx := hm (r ++ 13 :: 10 :: 13 :: 10 :: x)
      rw [hi]
      by_cases h0 : trimSuf acc [13] = []
      · rw [if_pos h0, if_pos h0]; exact ⟨rfl, by simp; omega, by simp; omega⟩
      · rw [if_neg h0, if_neg h0]
        by_cases hg : g ≠ [] ∧ isBlank1 (trimSuf acc [13]) = true
        · rw [if_pos hg, if_pos hg]
          obtain ⟨h1, h2, h3⟩ := gath_crlf x y r [] (a + acc.length + 1) b b' (g.set (g.length - 1) (g.getD (g.length - 1) [] ++ trimSuf acc [13]))
          refine ⟨h1, ?_, ?_⟩
          · simp only [List.length_nil, List.length_cons] at h2 ⊢; omega
          · simp only [List.length_nil] at h3; omega
        · rw [if_neg hg, if_neg hg]
          obtain ⟨h1, h2, h3⟩ := gath_crlf x y r [] (a + acc.length + 1) b b' (g ++ [trimSuf acc [13]])
          refine ⟨h1, ?_, ?_⟩
          · simp only [List.length_nil, List.length_cons] at h2 ⊢; omega
          · simp only [List.length_nil] at h3; omega
    · rw [if_neg hc, if_neg hc]
      obtain ⟨h1, h2, h3⟩ := gath_crlf x y r (acc ++ [c]) a b b' g
      refine ⟨h1, ?_, ?_⟩
      · simp only [List.length_append, List.length_cons, List.length_nil] at h2 ⊢; omega
      · have hi : Lib.indexByte (c :: (r ++ 13 :: 10 :: 13 :: 10 :: x)) 10 ≤ 1 + Lib.indexByte (r ++ 13 :: 10 :: 13 :: 10 :: x) 10 := by
          rcases ixb_split 10 (r ++ 13 :: 10 :: 13 :: 10 :: x) with ⟨p, q, e, hp, h⟩ | ⟨hn, h⟩
          · rw [e] at h ⊢
            have := (cut_ix (c := 10) (p := c :: p) (q := q) (by intro z hz; rcases List.mem_cons.1 hz with hz | hz; rw [hz]; exact hc; exact hp z hz)).2
            rw [List.cons_append] at this
            rw [this, h]; simp only [List.length_cons]; omega
          · have := (cut_no (c := 10) (s := c :: (r ++ 13 :: 10 :: 13 :: 10 :: x)) (by intro z hz; rcases List.mem_cons.1 hz with hz | hz; rw [hz]; exact hc; exact hn z hz)).2
            rw [this, h]; decide
        simp only [List.length_append, List.length_cons, List.length_nil] at h3; omega
noncomputable def cFieldBodies : Code := bodyOf Tryd.f5

noncomputable def GFieldBodies : Cfg := ⟨Tryd.prog, mkEnv [(9, sp_awake), (10, sp_split), (12, sp_r7fields), (14, sp_Index)], mkEnvR [], 73, [], [([1, 0, 1], ⟨[0, 1, 2, 25], []⟩), ([1, 1, 1, 1], ⟨[0, 7, 8, 9, 10], []⟩)], []⟩

noncomputable def BFieldBodies_1 (F : Nat) (s : List UInt8) (a : List UInt8) (b : List UInt8) (vc1 : Bool) : Option Ans := runB GFieldBodies cFieldBodies (kP Tryd.prog Tryd.f5.results.toList) F [] [1, 0, 1] [(0, .p (.str s)), (1, .p (.str a)), (2, .p (.str b)), (25, .p (.bool vc1))] []

noncomputable def BFieldBodies_2 (F : Nat) (s : List UInt8) (vs2 : List UInt8) (vs3 : List UInt8) (vl4 : List (List UInt8 × List UInt8)) (vi5 : Int) : Option Ans := runB GFieldBodies cFieldBodies (kP Tryd.prog Tryd.f5.results.toList) F [] [1, 1, 1, 1] [(0, .p (.str s)), (7, .p (.str vs2)), (8, .p (.str vs3)), (9, .p (.list 2 (.dat (.pair .str .str) vl4))), (10, .p (.int .i64 vi5))] []

noncomputable def FFieldBodies (F : Nat) (s : List UInt8) (a : List UInt8) (b : List UInt8) : Option Ans := runF GFieldBodies Tryd.f5 F [.p (.str s), .p (.str a), .p (.str b)]

theorem BFieldBodies_1_eq (F : Nat) (s : List UInt8) (a : List UInt8) (b : List UInt8) (vc1 : Bool) : BFieldBodies_1 F s a b vc1 = cond (vc1) (some (.p (.bool true), [])) (need (lenok (s.length + ([13, 10, 13, 10] : List UInt8).length)) (need (lenok ((s ++ ([13, 10, 13, 10] : List UInt8)).length + a.length)) (need (lenok (s.length + ([13, 10, 13, 10] : List UInt8).length)) (need (lenok ((s ++ ([13, 10, 13, 10] : List UInt8)).length + b.length)) (need (((s ++ ([13, 10, 13, 10] : List UInt8)) ++ a).length ≤ 1000000) (BFieldBodies_2 F s ((s ++ ([13, 10, 13, 10] : List UInt8)) ++ a) ((s ++ ([13, 10, 13, 10] : List UInt8)) ++ b) ((splitS ((s ++ ([13, 10, 13, 10] : List UInt8)) ++ a) (0 : Int) (((s ++ ([13, 10, 13, 10] : List UInt8)) ++ a).length : Int)).1) ((splitS ((s ++ ([13, 10, 13, 10] : List UInt8)) ++ a) (0 : Int) (((s ++ ([13, 10, 13, 10] : List UInt8)) ++ a).length : Int)).2))))))) := by kernel_rfl

theorem BFieldBodies_2_eq (F : Nat) (s : List UInt8) (vs2 : List UInt8) (vs3 : List UInt8) (vl4 : List (List UInt8 × List UInt8)) (vi5 : Int) : BFieldBodies_2 F s vs2 vs3 vl4 vi5 = need (vs3.length ≤ 1000000) (need (vl4.length ≤ 1000000000000) (need (((vl4 == ((splitS vs3 (0 : Int) (vs3.length : Int)).1)) && (vi5 == ((splitS vs3 (0 : Int) (vs3.length : Int)).2))) = true → i64ok ((s.length : Int) + (4 : Int))) (need ((((vl4 == ((splitS vs3 (0 : Int) (vs3.length : Int)).1)) && (vi5 == ((splitS vs3 (0 : Int) (vs3.length : Int)).2))) && (decide (vi5 ≤ ((s.length : Int) + (4 : Int))))) = true → indexok vs2 ([10] : List UInt8) (0 : Int)) (some (.p (.bool (((((vl4 == ((splitS vs3 (0 : Int) (vs3.length : Int)).1)) && (vi5 == ((splitS vs3 (0 : Int) (vs3.length : Int)).2))) && (decide (vi5 ≤ ((s.length : Int) + (4 : Int))))) && (decide ((indexS vs2 ([10] : List UInt8) (0 : Int)) < vi5))) && true)), []))))) :=
  Eq.trans (show BFieldBodies_2 F s vs2 vs3 vl4 vi5 = need (vs3.length ≤ 1000000) (need (vl4.length ≤ 1000000000000) (need ((vl4 == ((splitS vs3 (0 : Int) (vs3.length : Int)).1)) = true → (vl4 == ((splitS vs3 (0 : Int) (vs3.length : Int)).1)) = true) (need ((vl4 == ((splitS vs3 (0 : Int) (vs3.length : Int)).1)) = true → (vl4 == ((splitS vs3 (0 : Int) (vs3.length : Int)).1)) = true) (need ((vl4 == ((splitS vs3 (0 : Int) (vs3.length : Int)).1)) = true → (vl4 == ((splitS vs3 (0 : Int) (vs3.length : Int)).1)) = true) (need (((vl4 == ((splitS vs3 (0 : Int) (vs3.length : Int)).1)) && (vi5 == ((splitS vs3 (0 : Int) (vs3.length : Int)).2))) = true → ((vl4 == ((splitS vs3 (0 : Int) (vs3.length : Int)).1)) && (vi5 == ((splitS vs3 (0 : Int) (vs3.length : Int)).2))) = true) (need (((vl4 == ((splitS vs3 (0 : Int) (vs3.length : Int)).1)) && (vi5 == ((splitS vs3 (0 : Int) (vs3.length : Int)).2))) = true → ((vl4 == ((splitS vs3 (0 : Int) (vs3.length : Int)).1)) && (vi5 == ((splitS vs3 (0 : Int) (vs3.length : Int)).2))) = true) (need (((vl4 == ((splitS vs3 (0 : Int) (vs3.length : Int)).1)) && (vi5 == ((splitS vs3 (0 : Int) (vs3.length : Int)).2))) = true → i64ok ((s.length : Int) + (4 : Int))) (need (((vl4 == ((splitS vs3 (0 : Int) (vs3.length : Int)).1)) && (vi5 == ((splitS vs3 (0 : Int) (vs3.length : Int)).2))) = true → ((vl4 == ((splitS vs3 (0 : Int) (vs3.length : Int)).1)) && (vi5 == ((splitS vs3 (0 : Int) (vs3.length : Int)).2))) = true) (need (((vl4 == ((splitS vs3 (0 : Int) (vs3.length : Int)).1)) && (vi5 == ((splitS vs3 (0 : Int) (vs3.length : Int)).2))) = true → ((vl4 == ((splitS vs3 (0 : Int) (vs3.length : Int)).1)) && (vi5 == ((splitS vs3 (0 : Int) (vs3.length : Int)).2))) = true) (need (((vl4 == ((splitS vs3 (0 : Int) (vs3.length : Int)).1)) && (vi5 == ((splitS vs3 (0 : Int) (vs3.length : Int)).2))) = true → ((vl4 == ((splitS vs3 (0 : Int) (vs3.length : Int)).1)) && (vi5 == ((splitS vs3 (0 : Int) (vs3.length : Int)).2))) = true) (need ((((vl4 == ((splitS vs3 (0 : Int) (vs3.length : Int)).1)) && (vi5 == ((splitS vs3 (0 : Int) (vs3.length : Int)).2))) && (decide (vi5 ≤ ((s.length : Int) + (4 : Int))))) = true → (((vl4 == ((splitS vs3 (0 : Int) (vs3.length : Int)).1)) && (vi5 == ((splitS vs3 (0 : Int) (vs3.length : Int)).2))) && (decide (vi5 ≤ ((s.length : Int) + (4 : Int))))) = true) (need ((((vl4 == ((splitS vs3 (0 : Int) (vs3.length : Int)).1)) && (vi5 == ((splitS vs3 (0 : Int) (vs3.length : Int)).2))) && (decide (vi5 ≤ ((s.length : Int) + (4 : Int))))) = true → indexok vs2 ([10] : List UInt8) (0 : Int)) (need ((((vl4 == ((splitS vs3 (0 : Int) (vs3.length : Int)).1)) && (vi5 == ((splitS vs3 (0 : Int) (vs3.length : Int)).2))) && (decide (vi5 ≤ ((s.length : Int) + (4 : Int))))) = true → (((vl4 == ((splitS vs3 (0 : Int) (vs3.length : Int)).1)) && (vi5 == ((splitS vs3 (0 : Int) (vs3.length : Int)).2))) && (decide (vi5 ≤ ((s.length : Int) + (4 : Int))))) = true) (need ((((vl4 == ((splitS vs3 (0 : Int) (vs3.length : Int)).1)) && (vi5 == ((splitS vs3 (0 : Int) (vs3.length : Int)).2))) && (decide (vi5 ≤ ((s.length : Int) + (4 : Int))))) = true → (((vl4 == ((splitS vs3 (0 : Int) (vs3.length : Int)).1)) && (vi5 == ((splitS vs3 (0 : Int) (vs3.length : Int)).2))) && (decide (vi5 ≤ ((s.length : Int) + (4 : Int))))) = true) (need ((((vl4 == ((splitS vs3 (0 : Int) (vs3.length : Int)).1)) && (vi5 == ((splitS vs3 (0 : Int) (vs3.length : Int)).2))) && (decide (vi5 ≤ ((s.length : Int) + (4 : Int))))) = true → (((vl4 == ((splitS vs3 (0 : Int) (vs3.length : Int)).1)) && (vi5 == ((splitS vs3 (0 : Int) (vs3.length : Int)).2))) && (decide (vi5 ≤ ((s.length : Int) + (4 : Int))))) = true) (need (((((vl4 == ((splitS vs3 (0 : Int) (vs3.length : Int)).1)) && (vi5 == ((splitS vs3 (0 : Int) (vs3.length : Int)).2))) && (decide (vi5 ≤ ((s.length : Int) + (4 : Int))))) && (decide ((indexS vs2 ([10] : List UInt8) (0 : Int)) < vi5))) = true → ((((vl4 == ((splitS vs3 (0 : Int) (vs3.length : Int)).1)) && (vi5 == ((splitS vs3 (0 : Int) (vs3.length : Int)).2))) && (decide (vi5 ≤ ((s.length : Int) + (4 : Int))))) && (decide ((indexS vs2 ([10] : List UInt8) (0 : Int)) < vi5))) = true) (some (.p (.bool (((((vl4 == ((splitS vs3 (0 : Int) (vs3.length : Int)).1)) && (vi5 == ((splitS vs3 (0 : Int) (vs3.length : Int)).2))) && (decide (vi5 ≤ ((s.length : Int) + (4 : Int))))) && (decide ((indexS vs2 ([10] : List UInt8) (0 : Int)) < vi5))) && true)), [])))))))))))))))))) by kernel_rfl) (need_congr (need_congr (need_strike (show (vl4 == ((splitS vs3 (0 : Int) (vs3.length : Int)).1)) = true → (vl4 == ((splitS vs3 (0 : Int) (vs3.length : Int)).1)) = true from (fun q0 => q0)) (need_strike (show (vl4 == ((splitS vs3 (0 : Int) (vs3.length : Int)).1)) = true → (vl4 == ((splitS vs3 (0 : Int) (vs3.length : Int)).1)) = true from (fun q0 => q0)) (need_strike (show (vl4 == ((splitS vs3 (0 : Int) (vs3.length : Int)).1)) = true → (vl4 == ((splitS vs3 (0 : Int) (vs3.length : Int)).1)) = true from (fun q0 => q0)) (need_strike (show ((vl4 == ((splitS vs3 (0 : Int) (vs3.length : Int)).1)) && (vi5 == ((splitS vs3 (0 : Int) (vs3.length : Int)).2))) = true → ((vl4 == ((splitS vs3 (0 : Int) (vs3.length : Int)).1)) && (vi5 == ((splitS vs3 (0 : Int) (vs3.length : Int)).2))) = true from (fun q0 => q0)) (need_strike (show ((vl4 == ((splitS vs3 (0 : Int) (vs3.length : Int)).1)) && (vi5 == ((splitS vs3 (0 : Int) (vs3.length : Int)).2))) = true → ((vl4 == ((splitS vs3 (0 : Int) (vs3.length : Int)).1)) && (vi5 == ((splitS vs3 (0 : Int) (vs3.length : Int)).2))) = true from (fun q0 => q0)) (need_congr (need_strike (show ((vl4 == ((splitS vs3 (0 : Int) (vs3.length : Int)).1)) && (vi5 == ((splitS vs3 (0 : Int) (vs3.length : Int)).2))) = true → ((vl4 == ((splitS vs3 (0 : Int) (vs3.length : Int)).1)) && (vi5 == ((splitS vs3 (0 : Int) (vs3.length : Int)).2))) = true from (fun q0 => q0)) (need_strike (show ((vl4 == ((splitS vs3 (0 : Int) (vs3.length : Int)).1)) && (vi5 == ((splitS vs3 (0 : Int) (vs3.length : Int)).2))) = true → ((vl4 == ((splitS vs3 (0 : Int) (vs3.length : Int)).1)) && (vi5 == ((splitS vs3 (0 : Int) (vs3.length : Int)).2))) = true from (fun q0 => q0)) (need_strike (show ((vl4 == ((splitS vs3 (0 : Int) (vs3.length : Int)).1)) && (vi5 == ((splitS vs3 (0 : Int) (vs3.length : Int)).2))) = true → ((vl4 == ((splitS vs3 (0 : Int) (vs3.length : Int)).1)) && (vi5 == ((splitS vs3 (0 : Int) (vs3.length : Int)).2))) = true from (fun q0 => q0)) (need_strike (show (((vl4 == ((splitS vs3 (0 : Int) (vs3.length : Int)).1)) && (vi5 == ((splitS vs3 (0 : Int) (vs3.length : Int)).2))) && (decide (vi5 ≤ ((s.length : Int) + (4 : Int))))) = true → (((vl4 == ((splitS vs3 (0 : Int) (vs3.length : Int)).1)) && (vi5 == ((splitS vs3 (0 : Int) (vs3.length : Int)).2))) && (decide (vi5 ≤ ((s.length : Int) + (4 : Int))))) = true from (fun q0 => q0)) (need_congr (need_strike (show (((vl4 == ((splitS vs3 (0 : Int) (vs3.length : Int)).1)) && (vi5 == ((splitS vs3 (0 : Int) (vs3.length : Int)).2))) && (decide (vi5 ≤ ((s.length : Int) + (4 : Int))))) = true → (((vl4 == ((splitS vs3 (0 : Int) (vs3.length : Int)).1)) && (vi5 == ((splitS vs3 (0 : Int) (vs3.length : Int)).2))) && (decide (vi5 ≤ ((s.length : Int) + (4 : Int))))) = true from (fun q0 => q0)) (need_strike (show (((vl4 == ((splitS vs3 (0 : Int) (vs3.length : Int)).1)) && (vi5 == ((splitS vs3 (0 : Int) (vs3.length : Int)).2))) && (decide (vi5 ≤ ((s.length : Int) + (4 : Int))))) = true → (((vl4 == ((splitS vs3 (0 : Int) (vs3.length : Int)).1)) && (vi5 == ((splitS vs3 (0 : Int) (vs3.length : Int)).2))) && (decide (vi5 ≤ ((s.length : Int) + (4 : Int))))) = true from (fun q0 => q0)) (need_strike (show (((vl4 == ((splitS vs3 (0 : Int) (vs3.length : Int)).1)) && (vi5 == ((splitS vs3 (0 : Int) (vs3.length : Int)).2))) && (decide (vi5 ≤ ((s.length : Int) + (4 : Int))))) = true → (((vl4 == ((splitS vs3 (0 : Int) (vs3.length : Int)).1)) && (vi5 == ((splitS vs3 (0 : Int) (vs3.length : Int)).2))) && (decide (vi5 ≤ ((s.length : Int) + (4 : Int))))) = true from (fun q0 => q0)) (need_strike (show ((((vl4 == ((splitS vs3 (0 : Int) (vs3.length : Int)).1)) && (vi5 == ((splitS vs3 (0 : Int) (vs3.length : Int)).2))) && (decide (vi5 ≤ ((s.length : Int) + (4 : Int))))) && (decide ((indexS vs2 ([10] : List UInt8) (0 : Int)) < vi5))) = true → ((((vl4 == ((splitS vs3 (0 : Int) (vs3.length : Int)).1)) && (vi5 == ((splitS vs3 (0 : Int) (vs3.length : Int)).2))) && (decide (vi5 ≤ ((s.length : Int) + (4 : Int))))) && (decide ((indexS vs2 ([10] : List UInt8) (0 : Int)) < vi5))) = true from (fun q0 => q0)) (rfl))))))))))))))))))

theorem FFieldBodies_eq (F : Nat) (s : List UInt8) (a : List UInt8) (b : List UInt8) : FFieldBodies F s a b = ((((((BFieldBodies_1 F s a b (((decide ((s.length : Int) > (1000 : Int))) || (decide ((a.length : Int) > (1000 : Int)))) || (decide ((b.length : Int) > (1000 : Int)))))))))) := by
  have h : FFieldBodies F s a b = need ((!(decide ((s.length : Int) > (1000 : Int)))) = true → (!(decide ((s.length : Int) > (1000 : Int)))) = true) (need ((!(decide ((s.length : Int) > (1000 : Int)))) = true → (!(decide ((s.length : Int) > (1000 : Int)))) = true) (need ((decide ((s.length : Int) > (1000 : Int))) = false → (!(decide ((s.length : Int) > (1000 : Int)))) = true) (need ((!((decide ((s.length : Int) > (1000 : Int))) || (decide ((a.length : Int) > (1000 : Int))))) = true → (!((decide ((s.length : Int) > (1000 : Int))) || (decide ((a.length : Int) > (1000 : Int))))) = true) (need ((!((decide ((s.length : Int) > (1000 : Int))) || (decide ((a.length : Int) > (1000 : Int))))) = true → (!((decide ((s.length : Int) > (1000 : Int))) || (decide ((a.length : Int) > (1000 : Int))))) = true) (need (((decide ((s.length : Int) > (1000 : Int))) || (decide ((a.length : Int) > (1000 : Int)))) = false → (!((decide ((s.length : Int) > (1000 : Int))) || (decide ((a.length : Int) > (1000 : Int))))) = true) (BFieldBodies_1 F s a b (((decide ((s.length : Int) > (1000 : Int))) || (decide ((a.length : Int) > (1000 : Int)))) || (decide ((b.length : Int) > (1000 : Int)))))))))) := by kernel_rfl
  rw [h, need_pos (show ((decide ((s.length : Int) > (1000 : Int))) || (decide ((a.length : Int) > (1000 : Int)))) = false → (!((decide ((s.length : Int) > (1000 : Int))) || (decide ((a.length : Int) > (1000 : Int))))) = true from (fun q0 => (not_mk q0))), need_pos (show (!((decide ((s.length : Int) > (1000 : Int))) || (decide ((a.length : Int) > (1000 : Int))))) = true → (!((decide ((s.length : Int) > (1000 : Int))) || (decide ((a.length : Int) > (1000 : Int))))) = true from (fun q0 => q0)), need_pos (show (!((decide ((s.length : Int) > (1000 : Int))) || (decide ((a.length : Int) > (1000 : Int))))) = true → (!((decide ((s.length : Int) > (1000 : Int))) || (decide ((a.length : Int) > (1000 : Int))))) = true from (fun q0 => q0)), need_pos (show (decide ((s.length : Int) > (1000 : Int))) = false → (!(decide ((s.length : Int) > (1000 : Int)))) = true from (fun q0 => (not_mk q0))), need_pos (show (!(decide ((s.length : Int) > (1000 : Int)))) = true → (!(decide ((s.length : Int) > (1000 : Int)))) = true from (fun q0 => q0)), need_pos (show (!(decide ((s.length : Int) > (1000 : Int)))) = true → (!(decide ((s.length : Int) > (1000 : Int)))) = true from (fun q0 => q0))]

theorem fn_FieldBodies (F : Nat) (s : List UInt8) (a : List UInt8) (b : List UInt8) (r : AV) (h : (∃ M vs, ARels γ0 M [.p (.str s), .p (.str a), .p (.str b)] vs) → FFieldBodies F s a b = some (r, [])) : FnP Tryd.prog 5 [.p (.str s), .p (.str a), .p (.str b)] r :=
  FnP_run GFieldBodies F rfl (EnvOk_mk (l := [(9, sp_awake), (10, sp_split), (12, sp_r7fields), (14, sp_Index)]) ⟨ok_awake.any, ok_split.any, ok_r7fields.any, ok_Index.any, trivial⟩) (EnvROk_mk (l := []) trivial) (Checked.mixed Tryd.checked) (fn := Tryd.f5) (by kernel_rfl) (by kernel_rfl) rfl h
theorem FieldBodies_true (s a b : List UInt8) : FFieldBodies 0 s a b = some (.p (.bool true), []) := by
  rw [FFieldBodies_eq, BFieldBodies_1_eq]
  by_cases h : s.length > 1000 ∨ a.length > 1000 ∨ b.length > 1000
  · exact cond_t (by simp only [Bool.or_eq_true, decide_eq_true_eq]; omega) rfl
  · have ex : ∀ z : List UInt8, (s ++ ([13, 10, 13, 10] : List UInt8)) ++ z = s ++ 13 :: 10 :: 13 :: 10 :: z := fun z => by simp
    have hl : ∀ z : List UInt8, (s ++ 13 :: 10 :: 13 :: 10 :: z).length = s.length + 4 + z.length := fun z => by simp; omega
    refine cond_f (by simp only [Bool.or_eq_false_iff, decide_eq_false_iff_not]; omega) (need_mk (by unfold lenok; simp; omega) (need_mk (by unfold lenok; simp; omega) (need_mk (by unfold lenok; simp; omega) (need_mk (by unfold lenok; simp; omega) (need_mk (by simp; omega) ?_)))))
    have hsl := splitS_len (s ++ 13 :: 10 :: 13 :: 10 :: a) 0 ((s ++ 13 :: 10 :: 13 :: 10 :: a).length : Int)
    rw [BFieldBodies_2_eq, ex, ex]
    rw [splitS_all] at hsl
    rw [splitS_all, splitS_all, indexS_one]
    obtain ⟨h1, h2, h3⟩ := gath_crlf a b s [] 0 ((s ++ 13 :: 10 :: 13 :: 10 :: a).length : Int) ((s ++ 13 :: 10 :: 13 :: 10 :: b).length : Int) []
    rw [← h1]
    simp only [List.length_nil] at h2 h3
    have ha := hl a
    have hb := hl b
    refine need_mk (by omega) (need_mk (by omega) (need_mk (fun _ => by unfold i64ok; omega) (need_mk (fun _ => ⟨by omega, by omega, by simp; omega⟩) ?_)))
    have q1 : decide ((gathS (lnF [] 0 (s ++ 13 :: 10 :: 13 :: 10 :: a)) ((s ++ 13 :: 10 :: 13 :: 10 :: a).length : Int) []).2 ≤ (s.length : Int) + 4) = true := decide_eq_true (by omega)
    have q2 : decide (Lib.indexByte (s ++ 13 :: 10 :: 13 :: 10 :: a) 10 < (gathS (lnF [] 0 (s ++ 13 :: 10 :: 13 :: 10 :: a)) ((s ++ 13 :: 10 :: 13 :: 10 :: a).length : Int) []).2) = true := decide_eq_true (by omega)
    rw [q1, q2]
    simp
end Go.Proofs.YtdabeedpleoakaaDoor
