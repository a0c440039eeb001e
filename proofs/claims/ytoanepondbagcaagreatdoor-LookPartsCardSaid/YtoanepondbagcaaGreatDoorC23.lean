/-
  Lifted functions, and facts about them.
-/
import Derived.Test.YtoanepondbagcaaGreatDoorRows
import Derived.Test.YtoanepondbagcaaGreatDoorAmC
import Derived.Test.YtoanepondbagcaaGreatDoorC01
import Derived.Test.YtoanepondbagcaaGreatDoorC22
import Derived.Test.YtoanepondbagcaaGreatDoorC14
namespace Go.Proofs.YtoanepondbagcaaGreatDoor
open Go Go.Am
set_option linter.unusedVariables false
/-! The preview of a plain body; none behind heads that say so. -/
abbrev seven7 : List UInt8 := [55, 98, 105, 116]












/-! ### Words -/
def sepB (c : UInt8) : List UInt8 := 32 :: ([13, 10, 9, 32] : List UInt8).take (c.toNat % 5)
end Go.Proofs.YtoanepondbagcaaGreatDoor
namespace Go.Proofs.YtoanepondbagcaaGreatDoor
open Go Go.Am
set_option linter.unusedVariables false
/-! Texts of lines; clean texts. -/
def cl1 (c : UInt8) : UInt8 := if c = 45 ∨ c = 10 ∨ c = 13 then 46 else c
def cleanS (s : List UInt8) : List UInt8 := s.map cl1
theorem cleanS_len (s : List UInt8) : (cleanS s).length = s.length := by simp [cleanS]
theorem cl1_ok (c : UInt8) : cl1 c ≠ 45 ∧ cl1 c ≠ 10 ∧ cl1 c ≠ 13 := by
  unfold cl1
  split
  · decide
  · rename_i h; exact ⟨fun q => h (.inl q), fun q => h (.inr (.inl q)), fun q => h (.inr (.inr q))⟩
theorem cleanS_ok (s : List UInt8) : ∀ c ∈ cleanS s, c ≠ 45 ∧ c ≠ 10 ∧ c ≠ 13 := by
  intro c hc
  obtain ⟨d, _, rfl⟩ := List.mem_map.1 hc
  exact cl1_ok d
noncomputable def cclean : Code := bodyOf Tryz.f18

noncomputable def Gclean : Cfg := ⟨Tryz.prog, mkEnv [], mkEnvR [], 37, [], [([0, 1, 0, 1, 1], ⟨[3, 4], [⟨.slot 3, 3, .cells []⟩]⟩), ([1, 0, 0, 1, 0, 0, 1, 0, 1, 1], ⟨[3, 4, 31], [⟨.slot 3, 3, .cells []⟩]⟩), ([1, 1, 0, 0, 1, 0, 1, 1], ⟨[3, 4], [⟨.slot 3, 3, .cells []⟩]⟩)], [([0, 1], [1])]⟩

noncomputable def Bclean_1 (F f1 : Nat) (vi1 : Int) (vb2 : List UInt8) : Option Ans := runR Gclean cclean (kP Tryz.prog Tryz.f18.results.toList) F [] [1, 1, 0, 1, 0] f1 [(3, .arr 3), (4, .p (.int .i64 vi1))] [(3, .bcv 5 vb2)]

noncomputable def Bclean_2 (F f1 : Nat) (vi1 : Int) (vc3 : Bool) (vb2 : List UInt8) : Option Ans := runB Gclean cclean (kP Tryz.prog Tryz.f18.results.toList) F [f1] [1, 1, 0, 1, 0, 0, 1, 0, 0, 1] [(3, .arr 3), (4, .p (.int .i64 vi1)), (31, .p (.bool vc3))] [(3, .bcv 5 vb2)]

noncomputable def Bclean_3 (F f1 : Nat) (vi1 : Int) (vb4 : List UInt8) : Option Ans := runB Gclean cclean (kP Tryz.prog Tryz.f18.results.toList) F [f1] [1, 1, 0, 1, 0, 0, 1, 1] [(3, .arr 3), (4, .p (.int .i64 vi1))] [(3, .bcv 5 vb4)]

noncomputable def Fclean (F : Nat) (s : List UInt8) : Option Ans := runF Gclean Tryz.f18 F [.p (.str s)]

theorem Bclean_1_eq (F f1 : Nat) (vi1 : Int) (vb2 : List UInt8) : Bclean_1 F (f1 + 1) vi1 vb2 = cond (decide (vi1 < (vb2.length : Int))) (need (0 ≤ vi1 ∧ vi1 < (vb2.length : Int)) (need ((vi1).toNat < vb2.length) (need ((!(((vb2.getD ((vi1).toNat) 0).toNat : Int) == (45 : Int))) = true → 0 ≤ vi1 ∧ vi1 < (vb2.length : Int)) (need ((!(((vb2.getD ((vi1).toNat) 0).toNat : Int) == (45 : Int))) = true → (vi1).toNat < vb2.length) (need ((!((((vb2.getD ((vi1).toNat) 0).toNat : Int) == (45 : Int)) || (((vb2.getD ((vi1).toNat) 0).toNat : Int) == (10 : Int)))) = true → 0 ≤ vi1 ∧ vi1 < (vb2.length : Int)) (need ((!((((vb2.getD ((vi1).toNat) 0).toNat : Int) == (45 : Int)) || (((vb2.getD ((vi1).toNat) 0).toNat : Int) == (10 : Int)))) = true → (vi1).toNat < vb2.length) (Bclean_2 F f1 vi1 (((((vb2.getD ((vi1).toNat) 0).toNat : Int) == (45 : Int)) || (((vb2.getD ((vi1).toNat) 0).toNat : Int) == (10 : Int))) || (((vb2.getD ((vi1).toNat) 0).toNat : Int) == (13 : Int))) vb2))))))) (some (.p (.str vb2), [])) :=
  Eq.trans (show Bclean_1 F (f1 + 1) vi1 vb2 = cond (decide (vi1 < (vb2.length : Int))) (need (0 ≤ vi1 ∧ vi1 < (vb2.length : Int)) (need ((vi1).toNat < vb2.length) (need ((!(((vb2.getD ((vi1).toNat) 0).toNat : Int) == (45 : Int))) = true → (!(((vb2.getD ((vi1).toNat) 0).toNat : Int) == (45 : Int))) = true) (need ((!(((vb2.getD ((vi1).toNat) 0).toNat : Int) == (45 : Int))) = true → (!(((vb2.getD ((vi1).toNat) 0).toNat : Int) == (45 : Int))) = true) (need ((!(((vb2.getD ((vi1).toNat) 0).toNat : Int) == (45 : Int))) = true → 0 ≤ vi1 ∧ vi1 < (vb2.length : Int)) (need ((!(((vb2.getD ((vi1).toNat) 0).toNat : Int) == (45 : Int))) = true → (!(((vb2.getD ((vi1).toNat) 0).toNat : Int) == (45 : Int))) = true) (need ((!(((vb2.getD ((vi1).toNat) 0).toNat : Int) == (45 : Int))) = true → (vi1).toNat < vb2.length) (need ((!(((vb2.getD ((vi1).toNat) 0).toNat : Int) == (45 : Int))) = true → (!(((vb2.getD ((vi1).toNat) 0).toNat : Int) == (45 : Int))) = true) (need ((((vb2.getD ((vi1).toNat) 0).toNat : Int) == (45 : Int)) = false → (!(((vb2.getD ((vi1).toNat) 0).toNat : Int) == (45 : Int))) = true) (need ((!((((vb2.getD ((vi1).toNat) 0).toNat : Int) == (45 : Int)) || (((vb2.getD ((vi1).toNat) 0).toNat : Int) == (10 : Int)))) = true → (!((((vb2.getD ((vi1).toNat) 0).toNat : Int) == (45 : Int)) || (((vb2.getD ((vi1).toNat) 0).toNat : Int) == (10 : Int)))) = true) (need ((!((((vb2.getD ((vi1).toNat) 0).toNat : Int) == (45 : Int)) || (((vb2.getD ((vi1).toNat) 0).toNat : Int) == (10 : Int)))) = true → (!((((vb2.getD ((vi1).toNat) 0).toNat : Int) == (45 : Int)) || (((vb2.getD ((vi1).toNat) 0).toNat : Int) == (10 : Int)))) = true) (need ((!((((vb2.getD ((vi1).toNat) 0).toNat : Int) == (45 : Int)) || (((vb2.getD ((vi1).toNat) 0).toNat : Int) == (10 : Int)))) = true → 0 ≤ vi1 ∧ vi1 < (vb2.length : Int)) (need ((!((((vb2.getD ((vi1).toNat) 0).toNat : Int) == (45 : Int)) || (((vb2.getD ((vi1).toNat) 0).toNat : Int) == (10 : Int)))) = true → (!((((vb2.getD ((vi1).toNat) 0).toNat : Int) == (45 : Int)) || (((vb2.getD ((vi1).toNat) 0).toNat : Int) == (10 : Int)))) = true) (need ((!((((vb2.getD ((vi1).toNat) 0).toNat : Int) == (45 : Int)) || (((vb2.getD ((vi1).toNat) 0).toNat : Int) == (10 : Int)))) = true → (vi1).toNat < vb2.length) (need ((!((((vb2.getD ((vi1).toNat) 0).toNat : Int) == (45 : Int)) || (((vb2.getD ((vi1).toNat) 0).toNat : Int) == (10 : Int)))) = true → (!((((vb2.getD ((vi1).toNat) 0).toNat : Int) == (45 : Int)) || (((vb2.getD ((vi1).toNat) 0).toNat : Int) == (10 : Int)))) = true) (need (((((vb2.getD ((vi1).toNat) 0).toNat : Int) == (45 : Int)) || (((vb2.getD ((vi1).toNat) 0).toNat : Int) == (10 : Int))) = false → (!((((vb2.getD ((vi1).toNat) 0).toNat : Int) == (45 : Int)) || (((vb2.getD ((vi1).toNat) 0).toNat : Int) == (10 : Int)))) = true) (Bclean_2 F f1 vi1 (((((vb2.getD ((vi1).toNat) 0).toNat : Int) == (45 : Int)) || (((vb2.getD ((vi1).toNat) 0).toNat : Int) == (10 : Int))) || (((vb2.getD ((vi1).toNat) 0).toNat : Int) == (13 : Int))) vb2))))))))))))))))) (some (.p (.str vb2), [])) by kernel_rfl) (cond_congr (need_congr (need_congr (need_strike (show (!(((vb2.getD ((vi1).toNat) 0).toNat : Int) == (45 : Int))) = true → (!(((vb2.getD ((vi1).toNat) 0).toNat : Int) == (45 : Int))) = true from (fun q0 => q0)) (need_strike (show (!(((vb2.getD ((vi1).toNat) 0).toNat : Int) == (45 : Int))) = true → (!(((vb2.getD ((vi1).toNat) 0).toNat : Int) == (45 : Int))) = true from (fun q0 => q0)) (need_congr (need_strike (show (!(((vb2.getD ((vi1).toNat) 0).toNat : Int) == (45 : Int))) = true → (!(((vb2.getD ((vi1).toNat) 0).toNat : Int) == (45 : Int))) = true from (fun q0 => q0)) (need_congr (need_strike (show (!(((vb2.getD ((vi1).toNat) 0).toNat : Int) == (45 : Int))) = true → (!(((vb2.getD ((vi1).toNat) 0).toNat : Int) == (45 : Int))) = true from (fun q0 => q0)) (need_strike (show (((vb2.getD ((vi1).toNat) 0).toNat : Int) == (45 : Int)) = false → (!(((vb2.getD ((vi1).toNat) 0).toNat : Int) == (45 : Int))) = true from (fun q0 => (not_mk q0))) (need_strike (show (!((((vb2.getD ((vi1).toNat) 0).toNat : Int) == (45 : Int)) || (((vb2.getD ((vi1).toNat) 0).toNat : Int) == (10 : Int)))) = true → (!((((vb2.getD ((vi1).toNat) 0).toNat : Int) == (45 : Int)) || (((vb2.getD ((vi1).toNat) 0).toNat : Int) == (10 : Int)))) = true from (fun q0 => q0)) (need_strike (show (!((((vb2.getD ((vi1).toNat) 0).toNat : Int) == (45 : Int)) || (((vb2.getD ((vi1).toNat) 0).toNat : Int) == (10 : Int)))) = true → (!((((vb2.getD ((vi1).toNat) 0).toNat : Int) == (45 : Int)) || (((vb2.getD ((vi1).toNat) 0).toNat : Int) == (10 : Int)))) = true from (fun q0 => q0)) (need_congr (need_strike (show (!((((vb2.getD ((vi1).toNat) 0).toNat : Int) == (45 : Int)) || (((vb2.getD ((vi1).toNat) 0).toNat : Int) == (10 : Int)))) = true → (!((((vb2.getD ((vi1).toNat) 0).toNat : Int) == (45 : Int)) || (((vb2.getD ((vi1).toNat) 0).toNat : Int) == (10 : Int)))) = true from (fun q0 => q0)) (need_congr (need_strike (show (!((((vb2.getD ((vi1).toNat) 0).toNat : Int) == (45 : Int)) || (((vb2.getD ((vi1).toNat) 0).toNat : Int) == (10 : Int)))) = true → (!((((vb2.getD ((vi1).toNat) 0).toNat : Int) == (45 : Int)) || (((vb2.getD ((vi1).toNat) 0).toNat : Int) == (10 : Int)))) = true from (fun q0 => q0)) (need_strike (show ((((vb2.getD ((vi1).toNat) 0).toNat : Int) == (45 : Int)) || (((vb2.getD ((vi1).toNat) 0).toNat : Int) == (10 : Int))) = false → (!((((vb2.getD ((vi1).toNat) 0).toNat : Int) == (45 : Int)) || (((vb2.getD ((vi1).toNat) 0).toNat : Int) == (10 : Int)))) = true from (fun q0 => (not_mk q0))) (rfl))))))))))))))))) (rfl))

theorem Bclean_2_eq (F f1 : Nat) (vi1 : Int) (vc3 : Bool) (vb2 : List UInt8) : Bclean_2 F f1 vi1 vc3 vb2 = cond (vc3) (need (0 ≤ vi1 ∧ vi1 < (vb2.length : Int)) (need ((vi1).toNat < vb2.length) (Bclean_3 F f1 vi1 (vb2.set ((vi1).toNat) (UInt8.ofNat ((46 : Int)).toNat))))) (Bclean_3 F f1 vi1 vb2) := by kernel_rfl

theorem Bclean_3_eq (F f1 : Nat) (vi1 : Int) (vb4 : List UInt8) : Bclean_3 F f1 vi1 vb4 = need (i64ok (vi1 + (1 : Int))) (Bclean_1 F f1 (vi1 + (1 : Int)) vb4) := by kernel_rfl

theorem Fclean_eq (F : Nat) (s : List UInt8) : Fclean F s = Bclean_1 F F (0 : Int) s := by kernel_rfl

theorem fn_clean (F : Nat) (s : List UInt8) (r : AV) (h : (∃ M vs, ARels γ0 M [.p (.str s)] vs) → Fclean F s = some (r, [])) : FnP Tryz.prog 18 [.p (.str s)] r :=
  FnP_run Gclean F rfl (EnvOk_mk (l := []) trivial) (EnvROk_mk (l := []) trivial) (Checked.mixed Tryz.checked) (fn := Tryz.f18) (by kernel_rfl) (by kernel_rfl) rfl h
theorem Bclean_spec (F : Nat) : ∀ (t u : List UInt8) (f : Nat), t.length < f → u.length + t.length ≤ 1000000 → Bclean_1 F f (u.length : Int) (cleanS u ++ t) = some (.p (.str (cleanS (u ++ t))), []) := by
  intro t
  induction t with
  | nil =>
    intro u f hf hl
    cases f with
    | zero => omega
    | succ f =>
      rw [Bclean_1_eq]
      exact cond_f (by simp [cleanS]) (by simp)
  | cons c r ih =>
    intro u f hf hl
    cases f with
    | zero => omega
    | succ f =>
      have hul := cleanS_len u
      simp only [List.length_cons] at hf hl
      have hlen : (cleanS u ++ c :: r).length = u.length + 1 + r.length := by rw [List.length_append, hul, List.length_cons]; omega
      have hg : (cleanS u ++ c :: r).getD u.length 0 = c := by rw [← hul]; simp
      have nxt := ih (u ++ [c]) f (by omega) (by simp; omega)
      have hcl : cleanS (u ++ [c]) ++ r = cleanS u ++ cl1 c :: r := by simp [cleanS]
      rw [hcl, List.append_assoc, List.singleton_append, show ((u ++ [c]).length : Int) = (u.length : Int) + 1 by simp] at nxt
      rw [Bclean_1_eq, Int.toNat_natCast, hg]
      refine cond_t (by simp; omega) (need_mk ⟨by omega, by omega⟩ (need_mk (by omega) (need_mk (fun _ => ⟨by omega, by omega⟩) (need_mk (fun _ => by omega) (need_mk (fun _ => ⟨by omega, by omega⟩) (need_mk (fun _ => by omega) ?_))))))
      have hb : ((((c.toNat : Int) == (45 : Int)) || ((c.toNat : Int) == (10 : Int))) || ((c.toNat : Int) == (13 : Int))) = decide (c = 45 ∨ c = 10 ∨ c = 13) := by
        have h : ∀ n : Fin 256, (((((UInt8.ofNat n.val).toNat : Int) == (45 : Int)) || (((UInt8.ofNat n.val).toNat : Int) == (10 : Int))) || (((UInt8.ofNat n.val).toNat : Int) == (13 : Int))) = decide ((UInt8.ofNat n.val) = 45 ∨ (UInt8.ofNat n.val) = 10 ∨ (UInt8.ofNat n.val) = 13) := by decide +kernel
        have := h ⟨c.toNat, c.toNat_lt⟩
        simpa using this
      rw [hb, Bclean_2_eq]
      by_cases hc : c = 45 ∨ c = 10 ∨ c = 13
      · have e : cl1 c = 46 := by unfold cl1; rw [if_pos hc]
        rw [e] at nxt
        refine cond_t (by simpa using hc) (need_mk ⟨by omega, by omega⟩ (need_mk (by rw [Int.toNat_natCast]; omega) ?_))
        have hs : (cleanS u ++ c :: r).set u.length (UInt8.ofNat ((46 : Int)).toNat) = cleanS u ++ 46 :: r := by rw [← hul]; simp
        rw [Int.toNat_natCast, hs, Bclean_3_eq]
        exact need_mk (by unfold i64ok; omega) nxt
      · have e : cl1 c = c := by unfold cl1; rw [if_neg hc]
        rw [e] at nxt
        refine cond_f (by simpa using hc) ?_
        rw [Bclean_3_eq]
        exact need_mk (by unfold i64ok; omega) nxt
theorem clean_eq (s : List UInt8) (hs : s.length ≤ 1000000) : Fclean (s.length + 1) s = some (.p (.str (cleanS s)), []) := by
  rw [Fclean_eq]
  exact Bclean_spec _ s [] (s.length + 1) (by omega) (by simpa using hs)
def sp_clean : List AV → Option (AV × Option Prop)
  | [.p (.str s)] => some (.p (.str (cleanS s)), some (s.length ≤ 1000000))
  | _ => none
theorem ok_clean : SpecOk Tryz.prog 18 sp_clean := by
  intro zs r ok he hok
  unfold sp_clean at he
  split at he
  · cases he; exact ⟨by kernel_rfl, fn_clean (_) _ _ fun hx => clean_eq _ hok⟩
  · cases he
/-! ### Lines -/
/-- a line's end -/
def isNl (e : List UInt8) : Prop := e = [10] ∨ e = [13, 10]
/-- a line: no end in it -/
def isLn (l : List UInt8) : Prop := ∀ c ∈ l, c ≠ 10 ∧ c ≠ 13
theorem isLn_clean (s : List UInt8) : isLn (cleanS s) := fun c h => (cleanS_ok s c h).2
theorem trim_no13 {l : List UInt8} (h : isLn l) : trimSuf l [13] = l := by
  rw [trimSuf_cr, if_neg]
  rintro ⟨h1, h2⟩
  have := List.length_pos_iff.2 h1
  exact (h _ (getD_mem (show l.length - 1 < l.length by omega) 0)).2 h2
theorem trim_13 {l : List UInt8} : trimSuf (l ++ [13]) [13] = l := by
  rw [trimSuf_cr, if_pos ⟨by simp, by simp⟩]
  simp
theorem line_step {e l : List UInt8} (he : isNl e) (hl : isLn l) (a : Nat) (q : List UInt8) : lnF [] a (l ++ (e ++ q)) = (a, l, a + (l.length + e.length)) :: lnF [] (a + (l.length + e.length)) q := by
  rcases he with rfl | rfl
  · have := lnF_nl (q := q) [] a (p := l) (fun x h => (hl x h).1)
    rw [List.nil_append, trim_no13 hl] at this
    exact this
  · have := lnF_nl (q := q) [] a (p := l ++ [13]) (fun x h => by
      rcases List.mem_append.1 h with h | h
      · exact (hl x h).1
      · rw [List.mem_singleton.1 h]; decide)
    rw [List.nil_append, trim_13] at this
    rw [show l ++ ([13, 10] ++ q) = (l ++ [13]) ++ 10 :: q by simp, this]
    simp only [List.length_append, List.length_cons, List.length_nil, Nat.add_assoc]
theorem getD_left {l r : List UInt8} {i : Nat} (h : i < l.length) : (l ++ r).getD i 0 = l.getD i 0 := by
  rw [List.getD_eq_getElem?_getD, List.getD_eq_getElem?_getD, List.getElem?_append_left h]
theorem getD_right {l r : List UInt8} {i : Nat} : (l ++ r).getD (l.length + i) 0 = r.getD i 0 := by
  rw [List.getD_eq_getElem?_getD, List.getD_eq_getElem?_getD, List.getElem?_append_right (by omega)]
  congr 2; omega
/-- Ahead of a line's end. -/
theorem ahead_end {e Q T : List UInt8} (he : isNl e) (h13 : e = [10] → Q.getD (Q.length - 1) 0 ≠ 13) : aheadN (Q ++ (e ++ T)) (Q.length + e.length) = Q.length := by
  unfold aheadN
  rcases he with rfl | rfl
  · have g1 : (Q ++ ([10] ++ T)).getD (Q.length + 1 - 1) 0 = 10 := by simp
    rw [List.length_singleton, if_pos ⟨by omega, g1⟩, if_neg]
    · omega
    · rintro ⟨h1, h2⟩
      refine h13 rfl ?_
      have : (Q ++ ([10] ++ T)).getD (Q.length + 1 - 1 - 1) 0 = Q.getD (Q.length - 1) 0 := by
        rw [show Q.length + 1 - 1 - 1 = Q.length - 1 by omega, getD_left (by omega)]
      rw [← this]; exact h2
  · have g1 : (Q ++ ([13, 10] ++ T)).getD (Q.length + 2 - 1) 0 = 10 := by
      rw [show Q.length + 2 - 1 = Q.length + 1 by omega, getD_right]; rfl
    have g2 : (Q ++ ([13, 10] ++ T)).getD (Q.length + 2 - 1 - 1) 0 = 13 := by
      rw [show Q.length + 2 - 1 - 1 = Q.length + 0 by omega, getD_right]; rfl
    rw [show ([13, 10] : List UInt8).length = 2 from rfl, if_pos ⟨by omega, g1⟩, if_pos ⟨by omega, g2⟩]
    omega
theorem maxN_right {a b : Nat} (h : a ≤ b) : maxN a b = b := by unfold maxN; split <;> omega
/-- A part of a text's middle. -/
theorem mid_take {Q M T : List UInt8} : ((Q ++ (M ++ T)).take (Q.length + M.length)).drop Q.length = M := by
  rw [List.take_length_add_append, List.drop_left, List.take_left]
theorem mid_lines {Q M T : List UInt8} : linesN (Q ++ (M ++ T)) Q.length (Q.length + M.length) = lnF [] Q.length M := by unfold linesN; rw [mid_take]
theorem mid_split {Q M T : List UInt8} {a b : Int} (ha : a = (Q.length : Nat)) (hb : b = ((Q.length + M.length : Nat) : Int)) : splitS (Q ++ (M ++ T)) a b = (fieldsS (gathS (lnF [] Q.length M) b []).1, (gathS (lnF [] Q.length M) b []).2) := by
  unfold splitS
  rw [if_neg (by simp; omega), ha, hb, Int.toNat_natCast, Int.toNat_natCast, mid_lines]
/-- Not a mark. -/
theorem not_mark {m l : List UInt8} (hm : m ≠ []) (h : ∀ c ∈ l, c ≠ 45) : trimRB l ≠ ([45, 45] ++ m) ++ [45, 45] ∧ trimRB l ≠ [45, 45] ++ m := by
  have hmem : ∀ c ∈ trimRB l, c ≠ 45 := by
    intro c hc
    unfold trimRB at hc
    rw [List.mem_reverse] at hc
    have := (List.dropWhile_sublist (p := isBl2) (l := l.reverse)).subset hc
    exact h c (List.mem_reverse.1 this)
  constructor
  · intro q
    exact hmem 45 (by rw [q]; simp) rfl
  · intro q
    exact hmem 45 (by rw [q]; simp) rfl
end Go.Proofs.YtoanepondbagcaaGreatDoor
namespace Go.Proofs.YtoanepondbagcaaGreatDoor
open Go Go.Am
set_option linter.unusedVariables false
/-! Parts that are put together. -/
def clo (op : Option Nat) (x : Nat) : List (Nat × Nat) := match op with
  | some o => [(o, x)]
  | none => []
theorem addS_clo {s : List UInt8} {op : Option Nat} {p x : Nat} (h : ∀ o, op = some o → o ≤ x ∧ aheadN s p = x) (out : List (Nat × Nat)) : addS s op p out = out ++ clo op x := by
  unfold addS clo
  cases op with
  | none => simp
  | some o =>
    obtain ⟨h1, h2⟩ := h o rfl
    dsimp only
    rw [h2, maxN_right h1]
def okB (b : List UInt8) : Prop := isLn b ∧ ∀ c ∈ b, c ≠ 45
theorem isLn_of {l : List UInt8} (h : l.all (fun c => c != 10 && c != 13) = true) : isLn l := fun c hc => by
  have := List.all_eq_true.1 h c hc
  simp only [Bool.and_eq_true, bne_iff_ne] at this
  exact this
/-- what stands ahead of a line's end after a line is no CR -/
theorem last_ok {e P b : List UInt8} (hb : isLn b) (h : e = [10]) : (P ++ (e ++ b)).getD ((P ++ (e ++ b)).length - 1) 0 ≠ 13 := by
  subst h
  by_cases hb0 : b = []
  · subst hb0
    have : (P ++ ([10] ++ ([] : List UInt8))).getD ((P ++ ([10] ++ ([] : List UInt8))).length - 1) 0 = 10 := by simp
    rw [this]; decide
  · have hl := List.length_pos_iff.2 hb0
    have e1 : (P ++ ([10] ++ b)).length - 1 = (P ++ [10]).length + (b.length - 1) := by simp; omega
    rw [e1, show P ++ ([10] ++ b) = (P ++ [10]) ++ b by simp, getD_right]
    exact (hb _ (getD_mem (show b.length - 1 < b.length by omega) 0)).2
theorem kid_tree {s : List UInt8} {x y : Int} {n : Int} {d : Nat} {e : Int} {enc : List UInt8} {at_ : Bool} {hd f t : Int} (h : oneP s x y = Part.mk textP [] enc at_ hd f t []) : treeP e s (d + 1) x y n = (Part.mk textP [] enc at_ hd f t [], n) := by
  rw [treeP, if_pos (by unfold markP; rw [h]; rfl), h]
end Go.Proofs.YtoanepondbagcaaGreatDoor
