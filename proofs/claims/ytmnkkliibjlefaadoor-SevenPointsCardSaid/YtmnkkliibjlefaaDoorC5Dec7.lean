/-
  Lifted functions, and facts about them.
-/
import Derived.Test.YtmnkkliibjlefaaDoorRows
import Derived.Test.YtmnkkliibjlefaaDoorAmC
import Derived.Test.YtmnkkliibjlefaaDoorC5Points
import Derived.Test.YtmnkkliibjlefaaDoorC5CutF
namespace Go.Proofs.YtmnkkliibjlefaaDoor
open Go Go.Am
set_option linter.unusedVariables false
/-! utf7.Decode, and the document's. -/
def sayP (l : List UInt8) : List UInt8 := if l = [] then [38] else pointsS (looseB (repS l 44 47))
def rawM : Option (List UInt8) → List UInt8 → List UInt8
  | none, [] => []
  | none, c :: r => if c = 38 then rawM (some []) r else c :: rawM none r
  | some l, [] => sayP l
  | some l, c :: r => if c = 45 then sayP l ++ rawM none r else rawM (some (l ++ [c])) r
def sayR (l : List UInt8) : List UInt8 := if l = [] then [38] else rrowS l
def refM : Option (List UInt8) → List UInt8 → Option (List UInt8)
  | none, [] => some []
  | none, c :: r => if c = 38 then refM (some []) r else (refM none r).map (c :: ·)
  | some _, [] => none
  | some l, c :: r => if c = 45 then (refM none r).map (sayR l ++ ·) else refM (some (l ++ [c])) r
theorem rawM_plain {q : List UInt8} : ∀ {p : List UInt8}, (∀ x ∈ p, x ≠ 38) → rawM none (p ++ q) = p ++ rawM none q
  | [], _ => rfl
  | c :: p, h => by rw [List.cons_append, rawM, if_neg (h c (by simp)), rawM_plain (fun x hx => h x (List.mem_cons_of_mem _ hx))]; rfl
theorem rawM_amp (r : List UInt8) : rawM none (38 :: r) = rawM (some []) r := by rw [rawM, if_pos rfl]
theorem rawM_row {q : List UInt8} : ∀ {p : List UInt8} (l : List UInt8), (∀ x ∈ p, x ≠ 45) → rawM (some l) (p ++ 45 :: q) = sayP (l ++ p) ++ rawM none q
  | [], l, _ => by rw [List.nil_append, rawM, if_pos rfl, List.append_nil]
  | c :: p, l, h => by rw [List.cons_append, rawM, if_neg (h c (by simp)), rawM_row _ (fun x hx => h x (List.mem_cons_of_mem _ hx)), List.append_assoc]; rfl
theorem rawM_open : ∀ {p : List UInt8} (l : List UInt8), (∀ x ∈ p, x ≠ 45) → rawM (some l) p = sayP (l ++ p)
  | [], l, _ => by rw [rawM, List.append_nil]
  | c :: p, l, h => by rw [rawM, if_neg (h c (by simp)), rawM_open _ (fun x hx => h x (List.mem_cons_of_mem _ hx)), List.append_assoc]; rfl
theorem refM_amp (r : List UInt8) : refM none (38 :: r) = refM (some []) r := by rw [refM, if_pos rfl]
theorem refM_cons {c : UInt8} (h : c ≠ 38) (r : List UInt8) : refM none (c :: r) = (refM none r).map (c :: ·) := by rw [refM, if_neg h]
theorem refM_row {q : List UInt8} : ∀ {p : List UInt8} (l : List UInt8), (∀ x ∈ p, x ≠ 45) → refM (some l) (p ++ 45 :: q) = (refM none q).map (sayR (l ++ p) ++ ·)
  | [], l, _ => by rw [List.nil_append, refM, if_pos rfl, List.append_nil]
  | c :: p, l, h => by rw [List.cons_append, refM, if_neg (h c (by simp)), refM_row _ (fun x hx => h x (List.mem_cons_of_mem _ hx)), List.append_assoc]; rfl
theorem refM_open : ∀ {p : List UInt8} (l : List UInt8), (∀ x ∈ p, x ≠ 45) → refM (some l) p = none
  | [], l, _ => by rw [refM]
  | c :: p, l, h => by rw [refM, if_neg (h c (by simp)), refM_open _ (fun x hx => h x (List.mem_cons_of_mem _ hx))]
theorem sayP_len (l : List UInt8) : (sayP l).length ≤ 6 * l.length + 4 := by
  unfold sayP
  split
  · simp
  · have h1 := points_len _ (looseB (repS l 44 47)) (Nat.le_refl _)
    have h2 := looseG_len (repS l 44 47) 0 0
    rw [repl_len] at h2
    unfold looseB at *; omega
theorem sayR_len (l : List UInt8) : (sayR l).length ≤ 6 * l.length + 4 := by
  unfold sayR rrowS
  split
  · simp
  · have h1 := rrowP_len _ (looseB (repS l 44 47)) (Nat.le_refl _)
    have h2 := looseG_len (repS l 44 47) 0 0
    rw [repl_len] at h2
    unfold looseB at *; omega
def fin7 (s o : List UInt8) : List UInt8 × Int := if enc7S o = (s, 0) then (o, 0) else ([], 3)
def dec7S (s : List UInt8) : List UInt8 × Int := fin7 s (rawM none s)
theorem fin7_no {s o : List UInt8} : (((enc7S o).2 != (0 : Int)) || ((enc7S o).1 != s)) = !decide (enc7S o = (s, 0)) := by
  cases h : enc7S o with
  | mk a b =>
    dsimp only
    by_cases h1 : b = 0
    · by_cases h2 : a = s
      · simp [h1, h2]
      · simp [h1, h2]
    · simp [h1]
noncomputable def cdec7 : Code := bodyOf Tryd.f14

noncomputable def Gdec7 : Cfg := ⟨Tryd.prog, mkEnv [(11, sp_enc7), (27, sp_cut), (28, sp_points), (29, sp_Loose), (30, sp_repa)], mkEnvR [], 56, [], [([0, 0, 1, 1], ⟨[0, 4, 5], []⟩), ([1, 1, 1, 1, 1, 0, 0, 0, 0, 1, 1], ⟨[0, 4, 10], []⟩), ([1, 0, 1, 1, 1, 1], ⟨[4, 54], []⟩)], []⟩

noncomputable def Bdec7_1 (F f1 : Nat) (s : List UInt8) (vs1 : List UInt8) (vs2 : List UInt8) : Option Ans := runR Gdec7 cdec7 (kP Tryd.prog Tryd.f14.results.toList) F [] [1, 1, 0, 0] f1 [(0, .p (.str s)), (4, .p (.str vs1)), (5, .p (.str vs2))] []

noncomputable def Bdec7_2 (F : Nat) (vs3 : List UInt8) (vc4 : Bool) : Option Ans := runB Gdec7 cdec7 (kP Tryd.prog Tryd.f14.results.toList) F [] [1, 1, 1, 1, 0, 1] [(4, .p (.str vs3)), (54, .p (.bool vc4))] []

noncomputable def Bdec7_3 (F f1 : Nat) (s : List UInt8) (vs5 : List UInt8) (vs6 : List UInt8) : Option Ans := runB Gdec7 cdec7 (kP Tryd.prog Tryd.f14.results.toList) F [f1] [1, 1, 0, 0, 0, 0, 1, 1, 1, 1, 1] [(0, .p (.str s)), (4, .p (.str vs5)), (10, .p (.str vs6))] []

noncomputable def Fdec7 (F : Nat) (s : List UInt8) : Option Ans := runF Gdec7 Tryd.f14 F [.p (.str s)]

theorem Bdec7_1_eq (F f1 : Nat) (s : List UInt8) (vs1 : List UInt8) (vs2 : List UInt8) : Bdec7_1 F (f1 + 1) s vs1 vs2 = need (vs2.length ≤ 1000000) (need (lenok (vs1.length + ((cutS vs2 38).1).length)) (cond (!((cutS vs2 38).2.2)) (need ((vs1 ++ ((cutS vs2 38).1)).length ≤ 140000) ((((Bdec7_2 F (vs1 ++ ((cutS vs2 38).1)) ((((enc7S (vs1 ++ ((cutS vs2 38).1))).2) != (0 : Int)) || (((enc7S (vs1 ++ ((cutS vs2 38).1))).1) != s))))))) (need (((cutS vs2 38).2.1).length ≤ 1000000) (cond (((cutS ((cutS vs2 38).2.1) 45).1) == ([] : List UInt8)) (need (lenok ((vs1 ++ ((cutS vs2 38).1)).length + ([38] : List UInt8).length)) (Bdec7_3 F f1 s ((vs1 ++ ((cutS vs2 38).1)) ++ ([38] : List UInt8)) ((cutS ((cutS vs2 38).2.1) 45).2.1))) (need (((cutS ((cutS vs2 38).2.1) 45).1).length ≤ 1000000) (need ((repS ((cutS ((cutS vs2 38).2.1) 45).1) 44 47).length ≤ 1000000) (need ((looseB (repS ((cutS ((cutS vs2 38).2.1) 45).1) 44 47)).length ≤ 1000000) (need (lenok ((vs1 ++ ((cutS vs2 38).1)).length + (pointsS (looseB (repS ((cutS ((cutS vs2 38).2.1) 45).1) 44 47))).length)) (Bdec7_3 F f1 s ((vs1 ++ ((cutS vs2 38).1)) ++ (pointsS (looseB (repS ((cutS ((cutS vs2 38).2.1) 45).1) 44 47)))) ((cutS ((cutS vs2 38).2.1) 45).2.1)))))))))) := by
  have h : Bdec7_1 F (f1 + 1) s vs1 vs2 = need (vs2.length ≤ 1000000) (need (lenok (vs1.length + ((cutS vs2 38).1).length)) (cond (!((cutS vs2 38).2.2)) (need ((vs1 ++ ((cutS vs2 38).1)).length ≤ 140000) (need ((!(((enc7S (vs1 ++ ((cutS vs2 38).1))).2) != (0 : Int))) = true → (!(((enc7S (vs1 ++ ((cutS vs2 38).1))).2) != (0 : Int))) = true) (need ((!(((enc7S (vs1 ++ ((cutS vs2 38).1))).2) != (0 : Int))) = true → (!(((enc7S (vs1 ++ ((cutS vs2 38).1))).2) != (0 : Int))) = true) (need ((((enc7S (vs1 ++ ((cutS vs2 38).1))).2) != (0 : Int)) = false → (!(((enc7S (vs1 ++ ((cutS vs2 38).1))).2) != (0 : Int))) = true) (Bdec7_2 F (vs1 ++ ((cutS vs2 38).1)) ((((enc7S (vs1 ++ ((cutS vs2 38).1))).2) != (0 : Int)) || (((enc7S (vs1 ++ ((cutS vs2 38).1))).1) != s))))))) (need (((cutS vs2 38).2.1).length ≤ 1000000) (cond (((cutS ((cutS vs2 38).2.1) 45).1) == ([] : List UInt8)) (need (lenok ((vs1 ++ ((cutS vs2 38).1)).length + ([38] : List UInt8).length)) (Bdec7_3 F f1 s ((vs1 ++ ((cutS vs2 38).1)) ++ ([38] : List UInt8)) ((cutS ((cutS vs2 38).2.1) 45).2.1))) (need (((cutS ((cutS vs2 38).2.1) 45).1).length ≤ 1000000) (need ((repS ((cutS ((cutS vs2 38).2.1) 45).1) 44 47).length ≤ 1000000) (need ((looseB (repS ((cutS ((cutS vs2 38).2.1) 45).1) 44 47)).length ≤ 1000000) (need (lenok ((vs1 ++ ((cutS vs2 38).1)).length + (pointsS (looseB (repS ((cutS ((cutS vs2 38).2.1) 45).1) 44 47))).length)) (Bdec7_3 F f1 s ((vs1 ++ ((cutS vs2 38).1)) ++ (pointsS (looseB (repS ((cutS ((cutS vs2 38).2.1) 45).1) 44 47)))) ((cutS ((cutS vs2 38).2.1) 45).2.1)))))))))) := by kernel_rfl
  rw [h, need_pos (show (((enc7S (vs1 ++ ((cutS vs2 38).1))).2) != (0 : Int)) = false → (!(((enc7S (vs1 ++ ((cutS vs2 38).1))).2) != (0 : Int))) = true from (fun q0 => (not_mk q0))), need_pos (show (!(((enc7S (vs1 ++ ((cutS vs2 38).1))).2) != (0 : Int))) = true → (!(((enc7S (vs1 ++ ((cutS vs2 38).1))).2) != (0 : Int))) = true from (fun q0 => q0)), need_pos (show (!(((enc7S (vs1 ++ ((cutS vs2 38).1))).2) != (0 : Int))) = true → (!(((enc7S (vs1 ++ ((cutS vs2 38).1))).2) != (0 : Int))) = true from (fun q0 => q0))]

theorem Bdec7_2_eq (F : Nat) (vs3 : List UInt8) (vc4 : Bool) : Bdec7_2 F vs3 vc4 = cond (vc4) (some (.tup [.p (.str ([] : List UInt8)), .p (.int .i64 (3 : Int))], [])) (some (.tup [.p (.str vs3), .p (.int .i64 (0 : Int))], [])) := by kernel_rfl

theorem Bdec7_3_eq (F f1 : Nat) (s : List UInt8) (vs5 : List UInt8) (vs6 : List UInt8) : Bdec7_3 F f1 s vs5 vs6 = Bdec7_1 F f1 s vs5 vs6 := by kernel_rfl

theorem Fdec7_eq (F : Nat) (s : List UInt8) : Fdec7 F s = Bdec7_1 F F s ([] : List UInt8) s := by kernel_rfl

theorem fn_dec7 (F : Nat) (s : List UInt8) (r : AV) (h : (∃ M vs, ARels γ0 M [.p (.str s)] vs) → Fdec7 F s = some (r, [])) : FnP Tryd.prog 14 [.p (.str s)] r :=
  FnP_run Gdec7 F rfl (EnvOk_mk (l := [(11, sp_enc7), (27, sp_cut), (28, sp_points), (29, sp_Loose), (30, sp_repa)]) ⟨ok_enc7.any, ok_cut.any, ok_points.any, ok_Loose.any, ok_repa.any, trivial⟩) (EnvROk_mk (l := []) trivial) (Checked.mixed Tryd.checked) (fn := Tryd.f14) (by kernel_rfl) (by kernel_rfl) rfl h
theorem Bdec7_spec (F : Nat) (s : List UInt8) : ∀ (n : Nat) (r : List UInt8) (f : Nat) (acc : List UInt8), r.length ≤ n → n < f → acc.length + 6 * r.length ≤ 130000 →
    Bdec7_1 F f s acc r = some (.tup [.p (.str (fin7 s (acc ++ rawM none r)).1), .p (.int .i64 (fin7 s (acc ++ rawM none r)).2)], []) := by
  intro n
  induction n with
  | zero =>
    intro r f acc h hf ha
    have : r = [] := List.eq_nil_of_length_eq_zero (by omega)
    subst this
    cases f with
    | zero => omega
    | succ f =>
      rw [Bdec7_1_eq, show cutS [] 38 = ([], [], false) from rfl]
      refine need_mk (by simp) (need_mk (by unfold lenok; simp; omega) (cond_t rfl (need_mk (by simp; omega) ?_)))
      rw [Bdec7_2_eq, fin7_no]
      dsimp only
      rw [rawM, fin7]
      by_cases he : enc7S (acc ++ []) = (s, 0)
      · rw [if_pos he]; exact cond_f (by rw [decide_eq_true he]; rfl) rfl
      · rw [if_neg he]; exact cond_t (by rw [decide_eq_false he]; rfl) rfl
  | succ n ih =>
    intro r f acc h hf ha
    cases f with
    | zero => omega
    | succ f =>
      rw [Bdec7_1_eq]
      rcases cut_split 38 r with ⟨p, q, e, hp, hc⟩ | ⟨hn, hc⟩
      · have hl := congrArg List.length e
        simp only [List.length_append, List.length_cons] at hl
        rw [hc]
        dsimp only
        refine need_mk (by omega) (need_mk (by unfold lenok; omega) (cond_f rfl (need_mk (by omega) ?_)))
        have e1 : rawM none r = p ++ rawM (some []) q := by rw [e, rawM_plain hp, rawM_amp]
        rcases cut_split 45 q with ⟨l, t, e2, hl2, hc2⟩ | ⟨hn2, hc2⟩
        · have hll := congrArg List.length e2
          simp only [List.length_append, List.length_cons] at hll
          rw [hc2]
          dsimp only
          have e3 : rawM (some []) q = sayP l ++ rawM none t := by rw [e2, rawM_row _ hl2]; rfl
          have hsl := sayP_len l
          have go := ih t f (acc ++ p ++ sayP l) (by omega) (by omega) (by rw [List.length_append, List.length_append]; omega)
          rw [e1, e3, ← List.append_assoc, ← List.append_assoc]
          by_cases h0 : l = []
          · subst h0
            refine cond_t rfl (need_mk (by unfold lenok; simp; omega) ?_)
            rw [Bdec7_3_eq]
            exact go
          · have es : sayP l = pointsS (looseB (repS l 44 47)) := by rw [sayP, if_neg h0]
            rw [es] at hsl go ⊢
            have h2 := looseG_len (repS l 44 47) 0 0
            rw [repl_len] at h2
            refine cond_f (by simpa using h0) (need_mk (by omega) (need_mk (by rw [repl_len]; omega) (need_mk (by unfold looseB; omega) (need_mk (by unfold lenok; rw [List.length_append]; omega) ?_))))
            rw [Bdec7_3_eq]
            exact go
        · rw [hc2]
          dsimp only
          have e3 : rawM (some []) q = sayP q ++ rawM none [] := by rw [rawM_open _ hn2, rawM, List.append_nil]; rfl
          have hsl := sayP_len q
          have go := ih [] f (acc ++ p ++ sayP q) (by simp) (by omega) (by rw [List.length_append, List.length_append]; simp; omega)
          rw [e1, e3, ← List.append_assoc, ← List.append_assoc]
          by_cases h0 : q = []
          · subst h0
            refine cond_t rfl (need_mk (by unfold lenok; simp; omega) ?_)
            rw [Bdec7_3_eq]
            exact go
          · have es : sayP q = pointsS (looseB (repS q 44 47)) := by rw [sayP, if_neg h0]
            rw [es] at hsl go ⊢
            have h2 := looseG_len (repS q 44 47) 0 0
            rw [repl_len] at h2
            refine cond_f (by simpa using h0) (need_mk (by omega) (need_mk (by rw [repl_len]; omega) (need_mk (by unfold looseB; omega) (need_mk (by unfold lenok; rw [List.length_append]; omega) ?_))))
            rw [Bdec7_3_eq]
            exact go
      · rw [hc]
        dsimp only
        have e1 : rawM none r = r := by have := rawM_plain (q := []) hn; rw [List.append_nil, show rawM none [] = [] from rfl, List.append_nil] at this; exact this
        refine need_mk (by omega) (need_mk (by unfold lenok; omega) (cond_t rfl (need_mk (by simp; omega) ?_)))
        rw [Bdec7_2_eq, fin7_no, e1, fin7]
        by_cases he : enc7S (acc ++ r) = (s, 0)
        · rw [if_pos he]; exact cond_f (by rw [decide_eq_true he]; rfl) rfl
        · rw [if_neg he]; exact cond_t (by rw [decide_eq_false he]; rfl) rfl
theorem dec7_eq (s : List UInt8) (hs : s.length ≤ 20000) : Fdec7 (s.length + 1) s = some (.tup [.p (.str (dec7S s).1), .p (.int .i64 (dec7S s).2)], []) := by
  rw [Fdec7_eq]
  exact Bdec7_spec _ s s.length s _ [] (Nat.le_refl _) (by omega) (by simp; omega)
def sp_dec7 : List AV → Option (AV × Option Prop)
  | [.p (.str s)] => some (.tup [.p (.str ((dec7S s).1)), .p (.int .i64 ((dec7S s).2))], some (s.length ≤ 20000))
  | _ => none
theorem ok_dec7 : SpecOk Tryd.prog 14 sp_dec7 := by
  intro zs r ok he hok
  unfold sp_dec7 at he
  split at he
  · cases he; exact ⟨by kernel_rfl, fn_dec7 (_) _ _ fun hx => dec7_eq _ hok⟩
  · cases he
end Go.Proofs.YtmnkkliibjlefaaDoor
