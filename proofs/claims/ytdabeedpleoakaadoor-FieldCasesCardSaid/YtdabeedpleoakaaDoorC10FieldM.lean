/-
  Lifted functions, and facts about them.
-/
import Derived.Test.YtdabeedpleoakaaDoorRows
import Derived.Test.YtdabeedpleoakaaDoorAmC
import Derived.Test.YtdabeedpleoakaaDoorAmNeed
import Derived.Test.YtdabeedpleoakaaDoorC10FieldL
namespace Go.Proofs.YtdabeedpleoakaaDoor
open Go Go.Am
set_option linter.unusedVariables false
/-! Headers that are put together. -/
def plB (c : UInt8) : Bool := inName c && c != 58
def plainF (s : List UInt8) : List UInt8 := if s ≠ [] ∧ s.all plB = true then s else [45]
theorem plainF_ok (s : List UInt8) : plainF s ≠ [] ∧ (∀ x ∈ plainF s, plB x = true) ∧ (plainF s).length ≤ s.length + 1 := by
  unfold plainF
  split
  · rename_i h; exact ⟨h.1, fun x hx => List.all_eq_true.1 h.2 x hx, by omega⟩
  · exact ⟨by simp, fun x hx => by rw [List.mem_singleton.1 hx]; decide, by simp⟩
noncomputable def cplainf : Code := bodyOf Tryd.f13

noncomputable def Gplainf : Cfg := ⟨Tryd.prog, mkEnv [], mkEnvR [], 29, [], [([0, 1, 0, 1], ⟨[0, 3], []⟩), ([1, 0, 0, 1, 0, 0, 1, 0, 1], ⟨[0, 3, 25], []⟩)], []⟩

noncomputable def Bplainf_1 (F f1 : Nat) (s : List UInt8) (vi1 : Int) : Option Ans := runR Gplainf cplainf (kP Tryd.prog Tryd.f13.results.toList) F [] [1, 0, 1, 0] f1 [(0, .p (.str s)), (3, .p (.int .i64 vi1))] []

noncomputable def Bplainf_2 (F f1 : Nat) (s : List UInt8) (vi1 : Int) (vc2 : Bool) : Option Ans := runB Gplainf cplainf (kP Tryd.prog Tryd.f13.results.toList) F [f1] [1, 0, 1, 0, 0, 1, 0, 0, 1] [(0, .p (.str s)), (3, .p (.int .i64 vi1)), (25, .p (.bool vc2))] []

noncomputable def Fplainf (F : Nat) (s : List UInt8) : Option Ans := runF Gplainf Tryd.f13 F [.p (.str s)]

theorem Bplainf_1_eq (F f1 : Nat) (s : List UInt8) (vi1 : Int) : Bplainf_1 F (f1 + 1) s vi1 = cond (decide (vi1 < (s.length : Int))) (need (0 ≤ vi1 ∧ vi1 < (s.length : Int)) (need ((!(decide (((s.getD (vi1).toNat 0).toNat : Int) < (33 : Int)))) = true → 0 ≤ vi1 ∧ vi1 < (s.length : Int)) (need ((!((decide (((s.getD (vi1).toNat 0).toNat : Int) < (33 : Int))) || (decide (((s.getD (vi1).toNat 0).toNat : Int) > (126 : Int))))) = true → 0 ≤ vi1 ∧ vi1 < (s.length : Int)) (Bplainf_2 F f1 s vi1 (((decide (((s.getD (vi1).toNat 0).toNat : Int) < (33 : Int))) || (decide (((s.getD (vi1).toNat 0).toNat : Int) > (126 : Int)))) || (((s.getD (vi1).toNat 0).toNat : Int) == (58 : Int))))))) (cond (s == ([] : List UInt8)) (some (.p (.str ([45] : List UInt8)), [])) (some (.p (.str s), []))) :=
  Eq.trans (show Bplainf_1 F (f1 + 1) s vi1 = cond (decide (vi1 < (s.length : Int))) (need (0 ≤ vi1 ∧ vi1 < (s.length : Int)) (need ((!(decide (((s.getD (vi1).toNat 0).toNat : Int) < (33 : Int)))) = true → (!(decide (((s.getD (vi1).toNat 0).toNat : Int) < (33 : Int)))) = true) (need ((!(decide (((s.getD (vi1).toNat 0).toNat : Int) < (33 : Int)))) = true → (!(decide (((s.getD (vi1).toNat 0).toNat : Int) < (33 : Int)))) = true) (need ((!(decide (((s.getD (vi1).toNat 0).toNat : Int) < (33 : Int)))) = true → 0 ≤ vi1 ∧ vi1 < (s.length : Int)) (need ((!(decide (((s.getD (vi1).toNat 0).toNat : Int) < (33 : Int)))) = true → (!(decide (((s.getD (vi1).toNat 0).toNat : Int) < (33 : Int)))) = true) (need ((decide (((s.getD (vi1).toNat 0).toNat : Int) < (33 : Int))) = false → (!(decide (((s.getD (vi1).toNat 0).toNat : Int) < (33 : Int)))) = true) (need ((!((decide (((s.getD (vi1).toNat 0).toNat : Int) < (33 : Int))) || (decide (((s.getD (vi1).toNat 0).toNat : Int) > (126 : Int))))) = true → (!((decide (((s.getD (vi1).toNat 0).toNat : Int) < (33 : Int))) || (decide (((s.getD (vi1).toNat 0).toNat : Int) > (126 : Int))))) = true) (need ((!((decide (((s.getD (vi1).toNat 0).toNat : Int) < (33 : Int))) || (decide (((s.getD (vi1).toNat 0).toNat : Int) > (126 : Int))))) = true → (!((decide (((s.getD (vi1).toNat 0).toNat : Int) < (33 : Int))) || (decide (((s.getD (vi1).toNat 0).toNat : Int) > (126 : Int))))) = true) (need ((!((decide (((s.getD (vi1).toNat 0).toNat : Int) < (33 : Int))) || (decide (((s.getD (vi1).toNat 0).toNat : Int) > (126 : Int))))) = true → 0 ≤ vi1 ∧ vi1 < (s.length : Int)) (need ((!((decide (((s.getD (vi1).toNat 0).toNat : Int) < (33 : Int))) || (decide (((s.getD (vi1).toNat 0).toNat : Int) > (126 : Int))))) = true → (!((decide (((s.getD (vi1).toNat 0).toNat : Int) < (33 : Int))) || (decide (((s.getD (vi1).toNat 0).toNat : Int) > (126 : Int))))) = true) (need (((decide (((s.getD (vi1).toNat 0).toNat : Int) < (33 : Int))) || (decide (((s.getD (vi1).toNat 0).toNat : Int) > (126 : Int)))) = false → (!((decide (((s.getD (vi1).toNat 0).toNat : Int) < (33 : Int))) || (decide (((s.getD (vi1).toNat 0).toNat : Int) > (126 : Int))))) = true) (Bplainf_2 F f1 s vi1 (((decide (((s.getD (vi1).toNat 0).toNat : Int) < (33 : Int))) || (decide (((s.getD (vi1).toNat 0).toNat : Int) > (126 : Int)))) || (((s.getD (vi1).toNat 0).toNat : Int) == (58 : Int))))))))))))))) (cond (s == ([] : List UInt8)) (some (.p (.str ([45] : List UInt8)), [])) (some (.p (.str s), []))) by kernel_rfl) (cond_congr (need_congr (need_strike (show (!(decide (((s.getD (vi1).toNat 0).toNat : Int) < (33 : Int)))) = true → (!(decide (((s.getD (vi1).toNat 0).toNat : Int) < (33 : Int)))) = true from (fun q0 => q0)) (need_strike (show (!(decide (((s.getD (vi1).toNat 0).toNat : Int) < (33 : Int)))) = true → (!(decide (((s.getD (vi1).toNat 0).toNat : Int) < (33 : Int)))) = true from (fun q0 => q0)) (need_congr (need_strike (show (!(decide (((s.getD (vi1).toNat 0).toNat : Int) < (33 : Int)))) = true → (!(decide (((s.getD (vi1).toNat 0).toNat : Int) < (33 : Int)))) = true from (fun q0 => q0)) (need_strike (show (decide (((s.getD (vi1).toNat 0).toNat : Int) < (33 : Int))) = false → (!(decide (((s.getD (vi1).toNat 0).toNat : Int) < (33 : Int)))) = true from (fun q0 => (not_mk q0))) (need_strike (show (!((decide (((s.getD (vi1).toNat 0).toNat : Int) < (33 : Int))) || (decide (((s.getD (vi1).toNat 0).toNat : Int) > (126 : Int))))) = true → (!((decide (((s.getD (vi1).toNat 0).toNat : Int) < (33 : Int))) || (decide (((s.getD (vi1).toNat 0).toNat : Int) > (126 : Int))))) = true from (fun q0 => q0)) (need_strike (show (!((decide (((s.getD (vi1).toNat 0).toNat : Int) < (33 : Int))) || (decide (((s.getD (vi1).toNat 0).toNat : Int) > (126 : Int))))) = true → (!((decide (((s.getD (vi1).toNat 0).toNat : Int) < (33 : Int))) || (decide (((s.getD (vi1).toNat 0).toNat : Int) > (126 : Int))))) = true from (fun q0 => q0)) (need_congr (need_strike (show (!((decide (((s.getD (vi1).toNat 0).toNat : Int) < (33 : Int))) || (decide (((s.getD (vi1).toNat 0).toNat : Int) > (126 : Int))))) = true → (!((decide (((s.getD (vi1).toNat 0).toNat : Int) < (33 : Int))) || (decide (((s.getD (vi1).toNat 0).toNat : Int) > (126 : Int))))) = true from (fun q0 => q0)) (need_strike (show ((decide (((s.getD (vi1).toNat 0).toNat : Int) < (33 : Int))) || (decide (((s.getD (vi1).toNat 0).toNat : Int) > (126 : Int)))) = false → (!((decide (((s.getD (vi1).toNat 0).toNat : Int) < (33 : Int))) || (decide (((s.getD (vi1).toNat 0).toNat : Int) > (126 : Int))))) = true from (fun q0 => (not_mk q0))) (rfl)))))))))))) (rfl))

theorem Bplainf_2_eq (F f1 : Nat) (s : List UInt8) (vi1 : Int) (vc2 : Bool) : Bplainf_2 F f1 s vi1 vc2 = cond (vc2) (some (.p (.str ([45] : List UInt8)), [])) (need (i64ok (vi1 + (1 : Int))) (Bplainf_1 F f1 s (vi1 + (1 : Int)))) := by kernel_rfl

theorem Fplainf_eq (F : Nat) (s : List UInt8) : Fplainf F s = Bplainf_1 F F s (0 : Int) := by kernel_rfl

theorem fn_plainf (F : Nat) (s : List UInt8) (r : AV) (h : (∃ M vs, ARels γ0 M [.p (.str s)] vs) → Fplainf F s = some (r, [])) : FnP Tryd.prog 13 [.p (.str s)] r :=
  FnP_run Gplainf F rfl (EnvOk_mk (l := []) trivial) (EnvROk_mk (l := []) trivial) (Checked.mixed Tryd.checked) (fn := Tryd.f13) (by kernel_rfl) (by kernel_rfl) rfl h
theorem Bplainf_spec (F : Nat) (s : List UInt8) (hs : s.length ≤ 1000000) : ∀ (r : List UInt8) (f i : Nat), s.drop i = r → r.length < f → i ≤ s.length →
    Bplainf_1 F f s (i : Int) = some (.p (.str (if r.all plB = true then (if s = [] then [45] else s) else [45])), []) := by
  intro r
  induction r with
  | nil =>
    intro f i hd hf hi
    have : i = s.length := by have := congrArg List.length hd; simp at this; omega
    cases f with
    | zero => omega
    | succ f =>
      rw [Bplainf_1_eq, if_pos (show ([] : List UInt8).all plB = true from rfl)]
      refine cond_f (by simp; omega) ?_
      by_cases h0 : s = []
      · rw [if_pos h0]; exact cond_t (by simpa using h0) rfl
      · rw [if_neg h0]; exact cond_f (by simpa using h0) rfl
  | cons c r ih =>
    intro f i hd hf hi
    obtain ⟨h1, h2, h3⟩ := drop_cons hd
    cases f with
    | zero => omega
    | succ f =>
      rw [Bplainf_1_eq, Int.toNat_natCast, h1, nin_dec]
      refine cond_t (by simp; omega) (need_mk ⟨by omega, by omega⟩ (need_mk (fun _ => ⟨by omega, by omega⟩) (need_mk (fun _ => ⟨by omega, by omega⟩) ?_)))
      have e58 : ((c.toNat : Int) == (58 : Int)) = (c == 58) := by
        rw [Bool.eq_iff_iff, beq_iff_eq, beq_iff_eq]
        exact u8_eq (c := c) (d := 58)
      rw [Bplainf_2_eq, List.all_cons, e58]
      have hb : (!(inName c) || c == 58) = !(plB c) := by
        unfold plB; rw [Bool.not_and, bne, Bool.not_not]
      rw [hb]
      cases hc : plB c with
      | false => rw [Bool.false_and, if_neg (by simp)]; exact cond_t rfl rfl
      | true =>
        rw [Bool.true_and]
        refine cond_f rfl (need_mk (by unfold i64ok; omega) ?_)
        rw [show (i : Int) + 1 = ((i + 1 : Nat) : Int) by omega]
        exact ih f (i + 1) h2 (by simp at hf; omega) (by omega)
theorem plainf_eq (s : List UInt8) (hs : s.length ≤ 1000000) : Fplainf (s.length + 1) s = some (.p (.str (plainF s)), []) := by
  rw [Fplainf_eq]
  refine (Bplainf_spec _ s hs s (s.length + 1) 0 rfl (by omega) (by omega)).trans ?_
  unfold plainF
  cases h : s.all plB with
  | false => rw [if_neg (by simp), if_neg (by simp)]
  | true =>
    rw [if_pos rfl]
    by_cases h0 : s = []
    · rw [if_pos h0, if_neg (by simp [h0])]
    · rw [if_neg h0, if_pos ⟨h0, rfl⟩]
def sp_plainf : List AV → Option (AV × Option Prop)
  | [.p (.str s)] => some (.p (.str (plainF s)), some (s.length ≤ 1000000))
  | _ => none
theorem ok_plainf : SpecOk Tryd.prog 13 sp_plainf := by
  intro zs r ok he hok
  unfold sp_plainf at he
  split at he
  · cases he; exact ⟨by kernel_rfl, fn_plainf (_) _ _ fun hx => plainf_eq _ hok⟩
  · cases he
abbrev Ent := List UInt8 × List UInt8 × Bool
def more : List UInt8 := [9, 109, 111, 114, 101]
def hdr (e : List UInt8) (x : Ent) : List UInt8 := ((x.1 ++ [58, 32, 9]) ++ x.2.1) ++ (if x.2.2 = true then e ++ more else []) ++ e
def txt (x : Ent) : List UInt8 := (x.1 ++ [58, 32, 9]) ++ x.2.1 ++ (if x.2.2 = true then more else [])
def want (x : Ent) : List UInt8 × List UInt8 := (x.1, x.2.1 ++ (if x.2.2 = true then more else []))
def hdrs (e : List UInt8) : List Ent → List UInt8
  | [] => []
  | x :: r => hdr e x ++ hdrs e r
theorem hdrs_snoc (e : List UInt8) (x : Ent) : ∀ E : List Ent, hdrs e (E ++ [x]) = hdrs e E ++ hdr e x
  | [] => by simp [hdrs]
  | y :: r => by rw [List.cons_append, hdrs, hdrs, hdrs_snoc e x r, List.append_assoc]
def entOk (x : Ent) : Prop := (x.1 ≠ [] ∧ ∀ c ∈ x.1, plB c = true) ∧ (x.2.1 ≠ [] ∧ ∀ c ∈ x.2.1, plB c = true)
def endOk (e : List UInt8) : Prop := e = [10] ∨ e = [13, 10]
theorem plB_ne {c d : UInt8} (h : plB c = true) (hd : plB d = false) : c ≠ d := by rintro rfl; rw [h] at hd; cases hd
theorem trimSuf_no {t : List UInt8} (h : ∀ x ∈ t, x ≠ 13) : trimSuf t [13] = t := by
  rw [trimSuf_cr]
  refine if_neg fun q => ?_
  have hl := List.length_pos_iff.2 q.1
  exact h _ (getD_mem (show t.length - 1 < t.length by omega) 0) q.2
theorem trimSuf_13 (t : List UInt8) : trimSuf (t ++ [13]) [13] = t := by
  rw [trimSuf_cr, if_pos]
  · simp
  · refine ⟨by simp, ?_⟩
    rw [List.getD_eq_getElem?_getD, List.getElem?_append_right (by simp)]; simp
theorem lnE {e t z : List UInt8} {p : Nat} (he : endOk e) (h10 : ∀ x ∈ t, x ≠ 10) (h13 : ∀ x ∈ t, x ≠ 13) : lnF [] p (t ++ (e ++ z)) = (p, t, p + t.length + e.length) :: lnF [] (p + t.length + e.length) z := by
  rcases he with rfl | rfl
  · have := lnF_nl (q := z) [] p h10
    rw [List.nil_append, trimSuf_no h13] at this
    exact this
  · have := lnF_nl (q := z) (p := t ++ [13]) [] p (by
      intro x hx
      rcases List.mem_append.1 hx with hx | hx
      · exact h10 x hx
      · rw [List.mem_singleton.1 hx]; decide)
    rw [List.nil_append, trimSuf_13] at this
    rw [show t ++ ([13, 10] ++ z) = t ++ [13] ++ 10 :: z by simp, this]
    simp [Nat.add_assoc]
theorem ent_first {x : Ent} (h : entOk x) : ∃ c r, x.1 = c :: r ∧ plB c = true := by
  obtain ⟨⟨h1, h2⟩, _⟩ := h
  cases hx : x.1 with
  | nil => exact absurd hx h1
  | cons c r => exact ⟨c, r, rfl, h2 c (by rw [hx]; simp)⟩
theorem base_ok {x : Ent} (h : entOk x) : (∀ c ∈ (x.1 ++ [58, 32, 9]) ++ x.2.1, c ≠ 10 ∧ c ≠ 13) ∧ isBlank1 ((x.1 ++ [58, 32, 9]) ++ x.2.1) = false ∧ (x.1 ++ [58, 32, 9]) ++ x.2.1 ≠ [] := by
  obtain ⟨c, r, hc, hp⟩ := ent_first h
  refine ⟨fun d hd => ?_, ?_, by rw [hc]; simp⟩
  · rcases List.mem_append.1 hd with hd | hd
    · rcases List.mem_append.1 hd with hd | hd
      · exact ⟨plB_ne (h.1.2 d hd) (by decide), plB_ne (h.1.2 d hd) (by decide)⟩
      · simp only [List.mem_cons, List.not_mem_nil, or_false] at hd
        rcases hd with rfl | rfl | rfl <;> decide
    · exact ⟨plB_ne (h.2.2 d hd) (by decide), plB_ne (h.2.2 d hd) (by decide)⟩
  · rw [hc]
    show (c == 32 || c == 9) = false
    rw [Bool.or_eq_false_iff, beq_eq_false_iff_ne, beq_eq_false_iff_ne]
    exact ⟨plB_ne hp (by decide), plB_ne hp (by decide)⟩
theorem made_gath (e : List UInt8) (he : endOk e) (z : List UInt8) (b : Int) : ∀ (E : List Ent) (p : Nat) (g : List (List UInt8)), (∀ x ∈ E, entOk x) →
    gathS (lnF [] p (hdrs e E ++ z)) b g = gathS (lnF [] (p + (hdrs e E).length) z) b (g ++ E.map txt)
  | [], p, g, _ => by simp [hdrs]
  | x :: r, p, g, h => by
    have hx := h x (by simp)
    obtain ⟨q1, q2, q3⟩ := base_ok hx
    have ih := fun p' g' => made_gath e he z b r p' g' (fun y hy => h y (List.mem_cons_of_mem _ hy))
    obtain ⟨t, ht⟩ : ∃ t, (x.1 ++ [58, 32, 9]) ++ x.2.1 = t := ⟨_, rfl⟩
    rw [hdrs, List.map_cons, hdr, txt]
    rw [ht] at q1 q2 q3 ⊢
    cases hf : x.2.2 with
    | false =>
      rw [if_neg (by simp), if_neg (by simp), List.append_nil, show (t ++ e ++ hdrs e r) ++ z = t ++ (e ++ (hdrs e r ++ z)) by simp, lnE he (fun c hc => (q1 c hc).1) (fun c hc => (q1 c hc).2)]
      rw [gathS, if_neg q3, if_neg (by rw [q2]; simp), ih]
      rw [List.append_assoc, List.singleton_append]
      congr 2
      simp; omega
    | true =>
      rw [if_pos rfl, if_pos rfl]
      have e1 : (t ++ (e ++ more) ++ e ++ hdrs e r) ++ z = t ++ (e ++ (more ++ (e ++ (hdrs e r ++ z)))) := by simp
      rw [e1, lnE he (fun c hc => (q1 c hc).1) (fun c hc => (q1 c hc).2), lnE he (by decide) (by decide)]
      rw [gathS, if_neg q3, if_neg (by rw [q2]; simp), gathS, if_neg (by decide), if_pos ⟨by simp, rfl⟩, ih]
      have e2 : (g ++ [t]).set ((g ++ [t]).length - 1) ((g ++ [t]).getD ((g ++ [t]).length - 1) [] ++ more) = g ++ [t ++ more] := by
        rw [show (g ++ [t]).length - 1 = g.length by simp, List.getD_eq_getElem?_getD, List.getElem?_append_right (by simp)]
        simp
      rw [e2, List.append_assoc, List.singleton_append]
      congr 2
      simp; omega
theorem dropWhile_nb {l : List UInt8} (h : l ≠ [] → ∃ c r, l = c :: r ∧ isBl2 c = false) : l.dropWhile isBl2 = l := by
  cases l with
  | nil => rfl
  | cons c r =>
    obtain ⟨d, q, e, hd⟩ := h (by simp)
    cases e
    rw [List.dropWhile_cons, if_neg (by rw [hd]; simp)]
theorem plB_bl {c : UInt8} (h : plB c = true) : isBl2 c = false := by
  rw [isBl2_eq, Bool.or_eq_false_iff, beq_eq_false_iff_ne, beq_eq_false_iff_ne]
  exact ⟨plB_ne h (by decide), plB_ne h (by decide)⟩
theorem trim_made {v m : List UInt8} (hv : v ≠ []) (hp : ∀ c ∈ v, plB c = true) (hm : m = [] ∨ m = more) : trimBl ([32, 9] ++ v ++ m) = v ++ m := by
  unfold trimBl
  rw [← trim_comm]
  have e1 : ([32, 9] ++ v ++ m).dropWhile isBl2 = v ++ m := by
    show (32 :: 9 :: (v ++ m)).dropWhile isBl2 = v ++ m
    rw [List.dropWhile_cons, if_pos (by decide), List.dropWhile_cons, if_pos (by decide)]
    refine dropWhile_nb fun _ => ?_
    cases v with
    | nil => exact absurd rfl hv
    | cons c r => exact ⟨c, r ++ m, rfl, plB_bl (hp c (by simp))⟩
  rw [e1]
  have e2 : (v ++ m).reverse.dropWhile isBl2 = (v ++ m).reverse := by
    refine dropWhile_nb fun _ => ?_
    rcases hm with rfl | rfl
    · rw [List.append_nil]
      cases hr : v.reverse with
      | nil => exact absurd (List.reverse_eq_nil_iff.1 hr) hv
      | cons c r => exact ⟨c, r, rfl, plB_bl (hp c (List.mem_reverse.1 (by rw [hr]; simp)))⟩
    · rw [List.reverse_append]
      exact ⟨101, _, rfl, by decide⟩
  rw [e2, List.reverse_reverse]
theorem oneF_txt {x : Ent} (h : entOk x) : oneF (txt x) = (want x, true) := by
  obtain ⟨⟨h1, h2⟩, h3, h4⟩ := h
  obtain ⟨m, hm⟩ : ∃ m, (if x.2.2 = true then more else []) = m := ⟨_, rfl⟩
  have hm2 : m = [] ∨ m = more := by rw [← hm]; split; exact .inr rfl; exact .inl rfl
  unfold txt want
  rw [hm]
  have e1 : (x.1 ++ [58, 32, 9]) ++ x.2.1 ++ m = x.1 ++ 58 :: ([32, 9] ++ x.2.1 ++ m) := by simp
  have hc := (cut_ix (c := 58) (p := x.1) (q := [32, 9] ++ x.2.1 ++ m) (fun c hc => by
    have := h2 c hc
    unfold plB at this
    rw [Bool.and_eq_true] at this
    simpa using this.2)).1
  unfold oneF
  rw [e1, hc, trim_made h3 h4 hm2]
  have ha : x.1.all inName = true := List.all_eq_true.2 fun c hc => by
    have := h2 c hc
    unfold plB at this
    rw [Bool.and_eq_true] at this
    exact this.1
  have hn : (x.1 != []) = true := by rw [bne_iff_ne]; exact h1
  dsimp only
  rw [ha, hn]; rfl
theorem fields_txt : ∀ E : List Ent, (∀ x ∈ E, entOk x) → fieldsS (E.map txt) = E.map want
  | [], _ => rfl
  | x :: r, h => by
    rw [List.map_cons, fieldsS_cons, oneF_txt (h x (by simp)), if_pos rfl, fields_txt r (fun y hy => h y (List.mem_cons_of_mem _ hy))]; rfl
theorem made_split {e : List UInt8} (he : endOk e) {E : List Ent} (h : ∀ x ∈ E, entOk x) (b : List UInt8) : splitS ((hdrs e E ++ e) ++ b) 0 ((hdrs e E ++ e) ++ b).length = (E.map want, ((hdrs e E).length : Int) + e.length) := by
  rw [splitS_all, List.append_assoc, made_gath e he (e ++ b) _ E 0 [] h]
  have := lnE (t := []) (z := b) (p := 0 + (hdrs e E).length) he (by simp) (by simp)
  rw [List.nil_append] at this
  rw [this, gathS, if_pos rfl, List.nil_append, fields_txt E h]
  simp
theorem made_split2 {e : List UInt8} (he : endOk e) {E : List Ent} (h : ∀ x ∈ E, entOk x) : splitS ([120] ++ hdrs e E) 1 ((hdrs e E).length + 1) = (E.map want, ((hdrs e E).length : Int) + 1) := by
  have h1 := splitS_mid [120] (hdrs e E) []
  rw [List.append_nil] at h1
  have h2 : splitS (hdrs e E) 0 (hdrs e E).length = (E.map want, ((hdrs e E).length : Int)) := by
    have h3 := made_gath e he [] (hdrs e E).length E 0 [] h
    rw [List.append_nil] at h3
    rw [splitS_all, h3, lnF, if_pos rfl, gathS, List.nil_append, fields_txt E h]
  rw [h2] at h1
  rw [show ((hdrs e E).length : Int) + 1 = (([120] : List UInt8).length : Int) + (hdrs e E).length by simp; omega]
  refine h1.trans ?_
  simp; omega
noncomputable def cFieldMade : Code := bodyOf Tryd.f4

noncomputable def GFieldMade : Cfg := ⟨Tryd.prog, mkEnv [(9, sp_awake), (10, sp_split), (12, sp_r7fields), (13, sp_plainf)], mkEnvR [], 143, [], [([1, 1], ⟨[0, 1, 2, 3, 9], []⟩), ([1, 1, 1, 1], ⟨[0, 1, 2, 3, 9, 10], []⟩), ([0, 1, 0, 1, 1, 1, 1, 1, 1], ⟨[0, 1, 2, 3, 9, 10, 11, 12, 13], [⟨.slot 12, 12, (.larr 32 false 2 (.dat (.pair .str .str) ([] : List (List UInt8 × List UInt8))))⟩]⟩), ([1, 0, 0, 0, 1, 0, 0, 1, 0, 1, 1, 1, 1, 1, 1], ⟨[0, 1, 2, 3, 9, 10, 11, 12, 13, 49], [⟨.slot 12, 12, (.larr 32 false 2 (.dat (.pair .str .str) ([] : List (List UInt8 × List UInt8))))⟩]⟩), ([1, 1, 1, 0, 0, 1, 0, 0, 1, 0, 1, 1, 1, 1, 1, 1], ⟨[0, 1, 2, 3, 9, 10, 11, 12, 13, 14, 15], [⟨.slot 12, 12, (.larr 32 false 2 (.dat (.pair .str .str) ([] : List (List UInt8 × List UInt8))))⟩]⟩), ([1, 1, 1, 1, 0, 0, 1, 0, 0, 1, 0, 1, 1, 1, 1, 1, 1], ⟨[0, 1, 2, 3, 9, 10, 11, 12, 13, 14, 15], [⟨.slot 12, 12, (.larr 32 false 2 (.dat (.pair .str .str) ([] : List (List UInt8 × List UInt8))))⟩]⟩), ([1, 1, 1, 1, 1, 1, 1, 1, 1], ⟨[10, 11, 12, 16, 17], [⟨.slot 12, 12, (.larr 32 false 2 (.dat (.pair .str .str) ([] : List (List UInt8 × List UInt8))))⟩]⟩)], []⟩

noncomputable def BFieldMade_1 (F : Nat) (nn : List (List UInt8)) (vv : List (List UInt8)) (ff : List Bool) (bb : List UInt8) (vi1 : Int) : Option Ans := runB GFieldMade cFieldMade (kP Tryd.prog Tryd.f4.results.toList) F [] [1, 1] [(0, .p (.list 1 (.dat .str nn))), (1, .p (.list 1 (.dat .str vv))), (2, .p (.list 1 (.dat .bool ff))), (3, .p (.str bb)), (9, .p (.int .i64 vi1))] []

noncomputable def BFieldMade_2 (F : Nat) (nn : List (List UInt8)) (vv : List (List UInt8)) (ff : List Bool) (bb : List UInt8) (vi1 : Int) (vs2 : List UInt8) : Option Ans := runB GFieldMade cFieldMade (kP Tryd.prog Tryd.f4.results.toList) F [] [1, 1, 1, 1] [(0, .p (.list 1 (.dat .str nn))), (1, .p (.list 1 (.dat .str vv))), (2, .p (.list 1 (.dat .bool ff))), (3, .p (.str bb)), (9, .p (.int .i64 vi1)), (10, .p (.str vs2))] []

noncomputable def BFieldMade_3 (F f1 : Nat) (nn : List (List UInt8)) (vv : List (List UInt8)) (ff : List Bool) (bb : List UInt8) (vi1 : Int) (vs2 : List UInt8) (vs3 : List UInt8) (vi4 : Int) (vl5 : List (List UInt8 × List UInt8)) : Option Ans := runR GFieldMade cFieldMade (kP Tryd.prog Tryd.f4.results.toList) F [] [1, 1, 1, 1, 1, 1, 0, 1, 0] f1 [(0, .p (.list 1 (.dat .str nn))), (1, .p (.list 1 (.dat .str vv))), (2, .p (.list 1 (.dat .bool ff))), (3, .p (.str bb)), (9, .p (.int .i64 vi1)), (10, .p (.str vs2)), (11, .p (.str vs3)), (12, .arr 12), (13, .p (.int .i64 vi4))] [(12, .larr 32 false 2 (.dat (.pair .str .str) vl5))]

noncomputable def BFieldMade_4 (F f1 : Nat) (nn : List (List UInt8)) (vv : List (List UInt8)) (ff : List Bool) (bb : List UInt8) (vi1 : Int) (vs2 : List UInt8) (vs3 : List UInt8) (vi4 : Int) (vc6 : Bool) (vl5 : List (List UInt8 × List UInt8)) : Option Ans := runB GFieldMade cFieldMade (kP Tryd.prog Tryd.f4.results.toList) F [f1] [1, 1, 1, 1, 1, 1, 0, 1, 0, 0, 1, 0, 0, 0, 1] [(0, .p (.list 1 (.dat .str nn))), (1, .p (.list 1 (.dat .str vv))), (2, .p (.list 1 (.dat .bool ff))), (3, .p (.str bb)), (9, .p (.int .i64 vi1)), (10, .p (.str vs2)), (11, .p (.str vs3)), (12, .arr 12), (13, .p (.int .i64 vi4)), (49, .p (.bool vc6))] [(12, .larr 32 false 2 (.dat (.pair .str .str) vl5))]

noncomputable def BFieldMade_5 (F f1 : Nat) (nn : List (List UInt8)) (vv : List (List UInt8)) (ff : List Bool) (bb : List UInt8) (vi1 : Int) (vs2 : List UInt8) (vs7 : List UInt8) (vi4 : Int) (vs8 : List UInt8) (vs9 : List UInt8) (vl5 : List (List UInt8 × List UInt8)) : Option Ans := runB GFieldMade cFieldMade (kP Tryd.prog Tryd.f4.results.toList) F [f1] [1, 1, 1, 1, 1, 1, 0, 1, 0, 0, 1, 0, 0, 1, 1, 1] [(0, .p (.list 1 (.dat .str nn))), (1, .p (.list 1 (.dat .str vv))), (2, .p (.list 1 (.dat .bool ff))), (3, .p (.str bb)), (9, .p (.int .i64 vi1)), (10, .p (.str vs2)), (11, .p (.str vs7)), (12, .arr 12), (13, .p (.int .i64 vi4)), (14, .p (.str vs8)), (15, .p (.str vs9))] [(12, .larr 32 false 2 (.dat (.pair .str .str) vl5))]

noncomputable def BFieldMade_6 (F f1 : Nat) (nn : List (List UInt8)) (vv : List (List UInt8)) (ff : List Bool) (bb : List UInt8) (vi1 : Int) (vs2 : List UInt8) (vs10 : List UInt8) (vi4 : Int) (vs8 : List UInt8) (vs11 : List UInt8) (vl5 : List (List UInt8 × List UInt8)) : Option Ans := runB GFieldMade cFieldMade (kP Tryd.prog Tryd.f4.results.toList) F [f1] [1, 1, 1, 1, 1, 1, 0, 1, 0, 0, 1, 0, 0, 1, 1, 1, 1] [(0, .p (.list 1 (.dat .str nn))), (1, .p (.list 1 (.dat .str vv))), (2, .p (.list 1 (.dat .bool ff))), (3, .p (.str bb)), (9, .p (.int .i64 vi1)), (10, .p (.str vs2)), (11, .p (.str vs10)), (12, .arr 12), (13, .p (.int .i64 vi4)), (14, .p (.str vs8)), (15, .p (.str vs11))] [(12, .larr 32 false 2 (.dat (.pair .str .str) vl5))]

noncomputable def BFieldMade_7 (F : Nat) (vs2 : List UInt8) (vs3 : List UInt8) (vl12 : List (List UInt8 × List UInt8)) (vi13 : Int) (vl5 : List (List UInt8 × List UInt8)) : Option Ans := runB GFieldMade cFieldMade (kP Tryd.prog Tryd.f4.results.toList) F [] [1, 1, 1, 1, 1, 1, 1, 1, 1] [(10, .p (.str vs2)), (11, .p (.str vs3)), (12, .arr 12), (16, .p (.list 2 (.dat (.pair .str .str) vl12))), (17, .p (.int .i64 vi13))] [(12, .larr 32 false 2 (.dat (.pair .str .str) vl5))]

noncomputable def FFieldMade (F : Nat) (nn : List (List UInt8)) (vv : List (List UInt8)) (ff : List Bool) (bb : List UInt8) : Option Ans := runF GFieldMade Tryd.f4 F [.p (.list 1 (.dat .str nn)), .p (.list 1 (.dat .str vv)), .p (.list 1 (.dat .bool ff)), .p (.str bb)]

theorem BFieldMade_1_eq (F : Nat) (nn : List (List UInt8)) (vv : List (List UInt8)) (ff : List Bool) (bb : List UInt8) (vi1 : Int) : BFieldMade_1 F nn vv ff bb vi1 = (cond (((bb.length : Int).tmod (2 : Int)) == (0 : Int)) (BFieldMade_2 F nn vv ff bb vi1 ([10] : List UInt8)) (BFieldMade_2 F nn vv ff bb vi1 ([13, 10] : List UInt8))) := by
  have h : BFieldMade_1 F nn vv ff bb vi1 = need ((2 : Int) ≠ 0) (cond (((bb.length : Int).tmod (2 : Int)) == (0 : Int)) (BFieldMade_2 F nn vv ff bb vi1 ([10] : List UInt8)) (BFieldMade_2 F nn vv ff bb vi1 ([13, 10] : List UInt8))) := by kernel_rfl
  rw [h, need_pos (show (2 : Int) ≠ 0 from (by decide))]

theorem BFieldMade_2_eq (F : Nat) (nn : List (List UInt8)) (vv : List (List UInt8)) (ff : List Bool) (bb : List UInt8) (vi1 : Int) (vs2 : List UInt8) : BFieldMade_2 F nn vv ff bb vi1 vs2 = BFieldMade_3 F F nn vv ff bb vi1 vs2 ([] : List UInt8) (0 : Int) ([] : List (List UInt8 × List UInt8)) := by kernel_rfl

theorem BFieldMade_3_eq (F f1 : Nat) (nn : List (List UInt8)) (vv : List (List UInt8)) (ff : List Bool) (bb : List UInt8) (vi1 : Int) (vs2 : List UInt8) (vs3 : List UInt8) (vi4 : Int) (vl5 : List (List UInt8 × List UInt8)) : BFieldMade_3 F (f1 + 1) nn vv ff bb vi1 vs2 vs3 vi4 vl5 = cond (decide (vi4 < vi1)) (need (0 ≤ vi4 ∧ vi4 < (nn.length : Int)) (((need ((!(decide (((nn.getD (vi4).toNat []).length : Int) > (100 : Int)))) = true → 0 ≤ vi4 ∧ vi4 < (vv.length : Int)) (((((BFieldMade_4 F f1 nn vv ff bb vi1 vs2 vs3 vi4 ((decide (((nn.getD (vi4).toNat []).length : Int) > (100 : Int))) || (decide (((vv.getD (vi4).toNat []).length : Int) > (100 : Int)))) vl5))))))))) (cond (decide ((bb.length : Int) > (1000 : Int))) (some (.p (.bool true), [])) (need (lenok (vs3.length + vs2.length)) (need (lenok ((vs3 ++ vs2).length + bb.length)) (need (i64ok ((vs3.length : Int) + (vs2.length : Int))) (need (i64ok (((vs3.length : Int) + (vs2.length : Int)) + (bb.length : Int))) (need (((vs3 ++ vs2) ++ bb).length ≤ 1000000) (BFieldMade_7 F vs2 vs3 ((splitS ((vs3 ++ vs2) ++ bb) (0 : Int) (((vs3.length : Int) + (vs2.length : Int)) + (bb.length : Int))).1) ((splitS ((vs3 ++ vs2) ++ bb) (0 : Int) (((vs3.length : Int) + (vs2.length : Int)) + (bb.length : Int))).2) vl5))))))) := by
  have h : BFieldMade_3 F (f1 + 1) nn vv ff bb vi1 vs2 vs3 vi4 vl5 = cond (decide (vi4 < vi1)) (need (0 ≤ vi4 ∧ vi4 < (nn.length : Int)) (need ((!(decide (((nn.getD (vi4).toNat []).length : Int) > (100 : Int)))) = true → (!(decide (((nn.getD (vi4).toNat []).length : Int) > (100 : Int)))) = true) (need ((!(decide (((nn.getD (vi4).toNat []).length : Int) > (100 : Int)))) = true → (!(decide (((nn.getD (vi4).toNat []).length : Int) > (100 : Int)))) = true) (need ((!(decide (((nn.getD (vi4).toNat []).length : Int) > (100 : Int)))) = true → 0 ≤ vi4 ∧ vi4 < (vv.length : Int)) (need ((!(decide (((nn.getD (vi4).toNat []).length : Int) > (100 : Int)))) = true → (!(decide (((nn.getD (vi4).toNat []).length : Int) > (100 : Int)))) = true) (need ((!(decide (((nn.getD (vi4).toNat []).length : Int) > (100 : Int)))) = true → (!(decide (((nn.getD (vi4).toNat []).length : Int) > (100 : Int)))) = true) (need ((!(decide (((nn.getD (vi4).toNat []).length : Int) > (100 : Int)))) = true → (!(decide (((nn.getD (vi4).toNat []).length : Int) > (100 : Int)))) = true) (need ((decide (((nn.getD (vi4).toNat []).length : Int) > (100 : Int))) = false → (!(decide (((nn.getD (vi4).toNat []).length : Int) > (100 : Int)))) = true) (BFieldMade_4 F f1 nn vv ff bb vi1 vs2 vs3 vi4 ((decide (((nn.getD (vi4).toNat []).length : Int) > (100 : Int))) || (decide (((vv.getD (vi4).toNat []).length : Int) > (100 : Int)))) vl5))))))))) (cond (decide ((bb.length : Int) > (1000 : Int))) (some (.p (.bool true), [])) (need (lenok (vs3.length + vs2.length)) (need (lenok ((vs3 ++ vs2).length + bb.length)) (need (i64ok ((vs3.length : Int) + (vs2.length : Int))) (need (i64ok (((vs3.length : Int) + (vs2.length : Int)) + (bb.length : Int))) (need (((vs3 ++ vs2) ++ bb).length ≤ 1000000) (BFieldMade_7 F vs2 vs3 ((splitS ((vs3 ++ vs2) ++ bb) (0 : Int) (((vs3.length : Int) + (vs2.length : Int)) + (bb.length : Int))).1) ((splitS ((vs3 ++ vs2) ++ bb) (0 : Int) (((vs3.length : Int) + (vs2.length : Int)) + (bb.length : Int))).2) vl5))))))) := by kernel_rfl
  rw [h, need_pos (show (decide (((nn.getD (vi4).toNat []).length : Int) > (100 : Int))) = false → (!(decide (((nn.getD (vi4).toNat []).length : Int) > (100 : Int)))) = true from (fun q0 => (not_mk q0))), need_pos (show (!(decide (((nn.getD (vi4).toNat []).length : Int) > (100 : Int)))) = true → (!(decide (((nn.getD (vi4).toNat []).length : Int) > (100 : Int)))) = true from (fun q0 => q0)), need_pos (show (!(decide (((nn.getD (vi4).toNat []).length : Int) > (100 : Int)))) = true → (!(decide (((nn.getD (vi4).toNat []).length : Int) > (100 : Int)))) = true from (fun q0 => q0)), need_pos (show (!(decide (((nn.getD (vi4).toNat []).length : Int) > (100 : Int)))) = true → (!(decide (((nn.getD (vi4).toNat []).length : Int) > (100 : Int)))) = true from (fun q0 => q0)), need_pos (show (!(decide (((nn.getD (vi4).toNat []).length : Int) > (100 : Int)))) = true → (!(decide (((nn.getD (vi4).toNat []).length : Int) > (100 : Int)))) = true from (fun q0 => q0)), need_pos (show (!(decide (((nn.getD (vi4).toNat []).length : Int) > (100 : Int)))) = true → (!(decide (((nn.getD (vi4).toNat []).length : Int) > (100 : Int)))) = true from (fun q0 => q0))]

theorem BFieldMade_4_eq (F f1 : Nat) (nn : List (List UInt8)) (vv : List (List UInt8)) (ff : List Bool) (bb : List UInt8) (vi1 : Int) (vs2 : List UInt8) (vs3 : List UInt8) (vi4 : Int) (vc6 : Bool) (vl5 : List (List UInt8 × List UInt8)) : BFieldMade_4 F f1 nn vv ff bb vi1 vs2 vs3 vi4 vc6 vl5 = cond (vc6) (some (.p (.bool true), [])) (need (0 ≤ vi4 ∧ vi4 < (nn.length : Int)) (need ((nn.getD (vi4).toNat []).length ≤ 1000000) (need (0 ≤ vi4 ∧ vi4 < (vv.length : Int)) (need ((vv.getD (vi4).toNat []).length ≤ 1000000) (need (lenok (vs3.length + (plainF (nn.getD (vi4).toNat [])).length)) (need (lenok ((vs3 ++ (plainF (nn.getD (vi4).toNat []))).length + ([58, 32, 9] : List UInt8).length)) (need (lenok (((vs3 ++ (plainF (nn.getD (vi4).toNat []))) ++ ([58, 32, 9] : List UInt8)).length + (plainF (vv.getD (vi4).toNat [])).length)) (BFieldMade_5 F f1 nn vv ff bb vi1 vs2 (((vs3 ++ (plainF (nn.getD (vi4).toNat []))) ++ ([58, 32, 9] : List UInt8)) ++ (plainF (vv.getD (vi4).toNat []))) vi4 (plainF (nn.getD (vi4).toNat [])) (plainF (vv.getD (vi4).toNat [])) vl5)))))))) := by kernel_rfl

theorem BFieldMade_5_eq (F f1 : Nat) (nn : List (List UInt8)) (vv : List (List UInt8)) (ff : List Bool) (bb : List UInt8) (vi1 : Int) (vs2 : List UInt8) (vs7 : List UInt8) (vi4 : Int) (vs8 : List UInt8) (vs9 : List UInt8) (vl5 : List (List UInt8 × List UInt8)) : BFieldMade_5 F f1 nn vv ff bb vi1 vs2 vs7 vi4 vs8 vs9 vl5 = need (0 ≤ vi4 ∧ vi4 < (ff.length : Int)) (cond ((ff.getD (vi4).toNat false)) (need (lenok (vs7.length + vs2.length)) (need (lenok ((vs7 ++ vs2).length + ([9, 109, 111, 114, 101] : List UInt8).length)) (need (lenok (vs9.length + ([9, 109, 111, 114, 101] : List UInt8).length)) (BFieldMade_6 F f1 nn vv ff bb vi1 vs2 ((vs7 ++ vs2) ++ ([9, 109, 111, 114, 101] : List UInt8)) vi4 vs8 (vs9 ++ ([9, 109, 111, 114, 101] : List UInt8)) vl5)))) (BFieldMade_6 F f1 nn vv ff bb vi1 vs2 vs7 vi4 vs8 vs9 vl5)) := by kernel_rfl

theorem BFieldMade_6_eq (F f1 : Nat) (nn : List (List UInt8)) (vv : List (List UInt8)) (ff : List Bool) (bb : List UInt8) (vi1 : Int) (vs2 : List UInt8) (vs10 : List UInt8) (vi4 : Int) (vs8 : List UInt8) (vs11 : List UInt8) (vl5 : List (List UInt8 × List UInt8)) : BFieldMade_6 F f1 nn vv ff bb vi1 vs2 vs10 vi4 vs8 vs11 vl5 = need (lenok (vs10.length + vs2.length)) (need ((vl5.length + [(vs8, vs11)].length) * 32 ≤ 140737488355328) (need (i64ok (vi4 + (1 : Int))) (BFieldMade_3 F f1 nn vv ff bb vi1 vs2 (vs10 ++ vs2) (vi4 + (1 : Int)) (vl5 ++ [(vs8, vs11)])))) := by kernel_rfl

theorem BFieldMade_7_eq (F : Nat) (vs2 : List UInt8) (vs3 : List UInt8) (vl12 : List (List UInt8 × List UInt8)) (vi13 : Int) (vl5 : List (List UInt8 × List UInt8)) : BFieldMade_7 F vs2 vs3 vl12 vi13 vl5 = need (lenok (([120] : List UInt8).length + vs3.length)) (need (i64ok ((vs3.length : Int) + (1 : Int))) (need ((([120] : List UInt8) ++ vs3).length ≤ 1000000) (need (vl12.length ≤ 1000000000000) (need ((vl12 == vl5) = true → i64ok ((vs3.length : Int) + (vs2.length : Int))) (need (((vl12 == vl5) && (vi13 == ((vs3.length : Int) + (vs2.length : Int)))) = true → ((splitS (([120] : List UInt8) ++ vs3) (1 : Int) ((vs3.length : Int) + (1 : Int))).1).length ≤ 1000000000000) (need ((((vl12 == vl5) && (vi13 == ((vs3.length : Int) + (vs2.length : Int)))) && (((splitS (([120] : List UInt8) ++ vs3) (1 : Int) ((vs3.length : Int) + (1 : Int))).1) == vl5)) = true → i64ok ((vs3.length : Int) + (1 : Int))) (some (.p (.bool (((((vl12 == vl5) && (vi13 == ((vs3.length : Int) + (vs2.length : Int)))) && (((splitS (([120] : List UInt8) ++ vs3) (1 : Int) ((vs3.length : Int) + (1 : Int))).1) == vl5)) && (((splitS (([120] : List UInt8) ++ vs3) (1 : Int) ((vs3.length : Int) + (1 : Int))).2) == ((vs3.length : Int) + (1 : Int)))) && true)), [])))))))) :=
  Eq.trans (show BFieldMade_7 F vs2 vs3 vl12 vi13 vl5 = need (lenok (([120] : List UInt8).length + vs3.length)) (need (i64ok ((vs3.length : Int) + (1 : Int))) (need ((([120] : List UInt8) ++ vs3).length ≤ 1000000) (need (vl12.length ≤ 1000000000000) (need ((vl12 == vl5) = true → (vl12 == vl5) = true) (need ((vl12 == vl5) = true → (vl12 == vl5) = true) (need ((vl12 == vl5) = true → (vl12 == vl5) = true) (need ((vl12 == vl5) = true → (vl12 == vl5) = true) (need ((vl12 == vl5) = true → i64ok ((vs3.length : Int) + (vs2.length : Int))) (need ((vl12 == vl5) = true → (vl12 == vl5) = true) (need ((vl12 == vl5) = true → (vl12 == vl5) = true) (need ((vl12 == vl5) = true → (vl12 == vl5) = true) (need (((vl12 == vl5) && (vi13 == ((vs3.length : Int) + (vs2.length : Int)))) = true → ((vl12 == vl5) && (vi13 == ((vs3.length : Int) + (vs2.length : Int)))) = true) (need (((vl12 == vl5) && (vi13 == ((vs3.length : Int) + (vs2.length : Int)))) = true → ((vl12 == vl5) && (vi13 == ((vs3.length : Int) + (vs2.length : Int)))) = true) (need (((vl12 == vl5) && (vi13 == ((vs3.length : Int) + (vs2.length : Int)))) = true → ((splitS (([120] : List UInt8) ++ vs3) (1 : Int) ((vs3.length : Int) + (1 : Int))).1).length ≤ 1000000000000) (need (((vl12 == vl5) && (vi13 == ((vs3.length : Int) + (vs2.length : Int)))) = true → ((vl12 == vl5) && (vi13 == ((vs3.length : Int) + (vs2.length : Int)))) = true) (need ((((vl12 == vl5) && (vi13 == ((vs3.length : Int) + (vs2.length : Int)))) && (((splitS (([120] : List UInt8) ++ vs3) (1 : Int) ((vs3.length : Int) + (1 : Int))).1) == vl5)) = true → (((vl12 == vl5) && (vi13 == ((vs3.length : Int) + (vs2.length : Int)))) && (((splitS (([120] : List UInt8) ++ vs3) (1 : Int) ((vs3.length : Int) + (1 : Int))).1) == vl5)) = true) (need ((((vl12 == vl5) && (vi13 == ((vs3.length : Int) + (vs2.length : Int)))) && (((splitS (([120] : List UInt8) ++ vs3) (1 : Int) ((vs3.length : Int) + (1 : Int))).1) == vl5)) = true → (((vl12 == vl5) && (vi13 == ((vs3.length : Int) + (vs2.length : Int)))) && (((splitS (([120] : List UInt8) ++ vs3) (1 : Int) ((vs3.length : Int) + (1 : Int))).1) == vl5)) = true) (need ((((vl12 == vl5) && (vi13 == ((vs3.length : Int) + (vs2.length : Int)))) && (((splitS (([120] : List UInt8) ++ vs3) (1 : Int) ((vs3.length : Int) + (1 : Int))).1) == vl5)) = true → i64ok ((vs3.length : Int) + (1 : Int))) (need ((((vl12 == vl5) && (vi13 == ((vs3.length : Int) + (vs2.length : Int)))) && (((splitS (([120] : List UInt8) ++ vs3) (1 : Int) ((vs3.length : Int) + (1 : Int))).1) == vl5)) = true → (((vl12 == vl5) && (vi13 == ((vs3.length : Int) + (vs2.length : Int)))) && (((splitS (([120] : List UInt8) ++ vs3) (1 : Int) ((vs3.length : Int) + (1 : Int))).1) == vl5)) = true) (need ((((vl12 == vl5) && (vi13 == ((vs3.length : Int) + (vs2.length : Int)))) && (((splitS (([120] : List UInt8) ++ vs3) (1 : Int) ((vs3.length : Int) + (1 : Int))).1) == vl5)) = true → (((vl12 == vl5) && (vi13 == ((vs3.length : Int) + (vs2.length : Int)))) && (((splitS (([120] : List UInt8) ++ vs3) (1 : Int) ((vs3.length : Int) + (1 : Int))).1) == vl5)) = true) (need ((((vl12 == vl5) && (vi13 == ((vs3.length : Int) + (vs2.length : Int)))) && (((splitS (([120] : List UInt8) ++ vs3) (1 : Int) ((vs3.length : Int) + (1 : Int))).1) == vl5)) = true → (((vl12 == vl5) && (vi13 == ((vs3.length : Int) + (vs2.length : Int)))) && (((splitS (([120] : List UInt8) ++ vs3) (1 : Int) ((vs3.length : Int) + (1 : Int))).1) == vl5)) = true) (need (((((vl12 == vl5) && (vi13 == ((vs3.length : Int) + (vs2.length : Int)))) && (((splitS (([120] : List UInt8) ++ vs3) (1 : Int) ((vs3.length : Int) + (1 : Int))).1) == vl5)) && (((splitS (([120] : List UInt8) ++ vs3) (1 : Int) ((vs3.length : Int) + (1 : Int))).2) == ((vs3.length : Int) + (1 : Int)))) = true → ((((vl12 == vl5) && (vi13 == ((vs3.length : Int) + (vs2.length : Int)))) && (((splitS (([120] : List UInt8) ++ vs3) (1 : Int) ((vs3.length : Int) + (1 : Int))).1) == vl5)) && (((splitS (([120] : List UInt8) ++ vs3) (1 : Int) ((vs3.length : Int) + (1 : Int))).2) == ((vs3.length : Int) + (1 : Int)))) = true) (some (.p (.bool (((((vl12 == vl5) && (vi13 == ((vs3.length : Int) + (vs2.length : Int)))) && (((splitS (([120] : List UInt8) ++ vs3) (1 : Int) ((vs3.length : Int) + (1 : Int))).1) == vl5)) && (((splitS (([120] : List UInt8) ++ vs3) (1 : Int) ((vs3.length : Int) + (1 : Int))).2) == ((vs3.length : Int) + (1 : Int)))) && true)), [])))))))))))))))))))))))) by kernel_rfl) (need_congr (need_congr (need_congr (need_congr (need_strike (show (vl12 == vl5) = true → (vl12 == vl5) = true from (fun q0 => q0)) (need_strike (show (vl12 == vl5) = true → (vl12 == vl5) = true from (fun q0 => q0)) (need_strike (show (vl12 == vl5) = true → (vl12 == vl5) = true from (fun q0 => q0)) (need_strike (show (vl12 == vl5) = true → (vl12 == vl5) = true from (fun q0 => q0)) (need_congr (need_strike (show (vl12 == vl5) = true → (vl12 == vl5) = true from (fun q0 => q0)) (need_strike (show (vl12 == vl5) = true → (vl12 == vl5) = true from (fun q0 => q0)) (need_strike (show (vl12 == vl5) = true → (vl12 == vl5) = true from (fun q0 => q0)) (need_strike (show ((vl12 == vl5) && (vi13 == ((vs3.length : Int) + (vs2.length : Int)))) = true → ((vl12 == vl5) && (vi13 == ((vs3.length : Int) + (vs2.length : Int)))) = true from (fun q0 => q0)) (need_strike (show ((vl12 == vl5) && (vi13 == ((vs3.length : Int) + (vs2.length : Int)))) = true → ((vl12 == vl5) && (vi13 == ((vs3.length : Int) + (vs2.length : Int)))) = true from (fun q0 => q0)) (need_congr (need_strike (show ((vl12 == vl5) && (vi13 == ((vs3.length : Int) + (vs2.length : Int)))) = true → ((vl12 == vl5) && (vi13 == ((vs3.length : Int) + (vs2.length : Int)))) = true from (fun q0 => q0)) (need_strike (show (((vl12 == vl5) && (vi13 == ((vs3.length : Int) + (vs2.length : Int)))) && (((splitS (([120] : List UInt8) ++ vs3) (1 : Int) ((vs3.length : Int) + (1 : Int))).1) == vl5)) = true → (((vl12 == vl5) && (vi13 == ((vs3.length : Int) + (vs2.length : Int)))) && (((splitS (([120] : List UInt8) ++ vs3) (1 : Int) ((vs3.length : Int) + (1 : Int))).1) == vl5)) = true from (fun q0 => q0)) (need_strike (show (((vl12 == vl5) && (vi13 == ((vs3.length : Int) + (vs2.length : Int)))) && (((splitS (([120] : List UInt8) ++ vs3) (1 : Int) ((vs3.length : Int) + (1 : Int))).1) == vl5)) = true → (((vl12 == vl5) && (vi13 == ((vs3.length : Int) + (vs2.length : Int)))) && (((splitS (([120] : List UInt8) ++ vs3) (1 : Int) ((vs3.length : Int) + (1 : Int))).1) == vl5)) = true from (fun q0 => q0)) (need_congr (need_strike (show (((vl12 == vl5) && (vi13 == ((vs3.length : Int) + (vs2.length : Int)))) && (((splitS (([120] : List UInt8) ++ vs3) (1 : Int) ((vs3.length : Int) + (1 : Int))).1) == vl5)) = true → (((vl12 == vl5) && (vi13 == ((vs3.length : Int) + (vs2.length : Int)))) && (((splitS (([120] : List UInt8) ++ vs3) (1 : Int) ((vs3.length : Int) + (1 : Int))).1) == vl5)) = true from (fun q0 => q0)) (need_strike (show (((vl12 == vl5) && (vi13 == ((vs3.length : Int) + (vs2.length : Int)))) && (((splitS (([120] : List UInt8) ++ vs3) (1 : Int) ((vs3.length : Int) + (1 : Int))).1) == vl5)) = true → (((vl12 == vl5) && (vi13 == ((vs3.length : Int) + (vs2.length : Int)))) && (((splitS (([120] : List UInt8) ++ vs3) (1 : Int) ((vs3.length : Int) + (1 : Int))).1) == vl5)) = true from (fun q0 => q0)) (need_strike (show (((vl12 == vl5) && (vi13 == ((vs3.length : Int) + (vs2.length : Int)))) && (((splitS (([120] : List UInt8) ++ vs3) (1 : Int) ((vs3.length : Int) + (1 : Int))).1) == vl5)) = true → (((vl12 == vl5) && (vi13 == ((vs3.length : Int) + (vs2.length : Int)))) && (((splitS (([120] : List UInt8) ++ vs3) (1 : Int) ((vs3.length : Int) + (1 : Int))).1) == vl5)) = true from (fun q0 => q0)) (need_strike (show ((((vl12 == vl5) && (vi13 == ((vs3.length : Int) + (vs2.length : Int)))) && (((splitS (([120] : List UInt8) ++ vs3) (1 : Int) ((vs3.length : Int) + (1 : Int))).1) == vl5)) && (((splitS (([120] : List UInt8) ++ vs3) (1 : Int) ((vs3.length : Int) + (1 : Int))).2) == ((vs3.length : Int) + (1 : Int)))) = true → ((((vl12 == vl5) && (vi13 == ((vs3.length : Int) + (vs2.length : Int)))) && (((splitS (([120] : List UInt8) ++ vs3) (1 : Int) ((vs3.length : Int) + (1 : Int))).1) == vl5)) && (((splitS (([120] : List UInt8) ++ vs3) (1 : Int) ((vs3.length : Int) + (1 : Int))).2) == ((vs3.length : Int) + (1 : Int)))) = true from (fun q0 => q0)) (rfl))))))))))))))))))))))))

theorem FFieldMade_eq (F : Nat) (nn : List (List UInt8)) (vv : List (List UInt8)) (ff : List Bool) (bb : List UInt8) : FFieldMade F nn vv ff bb = BFieldMade_1 F nn vv ff bb (if (20 : Int) < (if (ff.length : Int) < (if (vv.length : Int) < (nn.length : Int) then (vv.length : Int) else (nn.length : Int)) then (ff.length : Int) else (if (vv.length : Int) < (nn.length : Int) then (vv.length : Int) else (nn.length : Int))) then (20 : Int) else (if (ff.length : Int) < (if (vv.length : Int) < (nn.length : Int) then (vv.length : Int) else (nn.length : Int)) then (ff.length : Int) else (if (vv.length : Int) < (nn.length : Int) then (vv.length : Int) else (nn.length : Int)))) := by kernel_rfl

theorem fn_FieldMade (F : Nat) (nn : List (List UInt8)) (vv : List (List UInt8)) (ff : List Bool) (bb : List UInt8) (r : AV) (h : (∃ M vs, ARels γ0 M [.p (.list 1 (.dat .str nn)), .p (.list 1 (.dat .str vv)), .p (.list 1 (.dat .bool ff)), .p (.str bb)] vs) → FFieldMade F nn vv ff bb = some (r, [])) : FnP Tryd.prog 4 [.p (.list 1 (.dat .str nn)), .p (.list 1 (.dat .str vv)), .p (.list 1 (.dat .bool ff)), .p (.str bb)] r :=
  FnP_run GFieldMade F rfl (EnvOk_mk (l := [(9, sp_awake), (10, sp_split), (12, sp_r7fields), (13, sp_plainf)]) ⟨ok_awake.any, ok_split.any, ok_r7fields.any, ok_plainf.any, trivial⟩) (EnvROk_mk (l := []) trivial) (Checked.mixed Tryd.checked) (fn := Tryd.f4) (by kernel_rfl) (by kernel_rfl) rfl h
theorem hdr_len {e : List UInt8} (he : endOk e) (x : Ent) (h1 : x.1.length ≤ 101) (h2 : x.2.1.length ≤ 101) : (hdr e x).length ≤ 250 := by
  have hel : e.length ≤ 2 := by rcases he with rfl | rfl <;> decide
  unfold hdr
  split
  · simp [more]; omega
  · simp; omega
theorem BFieldMade_7_true {F : Nat} {e : List UInt8} (he : endOk e) {E : List Ent} (h : ∀ x ∈ E, entOk x) (hl : (hdrs e E).length ≤ 100000) (hE : E.length ≤ 100) : BFieldMade_7 F e (hdrs e E) (E.map want) (((hdrs e E).length : Int) + e.length) (E.map want) = some (.p (.bool true), []) := by
  have hel : e.length ≤ 2 := by rcases he with rfl | rfl <;> decide
  rw [BFieldMade_7_eq, made_split2 he h]
  refine need_mk (by unfold lenok; simp; omega) (need_mk (by unfold i64ok; omega) (need_mk (by simp; omega) (need_mk (by simp; omega) (need_mk (fun _ => by unfold i64ok; omega) (need_mk (fun _ => by simp; omega) (need_mk (fun _ => by unfold i64ok; omega) ?_))))))
  simp
theorem BFieldMade_3_spec (F : Nat) {nn vv : List (List UInt8)} {ff : List Bool} {bb e : List UInt8} {n : Nat} (he : endOk e) (h1 : n ≤ nn.length) (h2 : n ≤ vv.length) (h3 : n ≤ ff.length) (h4 : n ≤ 20) : ∀ (k f i : Nat) (E : List Ent), n - i = k → k < f → i ≤ n → (∀ x ∈ E, entOk x) → (hdrs e E).length ≤ 250 * i → E.length = i →
    BFieldMade_3 F f nn vv ff bb (n : Int) e (hdrs e E) (i : Int) (E.map want) = some (.p (.bool true), []) := by
  have hel : e.length ≤ 2 := by rcases he with rfl | rfl <;> decide
  intro k
  induction k with
  | zero =>
    intro f i E hk hf hi hE hl hn
    have : i = n := by omega
    subst this
    cases f with
    | zero => omega
    | succ f =>
      rw [BFieldMade_3_eq]
      refine cond_f (by simp) ?_
      by_cases hb : bb.length > 1000
      · exact cond_t (by simp; omega) rfl
      · refine cond_f (by simp; omega) (need_mk (by unfold lenok; omega) (need_mk (by unfold lenok; simp; omega) (need_mk (by unfold i64ok; omega) (need_mk (by unfold i64ok; omega) (need_mk (by simp; omega) ?_)))))
        rw [show ((hdrs e E).length : Int) + (e.length : Int) + (bb.length : Int) = ((((hdrs e E ++ e) ++ bb).length : Nat) : Int) by simp; omega, made_split he hE bb]
        exact BFieldMade_7_true he hE (by omega) (by omega)
  | succ k ih =>
    intro f i E hk hf hi hE hl hn
    cases f with
    | zero => omega
    | succ f =>
      rw [BFieldMade_3_eq, Int.toNat_natCast]
      refine cond_t (by simp; omega) (need_mk ⟨by omega, by omega⟩ (need_mk (fun _ => ⟨by omega, by omega⟩) ?_))
      obtain ⟨kn, hkn⟩ : ∃ x, nn.getD i [] = x := ⟨_, rfl⟩
      obtain ⟨kv, hkv⟩ : ∃ x, vv.getD i [] = x := ⟨_, rfl⟩
      obtain ⟨kf, hkf⟩ : ∃ x, ff.getD i false = x := ⟨_, rfl⟩
      rw [BFieldMade_4_eq, Int.toNat_natCast, hkn, hkv]
      by_cases hbig : kn.length > 100 ∨ kv.length > 100
      · exact cond_t (by simp only [Bool.or_eq_true, decide_eq_true_eq]; omega) rfl
      · obtain ⟨n1, n2, n3⟩ := plainF_ok kn
        obtain ⟨v1, v2, v3⟩ := plainF_ok kv
        have hent : entOk (plainF kn, plainF kv, kf) := ⟨⟨n1, n2⟩, v1, v2⟩
        have hE2 : ∀ x ∈ E ++ [((plainF kn, plainF kv, kf) : Ent)], entOk x := by
          intro x hx
          rcases List.mem_append.1 hx with hx | hx
          · exact hE x hx
          · rw [List.mem_singleton.1 hx]; exact hent
        have hlen := hdr_len he (plainF kn, plainF kv, kf) (by dsimp only; omega) (by dsimp only; omega)
        have hnext := ih f (i + 1) (E ++ [(plainF kn, plainF kv, kf)]) (by omega) (by omega) (by omega) hE2 (by rw [hdrs_snoc, List.length_append]; omega) (by simp; omega)
        rw [hdrs_snoc, List.map_append] at hnext
        refine cond_f (by simp only [Bool.or_eq_false_iff, decide_eq_false_iff_not]; omega) (need_mk ⟨by omega, by omega⟩ (need_mk (by omega) (need_mk ⟨by omega, by omega⟩ (need_mk (by omega) (need_mk (by unfold lenok; omega) (need_mk (by unfold lenok; simp; omega) (need_mk (by unfold lenok; simp; omega) ?_)))))))
        rw [BFieldMade_5_eq, Int.toNat_natCast, hkf]
        refine need_mk ⟨by omega, by omega⟩ ?_
        cases kf with
        | true =>
          refine cond_t rfl (need_mk (by unfold lenok; simp; omega) (need_mk (by unfold lenok; simp; omega) (need_mk (by unfold lenok; simp; omega) ?_)))
          rw [BFieldMade_6_eq]
          refine need_mk (by unfold lenok; simp; omega) (need_mk (by simp; omega) (need_mk (by unfold i64ok; omega) ?_))
          rw [show (i : Int) + 1 = ((i + 1 : Nat) : Int) by omega]
          refine Eq.trans ?_ hnext
          congr 1
          simp [hdr, more]
        | false =>
          refine cond_f rfl ?_
          rw [BFieldMade_6_eq]
          refine need_mk (by unfold lenok; simp; omega) (need_mk (by simp; omega) (need_mk (by unfold i64ok; omega) ?_))
          rw [show (i : Int) + 1 = ((i + 1 : Nat) : Int) by omega]
          refine Eq.trans ?_ hnext
          congr 1
          · simp [hdr]
          · simp [want]
theorem FieldMade_true (nn vv : List (List UInt8)) (ff : List Bool) (bb : List UInt8) : FFieldMade 22 nn vv ff bb = some (.p (.bool true), []) := by
  rw [FFieldMade_eq]
  obtain ⟨n, hn, h1, h2, h3, h4⟩ : ∃ n : Nat, (if (20 : Int) < (if (ff.length : Int) < (if (vv.length : Int) < (nn.length : Int) then (vv.length : Int) else (nn.length : Int)) then (ff.length : Int) else (if (vv.length : Int) < (nn.length : Int) then (vv.length : Int) else (nn.length : Int))) then (20 : Int) else (if (ff.length : Int) < (if (vv.length : Int) < (nn.length : Int) then (vv.length : Int) else (nn.length : Int)) then (ff.length : Int) else (if (vv.length : Int) < (nn.length : Int) then (vv.length : Int) else (nn.length : Int)))) = (n : Int) ∧ n ≤ nn.length ∧ n ≤ vv.length ∧ n ≤ ff.length ∧ n ≤ 20 := by
    refine ⟨min 20 (min ff.length (min vv.length nn.length)), ?_, by omega, by omega, by omega, by omega⟩
    (repeat' split) <;> omega
  rw [hn, BFieldMade_1_eq, BFieldMade_2_eq, BFieldMade_2_eq]
  have hh : ∀ e, endOk e → BFieldMade_3 22 22 nn vv ff bb (n : Int) e [] (0 : Int) [] = some (.p (.bool true), []) := fun e he => BFieldMade_3_spec 22 he h1 h2 h3 h4 (n - 0) 22 0 [] rfl (by omega) (by omega) (by simp) (by simp [hdrs]) rfl
  rw [hh _ (.inl rfl), hh _ (.inr rfl)]
  cases ((bb.length : Int).tmod 2 == 0) <;> rfl
noncomputable def cFieldFirsts : Code := bodyOf Tryd.f7

noncomputable def GFieldFirsts : Cfg := ⟨Tryd.prog, mkEnv [(9, sp_awake), (15, sp_first), (16, sp_r7first)], mkEnvR [], 41, [], [], []⟩

noncomputable def FFieldFirsts (F : Nat) (l : List (List UInt8 × List UInt8)) (n : List UInt8) : Option Ans := runF GFieldFirsts Tryd.f7 F [.p (.list 2 (.dat (.pair .str .str) l)), .p (.str n)]

theorem FFieldFirsts_eq (F : Nat) (l : List (List UInt8 × List UInt8)) (n : List UInt8) : FFieldFirsts F l n = cond ((decide ((l.length : Int) > (200 : Int))) || (decide ((n.length : Int) > (300 : Int)))) (some (.p (.bool true), [])) (need (firstok l n) (need (firstok l n) (some (.p (.bool (((((firstS l n).1) == ((firstS l n).1)) && (((firstS l n).2) == ((firstS l n).2))) && true)), [])))) :=
  Eq.trans (show FFieldFirsts F l n = need ((!(decide ((l.length : Int) > (200 : Int)))) = true → (!(decide ((l.length : Int) > (200 : Int)))) = true) (need ((!(decide ((l.length : Int) > (200 : Int)))) = true → (!(decide ((l.length : Int) > (200 : Int)))) = true) (need ((decide ((l.length : Int) > (200 : Int))) = false → (!(decide ((l.length : Int) > (200 : Int)))) = true) (cond ((decide ((l.length : Int) > (200 : Int))) || (decide ((n.length : Int) > (300 : Int)))) (some (.p (.bool true), [])) (need (firstok l n) (need (firstok l n) (need ((((firstS l n).1) == ((firstS l n).1)) = true → (((firstS l n).1) == ((firstS l n).1)) = true) (need ((((firstS l n).1) == ((firstS l n).1)) = true → (((firstS l n).1) == ((firstS l n).1)) = true) (need ((((firstS l n).1) == ((firstS l n).1)) = true → (((firstS l n).1) == ((firstS l n).1)) = true) (need (((((firstS l n).1) == ((firstS l n).1)) && (((firstS l n).2) == ((firstS l n).2))) = true → ((((firstS l n).1) == ((firstS l n).1)) && (((firstS l n).2) == ((firstS l n).2))) = true) (some (.p (.bool (((((firstS l n).1) == ((firstS l n).1)) && (((firstS l n).2) == ((firstS l n).2))) && true)), []))))))))))) by kernel_rfl) (need_strike (show (!(decide ((l.length : Int) > (200 : Int)))) = true → (!(decide ((l.length : Int) > (200 : Int)))) = true from (fun q0 => q0)) (need_strike (show (!(decide ((l.length : Int) > (200 : Int)))) = true → (!(decide ((l.length : Int) > (200 : Int)))) = true from (fun q0 => q0)) (need_strike (show (decide ((l.length : Int) > (200 : Int))) = false → (!(decide ((l.length : Int) > (200 : Int)))) = true from (fun q0 => (not_mk q0))) (cond_congr (rfl) (need_congr (need_congr (need_strike (show (((firstS l n).1) == ((firstS l n).1)) = true → (((firstS l n).1) == ((firstS l n).1)) = true from (fun q0 => q0)) (need_strike (show (((firstS l n).1) == ((firstS l n).1)) = true → (((firstS l n).1) == ((firstS l n).1)) = true from (fun q0 => q0)) (need_strike (show (((firstS l n).1) == ((firstS l n).1)) = true → (((firstS l n).1) == ((firstS l n).1)) = true from (fun q0 => q0)) (need_strike (show ((((firstS l n).1) == ((firstS l n).1)) && (((firstS l n).2) == ((firstS l n).2))) = true → ((((firstS l n).1) == ((firstS l n).1)) && (((firstS l n).2) == ((firstS l n).2))) = true from (fun q0 => q0)) (rfl)))))))))))

theorem fn_FieldFirsts (F : Nat) (l : List (List UInt8 × List UInt8)) (n : List UInt8) (r : AV) (h : (∃ M vs, ARels γ0 M [.p (.list 2 (.dat (.pair .str .str) l)), .p (.str n)] vs) → FFieldFirsts F l n = some (r, [])) : FnP Tryd.prog 7 [.p (.list 2 (.dat (.pair .str .str) l)), .p (.str n)] r :=
  FnP_run GFieldFirsts F rfl (EnvOk_mk (l := [(9, sp_awake), (15, sp_first), (16, sp_r7first)]) ⟨ok_awake.any, ok_first.any, ok_r7first.any, trivial⟩) (EnvROk_mk (l := []) trivial) (Checked.mixed Tryd.checked) (fn := Tryd.f7) (by kernel_rfl) (by kernel_rfl) rfl h
theorem FieldFirsts_true (l : List (List UInt8 × List UInt8)) (n : List UInt8) (hb : ∀ x ∈ l, x.1.length ≤ 140737488355328) : FFieldFirsts 0 l n = some (.p (.bool true), []) := by
  rw [FFieldFirsts_eq]
  by_cases h : l.length > 200 ∨ n.length > 300
  · exact cond_t (by simp only [Bool.or_eq_true, decide_eq_true_eq]; omega) rfl
  · have hk : firstok l n := ⟨by omega, hb, by omega⟩
    refine cond_f (by simp only [Bool.or_eq_false_iff, decide_eq_false_iff_not]; omega) (need_mk hk (need_mk hk ?_))
    simp
end Go.Proofs.YtdabeedpleoakaaDoor
