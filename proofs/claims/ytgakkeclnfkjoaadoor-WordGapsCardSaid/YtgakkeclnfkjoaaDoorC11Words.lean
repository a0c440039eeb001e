/-
  Lifted functions, and facts about them.
-/
import Derived.Test.YtgakkeclnfkjoaaDoorRows
import Derived.Test.YtgakkeclnfkjoaaDoorAmC
import Derived.Test.YtgakkeclnfkjoaaDoorC11ROne
namespace Go.Proofs.YtgakkeclnfkjoaaDoor
open Go Go.Am
set_option linter.unusedVariables false
def okAt (s : List UInt8) (i : Nat) : Option (List UInt8 × Nat) := if (oneS s (i : Int)).2.2 = true then some ((oneS s (i : Int)).1, (oneS s (i : Int)).2.1.toNat) else none
def contN (s : List UInt8) (n : Nat) : Nat := if blN s n < s.length ∧ (okAt s (blN s n)).isSome = true then blN s n else n
def decF : Nat → List UInt8 → Nat → List UInt8
  | 0, _, _ => []
  | f + 1, s, i => if i < s.length then
      match okAt s i with
      | none => s.getD i 0 :: decF f s (i + 1)
      | some (t, n) => t ++ decF f s (contN s n)
    else []
def dec (s : List UInt8) (i : Nat) : List UInt8 := decF (s.length - i + 1) s i
def wordS (s : List UInt8) : List UInt8 := dec s 0
theorem bytesS_len : ∀ u : List UInt8, (bytesS u).length ≤ 4 * u.length
  | [] => by simp [bytesS]
  | c :: r => by
    have := bytesS_len r
    have h := putS_len (c.toNat : Int)
    unfold bytesS at *
    rw [List.flatMap_cons, List.length_append, List.length_cons]; omega
theorem bodyS_len {k : UInt8} {t u : List UInt8} (h : bodyS k t = some u) : u.length ≤ 3 * t.length + 2 := by
  unfold bodyS at h
  split at h
  · cases h; exact looseG_len t 0 0
  · split at h
    · cases h
      have := qdec_len _ (repS t 95 32) (Nat.le_refl _)
      rw [rep_len] at this; omega
    · cases h
theorem saysS_len (c u : List UInt8) : (saysS c u).1.length ≤ 4 * u.length := by
  unfold saysS
  split
  · simp; omega
  · split
    · exact bytesS_len u
    · simp
theorem parse_some {s : List UInt8} {i a b : Nat} (h : parse s i = some (a, b)) : i + 3 ≤ a ∧ a + 3 ≤ b ∧ b + 2 ≤ s.length ∧ s.getD i 0 = 61 := by
  unfold parse at h
  split at h
  · cases h
  · rename_i c1
    split at h
    · cases h
    · rename_i c2
      split at h
      · cases h
      · rename_i c3
        cases h
        have c1' : hasP (s.drop i) sOpen = true := by simpa using c1
        have c3' : hasP (s.drop (runN s (runN s (i + 2) + 3))) sShut = true := by simpa using c3
        have h1 := hasP2 c1'
        have h3 := hasP2 c3'
        simp only [List.length_drop, List.length_cons, List.length_nil] at h1 h3
        have r1 := runN_le (s := s) (i := i + 2) (by omega)
        have n1 : runN s (i + 2) ≠ i + 2 := fun e => c2 (.inl e)
        have n2 : ¬ s.length < runN s (i + 2) + 3 := fun e => c2 (.inr (.inl e))
        have r2 := runN_le (s := s) (i := runN s (i + 2) + 3) (by omega)
        refine ⟨by omega, by omega, by omega, ?_⟩
        unfold hasP at c1'
        rw [beq_iff_eq] at c1'
        have := take_cons (s := s) (j := i) (m := 1) (by omega)
        rw [show sOpen.length = 1 + 1 from rfl, this] at c1'
        exact (List.cons.inj c1').1
theorem okAt_some {s : List UInt8} {i : Nat} {t : List UInt8} {n : Nat} (h : okAt s i = some (t, n)) : oneS s (i : Int) = (t, (n : Int), true) ∧ i + 8 ≤ n ∧ n ≤ s.length ∧ s.getD i 0 = 61 ∧ t.length + 8 * i ≤ 12 * n + 8 * i ∧ t.length ≤ 12 * (n - i) := by
  unfold okAt at h
  split at h
  · rename_i hok
    cases h
    unfold oneS at *
    rw [show ((i : Int)).toNat = i from rfl] at *
    cases hp : parse s i with
    | none => rw [hp] at hok; cases hok
    | some p =>
      obtain ⟨a, b⟩ := p
      obtain ⟨h1, h2, h3, h4⟩ := parse_some hp
      rw [hp] at hok
      dsimp only at hok ⊢
      cases hb : bodyS (s.getD (a + 1) 0) ((s.take b).drop (a + 3)) with
      | none => rw [hb] at hok; cases hok
      | some u =>
        rw [hb] at hok
        dsimp only at hok ⊢
        have l1 := bodyS_len hb
        have l2 := saysS_len ((s.take a).drop (i + 2)) u
        have l3 : ((s.take b).drop (a + 3)).length ≤ b - (a + 3) := by simp; omega
        rw [hok]
        refine ⟨rfl, ?_, ?_, h4, ?_, ?_⟩ <;> rw [show (((b + 2 : Nat) : Int)).toNat = b + 2 from rfl] <;> omega
  · cases h
theorem okAt_none {s : List UInt8} {i : Nat} (h : okAt s i = none) : (oneS s (i : Int)).2.2 = false := by
  unfold okAt at h
  split at h
  · cases h
  · rename_i hok; simpa using hok
theorem blN_spec (s : List UInt8) (n : Nat) : ∀ j, n ≤ j → j < blN s n → isBl (s.getD j 0) = true := by
  intro j hj hlt
  unfold blN at hlt
  have hm : j - n < ((s.drop n).takeWhile isBl).length := by omega
  have hp : ((s.drop n).takeWhile isBl)[j - n]? = (s.drop n)[j - n]? := by
    have := List.takeWhile_append_dropWhile (p := isBl) (l := s.drop n)
    conv => rhs; rw [← this]
    rw [List.getElem?_append_left hm]
  have hmem : ((s.drop n).takeWhile isBl)[j - n] ∈ (s.drop n).takeWhile isBl := List.getElem_mem hm
  have hall := List.all_takeWhile (p := isBl) (l := s.drop n)
  rw [List.all_eq_true] at hall
  have := hall _ hmem
  rw [List.getElem?_eq_getElem hm, List.getElem?_drop] at hp
  rw [show n + (j - n) = j by omega] at hp
  rw [List.getD_eq_getElem?_getD, ← hp]; exact this
theorem contN_le {s : List UInt8} {n : Nat} (h : n ≤ s.length) : n ≤ contN s n ∧ contN s n ≤ s.length := by
  have := blN_le h
  unfold contN
  split <;> omega
theorem decF_eq (s : List UInt8) : ∀ (f g i : Nat), s.length - i < f → s.length - i < g → decF f s i = decF g s i := by
  intro f
  induction f with
  | zero => intro g i h; omega
  | succ f ih =>
    intro g i hf hg
    cases g with
    | zero => omega
    | succ g =>
      rw [decF, decF]
      by_cases hi : i < s.length
      · rw [if_pos hi, if_pos hi]
        cases ho : okAt s i with
        | none => dsimp only; rw [ih g (i + 1) (by omega) (by omega)]
        | some p =>
          obtain ⟨t, n⟩ := p
          obtain ⟨_, h1, h2, _⟩ := okAt_some ho
          have := contN_le h2
          dsimp only
          rw [ih g (contN s n) (by omega) (by omega)]
      · rw [if_neg hi, if_neg hi]
theorem dec_end {s : List UInt8} {i : Nat} (h : s.length ≤ i) : dec s i = [] := by rw [dec, decF, if_neg (by omega)]
theorem dec_none {s : List UInt8} {i : Nat} (h : i < s.length) (ho : okAt s i = none) : dec s i = s.getD i 0 :: dec s (i + 1) := by
  rw [dec, decF, if_pos h, ho]
  dsimp only
  rw [dec, decF_eq s (s.length - i) (s.length - (i + 1) + 1) (i + 1) (by omega) (by omega)]
theorem dec_some {s : List UInt8} {i n : Nat} {t : List UInt8} (h : i < s.length) (ho : okAt s i = some (t, n)) : dec s i = t ++ dec s (contN s n) := by
  obtain ⟨_, h1, h2, _⟩ := okAt_some ho
  have := contN_le h2
  rw [dec, decF, if_pos h, ho]
  dsimp only
  rw [dec, decF_eq s (s.length - i) (s.length - (contN s n) + 1) (contN s n) (by omega) (by omega)]
noncomputable def cwdec : Code := bodyOf Tryd.f8

noncomputable def Gwdec : Cfg := ⟨Tryd.prog, mkEnv [(15, sp_one), (18, sp_wbl)], mkEnvR [(16, sp_wbyte), (17, sp_wstr), (19, sp_bstr)], 51, [], [([0, 0, 1, 1, 1, 0, 1], ⟨[0, 3, 4], [⟨.slot 3, 3, .cells []⟩, ⟨.cell 3 1, 4001, (.barr 5 false [])⟩]⟩)], [([0, 0, 1, 0, 1, 0, 1, 0, 0, 0, 1, 1, 1, 0, 1], [3]), ([0, 1, 1, 0, 1, 0, 0, 0, 1, 1, 1, 0, 1], [1]), ([0, 1, 1, 1, 1, 0, 1], [0])]⟩

noncomputable def Bwdec_1 (F f1 : Nat) (s : List UInt8) (vi1 : Int) (vb2 : List UInt8) : Option Ans := runR Gwdec cwdec (kP Tryd.prog Tryd.f8.results.toList) F [] [1, 0, 1, 1, 1, 0, 0] f1 [(0, .p (.str s)), (3, .ref 3 0), (4, .p (.int .i64 vi1))] [(3, .bldr 31 (.arr 4001)), (4001, .barr 5 false vb2)]

noncomputable def Fwdec (F : Nat) (s : List UInt8) : Option Ans := runF Gwdec Tryd.f8 F [.p (.str s)]

theorem Bwdec_1_eq (F f1 : Nat) (s : List UInt8) (vi1 : Int) (vb2 : List UInt8) : Bwdec_1 F (f1 + 1) s vi1 vb2 = cond (decide (vi1 < (s.length : Int))) (need (wposok s vi1) (cond (!((oneS s vi1).2.2)) (need (0 ≤ vi1 ∧ vi1 < (s.length : Int)) (need (vb2.length + 1 ≤ 140737488355328) (need (i64ok (vi1 + (1 : Int))) (Bwdec_1 F f1 s (vi1 + (1 : Int)) (vb2 ++ [UInt8.ofNat (((s.getD (vi1).toNat 0).toNat : Int)).toNat]))))) (need (vb2.length + ((oneS s vi1).1).length ≤ 140737488355328) (need (wposok s ((oneS s vi1).2.1)) (cond (decide ((blankS s ((oneS s vi1).2.1)) < (s.length : Int))) (need (wposok s (blankS s ((oneS s vi1).2.1))) (cond ((oneS s (blankS s ((oneS s vi1).2.1))).2.2) (Bwdec_1 F f1 s (blankS s ((oneS s vi1).2.1)) (vb2 ++ ((oneS s vi1).1))) (Bwdec_1 F f1 s ((oneS s vi1).2.1) (vb2 ++ ((oneS s vi1).1))))) (Bwdec_1 F f1 s ((oneS s vi1).2.1) (vb2 ++ ((oneS s vi1).1)))))))) (some (.p (.str vb2), [])) := by kernel_rfl

theorem Fwdec_eq (F : Nat) (s : List UInt8) : Fwdec F s = Bwdec_1 F F s (0 : Int) [] := by kernel_rfl

theorem fn_wdec (F : Nat) (s : List UInt8) (r : AV) (h : (∃ M vs, ARels γ0 M [.p (.str s)] vs) → Fwdec F s = some (r, [])) : FnP Tryd.prog 8 [.p (.str s)] r :=
  FnP_run Gwdec F rfl (EnvOk_mk (l := [(15, sp_one), (18, sp_wbl)]) ⟨ok_one.any, ok_wbl.any, trivial⟩) (EnvROk_mk (l := [(16, sp_wbyte), (17, sp_wstr), (19, sp_bstr)]) ⟨ok_wbyte, ok_wstr, ok_bstr, trivial⟩) (Checked.mixed Tryd.checked) (fn := Tryd.f8) (by kernel_rfl) (by kernel_rfl) rfl h

noncomputable def cwords : Code := bodyOf Tryd.f9

noncomputable def Gwords : Cfg := ⟨Tryd.prog, mkEnv [(20, sp_r7one)], mkEnvR [], 52, [], [([0, 1, 0, 1, 1, 1], ⟨[0, 3, 4, 5], [⟨.slot 3, 3, (.barr 5 true [])⟩]⟩), ([1, 0, 1, 0, 1, 0, 1, 0, 0, 1, 0, 1, 1, 1], ⟨[0, 3, 6, 7], [⟨.slot 3, 3, (.barr 5 true [])⟩]⟩), ([1, 0, 1, 1, 1, 0, 1, 0, 0, 1, 0, 1, 1, 1], ⟨[0, 3, 4, 5, 47], [⟨.slot 3, 3, (.barr 5 true [])⟩]⟩), ([1, 1, 1, 1, 0, 1, 0, 0, 1, 0, 1, 1, 1], ⟨[0, 3, 4, 5], [⟨.slot 3, 3, (.barr 5 true [])⟩]⟩)], [([0, 1, 0, 0, 1, 0, 1, 0, 1, 0, 0, 1, 0, 1, 1, 1], [2])]⟩

noncomputable def Bwords_1 (F f1 : Nat) (s : List UInt8) (vi1 : Int) (vi2 : Int) (vb3 : List UInt8) : Option Ans := runR Gwords cwords (kP Tryd.prog Tryd.f9.results.toList) F [] [1, 1, 1, 0, 1, 0] f1 [(0, .p (.str s)), (3, .arr 3), (4, .p (.int .i64 vi1)), (5, .p (.int .i64 vi2))] [(3, .barr 5 true vb3)]

noncomputable def Bwords_2 (F f1 : Nat) (s : List UInt8) (vs4 : List UInt8) (vi5 : Int) (vb6 : List UInt8) : Option Ans := runB Gwords cwords (kP Tryd.prog Tryd.f9.results.toList) F [f1] [1, 1, 1, 0, 1, 0, 0, 1, 0, 1, 0, 1, 0, 1] [(0, .p (.str s)), (3, .arr 3), (6, .p (.str vs4)), (7, .p (.int .i64 vi5))] [(3, .barr 5 true vb6)]

noncomputable def Bwords_3 (F f1 : Nat) (s : List UInt8) (vi1 : Int) (vi2 : Int) (vc7 : Bool) (vb8 : List UInt8) : Option Ans := runB Gwords cwords (kP Tryd.prog Tryd.f9.results.toList) F [f1] [1, 1, 1, 0, 1, 0, 0, 1, 0, 1, 1, 1, 0, 1] [(0, .p (.str s)), (3, .arr 3), (4, .p (.int .i64 vi1)), (5, .p (.int .i64 vi2)), (47, .p (.bool vc7))] [(3, .barr 5 true vb8)]

noncomputable def Bwords_4 (F f1 : Nat) (s : List UInt8) (vi9 : Int) (vi2 : Int) (vb8 : List UInt8) : Option Ans := runB Gwords cwords (kP Tryd.prog Tryd.f9.results.toList) F [f1] [1, 1, 1, 0, 1, 0, 0, 1, 0, 1, 1, 1, 1] [(0, .p (.str s)), (3, .arr 3), (4, .p (.int .i64 vi9)), (5, .p (.int .i64 vi2))] [(3, .barr 5 true vb8)]

noncomputable def Fwords (F : Nat) (s : List UInt8) : Option Ans := runF Gwords Tryd.f9 F [.p (.str s)]

theorem Bwords_1_eq (F f1 : Nat) (s : List UInt8) (vi1 : Int) (vi2 : Int) (vb3 : List UInt8) : Bwords_1 F (f1 + 1) s vi1 vi2 vb3 = cond (decide (vi2 < (s.length : Int))) (need (wposok s vi2) (cond ((oneR s vi2).2.2) (cond (decide (vi1 ≥ (0 : Int))) (need (0 ≤ vi1 ∧ vi1 ≤ (vb3.length : Int)) (Bwords_2 F f1 s ((oneR s vi2).1) ((oneR s vi2).2.1) (vb3.take (vi1).toNat))) (Bwords_2 F f1 s ((oneR s vi2).1) ((oneR s vi2).2.1) vb3)) (need (0 ≤ vi2 ∧ vi2 < (s.length : Int)) (need ((vb3.length + [UInt8.ofNat (((s.getD (vi2).toNat 0).toNat : Int)).toNat].length) * 1 ≤ 140737488355328) (need (0 ≤ vi2 ∧ vi2 < (s.length : Int)) (((need ((((s.getD (vi2).toNat 0).toNat : Int) != (32 : Int)) = true → 0 ≤ vi2 ∧ vi2 < (s.length : Int)) (((Bwords_3 F f1 s vi1 vi2 ((((s.getD (vi2).toNat 0).toNat : Int) != (32 : Int)) && (((s.getD (vi2).toNat 0).toNat : Int) != (9 : Int))) (vb3 ++ [UInt8.ofNat (((s.getD (vi2).toNat 0).toNat : Int)).toNat])))))))))))) (some (.p (.str vb3), [])) := by
  have h : Bwords_1 F (f1 + 1) s vi1 vi2 vb3 = cond (decide (vi2 < (s.length : Int))) (need (wposok s vi2) (cond ((oneR s vi2).2.2) (cond (decide (vi1 ≥ (0 : Int))) (need (0 ≤ vi1 ∧ vi1 ≤ (vb3.length : Int)) (Bwords_2 F f1 s ((oneR s vi2).1) ((oneR s vi2).2.1) (vb3.take (vi1).toNat))) (Bwords_2 F f1 s ((oneR s vi2).1) ((oneR s vi2).2.1) vb3)) (need (0 ≤ vi2 ∧ vi2 < (s.length : Int)) (need ((vb3.length + [UInt8.ofNat (((s.getD (vi2).toNat 0).toNat : Int)).toNat].length) * 1 ≤ 140737488355328) (need (0 ≤ vi2 ∧ vi2 < (s.length : Int)) (need ((((s.getD (vi2).toNat 0).toNat : Int) != (32 : Int)) = true → (((s.getD (vi2).toNat 0).toNat : Int) != (32 : Int)) = true) (need ((((s.getD (vi2).toNat 0).toNat : Int) != (32 : Int)) = true → (((s.getD (vi2).toNat 0).toNat : Int) != (32 : Int)) = true) (need ((((s.getD (vi2).toNat 0).toNat : Int) != (32 : Int)) = true → 0 ≤ vi2 ∧ vi2 < (s.length : Int)) (need ((((s.getD (vi2).toNat 0).toNat : Int) != (32 : Int)) = true → (((s.getD (vi2).toNat 0).toNat : Int) != (32 : Int)) = true) (need ((((s.getD (vi2).toNat 0).toNat : Int) != (32 : Int)) = true → (((s.getD (vi2).toNat 0).toNat : Int) != (32 : Int)) = true) (Bwords_3 F f1 s vi1 vi2 ((((s.getD (vi2).toNat 0).toNat : Int) != (32 : Int)) && (((s.getD (vi2).toNat 0).toNat : Int) != (9 : Int))) (vb3 ++ [UInt8.ofNat (((s.getD (vi2).toNat 0).toNat : Int)).toNat])))))))))))) (some (.p (.str vb3), [])) := by kernel_rfl
  rw [h, need_pos (show (((s.getD (vi2).toNat 0).toNat : Int) != (32 : Int)) = true → (((s.getD (vi2).toNat 0).toNat : Int) != (32 : Int)) = true from (fun q0 => q0)), need_pos (show (((s.getD (vi2).toNat 0).toNat : Int) != (32 : Int)) = true → (((s.getD (vi2).toNat 0).toNat : Int) != (32 : Int)) = true from (fun q0 => q0)), need_pos (show (((s.getD (vi2).toNat 0).toNat : Int) != (32 : Int)) = true → (((s.getD (vi2).toNat 0).toNat : Int) != (32 : Int)) = true from (fun q0 => q0)), need_pos (show (((s.getD (vi2).toNat 0).toNat : Int) != (32 : Int)) = true → (((s.getD (vi2).toNat 0).toNat : Int) != (32 : Int)) = true from (fun q0 => q0))]

theorem Bwords_2_eq (F f1 : Nat) (s : List UInt8) (vs4 : List UInt8) (vi5 : Int) (vb6 : List UInt8) : Bwords_2 F f1 s vs4 vi5 vb6 = need ((vb6.length + vs4.length) * 1 ≤ 140737488355328) (Bwords_1 F f1 s ((vb6 ++ vs4).length : Int) vi5 (vb6 ++ vs4)) := by kernel_rfl

theorem Bwords_3_eq (F f1 : Nat) (s : List UInt8) (vi1 : Int) (vi2 : Int) (vc7 : Bool) (vb8 : List UInt8) : Bwords_3 F f1 s vi1 vi2 vc7 vb8 = cond (vc7) (Bwords_4 F f1 s (-1 : Int) vi2 vb8) (Bwords_4 F f1 s vi1 vi2 vb8) := by kernel_rfl

theorem Bwords_4_eq (F f1 : Nat) (s : List UInt8) (vi9 : Int) (vi2 : Int) (vb8 : List UInt8) : Bwords_4 F f1 s vi9 vi2 vb8 = need (i64ok (vi2 + (1 : Int))) (Bwords_1 F f1 s vi9 (vi2 + (1 : Int)) vb8) := by kernel_rfl

theorem Fwords_eq (F : Nat) (s : List UInt8) : Fwords F s = Bwords_1 F F s (-1 : Int) (0 : Int) [] := by kernel_rfl

theorem fn_words (F : Nat) (s : List UInt8) (r : AV) (h : (∃ M vs, ARels γ0 M [.p (.str s)] vs) → Fwords F s = some (r, [])) : FnP Tryd.prog 9 [.p (.str s)] r :=
  FnP_run Gwords F rfl (EnvOk_mk (l := [(20, sp_r7one)]) ⟨ok_r7one.any, trivial⟩) (EnvROk_mk (l := []) trivial) (Checked.mixed Tryd.checked) (fn := Tryd.f9) (by kernel_rfl) (by kernel_rfl) rfl h
theorem u8self (c : UInt8) : UInt8.ofNat ((c.toNat : Int)).toNat = c := by simp
theorem Bwdec_spec (F : Nat) (s : List UInt8) (hs : s.length ≤ 100000) : ∀ (f i : Nat) (acc : List UInt8), s.length - i < f → i ≤ s.length → acc.length ≤ 12 * i →
    Bwdec_1 F f s (i : Int) acc = some (.p (.str (acc ++ dec s i)), []) := by
  intro f
  induction f with
  | zero => intro i acc h; omega
  | succ f ih =>
    intro i acc hf hi ha
    rw [Bwdec_1_eq]
    by_cases h : i < s.length
    · refine cond_t (by simpa using h) (need_mk ⟨by omega, by omega, hs⟩ ?_)
      rw [show ((i : Int)).toNat = i from rfl, u8self]
      cases ho : okAt s i with
      | none =>
        rw [okAt_none ho]
        refine cond_t rfl ?_
        refine need_mk (by first | omega | (unfold i64ok; omega) | (simp only [List.length_cons, List.length_nil]; omega) | (simp; omega) | simp) ?_
        refine need_mk (by first | omega | (unfold i64ok; omega) | (simp only [List.length_cons, List.length_nil]; omega) | (simp; omega) | simp) ?_
        refine need_mk (by first | omega | (unfold i64ok; omega) | (simp only [List.length_cons, List.length_nil]; omega) | (simp; omega) | simp) ?_
        have e : (i : Int) + 1 = ((i + 1 : Nat) : Int) := by omega
        rw [e, ih (i + 1) _ (by omega) (by omega) (by simp; omega), dec_none h ho]
        simp
      | some p =>
        obtain ⟨t, n⟩ := p
        obtain ⟨h1, h2, h3, _, _, h4⟩ := okAt_some ho
        rw [h1]
        refine cond_f rfl (need_mk (by dsimp only; omega) (need_mk ⟨by dsimp only; omega, by dsimp only; omega, hs⟩ ?_))
        dsimp only
        rw [show blankS s (n : Int) = (blN s n : Int) from rfl, dec_some h ho]
        have hb := blN_le h3
        have fin : ∀ m, m = contN s n → Bwdec_1 F f s (m : Int) (acc ++ t) = some (.p (.str (acc ++ (t ++ dec s (contN s n)))), []) := fun m hm => by
          have := contN_le h3
          rw [hm, ih (contN s n) (acc ++ t) (by omega) (by omega) (by simp; omega), List.append_assoc]
        by_cases c1 : blN s n < s.length
        · refine cond_t (by simpa using c1) (need_mk ⟨by omega, by omega, hs⟩ ?_)
          cases ho2 : okAt s (blN s n) with
          | none =>
            rw [okAt_none ho2]
            exact cond_f rfl (fin n (by unfold contN; rw [if_neg (by rw [ho2]; simp)]))
          | some q =>
            obtain ⟨t2, n2⟩ := q
            rw [(okAt_some ho2).1]
            exact cond_t rfl (fin (blN s n) (by unfold contN; rw [if_pos ⟨c1, by rw [ho2]; rfl⟩]))
        · exact cond_f (by simpa using c1) (fin n (by unfold contN; rw [if_neg (fun h => c1 h.1)]))
    · refine cond_f (by simpa using h) ?_
      rw [dec_end (by omega)]; simp
theorem wdec_eq (s : List UInt8) (hs : s.length ≤ 100000) : Fwdec (s.length + 1) s = some (.p (.str (wordS s)), []) := by
  rw [Fwdec_eq]
  exact Bwdec_spec _ s hs (s.length + 1) 0 [] (by omega) (by omega) (by simp)
def sp_wdec : List AV → Option (AV × Option Prop)
  | [.p (.str s)] => some (.p (.str (wordS s)), some (s.length ≤ 100000))
  | _ => none
theorem ok_wdec : SpecOk Tryd.prog 8 sp_wdec := by
  intro zs r ok he hok
  unfold sp_wdec at he
  split at he
  · cases he; exact ⟨by kernel_rfl, fn_wdec (_) _ _ fun hx => wdec_eq _ hok⟩
  · cases he
theorem drop_get {s : List UInt8} {i : Nat} (h : i < s.length) : s.drop i = s.getD i 0 :: s.drop (i + 1) := by
  rw [List.drop_eq_getElem_cons h, List.getD_eq_getElem?_getD, List.getElem?_eq_getElem h]; rfl
theorem blN_step {s : List UInt8} {p : Nat} (h : p < s.length) (hb : isBl (s.getD p 0) = true) : blN s p = blN s (p + 1) := by
  unfold blN
  rw [drop_get h, List.takeWhile_cons, if_pos hb, List.length_cons]; omega
theorem blN_stop {s : List UInt8} {p : Nat} (h : p < s.length → isBl (s.getD p 0) = false) : blN s p = p := by
  unfold blN
  by_cases hp : p < s.length
  · rw [drop_get hp, List.takeWhile_cons, if_neg (by rw [h hp]; simp)]; rfl
  · rw [List.drop_eq_nil_of_le (by omega)]; rfl
theorem blN_at {s : List UInt8} {i : Nat} (hi : i < s.length → isBl (s.getD i 0) = false) : ∀ (k p : Nat), p + k = i → i ≤ s.length → (∀ j, p ≤ j → j < i → isBl (s.getD j 0) = true) → blN s p = i := by
  intro k
  induction k with
  | zero => intro p hp hl hb; have : p = i := by omega
            subst this; exact blN_stop hi
  | succ k ih => intro p hp hl hb; rw [blN_step (by omega) (hb p (by omega) (by omega)), ih (p + 1) (by omega) hl (fun j h1 h2 => hb j (by omega) h2)]
theorem ok_bl {s : List UInt8} {i : Nat} (h : isBl (s.getD i 0) = true) : okAt s i = none := by
  cases ho : okAt s i with
  | none => rfl
  | some q =>
    obtain ⟨t, n⟩ := q
    rw [(okAt_some ho).2.2.2.1] at h; cases h
theorem take_snoc {s : List UInt8} {p i : Nat} (hp : p ≤ i) (h : i < s.length) : (s.take (i + 1)).drop p = (s.take i).drop p ++ [s.getD i 0] := by
  rw [List.take_add_one, List.getElem?_eq_getElem h, List.drop_append, List.getD_eq_getElem?_getD, List.getElem?_eq_getElem h]
  have : p - (s.take i).length = 0 := by simp; omega
  rw [this]; rfl
theorem dec_bl {s : List UInt8} : ∀ (k p i : Nat), p + k = i → i ≤ s.length → (∀ j, p ≤ j → j < i → isBl (s.getD j 0) = true) → dec s p = (s.take i).drop p ++ dec s i := by
  intro k
  induction k with
  | zero => intro p i hp hl hb; have : p = i := by omega
            subst this; rw [List.drop_eq_nil_of_le (by rw [List.length_take]; omega)]; rfl
  | succ k ih =>
    intro p i hp hl hb
    rw [dec_none (by omega) (ok_bl (hb p (by omega) (by omega))), ih (p + 1) i (by omega) hl (fun j h1 h2 => hb j (by omega) h2)]
    have : (s.take i).drop p = s.getD p 0 :: (s.take i).drop (p + 1) := by
      rw [drop_get (by simp; omega)]
      congr 1
      rw [List.getD_eq_getElem?_getD, List.getD_eq_getElem?_getD, List.getElem?_take_of_lt (by omega)]
    rw [this]; rfl
theorem oneR_one (s : List UInt8) (i : Int) : (oneR s i).2.2 = (oneS s i).2.2 ∧ ((oneS s i).2.2 = true → oneR s i = oneS s i) := by
  unfold oneR oneS
  cases parse s i.toNat with
  | none => exact ⟨rfl, fun h => by cases h⟩
  | some p =>
    obtain ⟨a, b⟩ := p
    dsimp only
    cases bodyS (s.getD (a + 1) 0) ((s.take b).drop (a + 3)) with
    | none => exact ⟨rfl, fun h => by cases h⟩
    | some u =>
      dsimp only
      unfold saysS
      split
      · exact ⟨rfl, fun _ => rfl⟩
      · split
        · exact ⟨rfl, fun _ => rfl⟩
        · exact ⟨rfl, fun h => by cases h⟩
theorem oneR_ok {s : List UInt8} {i : Nat} {t : List UInt8} {n : Nat} (h : okAt s i = some (t, n)) : oneR s (i : Int) = (t, (n : Int), true) := by
  have h1 := (okAt_some h).1
  rw [(oneR_one s i).2 (by rw [h1]), h1]
theorem oneR_no {s : List UInt8} {i : Nat} (h : okAt s i = none) : (oneR s (i : Int)).2.2 = false := by
  rw [(oneR_one s i).1]; exact okAt_none h
theorem bl_dec2 (c : UInt8) : (((c.toNat : Int) != (32 : Int)) && ((c.toNat : Int) != (9 : Int))) = !isBl c := by
  rw [← isBl_dec, Bool.not_or]; rfl
theorem Bwords_spec (F : Nat) (s : List UInt8) (hs : s.length ≤ 100000) : ∀ (f : Nat),
    (∀ (i p : Nat) (out : List UInt8), s.length - i < f → p ≤ i → i ≤ s.length → (∀ j, p ≤ j → j < i → isBl (s.getD j 0) = true) → out.length ≤ 12 * p →
      Bwords_1 F f s (out.length : Int) (i : Int) (out ++ (s.take i).drop p) = some (.p (.str (out ++ dec s (contN s p))), [])) ∧
    (∀ (i : Nat) (out : List UInt8), s.length - i < f → i ≤ s.length → out.length ≤ 12 * i → Bwords_1 F f s (-1 : Int) (i : Int) out = some (.p (.str (out ++ dec s i)), [])) := by
  intro f
  induction f with
  | zero => exact ⟨fun i p out h => by omega, fun i out h => by omega⟩
  | succ f ih =>
    have two : ∀ (n : Nat) (t out : List UInt8), s.length - n < f → n ≤ s.length → out.length + t.length ≤ 12 * n → Bwords_2 F f s t (n : Int) out = some (.p (.str (out ++ (t ++ dec s (contN s n)))), []) := by
      intro n t out hf hn ho
      rw [Bwords_2_eq]
      refine need_mk (by first | omega | (unfold i64ok; omega) | (simp only [List.length_cons, List.length_nil]; omega) | (simp; omega) | simp) ?_
      have := ih.1 n n (out ++ t) hf (Nat.le_refl _) hn (fun j h1 h2 => by omega) (by simp; omega)
      rw [List.drop_eq_nil_of_le (by rw [List.length_take]; omega), List.append_nil] at this
      rw [this, List.append_assoc]
    have four : ∀ (i : Nat) (last : Int) (out : List UInt8) (r : Option Ans), i < s.length → Bwords_1 F f s last ((i + 1 : Nat) : Int) out = r → Bwords_4 F f s last (i : Int) out = r := by
      intro i last out r hi h
      rw [Bwords_4_eq]
      refine need_mk (by first | omega | (unfold i64ok; omega) | (simp only [List.length_cons, List.length_nil]; omega) | (simp; omega) | simp) ?_
      exact h
    have three : ∀ (i : Nat) (last : Int) (out : List UInt8) (r : Option Ans), i < s.length → okAt s i = none → out.length ≤ 12 * i →
        Bwords_3 F f s last (i : Int) (!isBl (s.getD i 0)) (out ++ [s.getD i 0]) = r → Bwords_1 F (f + 1) s last (i : Int) out = r := by
      intro i last out r hi ho hl h
      rw [Bwords_1_eq]
      refine cond_t (by simpa using hi) (need_mk ⟨by omega, by omega, hs⟩ ?_)
      rw [oneR_no ho]
      refine cond_f rfl ?_
      refine need_mk (by first | omega | (unfold i64ok; omega) | (simp only [List.length_cons, List.length_nil]; omega) | (simp; omega) | simp) ?_
      refine need_mk (by first | omega | (unfold i64ok; omega) | (simp only [List.length_cons, List.length_nil]; omega) | (simp; omega) | simp) ?_
      refine need_mk (by first | omega | (unfold i64ok; omega) | (simp only [List.length_cons, List.length_nil]; omega) | (simp; omega) | simp) ?_
      refine need_mk (fun _ => by omega) ?_
      rw [show ((i : Int)).toNat = i from rfl, u8self, bl_dec2]
      exact h
    refine ⟨fun i p out hf hp hi hb hl => ?_, fun i out hf hi hl => ?_⟩
    · have hlen : ((s.take i).drop p).length = i - p := by simp; omega
      by_cases h : i < s.length
      · cases ho : okAt s i with
        | none =>
          refine three i _ _ _ h ho (by simp; omega) ?_
          rw [Bwords_3_eq, List.append_assoc, ← take_snoc hp h]
          by_cases hbl : isBl (s.getD i 0) = true
          · refine cond_f (by rw [hbl]; rfl) (four i _ _ _ h ?_)
            refine ih.1 (i + 1) p out (by omega) (by omega) (by omega) (fun j h1 h2 => ?_) hl
            rcases Nat.lt_or_ge j i with h3 | h3
            · exact hb j h1 h3
            · have : j = i := by omega
              subst this; exact hbl
          · have hbl' : isBl (s.getD i 0) = false := by simpa using hbl
            refine cond_t (by rw [hbl']; rfl) (four i _ _ _ h ?_)
            rw [ih.2 (i + 1) _ (by omega) (by omega) (by simp; omega)]
            have hbN := blN_at (fun _ => hbl') (i - p) p (by omega) hi hb
            have hc : contN s p = p := by unfold contN; rw [if_neg (by rw [hbN, ho]; simp)]
            rw [hc, dec_bl (i - p) p i (by omega) hi hb, dec_none h ho, take_snoc hp h]
            simp
        | some q =>
          obtain ⟨t, n⟩ := q
          obtain ⟨_, h2, h3, h61, _, h4⟩ := okAt_some ho
          rw [Bwords_1_eq]
          refine cond_t (by simpa using h) (need_mk ⟨by omega, by omega, hs⟩ ?_)
          rw [oneR_ok ho]
          refine cond_t rfl (cond_t (by simp) (need_mk ⟨by omega, by rw [List.length_append]; omega⟩ ?_))
          rw [show ((out.length : Int)).toNat = out.length from rfl, List.take_left' rfl]
          dsimp only
          rw [two n t out (by omega) h3 (by omega)]
          have hbN := blN_at (s := s) (i := i) (fun _ => by rw [h61]; rfl) (i - p) p (by omega) hi hb
          have hc : contN s p = i := by unfold contN; rw [if_pos (by rw [hbN, ho]; exact ⟨h, rfl⟩), hbN]
          rw [hc, dec_some h ho]
      · have hie : i = s.length := by omega
        rw [Bwords_1_eq]
        refine cond_f (by simp; omega) ?_
        have hbN := blN_at (s := s) (i := i) (fun h' => absurd h' h) (i - p) p (by omega) hi hb
        have hc : contN s p = p := by unfold contN; rw [if_neg (by rw [hbN]; exact fun q => h q.1)]
        rw [hc, dec_bl (i - p) p i (by omega) hi hb, dec_end (i := i) (by omega), List.append_nil]
    · by_cases h : i < s.length
      · cases ho : okAt s i with
        | none =>
          refine three i _ _ _ h ho hl ?_
          rw [Bwords_3_eq]
          have fin : Bwords_4 F f s (-1 : Int) (i : Int) (out ++ [s.getD i 0]) = some (.p (.str (out ++ dec s i)), []) := by
            refine four i _ _ _ h ?_
            rw [ih.2 (i + 1) _ (by omega) (by omega) (by simp; omega), dec_none h ho]; simp
          cases !isBl (s.getD i 0) with
          | true => exact cond_t rfl fin
          | false => exact cond_f rfl fin
        | some q =>
          obtain ⟨t, n⟩ := q
          obtain ⟨_, h2, h3, h61, _, h4⟩ := okAt_some ho
          rw [Bwords_1_eq]
          refine cond_t (by simpa using h) (need_mk ⟨by omega, by omega, hs⟩ ?_)
          rw [oneR_ok ho]
          refine cond_t rfl (cond_f rfl ?_)
          dsimp only
          rw [two n t out (by omega) h3 (by omega), dec_some h ho]
      · rw [Bwords_1_eq]
        refine cond_f (by simp; omega) ?_
        rw [dec_end (by omega), List.append_nil]
theorem words_eq (s : List UInt8) (hs : s.length ≤ 100000) : Fwords (s.length + 1) s = some (.p (.str (wordS s)), []) := by
  rw [Fwords_eq]
  exact (Bwords_spec _ s hs (s.length + 1)).2 0 [] (by omega) (by omega) (by simp)
def sp_words : List AV → Option (AV × Option Prop)
  | [.p (.str s)] => some (.p (.str (wordS s)), some (s.length ≤ 100000))
  | _ => none
theorem ok_words : SpecOk Tryd.prog 9 sp_words := by
  intro zs r ok he hok
  unfold sp_words at he
  split at he
  · cases he; exact ⟨by kernel_rfl, fn_words (_) _ _ fun hx => words_eq _ hok⟩
  · cases he
end Go.Proofs.YtgakkeclnfkjoaaDoor
