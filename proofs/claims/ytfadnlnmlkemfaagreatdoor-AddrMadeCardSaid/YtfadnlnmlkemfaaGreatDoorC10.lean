/-
  Lifted functions, and facts about them.
-/
import Derived.Test.YtfadnlnmlkemfaaGreatDoorRows
import Derived.Test.YtfadnlnmlkemfaaGreatDoorAmC
import Derived.Test.YtfadnlnmlkemfaaGreatDoorC09
import Derived.Test.YtfadnlnmlkemfaaGreatDoorC05
import Derived.Test.YtfadnlnmlkemfaaGreatDoorC01
namespace Go.Proofs.YtfadnlnmlkemfaaGreatDoor
open Go Go.Am
set_option linter.unusedVariables false
/-! How many addresses a text has at most. -/
theorem adF_len : ∀ (f : Nat) (r : List UInt8) (ws : List (List UInt8)) (an : List UInt8) (hs : Bool) (out : List AddrT), (adF f r ws an hs out).length ≤ out.length + r.length + 1
  | 0, r, ws, an, hs, out => by have := tellS_len ws an hs out; rw [adF]; omega
  | f + 1, [], ws, an, hs, out => by have := tellS_len ws an hs out; rw [adF]; simp; omega
  | f + 1, c :: r, ws, an, hs, out => by
    have h1 := adF_len f (r.drop (wiF r).2) (ws ++ [(wiF r).1]) an hs out
    have h2 := adF_len f (r.drop (rmF 1 r)) ws an hs out
    have h3 := adF_len f (r.drop ((cutS r 62).1.length + 1)) ws (unbS (cutS r 62).1) true out
    have h4 := adF_len f r [] [] false out
    have h5 := adF_len f r [] [] false (tellS ws an hs out)
    have h6 := adF_len f r ws an hs out
    have h7 := adF_len f (r.dropWhile isAt) (ws ++ [c :: r.takeWhile isAt]) an hs out
    have h8 := tellS_len ws an hs out
    have h9 := takeW_le isAt r
    rw [List.length_drop] at h1 h2 h3
    rw [adF, List.length_cons]
    split
    · omega
    · split
      · omega
      · split
        · omega
        · split
          · omega
          · split
            · omega
            · split <;> omega
theorem listA_len (s : List UInt8) : (listA s).length ≤ s.length + 1 := by
  have := adF_len (s.length + 1) s [] [] false []
  unfold listA
  simp at this ⊢
  omega
end Go.Proofs.YtfadnlnmlkemfaaGreatDoor
namespace Go.Proofs.YtfadnlnmlkemfaaGreatDoor
open Go Go.Am
set_option linter.unusedVariables false
noncomputable def csame : Code := bodyOf Tryz.f6

noncomputable def Gsame : Cfg := ⟨Tryz.prog, mkEnv [], mkEnvR [], 26, [], [([0, 1, 0, 1, 1], ⟨[0, 1, 5], []⟩), ([1, 0, 0, 1, 0, 0, 1, 0, 1, 1], ⟨[0, 1, 5, 25], []⟩)], []⟩

noncomputable def Bsame_1 (F f1 : Nat) (l : List (List UInt8 × List UInt8 × List UInt8)) (q : List (List UInt8 × List UInt8 × List UInt8)) (vi1 : Int) : Option Ans := runR Gsame csame (kP Tryz.prog Tryz.f6.results.toList) F [] [1, 1, 0, 1, 0] f1 [(0, .p (.list 3 (.dat (.pair .str (.pair .str .str)) l))), (1, .p (.list 3 (.dat (.pair .str (.pair .str .str)) q))), (5, .p (.int .i64 vi1))] []

noncomputable def Bsame_2 (F f1 : Nat) (l : List (List UInt8 × List UInt8 × List UInt8)) (q : List (List UInt8 × List UInt8 × List UInt8)) (vi1 : Int) (vc2 : Bool) : Option Ans := runB Gsame csame (kP Tryz.prog Tryz.f6.results.toList) F [f1] [1, 1, 0, 1, 0, 0, 1, 0, 0, 1] [(0, .p (.list 3 (.dat (.pair .str (.pair .str .str)) l))), (1, .p (.list 3 (.dat (.pair .str (.pair .str .str)) q))), (5, .p (.int .i64 vi1)), (25, .p (.bool vc2))] []

noncomputable def Fsame (F : Nat) (l : List (List UInt8 × List UInt8 × List UInt8)) (q : List (List UInt8 × List UInt8 × List UInt8)) : Option Ans := runF Gsame Tryz.f6 F [.p (.list 3 (.dat (.pair .str (.pair .str .str)) l)), .p (.list 3 (.dat (.pair .str (.pair .str .str)) q))]

theorem Bsame_1_eq (F f1 : Nat) (l : List (List UInt8 × List UInt8 × List UInt8)) (q : List (List UInt8 × List UInt8 × List UInt8)) (vi1 : Int) : Bsame_1 F (f1 + 1) l q vi1 = cond (decide (vi1 < (l.length : Int))) (need (0 ≤ vi1 ∧ vi1 < (l.length : Int)) (need (0 ≤ vi1 ∧ vi1 < (q.length : Int)) (Bsame_2 F f1 l q vi1 (!((((l.getD (vi1).toNat ([], ([], []))).1) == ((q.getD (vi1).toNat ([], ([], []))).1)) && (((((l.getD (vi1).toNat ([], ([], []))).2).1) == (((q.getD (vi1).toNat ([], ([], []))).2).1)) && (((((l.getD (vi1).toNat ([], ([], []))).2).2) == (((q.getD (vi1).toNat ([], ([], []))).2).2)) && true))))))) (some (.p (.bool true), [])) := by kernel_rfl

theorem Bsame_2_eq (F f1 : Nat) (l : List (List UInt8 × List UInt8 × List UInt8)) (q : List (List UInt8 × List UInt8 × List UInt8)) (vi1 : Int) (vc2 : Bool) : Bsame_2 F f1 l q vi1 vc2 = cond (vc2) (some (.p (.bool false), [])) (need (i64ok (vi1 + (1 : Int))) (Bsame_1 F f1 l q (vi1 + (1 : Int)))) := by kernel_rfl

theorem Fsame_eq (F : Nat) (l : List (List UInt8 × List UInt8 × List UInt8)) (q : List (List UInt8 × List UInt8 × List UInt8)) : Fsame F l q = cond ((l.length : Int) != (q.length : Int)) (some (.p (.bool false), [])) (Bsame_1 F F l q (0 : Int)) := by kernel_rfl

theorem fn_same (F : Nat) (l : List (List UInt8 × List UInt8 × List UInt8)) (q : List (List UInt8 × List UInt8 × List UInt8)) (r : AV) (h : (∃ M vs, ARels γ0 M [.p (.list 3 (.dat (.pair .str (.pair .str .str)) l)), .p (.list 3 (.dat (.pair .str (.pair .str .str)) q))] vs) → Fsame F l q = some (r, [])) : FnP Tryz.prog 6 [.p (.list 3 (.dat (.pair .str (.pair .str .str)) l)), .p (.list 3 (.dat (.pair .str (.pair .str .str)) q))] r :=
  FnP_run Gsame F rfl (EnvOk_mk (l := []) trivial) (EnvROk_mk (l := []) trivial) (Checked.mixed Tryz.checked) (fn := Tryz.f6) (by kernel_rfl) (by kernel_rfl) rfl h
theorem same_loop (F : Nat) (l q : List AddrT) (hl : l.length ≤ 1000000) (hq : l.length = q.length) : ∀ (r p : List AddrT) (i f : Nat), l.drop i = r → q.drop i = p → i + r.length = l.length → r.length < f → Bsame_1 F f l q (i : Int) = some (.p (.bool (decide (r = p))), [])
  | [], p, i, f, hd, hp, hi, hf => by
    obtain ⟨f, rfl⟩ : ∃ k, f = k + 1 := ⟨f - 1, by omega⟩
    have hi : i = l.length := by simpa using hi
    have : p = [] := by rw [← hp]; exact List.drop_eq_nil_of_le (by omega)
    subst this
    rw [Bsame_1_eq]
    exact cond_f (decide_eq_false (by omega)) rfl
  | x :: r, p, i, f, hd, hp, hi, hf => by
    obtain ⟨f, rfl⟩ : ∃ k, f = k + 1 := ⟨f - 1, by omega⟩
    rw [List.length_cons] at hi hf
    cases p with
    | nil =>
      have := congrArg List.length hp
      simp at this; omega
    | cons y p =>
      obtain ⟨g1, d1, i1⟩ := dropG hd ([], ([], []))
      obtain ⟨g2, d2, i2⟩ := dropG hp ([], ([], []))
      rw [Bsame_1_eq]
      refine cond_t (decide_eq_true (by omega)) (need_mk ⟨by omega, by omega⟩ (need_mk ⟨by omega, by omega⟩ ?_))
      rw [Int.toNat_natCast, g1, g2, Bsame_2_eq]
      by_cases h : x = y
      · subst h
        refine cond_f (by simp) (need_mk ⟨by omega, by omega⟩ ?_)
        rw [show ((i : Int) + 1) = ((i + 1 : Nat) : Int) by omega, same_loop F l q hl hq r p (i + 1) f d1 d2 (by omega) (by omega)]
        congr 4
        simp
      · refine cond_t ?_ ?_
        · rw [Bool.not_eq_true']
          rw [← Bool.not_eq_true]
          intro hh
          simp only [Bool.and_eq_true, beq_iff_eq, Bool.and_true] at hh
          exact h (Prod.ext hh.1 (Prod.ext hh.2.1 hh.2.2))
        · rw [decide_eq_false (fun e => h (List.cons.inj e).1)]
theorem same_eq (l q : List AddrT) (h : l.length ≤ 1000000 ∧ q.length ≤ 1000000) : Fsame (l.length + 1) l q = some (.p (.bool (sameA l q)), []) := by
  rw [Fsame_eq, sameA]
  by_cases hq : l.length = q.length
  · refine cond_f (by simp; omega) ?_
    exact same_loop _ l q h.1 hq l q 0 (l.length + 1) rfl rfl (by simp) (by omega)
  · refine cond_t (by simp; omega) ?_
    rw [decide_eq_false (fun e => hq (by rw [e]))]
def sp_same : List AV → Option (AV × Option Prop)
  | [.p (.list 3 (.dat (.pair .str (.pair .str .str)) l)), .p (.list 3 (.dat (.pair .str (.pair .str .str)) q))] => some (.p (.bool (sameA l q)), some (l.length ≤ 1000000 ∧ q.length ≤ 1000000))
  | _ => none
theorem ok_same : SpecOk Tryz.prog 6 sp_same := by
  intro zs r ok he hok
  unfold sp_same at he
  split at he
  · cases he; exact ⟨by kernel_rfl, fn_same (_) _ _ _ fun hx => same_eq _ _ hok⟩
  · cases he

noncomputable def Gawake12 : Cfg := ⟨Tryz.prog, mkEnv [(6, sp_same), (7, sp_alist)], mkEnvR [], 6, [], [], []⟩

noncomputable def Fawake12 (F : Nat)  : Option Ans := runF Gawake12 Tryz.f8 F []

theorem Fawake12_eq (F : Nat)  : Fawake12 F  = need (([65, 32, 66, 32, 60, 97, 64, 98, 62, 44, 32, 99, 64, 100] : List UInt8).length ≤ 40000) (need ((listA ([65, 32, 66, 32, 60, 97, 64, 98, 62, 44, 32, 99, 64, 100] : List UInt8)).length ≤ 1000000 ∧ [(([65, 32, 66] : List UInt8), (([97] : List UInt8), ([98] : List UInt8))), (([] : List UInt8), (([99] : List UInt8), ([100] : List UInt8)))].length ≤ 1000000) (some (.p (.bool (sameA (listA ([65, 32, 66, 32, 60, 97, 64, 98, 62, 44, 32, 99, 64, 100] : List UInt8)) [(([65, 32, 66] : List UInt8), (([97] : List UInt8), ([98] : List UInt8))), (([] : List UInt8), (([99] : List UInt8), ([100] : List UInt8)))])), []))) := by kernel_rfl

theorem fn_awake12 (F : Nat)  (r : AV) (h : (∃ M vs, ARels γ0 M [] vs) → Fawake12 F  = some (r, [])) : FnP Tryz.prog 8 [] r :=
  FnP_run Gawake12 F rfl (EnvOk_mk (l := [(6, sp_same), (7, sp_alist)]) ⟨ok_same.any, ok_alist.any, trivial⟩) (EnvROk_mk (l := []) trivial) (Checked.mixed Tryz.checked) (fn := Tryz.f8) (by kernel_rfl) (by kernel_rfl) rfl h
set_option maxRecDepth 100000 in
theorem awake12_eq : Fawake12 0 = some (.p (.bool true), []) := by
  rw [Fawake12_eq]
  refine need_mk (by decide) (need_mk ⟨Nat.le_trans (listA_len _) (by decide), by decide⟩ ?_)
  have h : sameA (listA ([65, 32, 66, 32, 60, 97, 64, 98, 62, 44, 32, 99, 64, 100] : List UInt8)) [(([65, 32, 66] : List UInt8), (([97] : List UInt8), ([98] : List UInt8))), (([] : List UInt8), (([99] : List UInt8), ([100] : List UInt8)))] = true := by kernel_rfl
  rw [h]
def sp_awake12 : List AV → Option (AV × Option Prop)
  | [] => some (.p (.bool true), none)
  | _ => none
theorem ok_awake12 : SpecOk Tryz.prog 8 sp_awake12 := by
  intro zs r ok he hok
  unfold sp_awake12 at he
  split at he
  · cases he; exact ⟨by kernel_rfl, fn_awake12 0  _ fun hx => awake12_eq ⟩
  · cases he










end Go.Proofs.YtfadnlnmlkemfaaGreatDoor
namespace Go.Proofs.YtfadnlnmlkemfaaGreatDoor
open Go Go.Am
set_option linter.unusedVariables false
/-! What stands for itself within words. -/
theorem drop_shift (p r : List UInt8) (i : Nat) : (p ++ r).drop (p.length + i) = r.drop i := by
  rw [← List.drop_drop, List.drop_left' rfl]
theorem getD_shift (p r : List UInt8) (i : Nat) : (p ++ r).getD (p.length + i) 0 = r.getD i 0 := by
  rw [List.getD_eq_getElem?_getD, List.getD_eq_getElem?_getD, List.getElem?_append_right (by omega), Nat.add_sub_cancel_left]
theorem runN_shift (p r : List UInt8) (i : Nat) : runN (p ++ r) (p.length + i) = p.length + runN r i := by
  unfold runN; rw [drop_shift]; omega
theorem blN_shift (p r : List UInt8) (i : Nat) : blN (p ++ r) (p.length + i) = p.length + blN r i := by
  unfold blN; rw [drop_shift]; omega
theorem mid_shift (p r : List UInt8) (b a : Nat) : ((p ++ r).take (p.length + b)).drop (p.length + a) = (r.take b).drop a := by
  rw [List.take_append, List.take_of_length_le (by omega), Nat.add_sub_cancel_left, drop_shift]
theorem parse_shift (p r : List UInt8) (i : Nat) : parse (p ++ r) (p.length + i) = (parse r i).map fun q => (p.length + q.1, p.length + q.2) := by
  unfold parse
  rw [drop_shift, Nat.add_assoc p.length i 2, runN_shift, Nat.add_assoc p.length (runN r (i + 2)) 2, Nat.add_assoc p.length (runN r (i + 2)) 3, getD_shift, getD_shift, runN_shift, drop_shift]
  split
  · rfl
  · have e : (p.length + runN r (i + 2) = p.length + (i + 2) ∨ (p ++ r).length < p.length + (runN r (i + 2) + 3) ∨ r.getD (runN r (i + 2)) 0 ≠ 63 ∨ r.getD (runN r (i + 2) + 2) 0 ≠ 63) ↔
        (runN r (i + 2) = i + 2 ∨ r.length < runN r (i + 2) + 3 ∨ r.getD (runN r (i + 2)) 0 ≠ 63 ∨ r.getD (runN r (i + 2) + 2) 0 ≠ 63) := by
      rw [List.length_append]
      refine or_congr (by omega) (or_congr (by omega) Iff.rfl)
    by_cases h : (runN r (i + 2) = i + 2 ∨ r.length < runN r (i + 2) + 3 ∨ r.getD (runN r (i + 2)) 0 ≠ 63 ∨ r.getD (runN r (i + 2) + 2) 0 ≠ 63)
    · rw [if_pos h, if_pos (e.2 h)]; rfl
    · rw [if_neg h, if_neg (fun h' => h (e.1 h'))]
      split <;> rfl
theorem pick_eq (m : List UInt8 × Int × Bool) : (if m.2.2 = true then some (m.1, m.2.1.toNat) else none) = bif m.2.2 then some (m.1, m.2.1.toNat) else none := by cases m.2.2 <;> rfl
theorem okAt_eq (s : List UInt8) (i : Nat) : okAt s i = (parse s i).bind fun q => (bodyS (s.getD (q.1 + 1) 0) ((s.take q.2).drop (q.1 + 3))).bind fun u =>
    bif (saysS ((s.take q.1).drop (i + 2)) u).2 then some ((saysS ((s.take q.1).drop (i + 2)) u).1, q.2 + 2) else none := by
  unfold okAt
  rw [pick_eq]
  unfold oneS
  rw [show ((i : Int)).toNat = i from rfl]
  cases parse s i with
  | none => rfl
  | some q =>
    obtain ⟨a, b⟩ := q
    dsimp only [Option.bind_some]
    cases bodyS (s.getD (a + 1) 0) ((s.take b).drop (a + 3)) with
    | none => rfl
    | some u =>
      dsimp only [Option.bind_some]
      cases (saysS ((s.take a).drop (i + 2)) u).2 <;> rfl
theorem okAt_shift (p r : List UInt8) (i : Nat) : okAt (p ++ r) (p.length + i) = (okAt r i).map fun q => (q.1, p.length + q.2) := by
  rw [okAt_eq, okAt_eq, parse_shift]
  cases parse r i with
  | none => rfl
  | some q =>
    obtain ⟨a, b⟩ := q
    simp only [Option.map_some, Option.bind_some]
    rw [Nat.add_assoc p.length a 1, Nat.add_assoc p.length a 3, getD_shift, mid_shift]
    cases bodyS (r.getD (a + 1) 0) ((r.take b).drop (a + 3)) with
    | none => rfl
    | some u =>
      simp only [Option.bind_some]
      rw [Nat.add_assoc p.length i 2, mid_shift]
      cases (saysS ((r.take a).drop (i + 2)) u).2 with
      | false => rfl
      | true => simp only [cond_true, Option.map_some, Nat.add_assoc]
theorem contN_shift (p r : List UInt8) (i : Nat) : contN (p ++ r) (p.length + i) = p.length + contN r i := by
  unfold contN
  rw [blN_shift, okAt_shift, List.length_append, Option.isSome_map]
  by_cases h : blN r i < r.length ∧ (okAt r (blN r i)).isSome = true
  · rw [if_pos h, if_pos ⟨by omega, h.2⟩]
  · rw [if_neg h, if_neg (fun q => h ⟨by omega, q.2⟩)]
theorem dec_shift (p r : List UInt8) : ∀ (k i : Nat), r.length - i ≤ k → dec (p ++ r) (p.length + i) = dec r i := by
  intro k
  induction k with
  | zero => intro i h; rw [dec_end (by simp; omega), dec_end (by omega)]
  | succ k ih =>
    intro i h
    by_cases hi : i < r.length
    · have hi' : p.length + i < (p ++ r).length := by simp; omega
      cases ho : okAt r i with
      | none =>
        rw [dec_none hi ho, dec_none hi' (by rw [okAt_shift, ho]; rfl), getD_shift, Nat.add_assoc, ih (i + 1) (by omega)]
      | some q =>
        obtain ⟨t, n⟩ := q
        obtain ⟨_, h1, h2, _⟩ := okAt_some ho
        have := contN_le h2
        rw [dec_some hi ho, dec_some (t := t) (n := p.length + n) hi' (by rw [okAt_shift, ho]; rfl), contN_shift, ih (contN r n) (by omega)]
    · rw [dec_end (by simp; omega), dec_end (by omega)]
/-- Behind a word. -/
theorem word_nil : wordS [] = [] := dec_end (by simp)
theorem word_cons {c : UInt8} {r : List UInt8} (h : okAt (c :: r) 0 = none) : wordS (c :: r) = c :: wordS r := by
  rw [wordS, dec_none (by simp) h]
  have := dec_shift [c] r r.length 0 (by omega)
  rw [show [c] ++ r = c :: r from rfl, show [c].length + 0 = 0 + 1 from rfl] at this
  rw [this]; rfl
theorem word_ne {c : UInt8} {r : List UInt8} (h : c ≠ 61) : wordS (c :: r) = c :: wordS r := by
  refine word_cons ?_
  cases ho : okAt (c :: r) 0 with
  | none => rfl
  | some q => obtain ⟨t, n⟩ := q; exact absurd (okAt_some ho).2.2.2.1 h
theorem word_app {p : List UInt8} (h : ∀ c ∈ p, c ≠ 61) (r : List UInt8) : wordS (p ++ r) = p ++ wordS r := by
  induction p with
  | nil => rfl
  | cons c p ih => rw [List.cons_append, word_ne (h c (by simp)), ih (fun d hd => h d (by simp [hd]))]; rfl
theorem word_id {p : List UInt8} (h : ∀ c ∈ p, c ≠ 61) : wordS p = p := by
  have := word_app h []
  rw [List.append_nil, word_nil, List.append_nil] at this; exact this
end Go.Proofs.YtfadnlnmlkemfaaGreatDoor
namespace Go.Proofs.YtfadnlnmlkemfaaGreatDoor
open Go Go.Am
set_option linter.unusedVariables false
/-! A small text; what addr.List answers at addresses that are put together. -/
def isLo (c : UInt8) : Bool := decide (97 ≤ c.toNat) && decide (c.toNat ≤ 122)
def atomS (s : List UInt8) : List UInt8 := if s.all isLo = true then (if s = [] ∨ s.length > 50 then [120] else s) else [120]
noncomputable def catom : Code := bodyOf Tryz.f5

noncomputable def Gatom : Cfg := ⟨Tryz.prog, mkEnv [], mkEnvR [], 28, [], [([0, 1, 0, 1], ⟨[0, 3], []⟩), ([1, 0, 0, 1, 0, 0, 1, 0, 1], ⟨[0, 3, 19], []⟩)], []⟩

noncomputable def Batom_1 (F f1 : Nat) (s : List UInt8) (vi1 : Int) : Option Ans := runR Gatom catom (kP Tryz.prog Tryz.f5.results.toList) F [] [1, 0, 1, 0] f1 [(0, .p (.str s)), (3, .p (.int .i64 vi1))] []

noncomputable def Batom_2 (F f1 : Nat) (s : List UInt8) (vi1 : Int) (vc2 : Bool) : Option Ans := runB Gatom catom (kP Tryz.prog Tryz.f5.results.toList) F [f1] [1, 0, 1, 0, 0, 1, 0, 0, 1] [(0, .p (.str s)), (3, .p (.int .i64 vi1)), (19, .p (.bool vc2))] []

noncomputable def Fatom (F : Nat) (s : List UInt8) : Option Ans := runF Gatom Tryz.f5 F [.p (.str s)]

theorem Batom_1_eq (F f1 : Nat) (s : List UInt8) (vi1 : Int) : Batom_1 F (f1 + 1) s vi1 = cond (decide (vi1 < (s.length : Int))) (need (0 ≤ vi1 ∧ vi1 < (s.length : Int)) (need ((!(decide (((s.getD (vi1).toNat 0).toNat : Int) < (97 : Int)))) = true → 0 ≤ vi1 ∧ vi1 < (s.length : Int)) (Batom_2 F f1 s vi1 ((decide (((s.getD (vi1).toNat 0).toNat : Int) < (97 : Int))) || (decide (((s.getD (vi1).toNat 0).toNat : Int) > (122 : Int))))))) (cond ((s == ([] : List UInt8)) || (decide ((s.length : Int) > (50 : Int)))) (some (.p (.str ([120] : List UInt8)), [])) (some (.p (.str s), []))) :=
  Eq.trans (show Batom_1 F (f1 + 1) s vi1 = cond (decide (vi1 < (s.length : Int))) (need (0 ≤ vi1 ∧ vi1 < (s.length : Int)) (need ((!(decide (((s.getD (vi1).toNat 0).toNat : Int) < (97 : Int)))) = true → (!(decide (((s.getD (vi1).toNat 0).toNat : Int) < (97 : Int)))) = true) (need ((!(decide (((s.getD (vi1).toNat 0).toNat : Int) < (97 : Int)))) = true → (!(decide (((s.getD (vi1).toNat 0).toNat : Int) < (97 : Int)))) = true) (need ((!(decide (((s.getD (vi1).toNat 0).toNat : Int) < (97 : Int)))) = true → 0 ≤ vi1 ∧ vi1 < (s.length : Int)) (need ((!(decide (((s.getD (vi1).toNat 0).toNat : Int) < (97 : Int)))) = true → (!(decide (((s.getD (vi1).toNat 0).toNat : Int) < (97 : Int)))) = true) (need ((decide (((s.getD (vi1).toNat 0).toNat : Int) < (97 : Int))) = false → (!(decide (((s.getD (vi1).toNat 0).toNat : Int) < (97 : Int)))) = true) (Batom_2 F f1 s vi1 ((decide (((s.getD (vi1).toNat 0).toNat : Int) < (97 : Int))) || (decide (((s.getD (vi1).toNat 0).toNat : Int) > (122 : Int))))))))))) (need ((!(s == ([] : List UInt8))) = true → (!(s == ([] : List UInt8))) = true) (need ((!(s == ([] : List UInt8))) = true → (!(s == ([] : List UInt8))) = true) (need ((s == ([] : List UInt8)) = false → (!(s == ([] : List UInt8))) = true) (cond ((s == ([] : List UInt8)) || (decide ((s.length : Int) > (50 : Int)))) (some (.p (.str ([120] : List UInt8)), [])) (some (.p (.str s), [])))))) by kernel_rfl) (cond_congr (need_congr (need_strike (show (!(decide (((s.getD (vi1).toNat 0).toNat : Int) < (97 : Int)))) = true → (!(decide (((s.getD (vi1).toNat 0).toNat : Int) < (97 : Int)))) = true from (fun q0 => q0)) (need_strike (show (!(decide (((s.getD (vi1).toNat 0).toNat : Int) < (97 : Int)))) = true → (!(decide (((s.getD (vi1).toNat 0).toNat : Int) < (97 : Int)))) = true from (fun q0 => q0)) (need_congr (need_strike (show (!(decide (((s.getD (vi1).toNat 0).toNat : Int) < (97 : Int)))) = true → (!(decide (((s.getD (vi1).toNat 0).toNat : Int) < (97 : Int)))) = true from (fun q0 => q0)) (need_strike (show (decide (((s.getD (vi1).toNat 0).toNat : Int) < (97 : Int))) = false → (!(decide (((s.getD (vi1).toNat 0).toNat : Int) < (97 : Int)))) = true from (fun q0 => (not_mk q0))) (rfl))))))) (need_strike (show (!(s == ([] : List UInt8))) = true → (!(s == ([] : List UInt8))) = true from (fun q0 => q0)) (need_strike (show (!(s == ([] : List UInt8))) = true → (!(s == ([] : List UInt8))) = true from (fun q0 => q0)) (need_strike (show (s == ([] : List UInt8)) = false → (!(s == ([] : List UInt8))) = true from (fun q0 => (not_mk q0))) (rfl)))))

theorem Batom_2_eq (F f1 : Nat) (s : List UInt8) (vi1 : Int) (vc2 : Bool) : Batom_2 F f1 s vi1 vc2 = cond (vc2) (some (.p (.str ([120] : List UInt8)), [])) (need (i64ok (vi1 + (1 : Int))) (Batom_1 F f1 s (vi1 + (1 : Int)))) := by kernel_rfl

theorem Fatom_eq (F : Nat) (s : List UInt8) : Fatom F s = Batom_1 F F s (0 : Int) := by kernel_rfl

theorem fn_atom (F : Nat) (s : List UInt8) (r : AV) (h : (∃ M vs, ARels γ0 M [.p (.str s)] vs) → Fatom F s = some (r, [])) : FnP Tryz.prog 5 [.p (.str s)] r :=
  FnP_run Gatom F rfl (EnvOk_mk (l := []) trivial) (EnvROk_mk (l := []) trivial) (Checked.mixed Tryz.checked) (fn := Tryz.f5) (by kernel_rfl) (by kernel_rfl) rfl h
theorem isLo_dec (c : UInt8) : ((decide (((c.toNat : Nat) : Int) < (97 : Int))) || (decide (((c.toNat : Nat) : Int) > (122 : Int)))) = !isLo c := by
  unfold isLo
  rw [Bool.eq_iff_iff]
  simp
  omega
theorem atom_loop (F : Nat) (s : List UInt8) (hs : s.length ≤ 140737488355328) : ∀ (r : List UInt8) (i f : Nat), s.drop i = r → i + r.length = s.length → r.length < f →
    Batom_1 F f s (i : Int) = some (.p (.str (if r.all isLo = true then (if s = [] ∨ s.length > 50 then [120] else s) else [120])), [])
  | [], i, f, hd, hi, hf => by
    obtain ⟨f, rfl⟩ : ∃ k, f = k + 1 := ⟨f - 1, by omega⟩
    have hi : i = s.length := by simpa using hi
    rw [Batom_1_eq, List.all_nil, if_pos rfl]
    refine cond_f (decide_eq_false (by omega)) ?_
    by_cases h : s = [] ∨ s.length > 50
    · rw [if_pos h]
      refine cond_t ?_ rfl
      rcases h with h | h
      · rw [h]; rfl
      · rw [decide_eq_true (show ((s.length : Int) > 50) by omega), Bool.or_true]
    · rw [if_neg h]
      refine cond_f ?_ rfl
      have h1 : s ≠ [] := fun e => h (.inl e)
      rw [decide_eq_false (show ¬ ((s.length : Int) > 50) from fun e => h (.inr (by omega))), Bool.or_false]
      simpa using h1
  | c :: r, i, f, hd, hi, hf => by
    obtain ⟨f, rfl⟩ : ∃ k, f = k + 1 := ⟨f - 1, by omega⟩
    obtain ⟨hg, hd2, hi2⟩ := adr_drop hd
    rw [List.length_cons] at hi hf
    rw [Batom_1_eq, Int.toNat_natCast, hg, isLo_dec]
    refine cond_t (decide_eq_true (by omega)) (need_mk ⟨by omega, by omega⟩ (need_mk (fun _ => ⟨by omega, by omega⟩) ?_))
    rw [Batom_2_eq]
    cases h : isLo c with
    | false =>
      refine cond_t rfl ?_
      rw [List.all_cons, h, Bool.false_and, if_neg (by decide)]
    | true =>
      refine cond_f rfl (need_mk (by unfold i64ok; omega) ?_)
      rw [List.all_cons, h, Bool.true_and, show ((i : Int) + 1) = ((i + 1 : Nat) : Int) by omega]
      exact atom_loop F s hs r (i + 1) f hd2 (by omega) (by omega)
theorem atom_eq (s : List UInt8) (hs : s.length ≤ 140737488355328) : Fatom (s.length + 1) s = some (.p (.str (atomS s)), []) := by
  rw [Fatom_eq]
  exact atom_loop _ s hs s 0 _ rfl (by simp) (by omega)
def sp_atom : List AV → Option (AV × Option Prop)
  | [.p (.str s)] => some (.p (.str (atomS s)), some (s.length ≤ 140737488355328))
  | _ => none
theorem ok_atom : SpecOk Tryz.prog 5 sp_atom := by
  intro zs r ok he hok
  unfold sp_atom at he
  split at he
  · cases he; exact ⟨by kernel_rfl, fn_atom (_) _ _ fun hx => atom_eq _ hok⟩
  · cases he
abbrev Atom (s : List UInt8) : Prop := s ≠ [] ∧ s.length ≤ 50 ∧ ∀ c ∈ s, isLo c = true
theorem atom_is (s : List UInt8) : Atom (atomS s) := by
  unfold atomS
  split
  · rename_i h
    split
    · exact ⟨by decide, by decide, by decide⟩
    · rename_i h2
      exact ⟨fun e => h2 (.inl e), by have := fun e => h2 (.inr e); omega, fun c hc => List.all_eq_true.1 h c hc⟩
  · exact ⟨by decide, by decide, by decide⟩
theorem lo_ne {c d : UInt8} (h : isLo c = true) (hd : isLo d = false) : c ≠ d := fun e => by rw [e, hd] at h; cases h
theorem lo_at {c : UInt8} (h : isLo c = true) : isAt c = true := by
  unfold isAt
  rw [Bool.not_eq_true', ← Bool.not_eq_true]
  intro q
  simp at q
  rcases q with q | q | q | q | q | q | q | q | q | q <;> (rw [q] at h; revert h; decide)
theorem adr_cut {c : UInt8} {p q : List UInt8} (hp : ∀ x ∈ p, x ≠ c) : cutS (p ++ c :: q) c = (p, q, true) := by
  rcases cut_split c (p ++ c :: q) with ⟨p', q', e, h', hc⟩ | ⟨hn, _⟩
  · obtain ⟨rfl, rfl⟩ : p = p' ∧ q = q' := by
      clear hc
      induction p generalizing p' with
      | nil =>
        cases p' with
        | nil => simpa using e
        | cons x l => injection e with e1 e2; exact absurd e1.symm (h' x (by simp))
      | cons x l ih =>
        cases p' with
        | nil => injection e with e1 e2; exact absurd e1 (hp x (by simp))
        | cons y m =>
          injection e with e1 e2
          have := ih (fun x hx => hp x (by simp [hx])) m e2 (fun x hx => h' x (by simp [hx]))
          exact ⟨by rw [e1, this.1], this.2⟩
    exact hc
  · exact absurd rfl (hn c (by simp))
/-! The reader's steps. -/
def adG (r : List UInt8) (ws : List (List UInt8)) (an : List UInt8) (hs : Bool) (out : List AddrT) : List AddrT := adF (r.length + 1) r ws an hs out
theorem adG_nil (ws : List (List UInt8)) (an : List UInt8) (hs : Bool) (out : List AddrT) : adG [] ws an hs out = tellS ws an hs out := rfl
theorem adG_bl (r : List UInt8) (ws : List (List UInt8)) (an : List UInt8) (hs : Bool) (out : List AddrT) : adG (32 :: r) ws an hs out = adG r ws an hs out := by
  unfold adG
  rw [List.length_cons, adF, if_neg (by decide), if_neg (by decide), if_neg (by decide), if_neg (by decide), if_neg (by decide), if_pos (by decide)]
theorem adG_comma (c : UInt8) (hc : c = 44 ∨ c = 59) (r : List UInt8) (ws : List (List UInt8)) (an : List UInt8) (hs : Bool) (out : List AddrT) : adG (c :: r) ws an hs out = adG r [] [] false (tellS ws an hs out) := by
  unfold adG
  rw [List.length_cons, adF, if_neg (by rcases hc with h | h <;> rw [h] <;> decide), if_neg (by rcases hc with h | h <;> rw [h] <;> decide), if_neg (by rcases hc with h | h <;> rw [h] <;> decide), if_neg (by rcases hc with h | h <;> rw [h] <;> decide), if_pos hc]
theorem adG_colon (r : List UInt8) (ws : List (List UInt8)) (an : List UInt8) (hs : Bool) (out : List AddrT) : adG (58 :: r) ws an hs out = adG r [] [] false out := by
  unfold adG
  rw [List.length_cons, adF, if_neg (by decide), if_neg (by decide), if_neg (by decide), if_pos rfl]
theorem tw_both {p : UInt8 → Bool} : ∀ {w t : List UInt8}, (∀ c ∈ w, p c = true) → (∀ c r, t = c :: r → p c = false) → (w ++ t).takeWhile p = w ∧ (w ++ t).dropWhile p = t
  | [], [], _, _ => ⟨rfl, rfl⟩
  | [], c :: t, _, h => by
    have := h c t rfl
    simp [this]
  | c :: w, t, hw, ht => by
    have h1 := hw c (List.mem_cons_self ..)
    obtain ⟨e1, e2⟩ := tw_both (fun d hd => hw d (List.mem_cons_of_mem _ hd)) ht
    rw [List.cons_append, List.takeWhile_cons_of_pos h1, List.dropWhile_cons_of_pos h1, e1, e2]
    exact ⟨rfl, rfl⟩
theorem at_ne {c : UInt8} (h : isAt c = true) : c ≠ 34 ∧ c ≠ 40 ∧ c ≠ 60 ∧ c ≠ 58 ∧ ¬ (c = 44 ∨ c = 59) ∧ ¬ (c = 32 ∨ c = 9 ∨ c = 13 ∨ c = 10) := by
  refine ⟨?_, ?_, ?_, ?_, ?_, ?_⟩ <;> intro e
  · rw [e] at h; revert h; decide
  · rw [e] at h; revert h; decide
  · rw [e] at h; revert h; decide
  · rw [e] at h; revert h; decide
  · rcases e with e | e <;> (rw [e] at h; revert h; decide)
  · rcases e with e | e | e | e <;> (rw [e] at h; revert h; decide)
theorem adG_word {w t : List UInt8} (hw : w ≠ []) (ha : ∀ c ∈ w, isAt c = true) (ht : ∀ c r, t = c :: r → isAt c = false) (ws : List (List UInt8)) (an : List UInt8) (hs : Bool) (out : List AddrT) :
    adG (w ++ t) ws an hs out = adG t (ws ++ [w]) an hs out := by
  cases w with
  | nil => exact absurd rfl hw
  | cons c w =>
    obtain ⟨h1, h2, h3, h4, h5, h6⟩ := at_ne (ha c (List.mem_cons_self ..))
    obtain ⟨e1, e2⟩ := tw_both (p := isAt) (w := w) (t := t) (fun d hd => ha d (List.mem_cons_of_mem _ hd)) ht
    unfold adG
    rw [List.cons_append, List.length_cons, adF, if_neg h1, if_neg h2, if_neg h3, if_neg h4, if_neg h5, if_neg h6, e1, e2]
    exact adF_fuel _ _ _ _ _ _ _ (by simp; omega) (by omega)
theorem wi_step {c : UInt8} (h1 : c ≠ 34) (h2 : c ≠ 92) (r : List UInt8) : wiF (c :: r) = (c :: (wiF r).1, (wiF r).2 + 1) := by
  cases r with
  | nil => simp [wiF, h1]
  | cons d r => rw [wiF, if_neg h1, if_neg h2]
theorem wi_end (t : List UInt8) : wiF (34 :: t) = ([], 1) := by
  cases t with
  | nil => rw [wiF, if_pos rfl]
  | cons d r => rw [wiF, if_pos rfl]
theorem wi_all : ∀ {q : List UInt8} (t : List UInt8), (∀ c ∈ q, c ≠ 34 ∧ c ≠ 92) → wiF (q ++ 34 :: t) = (q, q.length + 1)
  | [], t, _ => wi_end t
  | c :: q, t, h => by
    have h1 := h c (List.mem_cons_self ..)
    rw [List.cons_append, wi_step h1.1 h1.2, wi_all t (fun d hd => h d (List.mem_cons_of_mem _ hd))]; rfl
theorem adG_quote {q t : List UInt8} (h : ∀ c ∈ q, c ≠ 34 ∧ c ≠ 92) (ws : List (List UInt8)) (an : List UInt8) (hs : Bool) (out : List AddrT) : adG (34 :: (q ++ 34 :: t)) ws an hs out = adG t (ws ++ [q]) an hs out := by
  unfold adG
  rw [List.length_cons, adF, if_pos rfl, wi_all t h]
  have e : (q ++ 34 :: t).drop (q.length + 1) = t := by
    rw [show q ++ 34 :: t = (q ++ [34]) ++ t by simp]
    exact List.drop_left' (by simp)
  rw [e]
  exact adF_fuel _ _ _ _ _ _ _ (by simp; omega) (by omega)
theorem rm_lit (t : List UInt8) : rmF 1 ([114, 101, 44, 32, 40, 109, 97, 41, 32, 114, 107, 41] ++ t) = 12 := by
  cases t <;> simp [rmF]
theorem adG_remark (t : List UInt8) (ws : List (List UInt8)) (an : List UInt8) (hs : Bool) (out : List AddrT) : adG (40 :: ([114, 101, 44, 32, 40, 109, 97, 41, 32, 114, 107, 41] ++ t)) ws an hs out = adG t ws an hs out := by
  unfold adG
  rw [List.length_cons, adF, if_neg (by decide), if_pos rfl, rm_lit]
  have e : ([114, 101, 44, 32, 40, 109, 97, 41, 32, 114, 107, 41] ++ t).drop 12 = t := rfl
  rw [e]
  exact adF_fuel _ _ _ _ _ _ _ (by simp; omega) (by omega)
theorem adG_angle {q t : List UInt8} (h : ∀ c ∈ q, c ≠ 62) (ws : List (List UInt8)) (an : List UInt8) (hs : Bool) (out : List AddrT) : adG (60 :: (q ++ 62 :: t)) ws an hs out = adG t ws (unbS q) true out := by
  unfold adG
  rw [List.length_cons, adF, if_neg (by decide), if_neg (by decide), if_pos rfl, adr_cut h]
  have e : (q ++ 62 :: t).drop (q.length + 1) = t := by
    rw [show q ++ 62 :: t = (q ++ [62]) ++ t by simp]
    exact List.drop_left' (by simp)
  rw [e]
  exact adF_fuel _ _ _ _ _ _ _ (by simp; omega) (by omega)
theorem unb_id {q : List UInt8} (h : ∀ c ∈ q, c ≠ 9 ∧ c ≠ 32) : unbS q = q := by
  unfold unbS
  refine List.filter_eq_self.2 fun c hc => ?_
  have := h c hc
  simp [isBk, this]
theorem part_h (b : List UInt8) : partS (b ++ [64, 104]) = (b, [104]) := by
  have e : lastI (b ++ [64, 104]) 64 (b ++ [64, 104]).length = (b.length : Int) := by
    rw [show (b ++ [64, 104] : List UInt8).length = b.length + 1 + 1 by simp, lastI, lastI]
    rw [List.getD_eq_getElem?_getD, List.getElem?_append_right (by omega), List.getD_eq_getElem?_getD, List.getElem?_append_right (Nat.le_refl _)]
    simp
  unfold partS
  rw [e, if_neg (by omega), show ((b.length : Int) + 1).toNat = b.length + 1 by omega, Int.toNat_natCast]
  simp
theorem part_hx (b : List UInt8) : partS (b ++ [64, 104, 46, 120]) = (b, [104, 46, 120]) := by
  have e : lastI (b ++ [64, 104, 46, 120]) 64 (b ++ [64, 104, 46, 120]).length = (b.length : Int) := by
    rw [show (b ++ [64, 104, 46, 120] : List UInt8).length = b.length + 3 + 1 by simp, lastI, lastI, lastI, lastI]
    rw [List.getD_eq_getElem?_getD, List.getElem?_append_right (by omega), List.getD_eq_getElem?_getD, List.getElem?_append_right (by omega), List.getD_eq_getElem?_getD, List.getElem?_append_right (by omega), List.getD_eq_getElem?_getD, List.getElem?_append_right (Nat.le_refl _)]
    simp [show b.length + 3 - b.length = 3 by omega, show b.length + 2 - b.length = 2 by omega]
  unfold partS
  rw [e, if_neg (by omega), show ((b.length : Int) + 1).toNat = b.length + 1 by omega, Int.toNat_natCast]
  simp
end Go.Proofs.YtfadnlnmlkemfaaGreatDoor
