/-
  Lifted functions, and facts about them.
-/
import Derived.Test.YtfadnlnmlkemfaaGreatDoorRows
import Derived.Test.YtfadnlnmlkemfaaGreatDoorAmC
import Derived.Test.YtfadnlnmlkemfaaGreatDoorC01
import Derived.Test.YtfadnlnmlkemfaaGreatDoorC05
import Derived.Test.YtfadnlnmlkemfaaGreatDoorC06
import Derived.Test.YtfadnlnmlkemfaaGreatDoorC02
import Derived.RangeFuncRecord
namespace Go.Proofs.YtfadnlnmlkemfaaGreatDoor
open Go Go.Am
set_option linter.unusedVariables false
/-! The reader of addresses: within quotes, behind a remark, dropped. -/
theorem pList_rowA {a : Ec} {k : Nat} {R : Go.Am.Rows} {l : List (Elt a)} (h : pList a (.list k R) = some l) : R = .dat a l ∧ k = wid a := by
  cases R with
  | fn n f => cases h
  | dat a' l' =>
    simp only [pList] at h
    split at h
    · rename_i he hk heq
      subst he; cases h
      exact ⟨rfl, Nat.eq_of_beq_eq_true hk⟩
    · cases h
abbrev AddrT := List UInt8 × List UInt8 × List UInt8
abbrev addrC : Ec := .pair .str (.pair .str .str)
abbrev rdN (W O : Nat) (s : List UInt8) (at_ : Int) (ws : List (List UInt8)) (an : List UInt8) (hs : Bool) (out : List AddrT) : List (Nat × AObj) :=
  [(70000, .cells [.p (.str s), .p (.int .i64 at_), .arr W, .p (.str an), .p (.bool hs), .arr O]), (W, .larr 9 false 1 (.dat .str ws)), (O, .larr 27 false 3 (.dat addrC out))]
abbrev rdO := rdN 70001 70002
abbrev rdok (s : List UInt8) (at_ : Int) : Prop := s.length ≤ 1000000 ∧ 0 ≤ at_ ∧ at_ ≤ s.length
def wiF : List UInt8 → List UInt8 × Nat
  | [] => ([], 0)
  | [c] => if c = 34 then ([], 1) else ([c], 1)
  | c :: d :: r => if c = 34 then ([], 1) else if c = 92 then (d :: (wiF r).1, (wiF r).2 + 2) else (c :: (wiF (d :: r)).1, (wiF (d :: r)).2 + 1)
def rmF : Nat → List UInt8 → Nat
  | 0, _ => 0
  | _ + 1, [] => 0
  | _ + 1, [_] => 1
  | k + 1, c :: d :: r => if c = 40 then rmF (k + 2) (d :: r) + 1 else if c = 41 then rmF k (d :: r) + 1 else if c = 92 then rmF (k + 1) r + 2 else rmF (k + 1) (d :: r) + 1
theorem adr_drop {s : List UInt8} {i : Nat} {c : UInt8} {r : List UInt8} (h : s.drop i = c :: r) : s.getD i 0 = c ∧ s.drop (i + 1) = r ∧ i < s.length := by
  refine ⟨?_, by rw [← List.tail_drop, h]; rfl, ?_⟩
  · rw [List.getD_eq_getElem?_getD, ← List.head?_drop, h]; rfl
  · rcases Nat.lt_or_ge i s.length with h1 | h1
    · exact h1
    · rw [List.drop_eq_nil_of_le h1] at h; cases h
theorem adr_u8 (c : UInt8) (k : Nat) (q : Int) (d : UInt8) (hq : q = k) (hd : d.toNat = k) : (((c.toNat : Nat) : Int) == q) = decide (c = d) := by
  rw [Bool.eq_iff_iff, beq_iff_eq, decide_eq_true_iff, hq]
  constructor
  · intro h
    apply UInt8.toNat_inj.1
    omega
  · rintro rfl
    omega
theorem ofNat_toNat8 (c : UInt8) : UInt8.ofNat (((c.toNat : Nat) : Int)).toNat = c := by
  rw [Int.toNat_natCast]; exact UInt8.ofNat_toNat
noncomputable def cwithin_ : Code := bodyOf Tryz.f9

noncomputable def Gwithin_ : Cfg := ⟨Tryz.prog, mkEnv [], mkEnvR [], 79, [70000, 70001, 70002], [([0, 0, 1, 1], ⟨[0, 1, 5], [⟨.slot 5, 5, (.barr 5 false [])⟩, ⟨.fix 70000, 70000, .cells []⟩, ⟨.fix 70001, 70001, .cells []⟩, ⟨.fix 70002, 70002, .cells []⟩]⟩), ([1, 1, 1, 0, 1, 1, 0, 1, 0, 0, 0, 1, 1], ⟨[0, 1, 5, 6, 43], [⟨.slot 5, 5, (.barr 5 false [])⟩, ⟨.fix 70000, 70000, .cells []⟩, ⟨.fix 70001, 70001, .cells []⟩, ⟨.fix 70002, 70002, .cells []⟩]⟩)], []⟩

noncomputable def Bwithin__1 (F f1 : Nat) (vb1 vs2 : List UInt8) (vi3 : Int) (vs4 : List UInt8) (vc5 : Bool) (vl6 : List (List UInt8)) (vl7 : List (List UInt8 × List UInt8 × List UInt8)) : Option Ans := runR Gwithin_ cwithin_ (kR Tryz.prog [70000, 70001, 70002] ⟨[4], [⟨.fix 70000, 70000, .cells []⟩, ⟨.fix 70001, 70001, .cells []⟩, ⟨.fix 70002, 70002, .cells []⟩]⟩ [70000, 70001, 70002] Tryz.f9.results.toList) F [] [1, 1, 0, 0] f1 [(0, .ref 70000 0), (1, .p (.int .u8 (34 : Int))), (5, .arr 5)] [(5, .barr 5 false vb1), (70000, .cells [.p (.str vs2), .p (.int .i64 vi3), .arr 70001, .p (.str vs4), .p (.bool vc5), .arr 70002]), (70001, .larr 9 false 1 (.dat .str vl6)), (70002, .larr 27 false 3 (.dat (.pair .str (.pair .str .str)) vl7))]

noncomputable def Bwithin__2 (F f1 : Nat) (vi8 : Int) (vc9 : Bool) (vb1 vs2 : List UInt8) (vi10 : Int) (vs4 : List UInt8) (vc5 : Bool) (vl6 : List (List UInt8)) (vl7 : List (List UInt8 × List UInt8 × List UInt8)) : Option Ans := runB Gwithin_ cwithin_ (kR Tryz.prog [70000, 70001, 70002] ⟨[4], [⟨.fix 70000, 70000, .cells []⟩, ⟨.fix 70001, 70001, .cells []⟩, ⟨.fix 70002, 70002, .cells []⟩]⟩ [70000, 70001, 70002] Tryz.f9.results.toList) F [f1] [1, 1, 0, 0, 0, 1, 0, 1, 1, 0, 1, 1, 1] [(0, .ref 70000 0), (1, .p (.int .u8 (34 : Int))), (5, .arr 5), (6, .p (.int .u8 vi8)), (43, .p (.bool vc9))] [(5, .barr 5 false vb1), (70000, .cells [.p (.str vs2), .p (.int .i64 vi10), .arr 70001, .p (.str vs4), .p (.bool vc5), .arr 70002]), (70001, .larr 9 false 1 (.dat .str vl6)), (70002, .larr 27 false 3 (.dat (.pair .str (.pair .str .str)) vl7))]

noncomputable def Fwithin_ (F : Nat) (s : List UInt8) (at_ : Int) (ws : List (List UInt8)) (an : List UInt8) (hs : Bool) (out : List (List UInt8 × List UInt8 × List UInt8)) : Option Ans := runFR Gwithin_ Tryz.f9 ⟨[4], [⟨.fix 70000, 70000, .cells []⟩, ⟨.fix 70001, 70001, .cells []⟩, ⟨.fix 70002, 70002, .cells []⟩]⟩ [70000, 70001, 70002] F [.ref 70000 0, .p (.int .u8 (34 : Int))] [(70000, .cells [.p (.str s), .p (.int .i64 at_), .arr 70001, .p (.str an), .p (.bool hs), .arr 70002]), (70001, .larr 9 false 1 (.dat .str ws)), (70002, .larr 27 false 3 (.dat (.pair .str (.pair .str .str)) out))]

theorem Bwithin__1_eq (F f1 : Nat) (vb1 vs2 : List UInt8) (vi3 : Int) (vs4 : List UInt8) (vc5 : Bool) (vl6 : List (List UInt8)) (vl7 : List (List UInt8 × List UInt8 × List UInt8)) : Bwithin__1 F (f1 + 1) vb1 vs2 vi3 vs4 vc5 vl6 vl7 = cond (decide (vi3 < (vs2.length : Int))) (need (0 ≤ vi3 ∧ vi3 < (vs2.length : Int)) (need (i64ok (vi3 + (1 : Int))) (cond (((vs2.getD (vi3).toNat 0).toNat : Int) == (34 : Int)) (some (.p (.str vb1), [(70000, .cells [.p (.str vs2), .p (.int .i64 (vi3 + (1 : Int))), .arr 70001, .p (.str vs4), .p (.bool vc5), .arr 70002]), (70001, .larr 9 false 1 (.dat .str vl6)), (70002, .larr 27 false 3 (.dat (.pair .str (.pair .str .str)) vl7))])) (Bwithin__2 F f1 ((vs2.getD (vi3).toNat 0).toNat : Int) ((((vs2.getD (vi3).toNat 0).toNat : Int) == (92 : Int)) && (decide ((vi3 + (1 : Int)) < (vs2.length : Int)))) vb1 vs2 (vi3 + (1 : Int)) vs4 vc5 vl6 vl7)))) (some (.p (.str vb1), [(70000, .cells [.p (.str vs2), .p (.int .i64 vi3), .arr 70001, .p (.str vs4), .p (.bool vc5), .arr 70002]), (70001, .larr 9 false 1 (.dat .str vl6)), (70002, .larr 27 false 3 (.dat (.pair .str (.pair .str .str)) vl7))])) :=
  Eq.trans (show Bwithin__1 F (f1 + 1) vb1 vs2 vi3 vs4 vc5 vl6 vl7 = cond (decide (vi3 < (vs2.length : Int))) (need (0 ≤ vi3 ∧ vi3 < (vs2.length : Int)) (need (i64ok (vi3 + (1 : Int))) (cond (((vs2.getD (vi3).toNat 0).toNat : Int) == (34 : Int)) (some (.p (.str vb1), [(70000, .cells [.p (.str vs2), .p (.int .i64 (vi3 + (1 : Int))), .arr 70001, .p (.str vs4), .p (.bool vc5), .arr 70002]), (70001, .larr 9 false 1 (.dat .str vl6)), (70002, .larr 27 false 3 (.dat (.pair .str (.pair .str .str)) vl7))])) (need ((((vs2.getD (vi3).toNat 0).toNat : Int) == (92 : Int)) = true → (((vs2.getD (vi3).toNat 0).toNat : Int) == (92 : Int)) = true) (need ((((vs2.getD (vi3).toNat 0).toNat : Int) == (92 : Int)) = true → (((vs2.getD (vi3).toNat 0).toNat : Int) == (92 : Int)) = true) (need ((((vs2.getD (vi3).toNat 0).toNat : Int) == (92 : Int)) = true → (((vs2.getD (vi3).toNat 0).toNat : Int) == (92 : Int)) = true) (need ((((vs2.getD (vi3).toNat 0).toNat : Int) == (92 : Int)) = true → (((vs2.getD (vi3).toNat 0).toNat : Int) == (92 : Int)) = true) (need ((((vs2.getD (vi3).toNat 0).toNat : Int) == (92 : Int)) = true → (((vs2.getD (vi3).toNat 0).toNat : Int) == (92 : Int)) = true) (need ((((vs2.getD (vi3).toNat 0).toNat : Int) == (92 : Int)) = true → (((vs2.getD (vi3).toNat 0).toNat : Int) == (92 : Int)) = true) (need ((((vs2.getD (vi3).toNat 0).toNat : Int) == (92 : Int)) = true → (((vs2.getD (vi3).toNat 0).toNat : Int) == (92 : Int)) = true) (need ((((vs2.getD (vi3).toNat 0).toNat : Int) == (92 : Int)) = true → (((vs2.getD (vi3).toNat 0).toNat : Int) == (92 : Int)) = true) (need ((((vs2.getD (vi3).toNat 0).toNat : Int) == (92 : Int)) = true → (((vs2.getD (vi3).toNat 0).toNat : Int) == (92 : Int)) = true) (need ((((vs2.getD (vi3).toNat 0).toNat : Int) == (92 : Int)) = true → (((vs2.getD (vi3).toNat 0).toNat : Int) == (92 : Int)) = true) (Bwithin__2 F f1 ((vs2.getD (vi3).toNat 0).toNat : Int) ((((vs2.getD (vi3).toNat 0).toNat : Int) == (92 : Int)) && (decide ((vi3 + (1 : Int)) < (vs2.length : Int)))) vb1 vs2 (vi3 + (1 : Int)) vs4 vc5 vl6 vl7)))))))))))))) (some (.p (.str vb1), [(70000, .cells [.p (.str vs2), .p (.int .i64 vi3), .arr 70001, .p (.str vs4), .p (.bool vc5), .arr 70002]), (70001, .larr 9 false 1 (.dat .str vl6)), (70002, .larr 27 false 3 (.dat (.pair .str (.pair .str .str)) vl7))])) by kernel_rfl) (cond_congr (need_congr (need_congr (cond_congr (rfl) (need_strike (show (((vs2.getD (vi3).toNat 0).toNat : Int) == (92 : Int)) = true → (((vs2.getD (vi3).toNat 0).toNat : Int) == (92 : Int)) = true from (fun q0 => q0)) (need_strike (show (((vs2.getD (vi3).toNat 0).toNat : Int) == (92 : Int)) = true → (((vs2.getD (vi3).toNat 0).toNat : Int) == (92 : Int)) = true from (fun q0 => q0)) (need_strike (show (((vs2.getD (vi3).toNat 0).toNat : Int) == (92 : Int)) = true → (((vs2.getD (vi3).toNat 0).toNat : Int) == (92 : Int)) = true from (fun q0 => q0)) (need_strike (show (((vs2.getD (vi3).toNat 0).toNat : Int) == (92 : Int)) = true → (((vs2.getD (vi3).toNat 0).toNat : Int) == (92 : Int)) = true from (fun q0 => q0)) (need_strike (show (((vs2.getD (vi3).toNat 0).toNat : Int) == (92 : Int)) = true → (((vs2.getD (vi3).toNat 0).toNat : Int) == (92 : Int)) = true from (fun q0 => q0)) (need_strike (show (((vs2.getD (vi3).toNat 0).toNat : Int) == (92 : Int)) = true → (((vs2.getD (vi3).toNat 0).toNat : Int) == (92 : Int)) = true from (fun q0 => q0)) (need_strike (show (((vs2.getD (vi3).toNat 0).toNat : Int) == (92 : Int)) = true → (((vs2.getD (vi3).toNat 0).toNat : Int) == (92 : Int)) = true from (fun q0 => q0)) (need_strike (show (((vs2.getD (vi3).toNat 0).toNat : Int) == (92 : Int)) = true → (((vs2.getD (vi3).toNat 0).toNat : Int) == (92 : Int)) = true from (fun q0 => q0)) (need_strike (show (((vs2.getD (vi3).toNat 0).toNat : Int) == (92 : Int)) = true → (((vs2.getD (vi3).toNat 0).toNat : Int) == (92 : Int)) = true from (fun q0 => q0)) (need_strike (show (((vs2.getD (vi3).toNat 0).toNat : Int) == (92 : Int)) = true → (((vs2.getD (vi3).toNat 0).toNat : Int) == (92 : Int)) = true from (fun q0 => q0)) (rfl)))))))))))))) (rfl))

theorem Bwithin__2_eq (F f1 : Nat) (vi8 : Int) (vc9 : Bool) (vb1 vs2 : List UInt8) (vi10 : Int) (vs4 : List UInt8) (vc5 : Bool) (vl6 : List (List UInt8)) (vl7 : List (List UInt8 × List UInt8 × List UInt8)) : Bwithin__2 F f1 vi8 vc9 vb1 vs2 vi10 vs4 vc5 vl6 vl7 = cond (vc9) (need (0 ≤ vi10 ∧ vi10 < (vs2.length : Int)) (need ((vb1.length + [UInt8.ofNat (((vs2.getD (vi10).toNat 0).toNat : Int)).toNat].length) * 1 ≤ 140737488355328) (need (i64ok (vi10 + (1 : Int))) (Bwithin__1 F f1 (vb1 ++ [UInt8.ofNat (((vs2.getD (vi10).toNat 0).toNat : Int)).toNat]) vs2 (vi10 + (1 : Int)) vs4 vc5 vl6 vl7)))) (need ((vb1.length + [UInt8.ofNat (vi8).toNat].length) * 1 ≤ 140737488355328) (Bwithin__1 F f1 (vb1 ++ [UInt8.ofNat (vi8).toNat]) vs2 vi10 vs4 vc5 vl6 vl7)) := by kernel_rfl

theorem Fwithin__eq (F : Nat) (s : List UInt8) (at_ : Int) (ws : List (List UInt8)) (an : List UInt8) (hs : Bool) (out : List (List UInt8 × List UInt8 × List UInt8)) : Fwithin_ F s at_ ws an hs out = Bwithin__1 F F [] s at_ an hs ws out := by kernel_rfl

theorem fn_within_ (F : Nat) (s : List UInt8) (at_ : Int) (ws : List (List UInt8)) (an : List UInt8) (hs : Bool) (out : List (List UInt8 × List UInt8 × List UInt8)) (r : AV) (os : List (Nat × AObj)) (h : (∃ γ M w vs, ARels γ M [.ref 70000 0, .p (.int .u8 (34 : Int))] vs ∧ Objs γ M w (fun i => lookO i [(70000, .cells [.p (.str s), .p (.int .i64 at_), .arr 70001, .p (.str an), .p (.bool hs), .arr 70002]), (70001, .larr 9 false 1 (.dat .str ws)), (70002, .larr 27 false 3 (.dat (.pair .str (.pair .str .str)) out))]) (fun b => b < w.heap.size)) → Fwithin_ F s at_ ws an hs out = some (r, os)) : FnR Tryz.prog 9 [.ref 70000 0, .p (.int .u8 (34 : Int))] [(70000, .cells [.p (.str s), .p (.int .i64 at_), .arr 70001, .p (.str an), .p (.bool hs), .arr 70002]), (70001, .larr 9 false 1 (.dat .str ws)), (70002, .larr 27 false 3 (.dat (.pair .str (.pair .str .str)) out))] [70000, 70001, 70002] r os :=
  FnR_run Gwithin_ ⟨[4], [⟨.fix 70000, 70000, .cells []⟩, ⟨.fix 70001, 70001, .cells []⟩, ⟨.fix 70002, 70002, .cells []⟩]⟩ [70000, 70001, 70002] F rfl (EnvOk_mk (l := []) trivial) (EnvROk_mk (l := []) trivial) (Checked.mixed Tryz.checked) (fn := Tryz.f9) (by kernel_rfl) (by kernel_rfl) rfl h
theorem wi_loop (F : Nat) (s an : List UInt8) (hs : Bool) (ws : List (List UInt8)) (out : List AddrT) (hS : s.length ≤ 1000000) : ∀ (n : Nat) (r b : List UInt8) (i f : Nat), r.length ≤ n → s.drop i = r → i + r.length = s.length → b.length + r.length ≤ 1000000 → r.length < f →
    Bwithin__1 F f b s (i : Int) an hs ws out = some (.p (.str (b ++ (wiF r).1)), rdO s ((i : Int) + ((wiF r).2 : Int)) ws an hs out) := by
  intro n
  induction n with
  | zero =>
    intro r b i f hn hd hl hb hf
    obtain rfl : r = [] := List.eq_nil_of_length_eq_zero (by omega)
    obtain ⟨f, rfl⟩ : ∃ k, f = k + 1 := ⟨f - 1, by omega⟩
    rw [Bwithin__1_eq]
    refine cond_f (by simp at hl; simp; omega) ?_
    simp [wiF, rdO]
  | succ n ih =>
    intro r b i f hn hd hl hb hf
    obtain ⟨f, rfl⟩ : ∃ k, f = k + 1 := ⟨f - 1, by omega⟩
    cases r with
    | nil =>
      rw [Bwithin__1_eq]
      refine cond_f (by simp at hl; simp; omega) ?_
      simp [wiF, rdO]
    | cons c r =>
      obtain ⟨hg, hd2, hi⟩ := adr_drop hd
      rw [List.length_cons] at hn hl hb hf
      rw [Bwithin__1_eq]
      refine cond_t (decide_eq_true (by omega)) (need_mk ⟨by omega, by omega⟩ (need_mk ⟨by omega, by omega⟩ ?_))
      rw [Int.toNat_natCast, hg, adr_u8 c 34 34 34 rfl rfl]
      have e1 : ((i : Int) + 1) = ((i + 1 : Nat) : Int) := by omega
      by_cases h34 : c = 34
      · subst h34
        refine cond_t (by decide) ?_
        cases r <;> simp [wiF, rdO]
      · refine cond_f (by simpa using h34) ?_
        rw [Bwithin__2_eq, adr_u8 c 92 92 92 rfl rfl, e1]
        simp only [ofNat_toNat8]
        cases r with
        | nil =>
          refine cond_f (by simp at hl; simp; omega) (need_mk (by simp; omega) ?_)
          rw [ih [] (b ++ [c]) (i + 1) f (by simp) hd2 (by simpa using hl) (by simp; simp at hb; omega) (by simpa using hf)]
          simp [wiF, h34]
        | cons d r =>
          obtain ⟨hg2, hd3, hi2⟩ := adr_drop hd2
          rw [List.length_cons] at hn hl hb hf
          by_cases h92 : c = 92
          · subst h92
            refine cond_t (by simp; omega) (need_mk ⟨by omega, by omega⟩ (need_mk (by simp; omega) (need_mk ⟨by omega, by omega⟩ ?_)))
            have e2 : (((i + 1 : Nat) : Int) + 1) = ((i + 2 : Nat) : Int) := by omega
            rw [Int.toNat_natCast, hg2, e2, ih r (b ++ [d]) (i + 2) f (by omega) hd3 (by omega) (by simp; omega) (by omega)]
            have e3 : wiF (92 :: d :: r) = (d :: (wiF r).1, (wiF r).2 + 2) := by rw [wiF, if_neg (by decide), if_pos rfl]
            rw [e3]
            simp [List.append_assoc, rdO]; omega
          · refine cond_f (by simp [h92]) (need_mk (by simp; omega) ?_)
            rw [ih (d :: r) (b ++ [c]) (i + 1) f (by simp; omega) hd2 (by simp; omega) (by simp; omega) (by simp; omega)]
            have e3 : wiF (c :: d :: r) = (c :: (wiF (d :: r)).1, (wiF (d :: r)).2 + 1) := by rw [wiF, if_neg h34, if_neg h92]
            rw [e3]
            simp [List.append_assoc, rdO]; omega
theorem within_eq (s : List UInt8) (at_ : Int) (ws : List (List UInt8)) (an : List UInt8) (hs : Bool) (out : List AddrT) (h : rdok s at_) :
    Fwithin_ (s.length + 1) s at_ ws an hs out = some (.p (.str (wiF (s.drop at_.toNat)).1), rdO s (at_ + ((wiF (s.drop at_.toNat)).2 : Int)) ws an hs out) := by
  obtain ⟨h1, h2, h3⟩ := h
  rw [Fwithin__eq]
  obtain ⟨i, rfl⟩ : ∃ i : Nat, at_ = i := ⟨at_.toNat, by omega⟩
  have := wi_loop (s.length + 1) s an hs ws out h1 (s.drop i).length (s.drop i) [] i (s.length + 1) (Nat.le_refl _) rfl (by simp; omega) (by simp; omega) (by simp; omega)
  rw [this]
  simp
def sp_within_ : RSpec := ⟨[false, true], fun args ib => match args, ib with
  | [.ref 70000 0, .p (.int .u8 34)], [(70000, .cells [.p (.str s), .p (.int .i64 at_), .arr 70001, .p (.str an), .p (.bool hs), .arr 70002]), (70001, .larr 9 false 1 R), (70002, .larr 27 false 3 Q)] =>
    match pList .str (.list 1 R), pList addrC (.list 3 Q) with
    | some ws, some out => some (([70000, 70001, 70002], .p (.str (wiF (s.drop at_.toNat)).1)), (rdO s (at_ + ((wiF (s.drop at_.toNat)).2 : Int)) ws an hs out, some (rdok s at_)))
    | _, _ => none
  | _, _ => none⟩
theorem ok_within_ : SpecROk Tryz.prog 9 sp_within_ := by
  intro args ib kept r outs ok h hok
  simp only [sp_within_] at h
  split at h
  · split at h
    · rename_i ws out hw ho
      obtain ⟨rfl, _⟩ := pList_rowA hw
      obtain ⟨rfl, _⟩ := pList_rowA ho
      cases h
      exact ⟨by kernel_rfl, fn_within_ _ _ _ _ _ _ _ _ _ fun _ => within_eq _ _ _ _ _ _ hok⟩
    · cases h
  · cases h
noncomputable def cremark : Code := bodyOf Tryz.f10

noncomputable def Gremark : Cfg := ⟨Tryz.prog, mkEnv [], mkEnvR [], 63, [70000, 70001, 70002], [([0, 1, 0], ⟨[0, 2], [⟨.fix 70000, 70000, .cells []⟩, ⟨.fix 70001, 70001, .cells []⟩, ⟨.fix 70002, 70002, .cells []⟩]⟩), ([1, 1, 0, 0, 1, 0], ⟨[0, 2], [⟨.fix 70000, 70000, .cells []⟩, ⟨.fix 70001, 70001, .cells []⟩, ⟨.fix 70002, 70002, .cells []⟩]⟩)], []⟩

noncomputable def Bremark_1 (F f1 : Nat) (vi1 : Int) (vs2 : List UInt8) (vi3 : Int) (vs4 : List UInt8) (vc5 : Bool) (vl6 : List (List UInt8)) (vl7 : List (List UInt8 × List UInt8 × List UInt8)) : Option Ans := runR Gremark cremark (kR Tryz.prog [70000, 70001, 70002] ⟨[], [⟨.fix 70000, 70000, .cells []⟩, ⟨.fix 70001, 70001, .cells []⟩, ⟨.fix 70002, 70002, .cells []⟩]⟩ [70000, 70001, 70002] Tryz.f10.results.toList) F [] [0, 1, 0] f1 [(0, .ref 70000 0), (2, .p (.int .i64 vi1))] [(70000, .cells [.p (.str vs2), .p (.int .i64 vi3), .arr 70001, .p (.str vs4), .p (.bool vc5), .arr 70002]), (70001, .larr 9 false 1 (.dat .str vl6)), (70002, .larr 27 false 3 (.dat (.pair .str (.pair .str .str)) vl7))]

noncomputable def Bremark_2 (F f1 : Nat) (vi8 : Int) (vs9 : List UInt8) (vi10 : Int) (vs11 : List UInt8) (vc12 : Bool) (vl13 : List (List UInt8)) (vl14 : List (List UInt8 × List UInt8 × List UInt8)) : Option Ans := runB Gremark cremark (kR Tryz.prog [70000, 70001, 70002] ⟨[], [⟨.fix 70000, 70000, .cells []⟩, ⟨.fix 70001, 70001, .cells []⟩, ⟨.fix 70002, 70002, .cells []⟩]⟩ [70000, 70001, 70002] Tryz.f10.results.toList) F [f1] [0, 1, 0, 0, 1, 1] [(0, .ref 70000 0), (2, .p (.int .i64 vi8))] [(70000, .cells [.p (.str vs9), .p (.int .i64 vi10), .arr 70001, .p (.str vs11), .p (.bool vc12), .arr 70002]), (70001, .larr 9 false 1 (.dat .str vl13)), (70002, .larr 27 false 3 (.dat (.pair .str (.pair .str .str)) vl14))]

noncomputable def Fremark (F : Nat) (s : List UInt8) (at_ : Int) (ws : List (List UInt8)) (an : List UInt8) (hs : Bool) (out : List (List UInt8 × List UInt8 × List UInt8)) : Option Ans := runFR Gremark Tryz.f10 ⟨[], [⟨.fix 70000, 70000, .cells []⟩, ⟨.fix 70001, 70001, .cells []⟩, ⟨.fix 70002, 70002, .cells []⟩]⟩ [70000, 70001, 70002] F [.ref 70000 0] [(70000, .cells [.p (.str s), .p (.int .i64 at_), .arr 70001, .p (.str an), .p (.bool hs), .arr 70002]), (70001, .larr 9 false 1 (.dat .str ws)), (70002, .larr 27 false 3 (.dat (.pair .str (.pair .str .str)) out))]

theorem Bremark_1_eq (F f1 : Nat) (vi1 : Int) (vs2 : List UInt8) (vi3 : Int) (vs4 : List UInt8) (vc5 : Bool) (vl6 : List (List UInt8)) (vl7 : List (List UInt8 × List UInt8 × List UInt8)) : Bremark_1 F (f1 + 1) vi1 vs2 vi3 vs4 vc5 vl6 vl7 = cond ((decide (vi1 > (0 : Int))) && (decide (vi3 < (vs2.length : Int)))) (need (0 ≤ vi3 ∧ vi3 < (vs2.length : Int)) (cond (((vs2.getD (vi3).toNat 0).toNat : Int) == (40 : Int)) (need (i64ok (vi1 + (1 : Int))) (Bremark_2 F f1 (vi1 + (1 : Int)) vs2 vi3 vs4 vc5 vl6 vl7)) (cond (((vs2.getD (vi3).toNat 0).toNat : Int) == (41 : Int)) (need (i64ok (vi1 - (1 : Int))) (Bremark_2 F f1 (vi1 - (1 : Int)) vs2 vi3 vs4 vc5 vl6 vl7)) (cond (((vs2.getD (vi3).toNat 0).toNat : Int) == (92 : Int)) (need (i64ok (vi3 + (1 : Int))) (Bremark_2 F f1 vi1 vs2 (vi3 + (1 : Int)) vs4 vc5 vl6 vl7)) (Bremark_2 F f1 vi1 vs2 vi3 vs4 vc5 vl6 vl7))))) (some (.tup [], [(70000, .cells [.p (.str vs2), .p (.int .i64 (if (vs2.length : Int) < vi3 then (vs2.length : Int) else vi3)), .arr 70001, .p (.str vs4), .p (.bool vc5), .arr 70002]), (70001, .larr 9 false 1 (.dat .str vl6)), (70002, .larr 27 false 3 (.dat (.pair .str (.pair .str .str)) vl7))])) :=
  Eq.trans (show Bremark_1 F (f1 + 1) vi1 vs2 vi3 vs4 vc5 vl6 vl7 = need ((decide (vi1 > (0 : Int))) = true → (decide (vi1 > (0 : Int))) = true) (need ((decide (vi1 > (0 : Int))) = true → (decide (vi1 > (0 : Int))) = true) (need ((decide (vi1 > (0 : Int))) = true → (decide (vi1 > (0 : Int))) = true) (need ((decide (vi1 > (0 : Int))) = true → (decide (vi1 > (0 : Int))) = true) (need ((decide (vi1 > (0 : Int))) = true → (decide (vi1 > (0 : Int))) = true) (need ((decide (vi1 > (0 : Int))) = true → (decide (vi1 > (0 : Int))) = true) (need ((decide (vi1 > (0 : Int))) = true → (decide (vi1 > (0 : Int))) = true) (need ((decide (vi1 > (0 : Int))) = true → (decide (vi1 > (0 : Int))) = true) (need ((decide (vi1 > (0 : Int))) = true → (decide (vi1 > (0 : Int))) = true) (need ((decide (vi1 > (0 : Int))) = true → (decide (vi1 > (0 : Int))) = true) (cond ((decide (vi1 > (0 : Int))) && (decide (vi3 < (vs2.length : Int)))) (need (0 ≤ vi3 ∧ vi3 < (vs2.length : Int)) (cond (((vs2.getD (vi3).toNat 0).toNat : Int) == (40 : Int)) (need (i64ok (vi1 + (1 : Int))) (Bremark_2 F f1 (vi1 + (1 : Int)) vs2 vi3 vs4 vc5 vl6 vl7)) (cond (((vs2.getD (vi3).toNat 0).toNat : Int) == (41 : Int)) (need (i64ok (vi1 - (1 : Int))) (Bremark_2 F f1 (vi1 - (1 : Int)) vs2 vi3 vs4 vc5 vl6 vl7)) (cond (((vs2.getD (vi3).toNat 0).toNat : Int) == (92 : Int)) (need (i64ok (vi3 + (1 : Int))) (Bremark_2 F f1 vi1 vs2 (vi3 + (1 : Int)) vs4 vc5 vl6 vl7)) (Bremark_2 F f1 vi1 vs2 vi3 vs4 vc5 vl6 vl7))))) (some (.tup [], [(70000, .cells [.p (.str vs2), .p (.int .i64 (if (vs2.length : Int) < vi3 then (vs2.length : Int) else vi3)), .arr 70001, .p (.str vs4), .p (.bool vc5), .arr 70002]), (70001, .larr 9 false 1 (.dat .str vl6)), (70002, .larr 27 false 3 (.dat (.pair .str (.pair .str .str)) vl7))])))))))))))) by kernel_rfl) (need_strike (show (decide (vi1 > (0 : Int))) = true → (decide (vi1 > (0 : Int))) = true from (fun q0 => q0)) (need_strike (show (decide (vi1 > (0 : Int))) = true → (decide (vi1 > (0 : Int))) = true from (fun q0 => q0)) (need_strike (show (decide (vi1 > (0 : Int))) = true → (decide (vi1 > (0 : Int))) = true from (fun q0 => q0)) (need_strike (show (decide (vi1 > (0 : Int))) = true → (decide (vi1 > (0 : Int))) = true from (fun q0 => q0)) (need_strike (show (decide (vi1 > (0 : Int))) = true → (decide (vi1 > (0 : Int))) = true from (fun q0 => q0)) (need_strike (show (decide (vi1 > (0 : Int))) = true → (decide (vi1 > (0 : Int))) = true from (fun q0 => q0)) (need_strike (show (decide (vi1 > (0 : Int))) = true → (decide (vi1 > (0 : Int))) = true from (fun q0 => q0)) (need_strike (show (decide (vi1 > (0 : Int))) = true → (decide (vi1 > (0 : Int))) = true from (fun q0 => q0)) (need_strike (show (decide (vi1 > (0 : Int))) = true → (decide (vi1 > (0 : Int))) = true from (fun q0 => q0)) (need_strike (show (decide (vi1 > (0 : Int))) = true → (decide (vi1 > (0 : Int))) = true from (fun q0 => q0)) (rfl)))))))))))

theorem Bremark_2_eq (F f1 : Nat) (vi8 : Int) (vs9 : List UInt8) (vi10 : Int) (vs11 : List UInt8) (vc12 : Bool) (vl13 : List (List UInt8)) (vl14 : List (List UInt8 × List UInt8 × List UInt8)) : Bremark_2 F f1 vi8 vs9 vi10 vs11 vc12 vl13 vl14 = need (i64ok (vi10 + (1 : Int))) (Bremark_1 F f1 vi8 vs9 (vi10 + (1 : Int)) vs11 vc12 vl13 vl14) := by kernel_rfl

theorem Fremark_eq (F : Nat) (s : List UInt8) (at_ : Int) (ws : List (List UInt8)) (an : List UInt8) (hs : Bool) (out : List (List UInt8 × List UInt8 × List UInt8)) : Fremark F s at_ ws an hs out = Bremark_1 F F (1 : Int) s at_ an hs ws out := by kernel_rfl

theorem fn_remark (F : Nat) (s : List UInt8) (at_ : Int) (ws : List (List UInt8)) (an : List UInt8) (hs : Bool) (out : List (List UInt8 × List UInt8 × List UInt8)) (r : AV) (os : List (Nat × AObj)) (h : (∃ γ M w vs, ARels γ M [.ref 70000 0] vs ∧ Objs γ M w (fun i => lookO i [(70000, .cells [.p (.str s), .p (.int .i64 at_), .arr 70001, .p (.str an), .p (.bool hs), .arr 70002]), (70001, .larr 9 false 1 (.dat .str ws)), (70002, .larr 27 false 3 (.dat (.pair .str (.pair .str .str)) out))]) (fun b => b < w.heap.size)) → Fremark F s at_ ws an hs out = some (r, os)) : FnR Tryz.prog 10 [.ref 70000 0] [(70000, .cells [.p (.str s), .p (.int .i64 at_), .arr 70001, .p (.str an), .p (.bool hs), .arr 70002]), (70001, .larr 9 false 1 (.dat .str ws)), (70002, .larr 27 false 3 (.dat (.pair .str (.pair .str .str)) out))] [70000, 70001, 70002] r os :=
  FnR_run Gremark ⟨[], [⟨.fix 70000, 70000, .cells []⟩, ⟨.fix 70001, 70001, .cells []⟩, ⟨.fix 70002, 70002, .cells []⟩]⟩ [70000, 70001, 70002] F rfl (EnvOk_mk (l := []) trivial) (EnvROk_mk (l := []) trivial) (Checked.mixed Tryz.checked) (fn := Tryz.f10) (by kernel_rfl) (by kernel_rfl) rfl h
theorem rm_loop (F : Nat) (s an : List UInt8) (hs : Bool) (ws : List (List UInt8)) (out : List AddrT) (hS : s.length ≤ 1000000) : ∀ (n : Nat) (r : List UInt8) (k i f : Nat), r.length ≤ n → s.drop i = r → i + r.length = s.length → k ≤ 1 + i → r.length < f →
    Bremark_1 F f (k : Int) s (i : Int) an hs ws out = some (.tup [], rdO s ((i : Int) + (rmF k r : Int)) ws an hs out) := by
  intro n
  induction n with
  | zero =>
    intro r k i f hn hd hl hk hf
    obtain rfl : r = [] := List.eq_nil_of_length_eq_zero (by omega)
    obtain ⟨f, rfl⟩ : ∃ q, f = q + 1 := ⟨f - 1, by omega⟩
    have hl : i = s.length := by simpa using hl
    rw [Bremark_1_eq]
    refine cond_f (by rw [Bool.and_eq_false_iff, decide_eq_false_iff_not, decide_eq_false_iff_not]; omega) ?_
    rw [if_neg (by omega)]
    cases k <;> simp [rmF, rdO]
  | succ n ih =>
    intro r k i f hn hd hl hk hf
    obtain ⟨f, rfl⟩ : ∃ q, f = q + 1 := ⟨f - 1, by omega⟩
    cases r with
    | nil =>
      have hl : i = s.length := by simpa using hl
      rw [Bremark_1_eq]
      refine cond_f (by rw [Bool.and_eq_false_iff, decide_eq_false_iff_not, decide_eq_false_iff_not]; omega) ?_
      rw [if_neg (by omega)]
      cases k <;> simp [rmF, rdO]
    | cons c r =>
      obtain ⟨hg, hd2, hi⟩ := adr_drop hd
      rw [List.length_cons] at hn hl hf
      cases k with
      | zero =>
        rw [Bremark_1_eq]
        refine cond_f (by rw [Bool.and_eq_false_iff, decide_eq_false_iff_not, decide_eq_false_iff_not]; omega) ?_
        rw [if_neg (by omega)]
        simp [rmF, rdO]
      | succ k =>
        rw [Bremark_1_eq]
        refine cond_t (by rw [Bool.and_eq_true, decide_eq_true_iff, decide_eq_true_iff]; omega) (need_mk ⟨by omega, by omega⟩ ?_)
        rw [Int.toNat_natCast, hg, adr_u8 c 40 40 40 rfl rfl, adr_u8 c 41 41 41 rfl rfl, adr_u8 c 92 92 92 rfl rfl]
        have e1 : ((i : Int) + 1) = ((i + 1 : Nat) : Int) := by omega
        have e2 : (((k + 1 : Nat) : Int) + 1) = ((k + 2 : Nat) : Int) := by omega
        have e3 : (((k + 1 : Nat) : Int) - 1) = (k : Int) := by omega
        by_cases h40 : c = 40
        · subst h40
          refine cond_t (by decide) (need_mk ⟨by omega, by omega⟩ ?_)
          rw [Bremark_2_eq, e1, e2]
          refine need_mk ⟨by omega, by omega⟩ ?_
          rw [ih r (k + 2) (i + 1) f (by omega) hd2 (by omega) (by omega) (by omega)]
          cases r with
          | nil => simp [rmF, rdO]
          | cons d r => rw [show rmF (k + 1) (40 :: d :: r) = rmF (k + 2) (d :: r) + 1 by rw [rmF, if_pos rfl]]; simp [rdO]; omega
        · refine cond_f (by simpa using h40) ?_
          by_cases h41 : c = 41
          · subst h41
            refine cond_t (by decide) (need_mk ⟨by omega, by omega⟩ ?_)
            rw [Bremark_2_eq, e1, e3]
            refine need_mk ⟨by omega, by omega⟩ ?_
            rw [ih r k (i + 1) f (by omega) hd2 (by omega) (by omega) (by omega)]
            cases r with
            | nil => cases k <;> simp [rmF, rdO]
            | cons d r => rw [show rmF (k + 1) (41 :: d :: r) = rmF k (d :: r) + 1 by rw [rmF, if_neg (by decide), if_pos rfl]]; simp [rdO]; omega
          · refine cond_f (by simpa using h41) ?_
            by_cases h92 : c = 92
            · subst h92
              refine cond_t (by decide) (need_mk ⟨by omega, by omega⟩ ?_)
              rw [Bremark_2_eq]
              refine need_mk ⟨by omega, by omega⟩ ?_
              cases r with
              | nil =>
                obtain ⟨f, rfl⟩ : ∃ q, f = q + 1 := ⟨f - 1, by omega⟩
                simp only [List.length_nil] at hl
                rw [Bremark_1_eq]
                refine cond_f (by rw [Bool.and_eq_false_iff, decide_eq_false_iff_not, decide_eq_false_iff_not]; omega) ?_
                rw [if_pos (by omega)]
                have : ((s.length : Nat) : Int) = (i : Int) + 1 := by omega
                simp [rmF, rdO, this]
              | cons d r =>
                obtain ⟨hg2, hd3, hi2⟩ := adr_drop hd2
                rw [List.length_cons] at hn hl hf
                have e4 : ((i : Int) + 1 + 1) = ((i + 2 : Nat) : Int) := by omega
                rw [e4, ih r (k + 1) (i + 2) f (by omega) hd3 (by omega) (by omega) (by omega)]
                rw [show rmF (k + 1) (92 :: d :: r) = rmF (k + 1) r + 2 by rw [rmF, if_neg (by decide), if_neg (by decide), if_pos rfl]]; simp [rdO]; omega
            · refine cond_f (by simpa using h92) ?_
              rw [Bremark_2_eq, e1]
              refine need_mk ⟨by omega, by omega⟩ ?_
              rw [ih r (k + 1) (i + 1) f (by omega) hd2 (by omega) (by omega) (by omega)]
              cases r with
              | nil => simp [rmF, rdO]
              | cons d r => rw [show rmF (k + 1) (c :: d :: r) = rmF (k + 1) (d :: r) + 1 by rw [rmF, if_neg h40, if_neg h41, if_neg h92]]; simp [rdO]; omega
theorem remark_eq (s : List UInt8) (at_ : Int) (ws : List (List UInt8)) (an : List UInt8) (hs : Bool) (out : List AddrT) (h : rdok s at_) :
    Fremark (s.length + 1) s at_ ws an hs out = some (.tup [], rdO s (at_ + (rmF 1 (s.drop at_.toNat) : Int)) ws an hs out) := by
  obtain ⟨h1, h2, h3⟩ := h
  rw [Fremark_eq]
  obtain ⟨i, rfl⟩ : ∃ i : Nat, at_ = i := ⟨at_.toNat, by omega⟩
  have := rm_loop (s.length + 1) s an hs ws out h1 (s.drop i).length (s.drop i) 1 i (s.length + 1) (Nat.le_refl _) rfl (by simp; omega) (by omega) (by simp; omega)
  rw [Int.toNat_natCast]
  exact this
def sp_remark : RSpec := ⟨[false], fun args ib => match args, ib with
  | [.ref 70000 0], [(70000, .cells [.p (.str s), .p (.int .i64 at_), .arr 70001, .p (.str an), .p (.bool hs), .arr 70002]), (70001, .larr 9 false 1 R), (70002, .larr 27 false 3 Q)] =>
    match pList .str (.list 1 R), pList addrC (.list 3 Q) with
    | some ws, some out => some (([70000, 70001, 70002], .tup []), (rdO s (at_ + (rmF 1 (s.drop at_.toNat) : Int)) ws an hs out, some (rdok s at_)))
    | _, _ => none
  | _, _ => none⟩
theorem ok_remark : SpecROk Tryz.prog 10 sp_remark := by
  intro args ib kept r outs ok h hok
  simp only [sp_remark] at h
  split at h
  · split at h
    · rename_i ws out hw ho
      obtain ⟨rfl, _⟩ := pList_rowA hw
      obtain ⟨rfl, _⟩ := pList_rowA ho
      cases h
      exact ⟨by kernel_rfl, fn_remark _ _ _ _ _ _ _ _ _ fun _ => remark_eq _ _ _ _ _ _ hok⟩
    · cases h
  · cases h

noncomputable def Gdrop : Cfg := ⟨Tryz.prog, mkEnv [], mkEnvR [], 11, [70000, 70002], [], []⟩

noncomputable def Fdrop (F : Nat) (s : List UInt8) (at_ : Int) (ws : List (List UInt8)) (an : List UInt8) (hs : Bool) (out : List (List UInt8 × List UInt8 × List UInt8)) : Option Ans := runFR Gdrop Tryz.f14 ⟨[], [⟨.fix 70000, 70000, .cells []⟩, ⟨.fix 70002, 70002, .cells []⟩, ⟨.cell 70000 2, 70001002, (.larr 9 false 1 (.dat .str ([] : List (List UInt8))))⟩]⟩ [70000, 70002, 70001002] F [.ref 70000 0] [(70000, .cells [.p (.str s), .p (.int .i64 at_), .arr 70001, .p (.str an), .p (.bool hs), .arr 70002]), (70001, .larr 9 false 1 (.dat .str ws)), (70002, .larr 27 false 3 (.dat (.pair .str (.pair .str .str)) out))]

theorem Fdrop_eq (F : Nat) (s : List UInt8) (at_ : Int) (ws : List (List UInt8)) (an : List UInt8) (hs : Bool) (out : List (List UInt8 × List UInt8 × List UInt8)) : Fdrop F s at_ ws an hs out = some (.tup [], [(70000, .cells [.p (.str s), .p (.int .i64 at_), .arr 70001002, .p (.str ([] : List UInt8)), .p (.bool false), .arr 70002]), (70002, .larr 27 false 3 (.dat (.pair .str (.pair .str .str)) out)), (70001002, .larr 9 false 1 (.dat .str ([] : List (List UInt8))))]) := by kernel_rfl

theorem fn_drop (F : Nat) (s : List UInt8) (at_ : Int) (ws : List (List UInt8)) (an : List UInt8) (hs : Bool) (out : List (List UInt8 × List UInt8 × List UInt8)) (r : AV) (os : List (Nat × AObj)) (h : (∃ γ M w vs, ARels γ M [.ref 70000 0] vs ∧ Objs γ M w (fun i => lookO i [(70000, .cells [.p (.str s), .p (.int .i64 at_), .arr 70001, .p (.str an), .p (.bool hs), .arr 70002]), (70001, .larr 9 false 1 (.dat .str ws)), (70002, .larr 27 false 3 (.dat (.pair .str (.pair .str .str)) out))]) (fun b => b < w.heap.size)) → Fdrop F s at_ ws an hs out = some (r, os)) : FnR Tryz.prog 14 [.ref 70000 0] [(70000, .cells [.p (.str s), .p (.int .i64 at_), .arr 70001, .p (.str an), .p (.bool hs), .arr 70002]), (70001, .larr 9 false 1 (.dat .str ws)), (70002, .larr 27 false 3 (.dat (.pair .str (.pair .str .str)) out))] [70000, 70002] r os :=
  FnR_run Gdrop ⟨[], [⟨.fix 70000, 70000, .cells []⟩, ⟨.fix 70002, 70002, .cells []⟩, ⟨.cell 70000 2, 70001002, (.larr 9 false 1 (.dat .str ([] : List (List UInt8))))⟩]⟩ [70000, 70002, 70001002] F rfl (EnvOk_mk (l := []) trivial) (EnvROk_mk (l := []) trivial) (Checked.mixed Tryz.checked) (fn := Tryz.f14) (by kernel_rfl) (by kernel_rfl) rfl h
def sp_drop : RSpec := ⟨[false], fun args ib => match args, ib with
  | [.ref 70000 0], [(70000, .cells [.p (.str s), .p (.int .i64 at_), .arr 70001, .p (.str an), .p (.bool hs), .arr 70002]), (70001, .larr 9 false 1 R), (70002, .larr 27 false 3 Q)] =>
    match pList .str (.list 1 R), pList addrC (.list 3 Q) with
    | some ws, some out => some (([70000, 70002], .tup []), ([(70000, .cells [.p (.str s), .p (.int .i64 at_), .arr 70001002, .p (.str []), .p (.bool false), .arr 70002]), (70002, .larr 27 false 3 (.dat addrC out)), (70001002, .larr 9 false 1 (.dat .str []))], none))
    | _, _ => none
  | _, _ => none⟩
theorem ok_drop : SpecROk Tryz.prog 14 sp_drop := by
  intro args ib kept r outs ok h hok
  simp only [sp_drop] at h
  split at h
  · split at h
    · rename_i ws out hw ho
      obtain ⟨rfl, _⟩ := pList_rowA hw
      obtain ⟨rfl, _⟩ := pList_rowA ho
      cases h
      exact ⟨by kernel_rfl, fn_drop 0 _ _ _ _ _ _ _ _ fun _ => by rw [Fdrop_eq]⟩
    · cases h
  · cases h
end Go.Proofs.YtfadnlnmlkemfaaGreatDoor
namespace Go.Proofs.YtfadnlnmlkemfaaGreatDoor
open Go Go.Am
set_option linter.unusedVariables false
/-! A list behind an entry. -/
theorem dropG {α : Type} {l : List α} {i : Nat} {c : α} {r : List α} (h : l.drop i = c :: r) (d : α) : l.getD i d = c ∧ l.drop (i + 1) = r ∧ i < l.length := by
  have hi : i < l.length := by
    refine Nat.lt_of_not_le fun q => ?_
    rw [List.drop_of_length_le q] at h; cases h
  rw [List.drop_eq_getElem_cons hi] at h
  injection h with h1 h2
  refine ⟨?_, h2, hi⟩
  rw [List.getD_eq_getElem?_getD, List.getElem?_eq_getElem hi]; exact h1
end Go.Proofs.YtfadnlnmlkemfaaGreatDoor
namespace Go.Proofs.YtfadnlnmlkemfaaGreatDoor
open Go Go.Am
set_option linter.unusedVariables false
/-! strings.Join, in general. -/
def joinS (sep : List UInt8) : List (List UInt8) → List UInt8
  | [] => []
  | x :: r => x ++ r.flatMap (sep ++ ·)
def totL (l : List (List UInt8)) : Nat := (l.map List.length).sum
theorem totL_cons (x : List UInt8) (r : List (List UInt8)) : totL (x :: r) = x.length + totL r := by simp [totL]
theorem flatMap_len (sep : List UInt8) : ∀ r : List (List UInt8), (r.flatMap (sep ++ ·)).length = r.length * sep.length + totL r
  | [] => by simp [totL]
  | x :: r => by rw [List.flatMap_cons, List.length_append, flatMap_len sep r, totL_cons, List.length_append, List.length_cons, Nat.add_mul]; omega
theorem joinS_len (sep : List UInt8) (l : List (List UInt8)) : (joinS sep l).length ≤ l.length * sep.length + totL l := by
  cases l with
  | nil => simp [joinS]
  | cons x r => rw [joinS, List.length_append, flatMap_len, totL_cons, List.length_cons, Nat.add_mul]; omega
















end Go.Proofs.YtfadnlnmlkemfaaGreatDoor
/-! A range over a function: the statement, a round, a call of yield. -/
namespace Go.Am
open Go Go.RowKit
variable {P : Program} {C C' : Ctx} {s s' : S} {a a' : Act} {w w' w2 : World} {γ γ' : Nat → Option G} {M M' : Mem}



/-! ### The statement -/

/-! ### A round -/

/-! ### A call of yield -/
end Go.Am
