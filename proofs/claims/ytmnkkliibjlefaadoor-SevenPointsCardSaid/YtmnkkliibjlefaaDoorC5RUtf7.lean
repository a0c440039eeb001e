/-
  Lifted functions, and facts about them.
-/
import Derived.Test.YtmnkkliibjlefaaDoorRows
import Derived.Test.YtmnkkliibjlefaaDoorAmC
import Derived.Test.YtmnkkliibjlefaaDoorC5Enc7
import Derived.Test.YtmnkkliibjlefaaDoorC5R1Let
import Derived.Test.YtmnkkliibjlefaaDoorC5B64Facts
namespace Go.Proofs.YtmnkkliibjlefaaDoor
open Go Go.Am
set_option linter.unusedVariables false
/-! The document's answer: Utf7. -/
theorem ofint (c : UInt8) : UInt8.ofNat ((c.toNat : Nat) : Int).toNat = c := by simp
theorem dropWhile_rep (k : Nat) (p : UInt8 → Bool) (x : UInt8) (hx : p x = true) (l : List UInt8) : (List.replicate k x ++ l).dropWhile p = l.dropWhile p := by
  induction k with
  | zero => rfl
  | succ k ih => rw [List.replicate_succ, List.cons_append, List.dropWhile_cons, if_pos hx, ih]
theorem dropWhile_none {p : UInt8 → Bool} : ∀ {l : List UInt8}, (∀ c ∈ l, p c = false) → l.dropWhile p = l
  | [], _ => rfl
  | c :: r, h => by rw [List.dropWhile_cons, if_neg (by rw [h c (by simp)]; decide)]
theorem trim_enc (l : List UInt8) : trimS (encB l) 61 = encL64 l := by
  unfold trimS
  rw [encL64_pad _ l (Nat.le_refl _), List.reverse_append, List.reverse_replicate, dropWhile_rep _ _ _ (by decide), dropWhile_none, List.reverse_reverse]
  intro c hc
  have h := al_encL _ l (Nat.le_refl _) c (List.mem_reverse.1 hc)
  rw [decide_eq_false_iff_not]
  intro e
  have e : c = 61 := u8_eq.1 e
  subst e
  exact absurd h (by decide)
theorem rowS_eq (l : List UInt8) : rowS l = 38 :: (repS (encL64 l) 47 44 ++ [45]) := by rw [rowS, trim_enc]; rfl
theorem twoS_mk (m : Nat) : [UInt8.ofNat (IntKind.u8.wrap ((m : Int).fdiv 256)).toNat, UInt8.ofNat (IntKind.u8.wrap (m : Int)).toNat] = twoS (m : Int) := by
  have e : ((m : Int)).fdiv 256 = ((m / 256 : Nat) : Int) := fd m 8
  rw [e, u8_of, u8_of]; rfl
noncomputable def crutf7 : Code := bodyOf Tryd.f13

noncomputable def Grutf7 : Cfg := ⟨Tryd.prog, mkEnv [(9, sp_rvalid), (17, sp_rget), (26, sp_rletters)], mkEnvR [], 115, [], [([0, 1, 0, 1, 1, 1], ⟨[0, 4, 5, 6], [⟨.slot 4, 4, (.barr 5 false [])⟩, ⟨.slot 5, 5, (.barr 5 false [])⟩]⟩), ([1, 0, 1, 0, 1, 0, 0, 1, 0, 1, 1, 1], ⟨[0, 4, 5, 6, 7, 8, 38], [⟨.slot 4, 4, (.barr 5 false [])⟩, ⟨.slot 5, 5, (.barr 5 false [])⟩]⟩), ([0, 1, 0, 1, 1, 0, 1, 0, 0, 1, 0, 1, 0, 1, 0, 0, 1, 0, 1, 1, 1], ⟨[0, 4, 6, 7, 8, 9, 10], [⟨.slot 4, 4, (.barr 5 false [])⟩]⟩), ([1, 1, 0, 0, 1, 0, 0, 1, 0, 1, 1, 0, 1, 0, 0, 1, 0, 1, 0, 1, 0, 0, 1, 0, 1, 1, 1], ⟨[0, 4, 6, 7, 8, 9, 10, 11], [⟨.slot 4, 4, (.barr 5 false [])⟩]⟩), ([1, 0, 1, 0, 1, 0, 1, 0, 0, 1, 0, 1, 1, 1], ⟨[0, 4, 5, 6, 7, 8], [⟨.slot 4, 4, (.barr 5 false [])⟩, ⟨.slot 5, 5, (.barr 5 false [])⟩]⟩), ([1, 1, 1, 1, 0, 1, 0, 1, 0, 1, 0, 0, 1, 0, 1, 1, 1], ⟨[0, 4, 5, 8], [⟨.slot 4, 4, (.barr 5 false [])⟩, ⟨.slot 5, 5, (.barr 5 false [])⟩]⟩), ([1, 1, 1, 0, 1, 0, 0, 1, 0, 1, 1, 1], ⟨[0, 4, 5, 8], [⟨.slot 4, 4, (.barr 5 false [])⟩, ⟨.slot 5, 5, (.barr 5 false [])⟩]⟩), ([1, 1, 1, 1], ⟨[4], [⟨.slot 4, 4, (.barr 5 false [])⟩]⟩)], []⟩

noncomputable def Brutf7_1 (F f1 : Nat) (s : List UInt8) (vi1 : Int) (vb2 : List UInt8) (vb3 : List UInt8) : Option Ans := runR Grutf7 crutf7 (kP Tryd.prog Tryd.f13.results.toList) F [] [1, 1, 1, 0, 1, 0] f1 [(0, .p (.str s)), (4, .arr 4), (5, .arr 5), (6, .p (.int .i64 vi1))] [(4, .barr 5 false vb2), (5, .barr 5 false vb3)]

noncomputable def Brutf7_2 (F f1 : Nat) (s : List UInt8) (vi1 : Int) (vi4 : Int) (vi5 : Int) (vc6 : Bool) (vb2 : List UInt8) (vb3 : List UInt8) : Option Ans := runB Grutf7 crutf7 (kP Tryd.prog Tryd.f13.results.toList) F [f1] [1, 1, 1, 0, 1, 0, 0, 1, 0, 1, 0, 1] [(0, .p (.str s)), (4, .arr 4), (5, .arr 5), (6, .p (.int .i64 vi1)), (7, .p (.int .i64 vi4)), (8, .p (.int .i64 vi5)), (38, .p (.bool vc6))] [(4, .barr 5 false vb2), (5, .barr 5 false vb3)]

noncomputable def Brutf7_3 (F f1 f2 : Nat) (s : List UInt8) (vi1 : Int) (vi4 : Int) (vi5 : Int) (vs7 : List UInt8) (vi8 : Int) (vb9 : List UInt8) : Option Ans := runR Grutf7 crutf7 (kP Tryd.prog Tryd.f13.results.toList) F [f1] [1, 1, 1, 0, 1, 0, 0, 1, 0, 1, 0, 1, 0, 0, 1, 0, 1, 1, 0, 1, 0] f2 [(0, .p (.str s)), (4, .arr 4), (6, .p (.int .i64 vi1)), (7, .p (.int .i64 vi4)), (8, .p (.int .i64 vi5)), (9, .p (.str vs7)), (10, .p (.int .i64 vi8))] [(4, .barr 5 false vb9)]

noncomputable def Brutf7_4 (F f1 f2 : Nat) (s : List UInt8) (vi1 : Int) (vi4 : Int) (vi5 : Int) (vs7 : List UInt8) (vi8 : Int) (vi10 : Int) (vb9 : List UInt8) : Option Ans := runB Grutf7 crutf7 (kP Tryd.prog Tryd.f13.results.toList) F [f1, f2] [1, 1, 1, 0, 1, 0, 0, 1, 0, 1, 0, 1, 0, 0, 1, 0, 1, 1, 0, 1, 0, 0, 1, 0, 0, 1, 1] [(0, .p (.str s)), (4, .arr 4), (6, .p (.int .i64 vi1)), (7, .p (.int .i64 vi4)), (8, .p (.int .i64 vi5)), (9, .p (.str vs7)), (10, .p (.int .i64 vi8)), (11, .p (.int .u8 vi10))] [(4, .barr 5 false vb9)]

noncomputable def Brutf7_5 (F f1 : Nat) (s : List UInt8) (vi1 : Int) (vi4 : Int) (vi5 : Int) (vb11 : List UInt8) (vb12 : List UInt8) : Option Ans := runB Grutf7 crutf7 (kP Tryd.prog Tryd.f13.results.toList) F [f1] [1, 1, 1, 0, 1, 0, 0, 1, 0, 1, 0, 1, 0, 1] [(0, .p (.str s)), (4, .arr 4), (5, .arr 5), (6, .p (.int .i64 vi1)), (7, .p (.int .i64 vi4)), (8, .p (.int .i64 vi5))] [(4, .barr 5 false vb11), (5, .barr 5 false vb12)]

noncomputable def Brutf7_6 (F : Nat) (vb13 : List UInt8) : Option Ans := runB Grutf7 crutf7 (kP Tryd.prog Tryd.f13.results.toList) F [] [1, 1, 1, 1] [(4, .arr 4)] [(4, .barr 5 false vb13)]

noncomputable def Brutf7_7 (F f1 : Nat) (s : List UInt8) (vi5 : Int) (vb14 : List UInt8) (vb15 : List UInt8) : Option Ans := runB Grutf7 crutf7 (kP Tryd.prog Tryd.f13.results.toList) F [f1] [1, 1, 1, 0, 1, 0, 0, 1, 0, 1, 0, 1, 0, 1, 1, 1, 1] [(0, .p (.str s)), (4, .arr 4), (5, .arr 5), (8, .p (.int .i64 vi5))] [(4, .barr 5 false vb14), (5, .barr 5 false vb15)]

noncomputable def Brutf7_8 (F f1 : Nat) (s : List UInt8) (vi5 : Int) (vb16 : List UInt8) (vb17 : List UInt8) : Option Ans := runB Grutf7 crutf7 (kP Tryd.prog Tryd.f13.results.toList) F [f1] [1, 1, 1, 0, 1, 0, 0, 1, 0, 1, 1, 1] [(0, .p (.str s)), (4, .arr 4), (5, .arr 5), (8, .p (.int .i64 vi5))] [(4, .barr 5 false vb16), (5, .barr 5 false vb17)]

noncomputable def Frutf7 (F : Nat) (s : List UInt8) : Option Ans := runF Grutf7 Tryd.f13 F [.p (.str s)]

theorem Brutf7_1_eq (F f1 : Nat) (s : List UInt8) (vi1 : Int) (vb2 : List UInt8) (vb3 : List UInt8) : Brutf7_1 F (f1 + 1) s vi1 vb2 vb3 = cond (decide (vi1 ≤ (s.length : Int))) (need (posok s vi1) (((((((Brutf7_2 F f1 s vi1 ((getS s vi1).1) ((getS s vi1).2) ((vi1 == (s.length : Int)) || ((decide (((getS s vi1).1) ≥ (32 : Int))) && (decide (((getS s vi1).1) ≤ (126 : Int))))) vb2 vb3)))))))) (Brutf7_6 F vb2) := by
  have h : Brutf7_1 F (f1 + 1) s vi1 vb2 vb3 = cond (decide (vi1 ≤ (s.length : Int))) (need (posok s vi1) (need ((!(vi1 == (s.length : Int))) = true → (!(vi1 == (s.length : Int))) = true) (need ((!(vi1 == (s.length : Int))) = true → (!(vi1 == (s.length : Int))) = true) (need (((!(vi1 == (s.length : Int))) && (decide (((getS s vi1).1) ≥ (32 : Int)))) = true → ((!(vi1 == (s.length : Int))) && (decide (((getS s vi1).1) ≥ (32 : Int)))) = true) (need ((!(vi1 == (s.length : Int))) = true → (!(vi1 == (s.length : Int))) = true) (need ((!(vi1 == (s.length : Int))) = true → (decide (((getS s vi1).1) ≥ (32 : Int))) = true → ((!(vi1 == (s.length : Int))) && (decide (((getS s vi1).1) ≥ (32 : Int)))) = true) (need ((vi1 == (s.length : Int)) = false → (!(vi1 == (s.length : Int))) = true) (Brutf7_2 F f1 s vi1 ((getS s vi1).1) ((getS s vi1).2) ((vi1 == (s.length : Int)) || ((decide (((getS s vi1).1) ≥ (32 : Int))) && (decide (((getS s vi1).1) ≤ (126 : Int))))) vb2 vb3)))))))) (Brutf7_6 F vb2) := by kernel_rfl
  rw [h, need_pos (show (vi1 == (s.length : Int)) = false → (!(vi1 == (s.length : Int))) = true from (fun q0 => (not_mk q0))), need_pos (show (!(vi1 == (s.length : Int))) = true → (decide (((getS s vi1).1) ≥ (32 : Int))) = true → ((!(vi1 == (s.length : Int))) && (decide (((getS s vi1).1) ≥ (32 : Int)))) = true from (fun q0 q1 => (and_mk q0 q1))), need_pos (show (!(vi1 == (s.length : Int))) = true → (!(vi1 == (s.length : Int))) = true from (fun q0 => q0)), need_pos (show (!(vi1 == (s.length : Int))) = true → (!(vi1 == (s.length : Int))) = true from (fun q0 => q0)), need_pos (show (!(vi1 == (s.length : Int))) = true → (!(vi1 == (s.length : Int))) = true from (fun q0 => q0)), need_pos (show ((!(vi1 == (s.length : Int))) && (decide (((getS s vi1).1) ≥ (32 : Int)))) = true → ((!(vi1 == (s.length : Int))) && (decide (((getS s vi1).1) ≥ (32 : Int)))) = true from (fun q0 => q0))]

theorem Brutf7_2_eq (F f1 : Nat) (s : List UInt8) (vi1 : Int) (vi4 : Int) (vi5 : Int) (vc6 : Bool) (vb2 : List UInt8) (vb3 : List UInt8) : Brutf7_2 F f1 s vi1 vi4 vi5 vc6 vb2 vb3 = cond (vc6) (cond (decide ((vb3.length : Int) > (0 : Int))) (need ((vb2.length + [UInt8.ofNat ((38 : Int)).toNat].length) * 1 ≤ 140737488355328) (need (vb3.length ≤ 1000000) (Brutf7_3 F f1 f1 s vi1 vi4 vi5 (encL64 vb3) (0 : Int) (vb2 ++ [UInt8.ofNat ((38 : Int)).toNat])))) (Brutf7_5 F f1 s vi1 vi4 vi5 vb2 vb3)) (cond (decide (vi4 > (65535 : Int))) (need (i64ok (vi4 - (65536 : Int))) ((need (i64ok ((55296 : Int) + ((vi4 - (65536 : Int)).fdiv 1024))) (need (i64ok (vi4 - (65536 : Int))) (need (i64ok ((56320 : Int) + (ibits .and .i64 (vi4 - (65536 : Int)) (1023 : Int)))) (((need ((vb3.length + [UInt8.ofNat (IntKind.u8.wrap (((55296 : Int) + ((vi4 - (65536 : Int)).fdiv 1024)).fdiv 256)).toNat, UInt8.ofNat (IntKind.u8.wrap ((55296 : Int) + ((vi4 - (65536 : Int)).fdiv 1024))).toNat, UInt8.ofNat (IntKind.u8.wrap (((56320 : Int) + (ibits .and .i64 (vi4 - (65536 : Int)) (1023 : Int))).fdiv 256)).toNat, UInt8.ofNat (IntKind.u8.wrap ((56320 : Int) + (ibits .and .i64 (vi4 - (65536 : Int)) (1023 : Int)))).toNat].length) * 1 ≤ 140737488355328) (Brutf7_8 F f1 s vi5 vb2 (vb3 ++ [UInt8.ofNat (IntKind.u8.wrap (((55296 : Int) + ((vi4 - (65536 : Int)).fdiv 1024)).fdiv 256)).toNat, UInt8.ofNat (IntKind.u8.wrap ((55296 : Int) + ((vi4 - (65536 : Int)).fdiv 1024))).toNat, UInt8.ofNat (IntKind.u8.wrap (((56320 : Int) + (ibits .and .i64 (vi4 - (65536 : Int)) (1023 : Int))).fdiv 256)).toNat, UInt8.ofNat (IntKind.u8.wrap ((56320 : Int) + (ibits .and .i64 (vi4 - (65536 : Int)) (1023 : Int)))).toNat])))))))))) ((need ((vb3.length + [UInt8.ofNat (IntKind.u8.wrap (vi4.fdiv 256)).toNat, UInt8.ofNat (IntKind.u8.wrap vi4).toNat].length) * 1 ≤ 140737488355328) (Brutf7_8 F f1 s vi5 vb2 (vb3 ++ [UInt8.ofNat (IntKind.u8.wrap (vi4.fdiv 256)).toNat, UInt8.ofNat (IntKind.u8.wrap vi4).toNat]))))) := by
  have h : Brutf7_2 F f1 s vi1 vi4 vi5 vc6 vb2 vb3 = cond (vc6) (cond (decide ((vb3.length : Int) > (0 : Int))) (need ((vb2.length + [UInt8.ofNat ((38 : Int)).toNat].length) * 1 ≤ 140737488355328) (need (vb3.length ≤ 1000000) (Brutf7_3 F f1 f1 s vi1 vi4 vi5 (encL64 vb3) (0 : Int) (vb2 ++ [UInt8.ofNat ((38 : Int)).toNat])))) (Brutf7_5 F f1 s vi1 vi4 vi5 vb2 vb3)) (cond (decide (vi4 > (65535 : Int))) (need (i64ok (vi4 - (65536 : Int))) (need (0 ≤ (10 : Int)) (need (i64ok ((55296 : Int) + ((vi4 - (65536 : Int)).fdiv 1024))) (need (i64ok (vi4 - (65536 : Int))) (need (i64ok ((56320 : Int) + (ibits .and .i64 (vi4 - (65536 : Int)) (1023 : Int)))) (need (0 ≤ (8 : Int)) (need (0 ≤ (8 : Int)) (need ((vb3.length + [UInt8.ofNat (IntKind.u8.wrap (((55296 : Int) + ((vi4 - (65536 : Int)).fdiv 1024)).fdiv 256)).toNat, UInt8.ofNat (IntKind.u8.wrap ((55296 : Int) + ((vi4 - (65536 : Int)).fdiv 1024))).toNat, UInt8.ofNat (IntKind.u8.wrap (((56320 : Int) + (ibits .and .i64 (vi4 - (65536 : Int)) (1023 : Int))).fdiv 256)).toNat, UInt8.ofNat (IntKind.u8.wrap ((56320 : Int) + (ibits .and .i64 (vi4 - (65536 : Int)) (1023 : Int)))).toNat].length) * 1 ≤ 140737488355328) (Brutf7_8 F f1 s vi5 vb2 (vb3 ++ [UInt8.ofNat (IntKind.u8.wrap (((55296 : Int) + ((vi4 - (65536 : Int)).fdiv 1024)).fdiv 256)).toNat, UInt8.ofNat (IntKind.u8.wrap ((55296 : Int) + ((vi4 - (65536 : Int)).fdiv 1024))).toNat, UInt8.ofNat (IntKind.u8.wrap (((56320 : Int) + (ibits .and .i64 (vi4 - (65536 : Int)) (1023 : Int))).fdiv 256)).toNat, UInt8.ofNat (IntKind.u8.wrap ((56320 : Int) + (ibits .and .i64 (vi4 - (65536 : Int)) (1023 : Int)))).toNat])))))))))) (need (0 ≤ (8 : Int)) (need ((vb3.length + [UInt8.ofNat (IntKind.u8.wrap (vi4.fdiv 256)).toNat, UInt8.ofNat (IntKind.u8.wrap vi4).toNat].length) * 1 ≤ 140737488355328) (Brutf7_8 F f1 s vi5 vb2 (vb3 ++ [UInt8.ofNat (IntKind.u8.wrap (vi4.fdiv 256)).toNat, UInt8.ofNat (IntKind.u8.wrap vi4).toNat]))))) := by kernel_rfl
  rw [h, need_pos (show 0 ≤ (8 : Int) from (by decide)), need_pos (show 0 ≤ (8 : Int) from (by decide)), need_pos (show 0 ≤ (8 : Int) from (by decide)), need_pos (show 0 ≤ (10 : Int) from (by decide))]

theorem Brutf7_3_eq (F f1 f2 : Nat) (s : List UInt8) (vi1 : Int) (vi4 : Int) (vi5 : Int) (vs7 : List UInt8) (vi8 : Int) (vb9 : List UInt8) : Brutf7_3 F f1 (f2 + 1) s vi1 vi4 vi5 vs7 vi8 vb9 = cond (decide (vi8 < (vs7.length : Int))) (need (0 ≤ vi8 ∧ vi8 < (vs7.length : Int)) (cond (((vs7.getD (vi8).toNat 0).toNat : Int) == (47 : Int)) (Brutf7_4 F f1 f2 s vi1 vi4 vi5 vs7 vi8 (44 : Int) vb9) (Brutf7_4 F f1 f2 s vi1 vi4 vi5 vs7 vi8 ((vs7.getD (vi8).toNat 0).toNat : Int) vb9))) (need ((vb9.length + [UInt8.ofNat ((45 : Int)).toNat].length) * 1 ≤ 140737488355328) (Brutf7_5 F f1 s vi1 vi4 vi5 (vb9 ++ [UInt8.ofNat ((45 : Int)).toNat]) [])) := by kernel_rfl

theorem Brutf7_4_eq (F f1 f2 : Nat) (s : List UInt8) (vi1 : Int) (vi4 : Int) (vi5 : Int) (vs7 : List UInt8) (vi8 : Int) (vi10 : Int) (vb9 : List UInt8) : Brutf7_4 F f1 f2 s vi1 vi4 vi5 vs7 vi8 vi10 vb9 = need ((vb9.length + [UInt8.ofNat (vi10).toNat].length) * 1 ≤ 140737488355328) (need (i64ok (vi8 + (1 : Int))) (Brutf7_3 F f1 f2 s vi1 vi4 vi5 vs7 (vi8 + (1 : Int)) (vb9 ++ [UInt8.ofNat (vi10).toNat]))) := by kernel_rfl

theorem Brutf7_5_eq (F f1 : Nat) (s : List UInt8) (vi1 : Int) (vi4 : Int) (vi5 : Int) (vb11 : List UInt8) (vb12 : List UInt8) : Brutf7_5 F f1 s vi1 vi4 vi5 vb11 vb12 = cond (vi1 == (s.length : Int)) (Brutf7_6 F vb11) (need ((vb11.length + [UInt8.ofNat (IntKind.u8.wrap vi4).toNat].length) * 1 ≤ 140737488355328) (cond (vi4 == (38 : Int)) (need (((vb11 ++ [UInt8.ofNat (IntKind.u8.wrap vi4).toNat]).length + [UInt8.ofNat ((45 : Int)).toNat].length) * 1 ≤ 140737488355328) (Brutf7_7 F f1 s vi5 ((vb11 ++ [UInt8.ofNat (IntKind.u8.wrap vi4).toNat]) ++ [UInt8.ofNat ((45 : Int)).toNat]) vb12)) (Brutf7_7 F f1 s vi5 (vb11 ++ [UInt8.ofNat (IntKind.u8.wrap vi4).toNat]) vb12))) := by kernel_rfl

theorem Brutf7_6_eq (F : Nat) (vb13 : List UInt8) : Brutf7_6 F vb13 = some (.tup [.p (.str vb13), .p (.int .i64 (0 : Int))], []) := by kernel_rfl

theorem Brutf7_7_eq (F f1 : Nat) (s : List UInt8) (vi5 : Int) (vb14 : List UInt8) (vb15 : List UInt8) : Brutf7_7 F f1 s vi5 vb14 vb15 = Brutf7_1 F f1 s vi5 vb14 vb15 := by kernel_rfl

theorem Brutf7_8_eq (F f1 : Nat) (s : List UInt8) (vi5 : Int) (vb16 : List UInt8) (vb17 : List UInt8) : Brutf7_8 F f1 s vi5 vb16 vb17 = Brutf7_1 F f1 s vi5 vb16 vb17 := by kernel_rfl

theorem Frutf7_eq (F : Nat) (s : List UInt8) : Frutf7 F s = need (s.length ≤ 1000000) (cond (!(validS s)) (some (.tup [.p (.str ([] : List UInt8)), .p (.int .i64 (3 : Int))], [])) (Brutf7_1 F F s (0 : Int) [] [])) := by kernel_rfl

theorem fn_rutf7 (F : Nat) (s : List UInt8) (r : AV) (h : (∃ M vs, ARels γ0 M [.p (.str s)] vs) → Frutf7 F s = some (r, [])) : FnP Tryd.prog 13 [.p (.str s)] r :=
  FnP_run Grutf7 F rfl (EnvOk_mk (l := [(9, sp_rvalid), (17, sp_rget), (26, sp_rletters)]) ⟨ok_rvalid.any, ok_rget.any, ok_rletters.any, trivial⟩) (EnvROk_mk (l := []) trivial) (Checked.mixed Tryd.checked) (fn := Tryd.f13) (by kernel_rfl) (by kernel_rfl) rfl h
theorem Brutf7_3_spec (F f1 : Nat) (s : List UInt8) (i r n : Int) (L : List UInt8) : ∀ (q : List UInt8) (f j : Nat) (b : List UInt8), L.drop j = q → q.length < f → j ≤ L.length → b.length + q.length ≤ 100000000 → L.length ≤ 100000000 →
    Brutf7_3 F f1 f s i r n L (j : Int) b = Brutf7_5 F f1 s i r n (b ++ (repS q 47 44 ++ [45])) [] := by
  intro q
  induction q with
  | nil =>
    intro f j b hd hf hj hb hL
    have : j = L.length := by have := congrArg List.length hd; simp at this; omega
    cases f with
    | zero => omega
    | succ f =>
      rw [Brutf7_3_eq]
      refine cond_f (by simp; omega) (need_mk (by simp; omega) ?_)
      rfl
  | cons c q ih =>
    intro f j b hd hf hj hb hL
    obtain ⟨h1, h2, h3⟩ := drop_cons hd
    simp only [List.length_cons] at hf hb
    cases f with
    | zero => omega
    | succ f =>
      have e : (j : Int) + 1 = ((j + 1 : Nat) : Int) := by omega
      have go : ∀ d : UInt8, (if c = 47 then 44 else c) = d → Brutf7_4 F f1 f s i r n L (j : Int) ((d.toNat : Nat) : Int) b = Brutf7_5 F f1 s i r n (b ++ (repS (c :: q) 47 44 ++ [45])) [] := by
        intro d hd'
        rw [Brutf7_4_eq]
        refine need_mk (by simp; omega) (need_mk (by unfold i64ok; omega) ?_)
        rw [e, ih f (j + 1) _ h2 (by omega) (by omega) (by simp; omega) hL, ofint]
        simp [repS, hd']
      rw [Brutf7_3_eq]
      refine cond_t (by simp; omega) (need_mk ⟨by omega, by omega⟩ ?_)
      rw [Int.toNat_natCast, h1]
      by_cases hc : c = 47
      · refine cond_t (by rw [hc]; rfl) ?_
        exact go 44 (by rw [if_pos hc])
      · refine cond_f ?_ ?_
        · rw [beq_eq_false_iff_ne]
          intro h
          exact hc (u8_eq.1 h)
        · exact go c (by rw [if_neg hc])
theorem Brutf7_spec (F : Nat) (s : List UInt8) (hs : s.length ≤ 140000) : ∀ (t : List Nat) (f i : Nat) (b o : List UInt8), PtsAt s i t → 5 * s.length + 10 ≤ f + i → i ≤ s.length → o.length ≤ 2 * i → b.length + 2 * o.length ≤ 8 * i →
    Brutf7_1 F f s (i : Int) b o = some (.tup [.p (.str (b ++ encP o t)), .p (.int .i64 (0 : Int))], []) := by
  -- flushing a row
  have flush : ∀ (f i : Nat) (r n : Int) (b o : List UInt8), 5 * s.length + 9 ≤ f + i → i ≤ s.length → o.length ≤ 2 * i → b.length + 2 * o.length ≤ 8 * i →
      cond (decide ((o.length : Int) > (0 : Int))) (need ((b.length + [UInt8.ofNat ((38 : Int)).toNat].length) * 1 ≤ 140737488355328) (need (o.length ≤ 1000000) (Brutf7_3 F f f s (i : Int) r n (encL64 o) (0 : Int) (b ++ [UInt8.ofNat ((38 : Int)).toNat])))) (Brutf7_5 F f s (i : Int) r n b o) = Brutf7_5 F f s (i : Int) r n (b ++ flushP o) [] := by
    intro f i r n b o hf hi ho hb
    have hl := encL64_len _ o (Nat.le_refl _)
    unfold flushP
    by_cases h0 : o = []
    · subst h0
      refine cond_f (by simp) ?_
      simp
    · have hpos : 0 < o.length := List.length_pos_iff.2 h0
      refine cond_t (by simp; omega) (need_mk (by simp; omega) (need_mk (by omega) ?_))
      rw [if_neg h0, rowS_eq]
      have := Brutf7_3_spec F f s (i : Int) r n (encL64 o) (encL64 o) f 0 (b ++ [UInt8.ofNat ((38 : Int)).toNat]) rfl (by omega) (by omega) (by simp; omega) (by omega)
      rw [show ((0 : Nat) : Int) = 0 from rfl] at this
      rw [this]
      simp
  intro t
  induction t with
  | nil =>
    intro f i b o hp hf hi ho hb
    have hp : i = s.length := hp
    cases f with
    | zero => omega
    | succ f =>
      rw [Brutf7_1_eq]
      refine cond_t (by simp; omega) (need_mk ⟨by omega, by omega, by omega⟩ ?_)
      rw [Brutf7_2_eq]
      refine cond_t (by simp; omega) ?_
      rw [flush f i _ _ b o (by omega) hi ho hb, Brutf7_5_eq]
      refine cond_t (by simp; omega) ?_
      rw [Brutf7_6_eq, encP]
  | cons r t ih =>
    intro f i b o hp hf hi ho hb
    obtain ⟨hsc, hg, hput, hle, hp⟩ := hp
    have hpos := putL_pos r
    have hul := units_len r
    have hfl := flushP_len o
    cases f with
    | zero => omega
    | succ f =>
      rw [Brutf7_1_eq]
      refine cond_t (by simp; omega) (need_mk ⟨by omega, by omega, by omega⟩ ?_)
      rw [hg, Brutf7_2_eq, encP]
      dsimp only
      by_cases hc : r < 32 ∨ r > 126
      · rw [if_pos hc]
        refine cond_f (by simp; omega) ?_
        by_cases h16 : r > 65535
        · refine cond_t (by simpa using (by omega : (65535 : Int) < r)) ?_
          obtain ⟨k, rfl⟩ : ∃ k, r = 65536 + k := ⟨r - 65536, by omega⟩
          unfold scal at hsc
          have ek : ((65536 + k : Nat) : Int) - 65536 = (k : Int) := by omega
          have e1 : ((k : Int)).fdiv 1024 = ((k / 1024 : Nat) : Int) := fd k 10
          have e2 : ibits .and .i64 (k : Int) (1023 : Int) = ((k % 1024 : Nat) : Int) := by
            rw [show (1023 : Int) = ((1023 : Nat) : Int) from rfl, i64_and (by omega) (by decide), show (1023 : Nat) = 2 ^ 10 - 1 from rfl, and_mod]
          have e3 : (55296 : Int) + ((k / 1024 : Nat) : Int) = ((55296 + k / 1024 : Nat) : Int) := by omega
          have e4 : (56320 : Int) + ((k % 1024 : Nat) : Int) = ((56320 + k % 1024 : Nat) : Int) := by omega
          have eu : unitsS ((65536 + k : Nat) : Int) = twoS ((55296 + k / 1024 : Nat) : Int) ++ twoS ((56320 + k % 1024 : Nat) : Int) := by
            rw [unitsS, if_neg (by omega), ek]; rfl
          rw [ek, e1, e2, e3, e4]
          refine need_mk (by unfold i64ok; omega) (need_mk (by unfold i64ok; omega) (need_mk (by unfold i64ok; omega) (need_mk (by unfold i64ok; omega) (need_mk (by simp; omega) ?_))))
          have em := congr (congrArg (· ++ ·) (twoS_mk (55296 + k / 1024))) (twoS_mk (56320 + k % 1024))
          simp only [List.cons_append, List.nil_append] at em
          rw [em, ← eu, Brutf7_8_eq]
          exact ih f _ _ _ hp (by omega) hle (by rw [List.length_append]; omega) (by rw [List.length_append]; omega)
        · refine cond_f (by simpa using (by omega : (r : Int) ≤ 65535)) ?_
          have eu : unitsS (r : Int) = twoS (r : Int) := by rw [unitsS, if_pos (by omega)]
          refine need_mk (by simp; omega) ?_
          rw [twoS_mk, ← eu, Brutf7_8_eq]
          exact ih f _ _ _ hp (by omega) hle (by rw [List.length_append]; omega) (by rw [List.length_append]; omega)
      · rw [if_neg hc]
        refine cond_t (by simp; omega) ?_
        rw [flush f i _ _ b o (by omega) hi ho hb, Brutf7_5_eq]
        refine cond_f (by simp; omega) (need_mk (by simp; omega) ?_)
        rw [u8_pt (by omega)]
        by_cases h38 : r = 38
        · rw [if_pos h38]
          refine cond_t (by simp [h38]) (need_mk (by simp; omega) ?_)
          rw [Brutf7_7_eq, ih f _ _ _ hp (by omega) hle (by simp) (by simp; omega)]
          simp
        · rw [if_neg h38]
          refine cond_f (by simp; omega) ?_
          rw [Brutf7_7_eq, ih f _ _ _ hp (by omega) hle (by simp) (by simp; omega)]
          simp
theorem rutf7_eq (s : List UInt8) (hs : s.length ≤ 140000) : Frutf7 (5 * s.length + 10) s = some (.tup [.p (.str (enc7S s).1), .p (.int .i64 (enc7S s).2)], []) := by
  rw [Frutf7_eq, enc7S]
  refine need_mk (by omega) ?_
  by_cases hv : validS s = true
  · refine cond_f (by simp [hv]) ?_
    rw [if_pos hv]
    exact Brutf7_spec _ s hs (pts s) _ 0 [] [] (pts_at hv) (by omega) (by omega) (by simp) (by simp)
  · refine cond_t (by simp [hv]) ?_
    rw [if_neg hv]
def sp_rutf7 : List AV → Option (AV × Option Prop)
  | [.p (.str s)] => some (.tup [.p (.str ((enc7S s).1)), .p (.int .i64 ((enc7S s).2))], some (s.length ≤ 140000))
  | _ => none
theorem ok_rutf7 : SpecOk Tryd.prog 13 sp_rutf7 := by
  intro zs r ok he hok
  unfold sp_rutf7 at he
  split at he
  · cases he; exact ⟨by kernel_rfl, fn_rutf7 (_) _ _ fun hx => rutf7_eq _ hok⟩
  · cases he
end Go.Proofs.YtmnkkliibjlefaaDoor
