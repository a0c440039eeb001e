/-
  Lifted functions, and facts about them.
-/
import Derived.Test.YtmnkkliibjlefaaDoorRows
import Derived.Test.YtmnkkliibjlefaaDoorAmC
import Derived.Test.YtmnkkliibjlefaaDoorAmNeed
import Derived.Test.YtmnkkliibjlefaaDoorC5RUtf7
import Derived.Test.YtmnkkliibjlefaaDoorC5R1Loose
namespace Go.Proofs.YtmnkkliibjlefaaDoor
open Go Go.Am
set_option linter.unusedVariables false
/-! What rows of letters say. -/
def bv (a b : UInt8) : Nat := a.toNat * 256 + b.toNat
theorem bv_lt (a b : UInt8) : bv a b < 65536 := by have := a.toNat_lt; have := b.toNat_lt; unfold bv; omega
def pointsS : List UInt8 → List UInt8
  | a :: b :: c :: d :: q => if 55296 ≤ bv a b ∧ bv a b < 56320 then putS ((65536 + bv a b % 1024 * 1024 + bv c d % 1024 : Nat) : Int) ++ pointsS q else putS (bv a b : Int) ++ pointsS (c :: d :: q)
  | [a, b, _] => putS (bv a b : Int)
  | [a, b] => putS (bv a b : Int)
  | _ => []
def rrowP : List UInt8 → List UInt8
  | a :: b :: c :: d :: q => if (55296 ≤ bv a b ∧ bv a b ≤ 56319) ∧ (56320 ≤ bv c d ∧ bv c d ≤ 57343) then putS ((65536 + (bv a b - 55296) * 1024 + (bv c d - 56320) : Nat) : Int) ++ rrowP q else putS (bv a b : Int) ++ rrowP (c :: d :: q)
  | [a, b, _] => putS (bv a b : Int)
  | [a, b] => putS (bv a b : Int)
  | _ => []
def rrowS (l : List UInt8) : List UInt8 := rrowP (looseB (repS l 44 47))
theorem bv_or (a b : UInt8) : ibits .or .i64 (IntKind.i64.wrap ((a.toNat : Int) * 256)) ((b.toNat : Nat) : Int) = ((bv a b : Nat) : Int) := by
  have := a.toNat_lt
  have := b.toNat_lt
  rw [i64_small (by omega) (by omega), show (a.toNat : Int) * 256 = ((a.toNat * 2 ^ 8 : Nat) : Int) by omega, i64_or (by omega) (by omega), or_add _ _ _ (by omega)]
  rfl
theorem and10 (n : Nat) (h : n < 65536) : ibits .and .i64 (n : Int) (1023 : Int) = ((n % 1024 : Nat) : Int) := by
  rw [show (1023 : Int) = ((1023 : Nat) : Int) from rfl, i64_and (by omega) (by decide), show (1023 : Nat) = 2 ^ 10 - 1 from rfl, and_mod]
theorem points_len : ∀ (n : Nat) (s : List UInt8), s.length ≤ n → (pointsS s).length ≤ 2 * s.length := by
  intro n
  induction n with
  | zero => intro s h; have : s = [] := List.eq_nil_of_length_eq_zero (by omega); subst this; simp [pointsS]
  | succ n ih =>
    intro s h
    match s, h with
    | [], _ => simp [pointsS]
    | [a], _ => simp [pointsS]
    | [a, b], _ => rw [pointsS]; have := putS_len (bv a b : Int); simp; omega
    | [a, b, c], _ => rw [pointsS]; have := putS_len (bv a b : Int); simp; omega
    | a :: b :: c :: d :: q, h =>
      simp only [List.length_cons] at h
      rw [pointsS]
      split
      · have h1 := ih q (by omega)
        have h2 := putS_len ((65536 + bv a b % 1024 * 1024 + bv c d % 1024 : Nat) : Int)
        simp only [List.length_append, List.length_cons]; omega
      · have h1 := ih (c :: d :: q) (by simp; omega)
        have h2 := putS_len (bv a b : Int)
        simp only [List.length_append, List.length_cons] at h1 ⊢; omega
theorem rrowP_len : ∀ (n : Nat) (s : List UInt8), s.length ≤ n → (rrowP s).length ≤ 2 * s.length := by
  intro n
  induction n with
  | zero => intro s h; have : s = [] := List.eq_nil_of_length_eq_zero (by omega); subst this; simp [rrowP]
  | succ n ih =>
    intro s h
    match s, h with
    | [], _ => simp [rrowP]
    | [a], _ => simp [rrowP]
    | [a, b], _ => rw [rrowP]; have := putS_len (bv a b : Int); simp; omega
    | [a, b, c], _ => rw [rrowP]; have := putS_len (bv a b : Int); simp; omega
    | a :: b :: c :: d :: q, h =>
      simp only [List.length_cons] at h
      rw [rrowP]
      split
      · have h1 := ih q (by omega)
        have h2 := putS_len ((65536 + (bv a b - 55296) * 1024 + (bv c d - 56320) : Nat) : Int)
        simp only [List.length_append, List.length_cons]; omega
      · have h1 := ih (c :: d :: q) (by simp; omega)
        have h2 := putS_len (bv a b : Int)
        simp only [List.length_append, List.length_cons] at h1 ⊢; omega
noncomputable def cpoints : Code := bodyOf Tryd.f28

noncomputable def Gpoints : Cfg := ⟨Tryd.prog, mkEnv [(37, sp_Put)], mkEnvR [], 52, [], [([0, 0, 1, 1], ⟨[0, 3], []⟩), ([1, 0, 1, 0, 0, 0, 1, 1], ⟨[0, 3, 4], []⟩), ([1, 0, 1, 1, 0, 1, 0, 0, 0, 1, 1], ⟨[0, 3, 4, 29], []⟩), ([1, 0, 1, 0, 1, 1, 0, 1, 0, 0, 0, 1, 1], ⟨[0, 3, 4, 5], []⟩), ([1, 1, 0, 1, 0, 1, 1, 0, 1, 0, 0, 0, 1, 1], ⟨[0, 3, 4], []⟩), ([1, 1, 1, 0, 1, 0, 0, 0, 1, 1], ⟨[0, 3, 4], []⟩)], []⟩

noncomputable def Bpoints_1 (F f1 : Nat) (vs1 : List UInt8) (vs2 : List UInt8) : Option Ans := runR Gpoints cpoints (kP Tryd.prog Tryd.f28.results.toList) F [] [1, 1, 0, 0] f1 [(0, .p (.str vs1)), (3, .p (.str vs2))] []

noncomputable def Bpoints_2 (F f1 : Nat) (vs1 : List UInt8) (vs2 : List UInt8) (vi3 : Int) : Option Ans := runB Gpoints cpoints (kP Tryd.prog Tryd.f28.results.toList) F [f1] [1, 1, 0, 0, 0, 1, 0, 1] [(0, .p (.str vs1)), (3, .p (.str vs2)), (4, .p (.int .i64 vi3))] []

noncomputable def Bpoints_3 (F f1 : Nat) (vs4 : List UInt8) (vs2 : List UInt8) (vi3 : Int) (vc5 : Bool) : Option Ans := runB Gpoints cpoints (kP Tryd.prog Tryd.f28.results.toList) F [f1] [1, 1, 0, 0, 0, 1, 0, 1, 1, 0, 1] [(0, .p (.str vs4)), (3, .p (.str vs2)), (4, .p (.int .i64 vi3)), (29, .p (.bool vc5))] []

noncomputable def Bpoints_4 (F f1 : Nat) (vs4 : List UInt8) (vs2 : List UInt8) (vi3 : Int) (vi6 : Int) : Option Ans := runB Gpoints cpoints (kP Tryd.prog Tryd.f28.results.toList) F [f1] [1, 1, 0, 0, 0, 1, 0, 1, 1, 0, 1, 0, 1] [(0, .p (.str vs4)), (3, .p (.str vs2)), (4, .p (.int .i64 vi3)), (5, .p (.int .i64 vi6))] []

noncomputable def Bpoints_5 (F f1 : Nat) (vs4 : List UInt8) (vs2 : List UInt8) (vi7 : Int) : Option Ans := runB Gpoints cpoints (kP Tryd.prog Tryd.f28.results.toList) F [f1] [1, 1, 0, 0, 0, 1, 0, 1, 1, 0, 1, 0, 1, 1] [(0, .p (.str vs4)), (3, .p (.str vs2)), (4, .p (.int .i64 vi7))] []

noncomputable def Bpoints_6 (F f1 : Nat) (vs8 : List UInt8) (vs2 : List UInt8) (vi9 : Int) : Option Ans := runB Gpoints cpoints (kP Tryd.prog Tryd.f28.results.toList) F [f1] [1, 1, 0, 0, 0, 1, 0, 1, 1, 1] [(0, .p (.str vs8)), (3, .p (.str vs2)), (4, .p (.int .i64 vi9))] []

noncomputable def Fpoints (F : Nat) (s : List UInt8) : Option Ans := runF Gpoints Tryd.f28 F [.p (.str s)]

theorem Bpoints_1_eq (F f1 : Nat) (vs1 : List UInt8) (vs2 : List UInt8) : Bpoints_1 F (f1 + 1) vs1 vs2 = cond (decide ((vs1.length : Int) ≥ (2 : Int))) (need (0 ≤ (0 : Int) ∧ (0 : Int) < (vs1.length : Int)) ((need (0 ≤ (1 : Int) ∧ (1 : Int) < (vs1.length : Int)) (Bpoints_2 F f1 vs1 vs2 (ibits .or .i64 (IntKind.i64.wrap (((vs1.getD ((0 : Int)).toNat 0).toNat : Int) * 256)) ((vs1.getD ((1 : Int)).toNat 0).toNat : Int)))))) (some (.p (.str vs2), [])) := by
  have h : Bpoints_1 F (f1 + 1) vs1 vs2 = cond (decide ((vs1.length : Int) ≥ (2 : Int))) (need (0 ≤ (0 : Int) ∧ (0 : Int) < (vs1.length : Int)) (need (0 ≤ (8 : Int)) (need (0 ≤ (1 : Int) ∧ (1 : Int) < (vs1.length : Int)) (Bpoints_2 F f1 vs1 vs2 (ibits .or .i64 (IntKind.i64.wrap (((vs1.getD ((0 : Int)).toNat 0).toNat : Int) * 256)) ((vs1.getD ((1 : Int)).toNat 0).toNat : Int)))))) (some (.p (.str vs2), [])) := by kernel_rfl
  rw [h, need_pos (show 0 ≤ (8 : Int) from (by decide))]

theorem Bpoints_2_eq (F f1 : Nat) (vs1 : List UInt8) (vs2 : List UInt8) (vi3 : Int) : Bpoints_2 F f1 vs1 vs2 vi3 = need (0 ≤ (2 : Int) ∧ (2 : Int) ≤ (vs1.length : Int)) ((((((Bpoints_3 F f1 (vs1.drop ((2 : Int)).toNat) vs2 vi3 (((decide (vi3 ≥ (55296 : Int))) && (decide (vi3 < (56320 : Int)))) && (decide (((vs1.drop ((2 : Int)).toNat).length : Int) ≥ (2 : Int)))))))))) := by
  have h : Bpoints_2 F f1 vs1 vs2 vi3 = need (0 ≤ (2 : Int) ∧ (2 : Int) ≤ (vs1.length : Int)) (need ((decide (vi3 ≥ (55296 : Int))) = true → (decide (vi3 ≥ (55296 : Int))) = true) (need ((decide (vi3 ≥ (55296 : Int))) = true → (decide (vi3 ≥ (55296 : Int))) = true) (need (((decide (vi3 ≥ (55296 : Int))) && (decide (vi3 < (56320 : Int)))) = true → ((decide (vi3 ≥ (55296 : Int))) && (decide (vi3 < (56320 : Int)))) = true) (need (((decide (vi3 ≥ (55296 : Int))) && (decide (vi3 < (56320 : Int)))) = true → ((decide (vi3 ≥ (55296 : Int))) && (decide (vi3 < (56320 : Int)))) = true) (need (((decide (vi3 ≥ (55296 : Int))) && (decide (vi3 < (56320 : Int)))) = true → ((decide (vi3 ≥ (55296 : Int))) && (decide (vi3 < (56320 : Int)))) = true) (Bpoints_3 F f1 (vs1.drop ((2 : Int)).toNat) vs2 vi3 (((decide (vi3 ≥ (55296 : Int))) && (decide (vi3 < (56320 : Int)))) && (decide (((vs1.drop ((2 : Int)).toNat).length : Int) ≥ (2 : Int)))))))))) := by kernel_rfl
  rw [h, need_pos (show ((decide (vi3 ≥ (55296 : Int))) && (decide (vi3 < (56320 : Int)))) = true → ((decide (vi3 ≥ (55296 : Int))) && (decide (vi3 < (56320 : Int)))) = true from (fun q0 => q0)), need_pos (show ((decide (vi3 ≥ (55296 : Int))) && (decide (vi3 < (56320 : Int)))) = true → ((decide (vi3 ≥ (55296 : Int))) && (decide (vi3 < (56320 : Int)))) = true from (fun q0 => q0)), need_pos (show ((decide (vi3 ≥ (55296 : Int))) && (decide (vi3 < (56320 : Int)))) = true → ((decide (vi3 ≥ (55296 : Int))) && (decide (vi3 < (56320 : Int)))) = true from (fun q0 => q0)), need_pos (show (decide (vi3 ≥ (55296 : Int))) = true → (decide (vi3 ≥ (55296 : Int))) = true from (fun q0 => q0)), need_pos (show (decide (vi3 ≥ (55296 : Int))) = true → (decide (vi3 ≥ (55296 : Int))) = true from (fun q0 => q0))]

theorem Bpoints_3_eq (F f1 : Nat) (vs4 : List UInt8) (vs2 : List UInt8) (vi3 : Int) (vc5 : Bool) : Bpoints_3 F f1 vs4 vs2 vi3 vc5 = cond (vc5) (need (0 ≤ (0 : Int) ∧ (0 : Int) < (vs4.length : Int)) ((need (0 ≤ (1 : Int) ∧ (1 : Int) < (vs4.length : Int)) (Bpoints_4 F f1 vs4 vs2 vi3 (ibits .or .i64 (IntKind.i64.wrap (((vs4.getD ((0 : Int)).toNat 0).toNat : Int) * 256)) ((vs4.getD ((1 : Int)).toNat 0).toNat : Int)))))) (Bpoints_6 F f1 vs4 vs2 vi3) := by
  have h : Bpoints_3 F f1 vs4 vs2 vi3 vc5 = cond (vc5) (need (0 ≤ (0 : Int) ∧ (0 : Int) < (vs4.length : Int)) (need (0 ≤ (8 : Int)) (need (0 ≤ (1 : Int) ∧ (1 : Int) < (vs4.length : Int)) (Bpoints_4 F f1 vs4 vs2 vi3 (ibits .or .i64 (IntKind.i64.wrap (((vs4.getD ((0 : Int)).toNat 0).toNat : Int) * 256)) ((vs4.getD ((1 : Int)).toNat 0).toNat : Int)))))) (Bpoints_6 F f1 vs4 vs2 vi3) := by kernel_rfl
  rw [h, need_pos (show 0 ≤ (8 : Int) from (by decide))]

theorem Bpoints_4_eq (F f1 : Nat) (vs4 : List UInt8) (vs2 : List UInt8) (vi3 : Int) (vi6 : Int) : Bpoints_4 F f1 vs4 vs2 vi3 vi6 = (need (i64ok ((65536 : Int) + (IntKind.i64.wrap ((ibits .and .i64 vi3 (1023 : Int)) * 1024)))) (need (i64ok (((65536 : Int) + (IntKind.i64.wrap ((ibits .and .i64 vi3 (1023 : Int)) * 1024))) + (ibits .and .i64 vi6 (1023 : Int)))) (Bpoints_5 F f1 vs4 vs2 (((65536 : Int) + (IntKind.i64.wrap ((ibits .and .i64 vi3 (1023 : Int)) * 1024))) + (ibits .and .i64 vi6 (1023 : Int)))))) := by
  have h : Bpoints_4 F f1 vs4 vs2 vi3 vi6 = need (0 ≤ (10 : Int)) (need (i64ok ((65536 : Int) + (IntKind.i64.wrap ((ibits .and .i64 vi3 (1023 : Int)) * 1024)))) (need (i64ok (((65536 : Int) + (IntKind.i64.wrap ((ibits .and .i64 vi3 (1023 : Int)) * 1024))) + (ibits .and .i64 vi6 (1023 : Int)))) (Bpoints_5 F f1 vs4 vs2 (((65536 : Int) + (IntKind.i64.wrap ((ibits .and .i64 vi3 (1023 : Int)) * 1024))) + (ibits .and .i64 vi6 (1023 : Int)))))) := by kernel_rfl
  rw [h, need_pos (show 0 ≤ (10 : Int) from (by decide))]

theorem Bpoints_5_eq (F f1 : Nat) (vs4 : List UInt8) (vs2 : List UInt8) (vi7 : Int) : Bpoints_5 F f1 vs4 vs2 vi7 = need (0 ≤ (2 : Int) ∧ (2 : Int) ≤ (vs4.length : Int)) (Bpoints_6 F f1 (vs4.drop ((2 : Int)).toNat) vs2 vi7) := by kernel_rfl

theorem Bpoints_6_eq (F f1 : Nat) (vs8 : List UInt8) (vs2 : List UInt8) (vi9 : Int) : Bpoints_6 F f1 vs8 vs2 vi9 = need (-1000000000000 ≤ vi9 ∧ vi9 ≤ 1000000000000) (need (lenok (vs2.length + (putS vi9).length)) (Bpoints_1 F f1 vs8 (vs2 ++ (putS vi9)))) := by kernel_rfl

theorem Fpoints_eq (F : Nat) (s : List UInt8) : Fpoints F s = Bpoints_1 F F s ([] : List UInt8) := by kernel_rfl

theorem fn_points (F : Nat) (s : List UInt8) (r : AV) (h : (∃ M vs, ARels γ0 M [.p (.str s)] vs) → Fpoints F s = some (r, [])) : FnP Tryd.prog 28 [.p (.str s)] r :=
  FnP_run Gpoints F rfl (EnvOk_mk (l := [(37, sp_Put)]) ⟨ok_Put.any, trivial⟩) (EnvROk_mk (l := []) trivial) (Checked.mixed Tryd.checked) (fn := Tryd.f28) (by kernel_rfl) (by kernel_rfl) rfl h
theorem Bpoints_6_spec (F f : Nat) (q acc : List UInt8) (n : Nat) (h : n ≤ 1200000) (ha : acc.length ≤ 4000000) : Bpoints_6 F f q acc (n : Int) = Bpoints_1 F f q (acc ++ putS (n : Int)) := by
  have hl := putS_len (n : Int)
  rw [Bpoints_6_eq]
  exact need_mk ⟨by omega, by omega⟩ (need_mk (by unfold lenok; omega) rfl)
theorem Bpoints_spec (F : Nat) : ∀ (n : Nat) (s : List UInt8) (f : Nat) (acc : List UInt8), s.length ≤ n → n < f → acc.length + 2 * s.length ≤ 4000000 → Bpoints_1 F f s acc = some (.p (.str (acc ++ pointsS s)), []) := by
  intro n
  induction n with
  | zero =>
    intro s f acc h hf ha
    have : s = [] := List.eq_nil_of_length_eq_zero (by omega)
    subst this
    cases f with
    | zero => omega
    | succ f => rw [Bpoints_1_eq]; exact cond_f (by simp) (by simp [pointsS])
  | succ n ih =>
    intro s f acc h hf ha
    cases f with
    | zero => omega
    | succ f =>
      match s, h, ha with
      | [], _, _ => rw [Bpoints_1_eq]; exact cond_f (by simp) (by simp [pointsS])
      | [a], _, _ => rw [Bpoints_1_eq]; exact cond_f (by simp) (by simp [pointsS])
      | a :: b :: r, h, ha =>
        simp only [List.length_cons] at h ha
        have hb := bv_lt a b
        have hl := putS_len (bv a b : Int)
        rw [Bpoints_1_eq]
        refine cond_t (by simp; omega) (need_mk ⟨by omega, by simp only [List.length_cons]; omega⟩ (need_mk ⟨by omega, by simp only [List.length_cons]; omega⟩ ?_))
        rw [show ((a :: b :: r).getD ((0 : Int)).toNat 0) = a from rfl, show ((a :: b :: r).getD ((1 : Int)).toNat 0) = b from rfl, bv_or, Bpoints_2_eq]
        refine need_mk ⟨by omega, by simp only [List.length_cons]; omega⟩ ?_
        rw [show ((a :: b :: r).drop ((2 : Int)).toNat) = r from rfl, Bpoints_3_eq]
        by_cases hc : 55296 ≤ bv a b ∧ bv a b < 56320 ∧ 2 ≤ r.length
        · match r, hc, h, ha with
          | c :: d :: q, hc, h, ha =>
            simp only [List.length_cons] at h ha
            have hb2 := bv_lt c d
            refine cond_t (by simp; omega) (need_mk ⟨by omega, by simp only [List.length_cons]; omega⟩ (need_mk ⟨by omega, by simp only [List.length_cons]; omega⟩ ?_))
            rw [show ((c :: d :: q).getD ((0 : Int)).toNat 0) = c from rfl, show ((c :: d :: q).getD ((1 : Int)).toNat 0) = d from rfl, bv_or, Bpoints_4_eq, and10 _ hb, and10 _ hb2, i64_small (by omega) (by omega)]
            have e : (65536 : Int) + ((bv a b % 1024 : Nat) : Int) * 1024 + ((bv c d % 1024 : Nat) : Int) = ((65536 + bv a b % 1024 * 1024 + bv c d % 1024 : Nat) : Int) := by omega
            refine need_mk (by unfold i64ok; omega) (need_mk (by unfold i64ok; omega) ?_)
            rw [e, Bpoints_5_eq]
            refine need_mk ⟨by omega, by simp only [List.length_cons]; omega⟩ ?_
            have h2 := putS_len ((65536 + bv a b % 1024 * 1024 + bv c d % 1024 : Nat) : Int)
            rw [show ((c :: d :: q).drop ((2 : Int)).toNat) = q from rfl, Bpoints_6_spec _ _ _ _ _ (by omega) (by omega), ih q f _ (by omega) (by omega) (by rw [List.length_append]; omega), pointsS, if_pos ⟨hc.1, hc.2.1⟩, List.append_assoc]
        · refine cond_f (by simp; omega) ?_
          rw [Bpoints_6_spec _ _ _ _ _ (by omega) (by omega), ih r f _ (by omega) (by omega) (by simp; omega), List.append_assoc]
          match r, hc with
          | [], _ => rw [pointsS]; simp [pointsS]
          | [c], _ => rw [pointsS]; simp [pointsS]
          | c :: d :: q, hc =>
            conv => rhs; rw [pointsS, if_neg (fun h => hc ⟨h.1, h.2, by simp⟩)]
theorem points_eq (s : List UInt8) (hs : s.length ≤ 1000000) : Fpoints (s.length + 1) s = some (.p (.str (pointsS s)), []) := by
  rw [Fpoints_eq, Bpoints_spec _ s.length s _ [] (by omega) (by omega) (by simp; omega)]; rfl
def sp_points : List AV → Option (AV × Option Prop)
  | [.p (.str s)] => some (.p (.str (pointsS s)), some (s.length ≤ 1000000))
  | _ => none
theorem ok_points : SpecOk Tryd.prog 28 sp_points := by
  intro zs r ok he hok
  unfold sp_points at he
  split at he
  · cases he; exact ⟨by kernel_rfl, fn_points (_) _ _ fun hx => points_eq _ hok⟩
  · cases he
noncomputable def crrow : Code := bodyOf Tryd.f32

noncomputable def Grrow : Cfg := ⟨Tryd.prog, mkEnv [(16, sp_rPut), (43, sp_rLoose)], mkEnvR [], 93, [], [([0, 1, 0, 1, 1], ⟨[3, 4], [⟨.slot 3, 3, .cells []⟩]⟩), ([1, 1, 0, 0, 1, 0, 1, 1], ⟨[3, 4], [⟨.slot 3, 3, .cells []⟩]⟩), ([0, 1, 0, 1, 1, 1, 1, 1], ⟨[5, 6, 7], [⟨.slot 6, 6, (.barr 5 false [])⟩]⟩), ([1, 0, 0, 1, 0, 0, 1, 0, 1, 1, 1, 1, 1], ⟨[5, 6, 7, 8], [⟨.slot 6, 6, (.barr 5 false [])⟩]⟩), ([1, 0, 1, 0, 0, 1, 0, 0, 1, 0, 1, 1, 1, 1, 1], ⟨[5, 6, 7, 8, 59], [⟨.slot 6, 6, (.barr 5 false [])⟩]⟩), ([1, 0, 1, 0, 1, 0, 0, 1, 0, 0, 1, 0, 1, 1, 1, 1, 1], ⟨[5, 6, 7, 8, 9], [⟨.slot 6, 6, (.barr 5 false [])⟩]⟩), ([1, 0, 1, 1, 0, 1, 0, 1, 0, 0, 1, 0, 0, 1, 0, 1, 1, 1, 1, 1], ⟨[5, 6, 7, 8], [⟨.slot 6, 6, (.barr 5 false [])⟩]⟩), ([1, 1, 0, 0, 1, 0, 0, 1, 0, 1, 1, 1, 1, 1], ⟨[5, 6, 7, 8], [⟨.slot 6, 6, (.barr 5 false [])⟩]⟩)], [([0, 1], [1])]⟩

noncomputable def Brrow_1 (F f1 : Nat) (vi1 : Int) (vb2 : List UInt8) : Option Ans := runR Grrow crrow (kP Tryd.prog Tryd.f32.results.toList) F [] [1, 1, 0, 1, 0] f1 [(3, .arr 3), (4, .p (.int .i64 vi1))] [(3, .bcv 5 vb2)]

noncomputable def Brrow_2 (F f1 : Nat) (vi1 : Int) (vb3 : List UInt8) : Option Ans := runB Grrow crrow (kP Tryd.prog Tryd.f32.results.toList) F [f1] [1, 1, 0, 1, 0, 0, 1, 1] [(3, .arr 3), (4, .p (.int .i64 vi1))] [(3, .bcv 5 vb3)]

noncomputable def Brrow_3 (F f2 : Nat) (vs4 : List UInt8) (vi5 : Int) (vb6 : List UInt8) : Option Ans := runR Grrow crrow (kP Tryd.prog Tryd.f32.results.toList) F [] [1, 1, 1, 1, 1, 0, 1, 0] f2 [(5, .p (.str vs4)), (6, .arr 6), (7, .p (.int .i64 vi5))] [(6, .barr 5 false vb6)]

noncomputable def Brrow_4 (F f2 : Nat) (vs4 : List UInt8) (vi5 : Int) (vi7 : Int) (vb6 : List UInt8) : Option Ans := runB Grrow crrow (kP Tryd.prog Tryd.f32.results.toList) F [f2] [1, 1, 1, 1, 1, 0, 1, 0, 0, 1, 0, 0, 1] [(5, .p (.str vs4)), (6, .arr 6), (7, .p (.int .i64 vi5)), (8, .p (.int .i64 vi7))] [(6, .barr 5 false vb6)]

noncomputable def Brrow_5 (F f2 : Nat) (vs4 : List UInt8) (vi5 : Int) (vi7 : Int) (vc8 : Bool) (vb6 : List UInt8) : Option Ans := runB Grrow crrow (kP Tryd.prog Tryd.f32.results.toList) F [f2] [1, 1, 1, 1, 1, 0, 1, 0, 0, 1, 0, 0, 1, 0, 1] [(5, .p (.str vs4)), (6, .arr 6), (7, .p (.int .i64 vi5)), (8, .p (.int .i64 vi7)), (59, .p (.bool vc8))] [(6, .barr 5 false vb6)]

noncomputable def Brrow_6 (F f2 : Nat) (vs4 : List UInt8) (vi5 : Int) (vi7 : Int) (vi9 : Int) (vb6 : List UInt8) : Option Ans := runB Grrow crrow (kP Tryd.prog Tryd.f32.results.toList) F [f2] [1, 1, 1, 1, 1, 0, 1, 0, 0, 1, 0, 0, 1, 0, 1, 0, 1] [(5, .p (.str vs4)), (6, .arr 6), (7, .p (.int .i64 vi5)), (8, .p (.int .i64 vi7)), (9, .p (.int .i64 vi9))] [(6, .barr 5 false vb6)]

noncomputable def Brrow_7 (F f2 : Nat) (vs4 : List UInt8) (vi5 : Int) (vi10 : Int) (vb6 : List UInt8) : Option Ans := runB Grrow crrow (kP Tryd.prog Tryd.f32.results.toList) F [f2] [1, 1, 1, 1, 1, 0, 1, 0, 0, 1, 0, 0, 1, 0, 1, 0, 1, 1, 0, 1] [(5, .p (.str vs4)), (6, .arr 6), (7, .p (.int .i64 vi5)), (8, .p (.int .i64 vi10))] [(6, .barr 5 false vb6)]

noncomputable def Brrow_8 (F f2 : Nat) (vs4 : List UInt8) (vi11 : Int) (vi12 : Int) (vb6 : List UInt8) : Option Ans := runB Grrow crrow (kP Tryd.prog Tryd.f32.results.toList) F [f2] [1, 1, 1, 1, 1, 0, 1, 0, 0, 1, 0, 0, 1, 1] [(5, .p (.str vs4)), (6, .arr 6), (7, .p (.int .i64 vi11)), (8, .p (.int .i64 vi12))] [(6, .barr 5 false vb6)]

noncomputable def Frrow (F : Nat) (s : List UInt8) : Option Ans := runF Grrow Tryd.f32 F [.p (.str s)]

theorem Brrow_1_eq (F f1 : Nat) (vi1 : Int) (vb2 : List UInt8) : Brrow_1 F (f1 + 1) vi1 vb2 = cond (decide (vi1 < (vb2.length : Int))) (need (0 ≤ vi1 ∧ vi1 < (vb2.length : Int)) (need ((vi1).toNat < vb2.length) (cond (((vb2.getD ((vi1).toNat) 0).toNat : Int) == (44 : Int)) (need (0 ≤ vi1 ∧ vi1 < (vb2.length : Int)) (need ((vi1).toNat < vb2.length) (Brrow_2 F f1 vi1 (vb2.set ((vi1).toNat) (UInt8.ofNat ((47 : Int)).toNat))))) (Brrow_2 F f1 vi1 vb2)))) (need (vb2.length ≤ 1000000) (Brrow_3 F F (looseB vb2) (0 : Int) [])) := by kernel_rfl

theorem Brrow_2_eq (F f1 : Nat) (vi1 : Int) (vb3 : List UInt8) : Brrow_2 F f1 vi1 vb3 = need (i64ok (vi1 + (1 : Int))) (Brrow_1 F f1 (vi1 + (1 : Int)) vb3) := by kernel_rfl

theorem Brrow_3_eq (F f2 : Nat) (vs4 : List UInt8) (vi5 : Int) (vb6 : List UInt8) : Brrow_3 F (f2 + 1) vs4 vi5 vb6 = need (i64ok (vi5 + (1 : Int))) (cond (decide ((vi5 + (1 : Int)) < (vs4.length : Int))) (need (0 ≤ vi5 ∧ vi5 < (vs4.length : Int)) ((need (i64ok (vi5 + (1 : Int))) (need (0 ≤ (vi5 + (1 : Int)) ∧ (vi5 + (1 : Int)) < (vs4.length : Int)) (Brrow_4 F f2 vs4 vi5 (ibits .or .i64 (IntKind.i64.wrap (((vs4.getD (vi5).toNat 0).toNat : Int) * 256)) ((vs4.getD (vi5 + (1 : Int)).toNat 0).toNat : Int)) vb6))))) (some (.p (.str vb6), []))) := by
  have h : Brrow_3 F (f2 + 1) vs4 vi5 vb6 = need (i64ok (vi5 + (1 : Int))) (cond (decide ((vi5 + (1 : Int)) < (vs4.length : Int))) (need (0 ≤ vi5 ∧ vi5 < (vs4.length : Int)) (need (0 ≤ (8 : Int)) (need (i64ok (vi5 + (1 : Int))) (need (0 ≤ (vi5 + (1 : Int)) ∧ (vi5 + (1 : Int)) < (vs4.length : Int)) (Brrow_4 F f2 vs4 vi5 (ibits .or .i64 (IntKind.i64.wrap (((vs4.getD (vi5).toNat 0).toNat : Int) * 256)) ((vs4.getD (vi5 + (1 : Int)).toNat 0).toNat : Int)) vb6))))) (some (.p (.str vb6), []))) := by kernel_rfl
  rw [h, need_pos (show 0 ≤ (8 : Int) from (by decide))]

theorem Brrow_4_eq (F f2 : Nat) (vs4 : List UInt8) (vi5 : Int) (vi7 : Int) (vb6 : List UInt8) : Brrow_4 F f2 vs4 vi5 vi7 vb6 = need (((decide (vi7 ≥ (55296 : Int))) && (decide (vi7 ≤ (56319 : Int)))) = true → i64ok (vi5 + (3 : Int))) (Brrow_5 F f2 vs4 vi5 vi7 (((decide (vi7 ≥ (55296 : Int))) && (decide (vi7 ≤ (56319 : Int)))) && (decide ((vi5 + (3 : Int)) < (vs4.length : Int)))) vb6) :=
  Eq.trans (show Brrow_4 F f2 vs4 vi5 vi7 vb6 = need ((decide (vi7 ≥ (55296 : Int))) = true → (decide (vi7 ≥ (55296 : Int))) = true) (need ((decide (vi7 ≥ (55296 : Int))) = true → (decide (vi7 ≥ (55296 : Int))) = true) (need (((decide (vi7 ≥ (55296 : Int))) && (decide (vi7 ≤ (56319 : Int)))) = true → ((decide (vi7 ≥ (55296 : Int))) && (decide (vi7 ≤ (56319 : Int)))) = true) (need (((decide (vi7 ≥ (55296 : Int))) && (decide (vi7 ≤ (56319 : Int)))) = true → i64ok (vi5 + (3 : Int))) (need (((decide (vi7 ≥ (55296 : Int))) && (decide (vi7 ≤ (56319 : Int)))) = true → ((decide (vi7 ≥ (55296 : Int))) && (decide (vi7 ≤ (56319 : Int)))) = true) (need (((decide (vi7 ≥ (55296 : Int))) && (decide (vi7 ≤ (56319 : Int)))) = true → ((decide (vi7 ≥ (55296 : Int))) && (decide (vi7 ≤ (56319 : Int)))) = true) (need (((decide (vi7 ≥ (55296 : Int))) && (decide (vi7 ≤ (56319 : Int)))) = true → ((decide (vi7 ≥ (55296 : Int))) && (decide (vi7 ≤ (56319 : Int)))) = true) (need (((decide (vi7 ≥ (55296 : Int))) && (decide (vi7 ≤ (56319 : Int)))) = true → ((decide (vi7 ≥ (55296 : Int))) && (decide (vi7 ≤ (56319 : Int)))) = true) (Brrow_5 F f2 vs4 vi5 vi7 (((decide (vi7 ≥ (55296 : Int))) && (decide (vi7 ≤ (56319 : Int)))) && (decide ((vi5 + (3 : Int)) < (vs4.length : Int)))) vb6)))))))) by kernel_rfl) (need_strike (show (decide (vi7 ≥ (55296 : Int))) = true → (decide (vi7 ≥ (55296 : Int))) = true from (fun q0 => q0)) (need_strike (show (decide (vi7 ≥ (55296 : Int))) = true → (decide (vi7 ≥ (55296 : Int))) = true from (fun q0 => q0)) (need_strike (show ((decide (vi7 ≥ (55296 : Int))) && (decide (vi7 ≤ (56319 : Int)))) = true → ((decide (vi7 ≥ (55296 : Int))) && (decide (vi7 ≤ (56319 : Int)))) = true from (fun q0 => q0)) (need_congr (need_strike (show ((decide (vi7 ≥ (55296 : Int))) && (decide (vi7 ≤ (56319 : Int)))) = true → ((decide (vi7 ≥ (55296 : Int))) && (decide (vi7 ≤ (56319 : Int)))) = true from (fun q0 => q0)) (need_strike (show ((decide (vi7 ≥ (55296 : Int))) && (decide (vi7 ≤ (56319 : Int)))) = true → ((decide (vi7 ≥ (55296 : Int))) && (decide (vi7 ≤ (56319 : Int)))) = true from (fun q0 => q0)) (need_strike (show ((decide (vi7 ≥ (55296 : Int))) && (decide (vi7 ≤ (56319 : Int)))) = true → ((decide (vi7 ≥ (55296 : Int))) && (decide (vi7 ≤ (56319 : Int)))) = true from (fun q0 => q0)) (need_strike (show ((decide (vi7 ≥ (55296 : Int))) && (decide (vi7 ≤ (56319 : Int)))) = true → ((decide (vi7 ≥ (55296 : Int))) && (decide (vi7 ≤ (56319 : Int)))) = true from (fun q0 => q0)) (rfl)))))))))

theorem Brrow_5_eq (F f2 : Nat) (vs4 : List UInt8) (vi5 : Int) (vi7 : Int) (vc8 : Bool) (vb6 : List UInt8) : Brrow_5 F f2 vs4 vi5 vi7 vc8 vb6 = cond (vc8) (need (i64ok (vi5 + (2 : Int))) (need (0 ≤ (vi5 + (2 : Int)) ∧ (vi5 + (2 : Int)) < (vs4.length : Int)) ((need (i64ok (vi5 + (3 : Int))) (need (0 ≤ (vi5 + (3 : Int)) ∧ (vi5 + (3 : Int)) < (vs4.length : Int)) (Brrow_6 F f2 vs4 vi5 vi7 (ibits .or .i64 (IntKind.i64.wrap (((vs4.getD (vi5 + (2 : Int)).toNat 0).toNat : Int) * 256)) ((vs4.getD (vi5 + (3 : Int)).toNat 0).toNat : Int)) vb6)))))) (Brrow_8 F f2 vs4 vi5 vi7 vb6) := by
  have h : Brrow_5 F f2 vs4 vi5 vi7 vc8 vb6 = cond (vc8) (need (i64ok (vi5 + (2 : Int))) (need (0 ≤ (vi5 + (2 : Int)) ∧ (vi5 + (2 : Int)) < (vs4.length : Int)) (need (0 ≤ (8 : Int)) (need (i64ok (vi5 + (3 : Int))) (need (0 ≤ (vi5 + (3 : Int)) ∧ (vi5 + (3 : Int)) < (vs4.length : Int)) (Brrow_6 F f2 vs4 vi5 vi7 (ibits .or .i64 (IntKind.i64.wrap (((vs4.getD (vi5 + (2 : Int)).toNat 0).toNat : Int) * 256)) ((vs4.getD (vi5 + (3 : Int)).toNat 0).toNat : Int)) vb6)))))) (Brrow_8 F f2 vs4 vi5 vi7 vb6) := by kernel_rfl
  rw [h, need_pos (show 0 ≤ (8 : Int) from (by decide))]

theorem Brrow_6_eq (F f2 : Nat) (vs4 : List UInt8) (vi5 : Int) (vi7 : Int) (vi9 : Int) (vb6 : List UInt8) : Brrow_6 F f2 vs4 vi5 vi7 vi9 vb6 = ((cond ((decide (vi9 ≥ (56320 : Int))) && (decide (vi9 ≤ (57343 : Int)))) (need (i64ok (vi7 - (55296 : Int))) ((need (i64ok ((65536 : Int) + (IntKind.i64.wrap ((vi7 - (55296 : Int)) * 1024)))) (need (i64ok (((65536 : Int) + (IntKind.i64.wrap ((vi7 - (55296 : Int)) * 1024))) + vi9)) (need (i64ok ((((65536 : Int) + (IntKind.i64.wrap ((vi7 - (55296 : Int)) * 1024))) + vi9) - (56320 : Int))) (Brrow_7 F f2 vs4 vi5 ((((65536 : Int) + (IntKind.i64.wrap ((vi7 - (55296 : Int)) * 1024))) + vi9) - (56320 : Int)) vb6)))))) (Brrow_8 F f2 vs4 vi5 vi7 vb6))) := by
  have h : Brrow_6 F f2 vs4 vi5 vi7 vi9 vb6 = need ((decide (vi9 ≥ (56320 : Int))) = true → (decide (vi9 ≥ (56320 : Int))) = true) (need ((decide (vi9 ≥ (56320 : Int))) = true → (decide (vi9 ≥ (56320 : Int))) = true) (cond ((decide (vi9 ≥ (56320 : Int))) && (decide (vi9 ≤ (57343 : Int)))) (need (i64ok (vi7 - (55296 : Int))) (need (0 ≤ (10 : Int)) (need (i64ok ((65536 : Int) + (IntKind.i64.wrap ((vi7 - (55296 : Int)) * 1024)))) (need (i64ok (((65536 : Int) + (IntKind.i64.wrap ((vi7 - (55296 : Int)) * 1024))) + vi9)) (need (i64ok ((((65536 : Int) + (IntKind.i64.wrap ((vi7 - (55296 : Int)) * 1024))) + vi9) - (56320 : Int))) (Brrow_7 F f2 vs4 vi5 ((((65536 : Int) + (IntKind.i64.wrap ((vi7 - (55296 : Int)) * 1024))) + vi9) - (56320 : Int)) vb6)))))) (Brrow_8 F f2 vs4 vi5 vi7 vb6))) := by kernel_rfl
  rw [h, need_pos (show 0 ≤ (10 : Int) from (by decide)), need_pos (show (decide (vi9 ≥ (56320 : Int))) = true → (decide (vi9 ≥ (56320 : Int))) = true from (fun q0 => q0)), need_pos (show (decide (vi9 ≥ (56320 : Int))) = true → (decide (vi9 ≥ (56320 : Int))) = true from (fun q0 => q0))]

theorem Brrow_7_eq (F f2 : Nat) (vs4 : List UInt8) (vi5 : Int) (vi10 : Int) (vb6 : List UInt8) : Brrow_7 F f2 vs4 vi5 vi10 vb6 = need (i64ok (vi5 + (2 : Int))) (Brrow_8 F f2 vs4 (vi5 + (2 : Int)) vi10 vb6) := by kernel_rfl

theorem Brrow_8_eq (F f2 : Nat) (vs4 : List UInt8) (vi11 : Int) (vi12 : Int) (vb6 : List UInt8) : Brrow_8 F f2 vs4 vi11 vi12 vb6 = need (-1000000000000 ≤ vi12 ∧ vi12 ≤ 1000000000000) (need ((vb6.length + (putS vi12).length) * 1 ≤ 140737488355328) (need (i64ok (vi11 + (2 : Int))) (Brrow_3 F f2 vs4 (vi11 + (2 : Int)) (vb6 ++ (putS vi12))))) := by kernel_rfl

theorem Frrow_eq (F : Nat) (s : List UInt8) : Frrow F s = Brrow_1 F F (0 : Int) s := by kernel_rfl

theorem fn_rrow (F : Nat) (s : List UInt8) (r : AV) (h : (∃ M vs, ARels γ0 M [.p (.str s)] vs) → Frrow F s = some (r, [])) : FnP Tryd.prog 32 [.p (.str s)] r :=
  FnP_run Grrow F rfl (EnvOk_mk (l := [(16, sp_rPut), (43, sp_rLoose)]) ⟨ok_rPut.any, ok_rLoose.any, trivial⟩) (EnvROk_mk (l := []) trivial) (Checked.mixed Tryd.checked) (fn := Tryd.f32) (by kernel_rfl) (by kernel_rfl) rfl h
theorem rrow_map (F : Nat) : ∀ (q pre : List UInt8) (f : Nat), q.length < f → pre.length + q.length ≤ 1000000 → Brrow_1 F f (pre.length : Int) (pre ++ q) = Brrow_3 F F (looseB (pre ++ repS q 44 47)) (0 : Int) [] := by
  intro q
  induction q with
  | nil =>
    intro pre f hf hl
    cases f with
    | zero => omega
    | succ f =>
      rw [Brrow_1_eq, List.append_nil]
      refine cond_f (by simp) (need_mk (by simpa using hl) ?_)
      simp [repS]
  | cons c q ih =>
    intro pre f hf hl
    simp only [List.length_cons] at hf hl
    cases f with
    | zero => omega
    | succ f =>
      have hg : (pre ++ c :: q).getD pre.length 0 = c := by
        rw [List.getD_eq_getElem?_getD, List.getElem?_append_right (by omega)]; simp
      have e : (pre.length : Int) + 1 = (((pre ++ [c]).length : Nat) : Int) := by simp
      rw [Brrow_1_eq]
      refine cond_t (by simp; omega) (need_mk ⟨by omega, by simp only [List.length_append, List.length_cons]; omega⟩ (need_mk (by simp) ?_))
      rw [Int.toNat_natCast, hg]
      have go : ∀ d : UInt8, (if c = 44 then 47 else c) = d → Brrow_2 F f (pre.length : Int) ((pre ++ [d]) ++ q) = Brrow_3 F F (looseB (pre ++ repS (c :: q) 44 47)) (0 : Int) [] := by
        intro d hd
        rw [Brrow_2_eq]
        refine need_mk (by unfold i64ok; omega) ?_
        have := ih (pre ++ [d]) f (by omega) (by simp; omega)
        rw [show (((pre ++ [d]).length : Nat) : Int) = (pre.length : Int) + 1 by simp] at this
        rw [this]
        simp [repS, hd]
      by_cases hc : c = 44
      · refine cond_t (by rw [hc]; rfl) (need_mk ⟨by omega, by simp only [List.length_append, List.length_cons]; omega⟩ (need_mk (by simp) ?_))
        have hset : (pre ++ c :: q).set pre.length (UInt8.ofNat ((47 : Int)).toNat) = (pre ++ [47]) ++ q := by
          rw [List.set_append_right _ _ (by omega)]; simp
        rw [hset]
        exact go 47 (by rw [if_pos hc])
      · refine cond_f ?_ ?_
        · rw [beq_eq_false_iff_ne]
          intro h
          exact hc (u8_eq.1 h)
        · have := go c (by rw [if_neg hc])
          rw [List.append_assoc] at this
          exact this
theorem Brrow_8_spec (F f : Nat) (L acc : List UInt8) (i n : Nat) (h : n ≤ 1200000) (ha : acc.length ≤ 10000000) (hi : i ≤ 10000000) : Brrow_8 F f L (i : Int) (n : Int) acc = Brrow_3 F f L ((i + 2 : Nat) : Int) (acc ++ putS (n : Int)) := by
  have hl := putS_len (n : Int)
  rw [Brrow_8_eq]
  have e : (i : Int) + 2 = ((i + 2 : Nat) : Int) := by omega
  rw [e]
  exact need_mk ⟨by omega, by omega⟩ (need_mk (by omega) (need_mk (by unfold i64ok; omega) rfl))
theorem Brrow_spec (F : Nat) (L : List UInt8) (hL : L.length ≤ 4000000) : ∀ (n : Nat) (q : List UInt8) (f i : Nat) (acc : List UInt8), L.drop i = q → q.length ≤ n → n < f → i ≤ L.length → acc.length + 2 * q.length ≤ 10000000 →
    Brrow_3 F f L (i : Int) acc = some (.p (.str (acc ++ rrowP q)), []) := by
  intro n
  induction n with
  | zero =>
    intro q f i acc hd h hf hi ha
    have : q = [] := List.eq_nil_of_length_eq_zero (by omega)
    subst this
    have hl : L.length ≤ i := by simpa using hd
    cases f with
    | zero => omega
    | succ f => rw [Brrow_3_eq]; exact need_mk (by unfold i64ok; omega) (cond_f (by simp; omega) (by simp [rrowP]))
  | succ n ih =>
    intro q f i acc hd h hf hi ha
    have hlen : L.length = i + q.length := by rw [← hd]; simp; omega
    have hg : ∀ k, L.getD (i + k) 0 = q.getD k 0 := fun k => by rw [List.getD_eq_getElem?_getD, List.getD_eq_getElem?_getD, ← hd, List.getElem?_drop]
    cases f with
    | zero => omega
    | succ f =>
      match q, h, ha, hd, hlen, hg with
      | [], _, _, _, hlen, _ => rw [Brrow_3_eq]; simp only [List.length_nil] at hlen; exact need_mk (by unfold i64ok; omega) (cond_f (by simp; omega) (by simp [rrowP]))
      | [a], _, _, _, hlen, _ => rw [Brrow_3_eq]; simp only [List.length_cons, List.length_nil] at hlen; exact need_mk (by unfold i64ok; omega) (cond_f (by simp; omega) (by simp [rrowP]))
      | a :: b :: r, h, ha, hd, hlen, hg =>
        simp only [List.length_cons] at h ha hlen
        have hb := bv_lt a b
        have hl := putS_len (bv a b : Int)
        have g0 : L.getD (i : Int).toNat 0 = a := hg 0
        have g1 : L.getD ((i : Int) + 1).toNat 0 = b := by rw [show ((i : Int) + 1).toNat = i + 1 by omega]; exact hg 1
        have hd2 : L.drop (i + 2) = r := by rw [← List.drop_drop, hd]; rfl
        rw [Brrow_3_eq]
        refine need_mk (by unfold i64ok; omega) (cond_t (by simp; omega) (need_mk ⟨by omega, by omega⟩ (need_mk (by unfold i64ok; omega) (need_mk ⟨by omega, by omega⟩ ?_))))
        rw [g0, g1, bv_or, Brrow_4_eq]
        refine need_mk (fun _ => by unfold i64ok; omega) ?_
        rw [Brrow_5_eq]
        have plain : ∀ (x : ¬ ∃ c d q', r = c :: d :: q' ∧ (55296 ≤ bv a b ∧ bv a b ≤ 56319) ∧ (56320 ≤ bv c d ∧ bv c d ≤ 57343)), Brrow_8 F f L (i : Int) (bv a b : Int) acc = some (.p (.str (acc ++ rrowP (a :: b :: r))), []) := by
          intro x
          rw [Brrow_8_spec _ _ _ _ _ _ (by omega) (by omega) (by omega), ih r f (i + 2) _ hd2 (by omega) (by omega) (by omega) (by simp; omega), List.append_assoc]
          match r, x with
          | [], _ => rw [rrowP]; simp [rrowP]
          | [c], _ => rw [rrowP]; simp [rrowP]
          | c :: d :: q', x =>
            conv => rhs; rw [rrowP, if_neg (fun h => x ⟨c, d, q', rfl, h⟩)]
        by_cases hc : (55296 ≤ bv a b ∧ bv a b ≤ 56319) ∧ 2 ≤ r.length
        · match r, hc, h, ha, hlen, hg, hd2, plain with
          | c :: d :: q', hc, h, ha, hlen, hg, hd2, plain =>
            simp only [List.length_cons] at h ha hlen
            have hb2 := bv_lt c d
            have g2 : L.getD ((i : Int) + 2).toNat 0 = c := by rw [show ((i : Int) + 2).toNat = i + 2 by omega]; exact hg 2
            have g3 : L.getD ((i : Int) + 3).toNat 0 = d := by rw [show ((i : Int) + 3).toNat = i + 3 by omega]; exact hg 3
            refine cond_t (by simp; omega) (need_mk (by unfold i64ok; omega) (need_mk ⟨by omega, by omega⟩ (need_mk (by unfold i64ok; omega) (need_mk ⟨by omega, by omega⟩ ?_))))
            rw [g2, g3, bv_or, Brrow_6_eq]
            by_cases hlo : 56320 ≤ bv c d ∧ bv c d ≤ 57343
            · refine cond_t (by simp; omega) (need_mk (by unfold i64ok; omega) ?_)
              have e : (((65536 : Int) + (IntKind.i64.wrap (((bv a b : Nat) : Int) - 55296) * 1024)) + ((bv c d : Nat) : Int)) - 56320 = ((65536 + (bv a b - 55296) * 1024 + (bv c d - 56320) : Nat) : Int) := by
                rw [i64_small (by omega) (by omega)]; omega
              rw [i64_small (by omega) (by omega)]
              refine need_mk (by unfold i64ok; omega) (need_mk (by unfold i64ok; omega) (need_mk (by unfold i64ok; omega) ?_))
              rw [i64_small (by omega) (by omega)] at e
              have h2 := putS_len ((65536 + (bv a b - 55296) * 1024 + (bv c d - 56320) : Nat) : Int)
              rw [e, Brrow_7_eq]
              refine need_mk (by unfold i64ok; omega) ?_
              rw [show (i : Int) + 2 = ((i + 2 : Nat) : Int) by omega, Brrow_8_spec _ _ _ _ _ _ (by omega) (by omega) (by omega), ih q' f (i + 2 + 2) _ (by rw [← List.drop_drop, hd2]; rfl) (by omega) (by omega) (by omega) (by rw [List.length_append]; omega), rrowP, if_pos ⟨hc.1, hlo⟩, List.append_assoc]
            · refine cond_f (by simp; omega) ?_
              exact plain fun ⟨c', d', q'', e, _, h2⟩ => by
                cases e
                exact hlo h2
        · refine cond_f (by simp; omega) ?_
          exact plain fun ⟨c', d', q'', e, h1, _⟩ => by
            subst e
            exact hc ⟨h1, by simp⟩
theorem rrow_eq (s : List UInt8) (hs : s.length ≤ 1000000) : Frrow 4000010 s = some (.p (.str (rrowS s)), []) := by
  have hl := looseG_len (repS s 44 47) 0 0
  rw [repl_len] at hl
  have h1 := rrow_map 4000010 s [] 4000010 (by omega) (by simpa using hs)
  simp only [List.nil_append, List.length_nil] at h1
  rw [Frrow_eq]
  refine h1.trans ?_
  have h2 := Brrow_spec 4000010 (looseB (repS s 44 47)) (by unfold looseB; omega) 4000000 _ 4000010 0 [] rfl (by unfold looseB; simp; omega) (by omega) (by omega) (by unfold looseB; simp; omega)
  exact h2
def sp_rrow : List AV → Option (AV × Option Prop)
  | [.p (.str s)] => some (.p (.str (rrowS s)), some (s.length ≤ 1000000))
  | _ => none
theorem ok_rrow : SpecOk Tryd.prog 32 sp_rrow := by
  intro zs r ok he hok
  unfold sp_rrow at he
  split at he
  · cases he; exact ⟨by kernel_rfl, fn_rrow 4000010 _ _ fun hx => rrow_eq _ hok⟩
  · cases he
end Go.Proofs.YtmnkkliibjlefaaDoor
