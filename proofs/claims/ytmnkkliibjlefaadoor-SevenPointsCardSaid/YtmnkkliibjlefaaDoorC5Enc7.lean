/-
  Lifted functions, and facts about them.
-/
import Derived.Test.YtmnkkliibjlefaaDoorRows
import Derived.Test.YtmnkkliibjlefaaDoorAmC
import Derived.Test.YtmnkkliibjlefaaDoorC5Pts
namespace Go.Proofs.YtmnkkliibjlefaaDoor
open Go Go.Am
set_option linter.unusedVariables false
/-! utf7.Encode. -/
def flushP (o : List UInt8) : List UInt8 := if o = [] then [] else rowS o
def encP : List UInt8 → List Nat → List UInt8
  | o, [] => flushP o
  | o, r :: t => if r < 32 ∨ r > 126 then encP (o ++ unitsS (r : Int)) t else flushP o ++ (UInt8.ofNat r :: if r = 38 then 45 :: encP [] t else encP [] t)
def enc7S (s : List UInt8) : List UInt8 × Int := if validS s = true then (encP [] (pts s), 0) else ([], 3)
theorem flush_fst (o b : List UInt8) : (flushS o b).1 = [] := by unfold flushS; split <;> simp_all
theorem flush_snd (o b : List UInt8) : (flushS o b).2 = b ++ flushP o := by unfold flushS flushP; split <;> simp_all
theorem flushP_len (o : List UInt8) : (flushP o).length ≤ 2 * o.length + 6 := by
  unfold flushP; split
  · simp
  · exact rowS_len o
theorem units_len (r : Nat) : (unitsS (r : Int)).length ≤ 2 * putL r := by
  have := putL_pos r
  unfold unitsS
  split
  · simp [twoS]; omega
  · have e : putL r = 4 := by rw [putL, if_neg (by omega), if_neg (by omega), if_neg (by omega)]
    rw [e]; simp [twoS]
theorem u8_pt {r : Nat} (h : r ≤ 126) : UInt8.ofNat (IntKind.u8.wrap (r : Int)).toNat = UInt8.ofNat r := by
  rw [u8_wrap]; congr 1; omega
noncomputable def cenc7 : Code := bodyOf Tryd.f11

noncomputable def Genc7 : Cfg := ⟨Tryd.prog, mkEnv [(18, sp_uvalid), (22, sp_uget), (23, sp_units)], mkEnvR [(19, sp_flush), (24, sp_wbyte), (25, sp_bstr)], 46, [], [([0, 1, 0, 1, 1, 1, 1, 1], ⟨[0, 4, 5, 6, 7], [⟨.slot 4, 4, .cells []⟩, ⟨.slot 5, 5, .cells []⟩, ⟨.cell 4 1, 5001, (.barr 5 false [])⟩, ⟨.cell 5 0, 6000, (.barr 5 true [])⟩]⟩)], [([0, 1, 1, 1, 0, 1, 0, 0, 1, 0, 1, 1, 1, 1, 1], [1]), ([0, 1, 1, 1, 1, 0, 1, 0, 0, 1, 0, 1, 1, 1, 1, 1], [2]), ([0, 1, 1, 1, 1, 1, 1, 0, 1, 0, 0, 1, 0, 1, 1, 1, 1, 1], [0]), ([0, 1, 1, 1, 1, 1, 1], [1]), ([0, 1, 1, 1, 1, 1, 1, 1], [0])]⟩

noncomputable def Benc7_1 (F f1 : Nat) (s : List UInt8) (vi1 : Int) (vb2 : List UInt8) (vb3 : List UInt8) : Option Ans := runR Genc7 cenc7 (kP Tryd.prog Tryd.f11.results.toList) F [] [1, 1, 1, 1, 1, 0, 1, 0] f1 [(0, .p (.str s)), (4, .ref 4 0), (5, .ref 5 0), (6, .clo (.func 19) [] [.ref 5 0, .ref 4 0]), (7, .p (.int .i64 vi1))] [(4, .bldr 42 (.arr 5001)), (5, .cells [.arr 6000]), (5001, .barr 5 false vb2), (6000, .barr 5 true vb3)]

noncomputable def Fenc7 (F : Nat) (s : List UInt8) : Option Ans := runF Genc7 Tryd.f11 F [.p (.str s)]

theorem Benc7_1_eq (F f1 : Nat) (s : List UInt8) (vi1 : Int) (vb2 : List UInt8) (vb3 : List UInt8) : Benc7_1 F (f1 + 1) s vi1 vb2 vb3 = cond (decide (vi1 < (s.length : Int))) (need (posok s vi1) (((cond ((decide (((getS s vi1).1) < (32 : Int))) || (decide (((getS s vi1).1) > (126 : Int)))) (need (0 ≤ ((getS s vi1).1) ∧ ((getS s vi1).1) ≤ 1114111) (need ((vb3.length + (unitsS ((getS s vi1).1)).length) * 1 ≤ 140737488355328) (Benc7_1 F f1 s ((getS s vi1).2) vb2 (vb3 ++ (unitsS ((getS s vi1).1)))))) (need (vb3.length ≤ 300000 ∧ vb2.length ≤ 100000000) (need (((flushS vb3 vb2).2).length + 1 ≤ 140737488355328) (cond (((getS s vi1).1) == (38 : Int)) (need ((((flushS vb3 vb2).2) ++ [UInt8.ofNat (IntKind.u8.wrap ((getS s vi1).1)).toNat]).length + 1 ≤ 140737488355328) (Benc7_1 F f1 s ((getS s vi1).2) ((((flushS vb3 vb2).2) ++ [UInt8.ofNat (IntKind.u8.wrap ((getS s vi1).1)).toNat]) ++ [UInt8.ofNat ((45 : Int)).toNat]) ((flushS vb3 vb2).1))) (Benc7_1 F f1 s ((getS s vi1).2) (((flushS vb3 vb2).2) ++ [UInt8.ofNat (IntKind.u8.wrap ((getS s vi1).1)).toNat]) ((flushS vb3 vb2).1))))))))) (need (vb3.length ≤ 300000 ∧ vb2.length ≤ 100000000) (some (.tup [.p (.str ((flushS vb3 vb2).2)), .p (.int .i64 (0 : Int))], []))) := by
  have h : Benc7_1 F (f1 + 1) s vi1 vb2 vb3 = cond (decide (vi1 < (s.length : Int))) (need (posok s vi1) (need ((!(decide (((getS s vi1).1) < (32 : Int)))) = true → (!(decide (((getS s vi1).1) < (32 : Int)))) = true) (need ((decide (((getS s vi1).1) < (32 : Int))) = false → (!(decide (((getS s vi1).1) < (32 : Int)))) = true) (cond ((decide (((getS s vi1).1) < (32 : Int))) || (decide (((getS s vi1).1) > (126 : Int)))) (need (0 ≤ ((getS s vi1).1) ∧ ((getS s vi1).1) ≤ 1114111) (need ((vb3.length + (unitsS ((getS s vi1).1)).length) * 1 ≤ 140737488355328) (Benc7_1 F f1 s ((getS s vi1).2) vb2 (vb3 ++ (unitsS ((getS s vi1).1)))))) (need (vb3.length ≤ 300000 ∧ vb2.length ≤ 100000000) (need (((flushS vb3 vb2).2).length + 1 ≤ 140737488355328) (cond (((getS s vi1).1) == (38 : Int)) (need ((((flushS vb3 vb2).2) ++ [UInt8.ofNat (IntKind.u8.wrap ((getS s vi1).1)).toNat]).length + 1 ≤ 140737488355328) (Benc7_1 F f1 s ((getS s vi1).2) ((((flushS vb3 vb2).2) ++ [UInt8.ofNat (IntKind.u8.wrap ((getS s vi1).1)).toNat]) ++ [UInt8.ofNat ((45 : Int)).toNat]) ((flushS vb3 vb2).1))) (Benc7_1 F f1 s ((getS s vi1).2) (((flushS vb3 vb2).2) ++ [UInt8.ofNat (IntKind.u8.wrap ((getS s vi1).1)).toNat]) ((flushS vb3 vb2).1))))))))) (need (vb3.length ≤ 300000 ∧ vb2.length ≤ 100000000) (some (.tup [.p (.str ((flushS vb3 vb2).2)), .p (.int .i64 (0 : Int))], []))) := by kernel_rfl
  rw [h, need_pos (show (decide (((getS s vi1).1) < (32 : Int))) = false → (!(decide (((getS s vi1).1) < (32 : Int)))) = true from (fun q0 => (not_mk q0))), need_pos (show (!(decide (((getS s vi1).1) < (32 : Int)))) = true → (!(decide (((getS s vi1).1) < (32 : Int)))) = true from (fun q0 => q0))]

theorem Fenc7_eq (F : Nat) (s : List UInt8) : Fenc7 F s = need (s.length ≤ 1000000) (cond (!(validS s)) (some (.tup [.p (.str ([] : List UInt8)), .p (.int .i64 (3 : Int))], [])) (Benc7_1 F F s (0 : Int) [] [])) := by kernel_rfl

theorem fn_enc7 (F : Nat) (s : List UInt8) (r : AV) (h : (∃ M vs, ARels γ0 M [.p (.str s)] vs) → Fenc7 F s = some (r, [])) : FnP Tryd.prog 11 [.p (.str s)] r :=
  FnP_run Genc7 F rfl (EnvOk_mk (l := [(18, sp_uvalid), (22, sp_uget), (23, sp_units)]) ⟨ok_uvalid.any, ok_uget.any, ok_units.any, trivial⟩) (EnvROk_mk (l := [(19, sp_flush), (24, sp_wbyte), (25, sp_bstr)]) ⟨ok_flush, ok_wbyte, ok_bstr, trivial⟩) (Checked.mixed Tryd.checked) (fn := Tryd.f11) (by kernel_rfl) (by kernel_rfl) rfl h
theorem Benc7_spec (F : Nat) (s : List UInt8) (hs : s.length ≤ 140000) : ∀ (f i : Nat) (b o : List UInt8), s.length - i < f → i ≤ s.length → o.length ≤ 2 * i → b.length + 2 * o.length ≤ 8 * i → validF f s (i : Int) = true →
    Benc7_1 F f s (i : Int) b o = some (.tup [.p (.str (b ++ encP o (ptsF f s (i : Int)))), .p (.int .i64 (0 : Int))], []) := by
  intro f
  induction f with
  | zero => intro i b o h; omega
  | succ f ih =>
    intro i b o hf hi ho hb hv
    have hfl := flushP_len o
    rw [Benc7_1_eq, flush_fst, flush_snd]
    rw [validF] at hv
    rw [ptsF]
    by_cases h1 : (i : Int) < s.length
    · rw [if_pos h1] at hv ⊢
      refine cond_t (by simpa using h1) (need_mk ⟨by omega, by omega, by omega⟩ ?_)
      by_cases h2 : (getS s (i : Int)).1 < 0
      · rw [if_pos h2] at hv; cases hv
      · rw [if_neg h2] at hv
        obtain ⟨r, hg, hsc, hp, hle⟩ := get_spec h2
        rw [hg] at hv ⊢
        dsimp only at hv ⊢
        have hpos := putL_pos r
        have hul := units_len r
        rw [show ((r : Int)).toNat = r from rfl, encP]
        by_cases hc : r < 32 ∨ r > 126
        · rw [if_pos hc]
          refine cond_t (by simp; omega) (need_mk ⟨by omega, by unfold scal at hsc; omega⟩ (need_mk (by omega) ?_))
          exact ih _ _ _ (by omega) hle (by rw [List.length_append]; omega) (by rw [List.length_append]; omega) hv
        · rw [if_neg hc]
          refine cond_f (by simp; omega) (need_mk ⟨by omega, by omega⟩ (need_mk (by rw [List.length_append]; omega) ?_))
          rw [u8_pt (by omega)]
          by_cases h38 : r = 38
          · rw [if_pos h38]
            refine cond_t (by simp [h38]) (need_mk (by simp; omega) ?_)
            rw [ih _ _ _ (by omega) hle (by simp) (by simp; omega) hv]
            simp
          · rw [if_neg h38]
            refine cond_f (by simp; omega) ?_
            rw [ih _ _ _ (by omega) hle (by simp) (by simp; omega) hv]
            simp
    · rw [if_neg h1]
      refine cond_f (by simpa using h1) (need_mk ⟨by omega, by omega⟩ ?_)
      rw [encP]
theorem enc7_eq (s : List UInt8) (hs : s.length ≤ 140000) : Fenc7 (s.length + 1) s = some (.tup [.p (.str (enc7S s).1), .p (.int .i64 (enc7S s).2)], []) := by
  rw [Fenc7_eq, enc7S]
  refine need_mk (by omega) ?_
  by_cases hv : validS s = true
  · refine cond_f (by simp [hv]) ?_
    rw [if_pos hv]
    exact Benc7_spec _ s hs (s.length + 1) 0 [] [] (by omega) (by omega) (by simp) (by simp) hv
  · refine cond_t (by simp [hv]) ?_
    rw [if_neg hv]
def sp_enc7 : List AV → Option (AV × Option Prop)
  | [.p (.str s)] => some (.tup [.p (.str ((enc7S s).1)), .p (.int .i64 ((enc7S s).2))], some (s.length ≤ 140000))
  | _ => none
theorem ok_enc7 : SpecOk Tryd.prog 11 sp_enc7 := by
  intro zs r ok he hok
  unfold sp_enc7 at he
  split at he
  · cases he; exact ⟨by kernel_rfl, fn_enc7 (_) _ _ fun hx => enc7_eq _ hok⟩
  · cases he
end Go.Proofs.YtmnkkliibjlefaaDoor
