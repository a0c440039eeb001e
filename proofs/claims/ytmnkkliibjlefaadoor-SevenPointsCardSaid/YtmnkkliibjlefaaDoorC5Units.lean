/-
  Lifted functions, and facts about them.
-/
import Derived.Test.YtmnkkliibjlefaaDoorRows
import Derived.Test.YtmnkkliibjlefaaDoorAmC
import Derived.Test.YtmnkkliibjlefaaDoorC5Put
import Derived.Test.YtmnkkliibjlefaaDoorC5Repl
import Derived.Test.YtmnkkliibjlefaaDoorC5Cut
import Derived.Test.YtmnkkliibjlefaaDoorC5B64Facts
namespace Go.Proofs.YtmnkkliibjlefaaDoor
open Go Go.Am
set_option linter.unusedVariables false
/-! utf7: a code point's two bytes, or four; a row of letters. -/
def twoS (n : Int) : List UInt8 := [UInt8.ofNat (n.toNat / 256), UInt8.ofNat n.toNat]
def unitsS (n : Int) : List UInt8 := if n < 65536 then twoS n else twoS (55296 + (n - 65536) / 1024) ++ twoS (56320 + (n - 65536) % 1024)
noncomputable def ctwo : Code := bodyOf Tryd.f38

noncomputable def Gtwo : Cfg := ⟨Tryd.prog, mkEnv [], mkEnvR [], 9, [], [], []⟩

noncomputable def Ftwo (F : Nat) (n : Int) : Option Ans := runFR Gtwo Tryd.f38 ⟨[2], [⟨.slot 2, 2, .cells []⟩]⟩ [2] F [.p (.int .i64 n)] []

theorem Ftwo_eq (F : Nat) (n : Int) : Ftwo F n = (some (.arr 2, [(2, .barr 5 false [UInt8.ofNat (IntKind.u8.wrap (n.fdiv 256)).toNat, UInt8.ofNat (IntKind.u8.wrap n).toNat])])) := by
  have h : Ftwo F n = need (0 ≤ (8 : Int)) (some (.arr 2, [(2, .barr 5 false [UInt8.ofNat (IntKind.u8.wrap (n.fdiv 256)).toNat, UInt8.ofNat (IntKind.u8.wrap n).toNat])])) := by kernel_rfl
  rw [h, need_pos (show 0 ≤ (8 : Int) from (by decide))]

theorem fn_two (F : Nat) (n : Int) (r : AV) (os : List (Nat × AObj)) (h : (∃ γ M w vs, ARels γ M [.p (.int .i64 n)] vs ∧ Objs γ M w (fun i => lookO i []) (fun b => b < w.heap.size)) → Ftwo F n = some (r, os)) : FnR Tryd.prog 38 [.p (.int .i64 n)] [] [] r os :=
  FnR_run Gtwo ⟨[2], [⟨.slot 2, 2, .cells []⟩]⟩ [2] F rfl (EnvOk_mk (l := []) trivial) (EnvROk_mk (l := []) trivial) (Checked.mixed Tryd.checked) (fn := Tryd.f38) (by kernel_rfl) (by kernel_rfl) rfl h
theorem two_eq (n : Int) (h : 0 ≤ n ∧ n ≤ 1000000000) : Ftwo 0 n = some (.arr 2, [(2, .barr 5 false (twoS n))]) := by
  obtain ⟨m, rfl⟩ := Int.eq_ofNat_of_zero_le h.1
  rw [Ftwo_eq, twoS]
  have e : ((m : Int)).fdiv 256 = ((m / 256 : Nat) : Int) := fd m 8
  rw [e, u8_of, u8_of]; rfl
def sp_two : RSpec := ⟨[true], fun args ib => match args, ib with
  | [.p (.int .i64 n)], [] => some (([], .arr 2), ([(2, .barr 5 false (twoS n))], some (0 ≤ n ∧ n ≤ 1000000000)))
  | _, _ => none⟩
theorem ok_two : SpecROk Tryd.prog 38 sp_two := by
  intro args ib kept r outs ok he hok
  simp only [sp_two] at he
  split at he
  · cases he
    exact ⟨by kernel_rfl, fn_two 0 _ _ _ fun _ => two_eq _ hok⟩
  · cases he
noncomputable def cunits : Code := bodyOf Tryd.f23

noncomputable def Gunits : Cfg := ⟨Tryd.prog, mkEnv [], mkEnvR [(38, sp_two)], 22, [], [], [([0, 0, 1, 0, 1, 1], [2]), ([0, 1, 1, 1, 1], [4, 9])]⟩

noncomputable def Funits (F : Nat) (n : Int) : Option Ans := runF Gunits Tryd.f23 F [.p (.int .i64 n)]

theorem Funits_eq (F : Nat) (n : Int) : Funits F n = cond (decide (n < (65536 : Int))) (need (0 ≤ n ∧ n ≤ 1000000000) (some (.p (.bytes (twoS n)), []))) (need (i64ok (n - (65536 : Int))) ((need (0 ≤ (ibits .or .i64 (55296 : Int) ((n - (65536 : Int)).fdiv 1024)) ∧ (ibits .or .i64 (55296 : Int) ((n - (65536 : Int)).fdiv 1024)) ≤ 1000000000) (need (0 ≤ (ibits .or .i64 (56320 : Int) (ibits .and .i64 (n - (65536 : Int)) (1023 : Int))) ∧ (ibits .or .i64 (56320 : Int) (ibits .and .i64 (n - (65536 : Int)) (1023 : Int))) ≤ 1000000000) (need (((twoS (ibits .or .i64 (55296 : Int) ((n - (65536 : Int)).fdiv 1024))).length + (twoS (ibits .or .i64 (56320 : Int) (ibits .and .i64 (n - (65536 : Int)) (1023 : Int)))).length) * 1 ≤ 140737488355328) (some (.p (.bytes ((twoS (ibits .or .i64 (55296 : Int) ((n - (65536 : Int)).fdiv 1024))) ++ (twoS (ibits .or .i64 (56320 : Int) (ibits .and .i64 (n - (65536 : Int)) (1023 : Int)))))), []))))))) := by
  have h : Funits F n = cond (decide (n < (65536 : Int))) (need (0 ≤ n ∧ n ≤ 1000000000) (some (.p (.bytes (twoS n)), []))) (need (i64ok (n - (65536 : Int))) (need (0 ≤ (10 : Int)) (need (0 ≤ (ibits .or .i64 (55296 : Int) ((n - (65536 : Int)).fdiv 1024)) ∧ (ibits .or .i64 (55296 : Int) ((n - (65536 : Int)).fdiv 1024)) ≤ 1000000000) (need (0 ≤ (ibits .or .i64 (56320 : Int) (ibits .and .i64 (n - (65536 : Int)) (1023 : Int))) ∧ (ibits .or .i64 (56320 : Int) (ibits .and .i64 (n - (65536 : Int)) (1023 : Int))) ≤ 1000000000) (need (((twoS (ibits .or .i64 (55296 : Int) ((n - (65536 : Int)).fdiv 1024))).length + (twoS (ibits .or .i64 (56320 : Int) (ibits .and .i64 (n - (65536 : Int)) (1023 : Int)))).length) * 1 ≤ 140737488355328) (some (.p (.bytes ((twoS (ibits .or .i64 (55296 : Int) ((n - (65536 : Int)).fdiv 1024))) ++ (twoS (ibits .or .i64 (56320 : Int) (ibits .and .i64 (n - (65536 : Int)) (1023 : Int)))))), []))))))) := by kernel_rfl
  rw [h, need_pos (show 0 ≤ (10 : Int) from (by decide))]

theorem fn_units (F : Nat) (n : Int) (r : AV) (h : (∃ M vs, ARels γ0 M [.p (.int .i64 n)] vs) → Funits F n = some (r, [])) : FnP Tryd.prog 23 [.p (.int .i64 n)] r :=
  FnP_run Gunits F rfl (EnvOk_mk (l := []) trivial) (EnvROk_mk (l := [(38, sp_two)]) ⟨ok_two, trivial⟩) (Checked.mixed Tryd.checked) (fn := Tryd.f23) (by kernel_rfl) (by kernel_rfl) rfl h
theorem or_hi (a m : Nat) (k : Nat) (hk : k = 10) (ha : a ≤ 60) (hm : m < 1024) : ibits .or .i64 ((a * 1024 : Nat) : Int) (m : Int) = ((a * 1024 + m : Nat) : Int) := by
  rw [i64_or (by omega) (by omega)]
  have := or_add a m 10 (by omega)
  rw [show (2 : Nat) ^ 10 = 1024 from rfl] at this
  rw [this]
theorem units_eq (n : Int) (h : 0 ≤ n ∧ n ≤ 1114111) : Funits 0 n = some (.p (.bytes (unitsS n)), []) := by
  obtain ⟨m, rfl⟩ := Int.eq_ofNat_of_zero_le h.1
  rw [Funits_eq, unitsS]
  by_cases hm : (m : Int) < 65536
  · refine cond_t (by simpa using hm) (need_mk (by omega) ?_)
    rw [if_pos hm]
  · refine cond_f (by simpa using hm) ?_
    rw [if_neg hm]
    obtain ⟨k, rfl⟩ : ∃ k, m = 65536 + k := ⟨m - 65536, by omega⟩
    have ek : ((65536 + k : Nat) : Int) - 65536 = (k : Int) := by omega
    have e1 : ((k : Int)).fdiv 1024 = ((k / 1024 : Nat) : Int) := fd k 10
    have e2 : ibits .and .i64 (k : Int) (1023 : Int) = ((k % 1024 : Nat) : Int) := by
      rw [show (1023 : Int) = ((1023 : Nat) : Int) from rfl, i64_and (by omega) (by decide), show (1023 : Nat) = 2 ^ 10 - 1 from rfl, and_mod]
    have e3 : ibits .or .i64 (55296 : Int) ((k / 1024 : Nat) : Int) = 55296 + (k : Int) / 1024 := by
      have := or_hi 54 (k / 1024) 10 rfl (by decide) (by omega)
      rw [show ((54 * 1024 : Nat) : Int) = 55296 from rfl] at this
      rw [this]; omega
    have e4 : ibits .or .i64 (56320 : Int) ((k % 1024 : Nat) : Int) = 56320 + (k : Int) % 1024 := by
      have := or_hi 55 (k % 1024) 10 rfl (by decide) (by omega)
      rw [show ((55 * 1024 : Nat) : Int) = 56320 from rfl] at this
      rw [this]; omega
    rw [ek, e1, e2, e3, e4]
    refine need_mk (by unfold i64ok; omega) (need_mk (by omega) (need_mk (by omega) (need_mk (by simp [twoS]) rfl)))
def sp_units : List AV → Option (AV × Option Prop)
  | [.p (.int .i64 n)] => some (.p (.bytes (unitsS n)), some (0 ≤ n ∧ n ≤ 1114111))
  | _ => none
theorem ok_units : SpecOk Tryd.prog 23 sp_units := by
  intro zs r ok he hok
  unfold sp_units at he
  split at he
  · cases he; exact ⟨by kernel_rfl, fn_units 0 _ _ fun hx => units_eq _ hok⟩
  · cases he
end Go.Proofs.YtmnkkliibjlefaaDoor
