/-
  Lifted functions, and facts about them.
-/
import Derived.Test.YtmnkkliibjlefaaDoorRows
import Derived.Test.YtmnkkliibjlefaaDoorAmC
import Derived.Test.YtmnkkliibjlefaaDoorAmNeed
import Derived.Test.YtmnkkliibjlefaaDoorC5Small
namespace Go.Proofs.YtmnkkliibjlefaaDoor
open Go Go.Am
set_option linter.unusedVariables false
noncomputable def cmore : Code := bodyOf Tryd.f50

noncomputable def Gmore : Cfg := ⟨Tryd.prog, mkEnv [], mkEnvR [], 7, [], [], []⟩

noncomputable def Fmore (F : Nat) (x : Int) : Option Ans := runF Gmore Tryd.f50 F [.p (.int .i64 x)]

theorem Fmore_eq (F : Nat) (x : Int) : Fmore F x = some (.p (.int .u8 (IntKind.u8.wrap (ibits .or .i64 (128 : Int) (ibits .and .i64 x (63 : Int))))), []) := by kernel_rfl

theorem fn_more (F : Nat) (x : Int) (r : AV) (h : (∃ M vs, ARels γ0 M [.p (.int .i64 x)] vs) → Fmore F x = some (r, [])) : FnP Tryd.prog 50 [.p (.int .i64 x)] r :=
  FnP_run Gmore F rfl (EnvOk_mk (l := []) trivial) (EnvROk_mk (l := []) trivial) (Checked.mixed Tryd.checked) (fn := Tryd.f50) (by kernel_rfl) (by kernel_rfl) rfl h
def moreB (r : Int) : UInt8 := UInt8.ofNat (128 + r.toNat % 64)
def putN (n : Nat) : List UInt8 :=
  if n < 128 then [UInt8.ofNat n] else if n < 2048 then [UInt8.ofNat (192 + n / 64), UInt8.ofNat (128 + n % 64)]
  else if n < 65536 then [UInt8.ofNat (224 + n / 4096), UInt8.ofNat (128 + n / 64 % 64), UInt8.ofNat (128 + n % 64)]
  else [UInt8.ofNat (240 + n / 262144), UInt8.ofNat (128 + n / 4096 % 64), UInt8.ofNat (128 + n / 64 % 64), UInt8.ofNat (128 + n % 64)]
abbrev badR (r : Int) : Prop := (r < 0 ∨ r > 1114111) ∨ (r ≥ 55296 ∧ r ≤ 57343)
def putS (r : Int) : List UInt8 := if badR r then [] else putN r.toNat
theorem or_lead (a k b : Nat) (ha : a * 2 ^ k ≤ 255) (hb : b < 2 ^ k) (hk : 2 ^ k ≤ 255) : UInt8.ofNat (IntKind.u8.wrap (ibits .or .i64 ((a * 2 ^ k : Nat) : Int) (b : Int))).toNat = UInt8.ofNat (a * 2 ^ k + b) := by
  rw [i64_or (by omega) (by omega), or_add _ _ _ hb, u8_of]
theorem lead192 (b : Nat) (hb : b < 64) : UInt8.ofNat (IntKind.u8.wrap (ibits .or .i64 (192 : Int) (b : Int))).toNat = UInt8.ofNat (192 + b) := or_lead 3 6 b (by decide) hb (by decide)
theorem lead224 (b : Nat) (hb : b < 32) : UInt8.ofNat (IntKind.u8.wrap (ibits .or .i64 (224 : Int) (b : Int))).toNat = UInt8.ofNat (224 + b) := or_lead 7 5 b (by decide) hb (by decide)
theorem lead240 (b : Nat) (hb : b < 16) : UInt8.ofNat (IntKind.u8.wrap (ibits .or .i64 (240 : Int) (b : Int))).toNat = UInt8.ofNat (240 + b) := or_lead 15 4 b (by decide) hb (by decide)
theorem low_more (n : Nat) (hn : n ≤ 1114111) : UInt8.ofNat (IntKind.u8.wrap (ibits .or .i64 (128 : Int) (ibits .and .i64 (n : Int) (63 : Int)))).toNat = UInt8.ofNat (128 + n % 64) := by
  rw [show (63 : Int) = ((63 : Nat) : Int) from rfl, i64_and (by omega) (by decide), show (63 : Nat) = 2 ^ 6 - 1 from rfl, and_mod]
  exact or_lead 1 7 (n % 2 ^ 6) (by decide) (by omega) (by decide)
theorem more_eq (r : Int) (h : 0 ≤ r ∧ r ≤ 1114111) : Fmore 0 r = some (.p (.int .u8 ((moreB r).toNat : Int)), []) := by
  obtain ⟨n, rfl⟩ := Int.eq_ofNat_of_zero_le h.1
  rw [Fmore_eq]
  have e : ibits .or .i64 (128 : Int) (ibits .and .i64 (n : Int) (63 : Int)) = ((128 + n % 64 : Nat) : Int) := by
    rw [show (63 : Int) = ((63 : Nat) : Int) from rfl, i64_and (by omega) (by decide), show (63 : Nat) = 2 ^ 6 - 1 from rfl, and_mod]
    rw [show (128 : Int) = ((1 * 2 ^ 7 : Nat) : Int) from rfl, i64_or (by omega) (by omega), or_add _ _ _ (by omega)]
  rw [e, u8_wrap, moreB]
  have : ((128 + n % 64 : Nat) : Int) % 256 = ((UInt8.ofNat (128 + ((n : Int)).toNat % 64)).toNat : Int) := by
    rw [UInt8.toNat_ofNat', Int.toNat_natCast]; omega
  rw [this]
def sp_more : List AV → Option (AV × Option Prop)
  | [.p (.int .i64 x)] => some (.p (.int .u8 ((moreB x).toNat : Int)), some (0 ≤ x ∧ x ≤ 1114111))
  | _ => none
theorem ok_more : SpecOk Tryd.prog 50 sp_more := by
  intro zs r ok he hok
  unfold sp_more at he
  split at he
  · cases he; exact ⟨by kernel_rfl, fn_more 0 _ _ fun hx => more_eq _ hok⟩
  · cases he
noncomputable def cPut : Code := bodyOf Tryd.f37

noncomputable def GPut : Cfg := ⟨Tryd.prog, mkEnv [(50, sp_more)], mkEnvR [], 64, [], [([1, 0, 0, 1], ⟨[0, 3], []⟩)], []⟩

noncomputable def BPut_1 (F : Nat) (x : Int) (vc1 : Bool) : Option Ans := runB GPut cPut (kP Tryd.prog Tryd.f37.results.toList) F [] [1, 0, 0, 1] [(0, .p (.int .i64 x)), (3, .p (.bool vc1))] []

noncomputable def FPut (F : Nat) (x : Int) : Option Ans := runF GPut Tryd.f37 F [.p (.int .i64 x)]

theorem BPut_1_eq (F : Nat) (x : Int) (vc1 : Bool) : BPut_1 F x vc1 = cond (vc1) (some (.p (.str ([] : List UInt8)), [])) (cond (decide (x < (128 : Int))) (some (.p (.str [UInt8.ofNat (IntKind.u8.wrap x).toNat]), [])) (cond (decide (x < (2048 : Int))) ((need (0 ≤ x ∧ x ≤ 1114111) (some (.p (.str [UInt8.ofNat (IntKind.u8.wrap (ibits .or .i64 (192 : Int) (x.fdiv 64))).toNat, UInt8.ofNat (((moreB x).toNat : Int)).toNat]), [])))) (cond (decide (x < (65536 : Int))) (((need (0 ≤ (x.fdiv 64) ∧ (x.fdiv 64) ≤ 1114111) (need (0 ≤ x ∧ x ≤ 1114111) (some (.p (.str [UInt8.ofNat (IntKind.u8.wrap (ibits .or .i64 (224 : Int) (x.fdiv 4096))).toNat, UInt8.ofNat (((moreB (x.fdiv 64)).toNat : Int)).toNat, UInt8.ofNat (((moreB x).toNat : Int)).toNat]), [])))))) (((need (0 ≤ (x.fdiv 4096) ∧ (x.fdiv 4096) ≤ 1114111) ((need (0 ≤ (x.fdiv 64) ∧ (x.fdiv 64) ≤ 1114111) (need (0 ≤ x ∧ x ≤ 1114111) (some (.p (.str [UInt8.ofNat (IntKind.u8.wrap (ibits .or .i64 (240 : Int) (x.fdiv 262144))).toNat, UInt8.ofNat (((moreB (x.fdiv 4096)).toNat : Int)).toNat, UInt8.ofNat (((moreB (x.fdiv 64)).toNat : Int)).toNat, UInt8.ofNat (((moreB x).toNat : Int)).toNat]), []))))))))))) := by
  have h : BPut_1 F x vc1 = cond (vc1) (some (.p (.str ([] : List UInt8)), [])) (cond (decide (x < (128 : Int))) (some (.p (.str [UInt8.ofNat (IntKind.u8.wrap x).toNat]), [])) (cond (decide (x < (2048 : Int))) (need (0 ≤ (6 : Int)) (need (0 ≤ x ∧ x ≤ 1114111) (some (.p (.str [UInt8.ofNat (IntKind.u8.wrap (ibits .or .i64 (192 : Int) (x.fdiv 64))).toNat, UInt8.ofNat (((moreB x).toNat : Int)).toNat]), [])))) (cond (decide (x < (65536 : Int))) (need (0 ≤ (12 : Int)) (need (0 ≤ (6 : Int)) (need (0 ≤ (x.fdiv 64) ∧ (x.fdiv 64) ≤ 1114111) (need (0 ≤ x ∧ x ≤ 1114111) (some (.p (.str [UInt8.ofNat (IntKind.u8.wrap (ibits .or .i64 (224 : Int) (x.fdiv 4096))).toNat, UInt8.ofNat (((moreB (x.fdiv 64)).toNat : Int)).toNat, UInt8.ofNat (((moreB x).toNat : Int)).toNat]), [])))))) (need (0 ≤ (18 : Int)) (need (0 ≤ (12 : Int)) (need (0 ≤ (x.fdiv 4096) ∧ (x.fdiv 4096) ≤ 1114111) (need (0 ≤ (6 : Int)) (need (0 ≤ (x.fdiv 64) ∧ (x.fdiv 64) ≤ 1114111) (need (0 ≤ x ∧ x ≤ 1114111) (some (.p (.str [UInt8.ofNat (IntKind.u8.wrap (ibits .or .i64 (240 : Int) (x.fdiv 262144))).toNat, UInt8.ofNat (((moreB (x.fdiv 4096)).toNat : Int)).toNat, UInt8.ofNat (((moreB (x.fdiv 64)).toNat : Int)).toNat, UInt8.ofNat (((moreB x).toNat : Int)).toNat]), []))))))))))) := by kernel_rfl
  rw [h, need_pos (show 0 ≤ (6 : Int) from (by decide)), need_pos (show 0 ≤ (6 : Int) from (by decide)), need_pos (show 0 ≤ (6 : Int) from (by decide)), need_pos (show 0 ≤ (12 : Int) from (by decide)), need_pos (show 0 ≤ (12 : Int) from (by decide)), need_pos (show 0 ≤ (18 : Int) from (by decide))]

theorem FPut_eq (F : Nat) (x : Int) : FPut F x = BPut_1 F x (((decide (x < (0 : Int))) || (decide (x > (1114111 : Int)))) || ((decide (x ≥ (55296 : Int))) && (decide (x ≤ (57343 : Int))))) :=
  Eq.trans (show FPut F x = need ((!(decide (x < (0 : Int)))) = true → (!(decide (x < (0 : Int)))) = true) (need ((decide (x < (0 : Int))) = false → (!(decide (x < (0 : Int)))) = true) (need ((!((decide (x < (0 : Int))) || (decide (x > (1114111 : Int))))) = true → (!((decide (x < (0 : Int))) || (decide (x > (1114111 : Int))))) = true) (need ((!((decide (x < (0 : Int))) || (decide (x > (1114111 : Int))))) = true → (!((decide (x < (0 : Int))) || (decide (x > (1114111 : Int))))) = true) (need (((!((decide (x < (0 : Int))) || (decide (x > (1114111 : Int))))) && (decide (x ≥ (55296 : Int)))) = true → ((!((decide (x < (0 : Int))) || (decide (x > (1114111 : Int))))) && (decide (x ≥ (55296 : Int)))) = true) (need ((!((decide (x < (0 : Int))) || (decide (x > (1114111 : Int))))) = true → (!((decide (x < (0 : Int))) || (decide (x > (1114111 : Int))))) = true) (need ((!((decide (x < (0 : Int))) || (decide (x > (1114111 : Int))))) = true → (decide (x ≥ (55296 : Int))) = true → ((!((decide (x < (0 : Int))) || (decide (x > (1114111 : Int))))) && (decide (x ≥ (55296 : Int)))) = true) (need (((decide (x < (0 : Int))) || (decide (x > (1114111 : Int)))) = false → (!((decide (x < (0 : Int))) || (decide (x > (1114111 : Int))))) = true) (BPut_1 F x (((decide (x < (0 : Int))) || (decide (x > (1114111 : Int)))) || ((decide (x ≥ (55296 : Int))) && (decide (x ≤ (57343 : Int))))))))))))) by kernel_rfl) (need_strike (show (!(decide (x < (0 : Int)))) = true → (!(decide (x < (0 : Int)))) = true from (fun q0 => q0)) (need_strike (show (decide (x < (0 : Int))) = false → (!(decide (x < (0 : Int)))) = true from (fun q0 => (not_mk q0))) (need_strike (show (!((decide (x < (0 : Int))) || (decide (x > (1114111 : Int))))) = true → (!((decide (x < (0 : Int))) || (decide (x > (1114111 : Int))))) = true from (fun q0 => q0)) (need_strike (show (!((decide (x < (0 : Int))) || (decide (x > (1114111 : Int))))) = true → (!((decide (x < (0 : Int))) || (decide (x > (1114111 : Int))))) = true from (fun q0 => q0)) (need_strike (show ((!((decide (x < (0 : Int))) || (decide (x > (1114111 : Int))))) && (decide (x ≥ (55296 : Int)))) = true → ((!((decide (x < (0 : Int))) || (decide (x > (1114111 : Int))))) && (decide (x ≥ (55296 : Int)))) = true from (fun q0 => q0)) (need_strike (show (!((decide (x < (0 : Int))) || (decide (x > (1114111 : Int))))) = true → (!((decide (x < (0 : Int))) || (decide (x > (1114111 : Int))))) = true from (fun q0 => q0)) (need_strike (show (!((decide (x < (0 : Int))) || (decide (x > (1114111 : Int))))) = true → (decide (x ≥ (55296 : Int))) = true → ((!((decide (x < (0 : Int))) || (decide (x > (1114111 : Int))))) && (decide (x ≥ (55296 : Int)))) = true from (fun q0 q1 => (and_mk q0 q1))) (need_strike (show ((decide (x < (0 : Int))) || (decide (x > (1114111 : Int)))) = false → (!((decide (x < (0 : Int))) || (decide (x > (1114111 : Int))))) = true from (fun q0 => (not_mk q0))) (rfl)))))))))

theorem fn_Put (F : Nat) (x : Int) (r : AV) (h : (∃ M vs, ARels γ0 M [.p (.int .i64 x)] vs) → FPut F x = some (r, [])) : FnP Tryd.prog 37 [.p (.int .i64 x)] r :=
  FnP_run GPut F rfl (EnvOk_mk (l := [(50, sp_more)]) ⟨ok_more.any, trivial⟩) (EnvROk_mk (l := []) trivial) (Checked.mixed Tryd.checked) (fn := Tryd.f37) (by kernel_rfl) (by kernel_rfl) rfl h

noncomputable def crPut : Code := bodyOf Tryd.f16

noncomputable def GrPut : Cfg := ⟨Tryd.prog, mkEnv [], mkEnvR [], 76, [], [([1, 0, 0, 1], ⟨[0, 3], []⟩)], []⟩

noncomputable def BrPut_1 (F : Nat) (x : Int) (vc1 : Bool) : Option Ans := runB GrPut crPut (kP Tryd.prog Tryd.f16.results.toList) F [] [1, 0, 0, 1] [(0, .p (.int .i64 x)), (3, .p (.bool vc1))] []

noncomputable def FrPut (F : Nat) (x : Int) : Option Ans := runF GrPut Tryd.f16 F [.p (.int .i64 x)]

theorem BrPut_1_eq (F : Nat) (x : Int) (vc1 : Bool) : BrPut_1 F x vc1 = cond (vc1) (some (.p (.str ([] : List UInt8)), [])) (cond (decide (x < (128 : Int))) (some (.p (.str [UInt8.ofNat (IntKind.u8.wrap x).toNat]), [])) (cond (decide (x < (2048 : Int))) ((some (.p (.str [UInt8.ofNat (IntKind.u8.wrap (ibits .or .i64 (192 : Int) (x.fdiv 64))).toNat, UInt8.ofNat (IntKind.u8.wrap (ibits .or .i64 (128 : Int) (ibits .and .i64 x (63 : Int)))).toNat]), []))) (cond (decide (x < (65536 : Int))) (((some (.p (.str [UInt8.ofNat (IntKind.u8.wrap (ibits .or .i64 (224 : Int) (x.fdiv 4096))).toNat, UInt8.ofNat (IntKind.u8.wrap (ibits .or .i64 (128 : Int) (ibits .and .i64 (x.fdiv 64) (63 : Int)))).toNat, UInt8.ofNat (IntKind.u8.wrap (ibits .or .i64 (128 : Int) (ibits .and .i64 x (63 : Int)))).toNat]), [])))) ((((some (.p (.str [UInt8.ofNat (IntKind.u8.wrap (ibits .or .i64 (240 : Int) (x.fdiv 262144))).toNat, UInt8.ofNat (IntKind.u8.wrap (ibits .or .i64 (128 : Int) (ibits .and .i64 (x.fdiv 4096) (63 : Int)))).toNat, UInt8.ofNat (IntKind.u8.wrap (ibits .or .i64 (128 : Int) (ibits .and .i64 (x.fdiv 64) (63 : Int)))).toNat, UInt8.ofNat (IntKind.u8.wrap (ibits .or .i64 (128 : Int) (ibits .and .i64 x (63 : Int)))).toNat]), [])))))))) := by
  have h : BrPut_1 F x vc1 = cond (vc1) (some (.p (.str ([] : List UInt8)), [])) (cond (decide (x < (128 : Int))) (some (.p (.str [UInt8.ofNat (IntKind.u8.wrap x).toNat]), [])) (cond (decide (x < (2048 : Int))) (need (0 ≤ (6 : Int)) (some (.p (.str [UInt8.ofNat (IntKind.u8.wrap (ibits .or .i64 (192 : Int) (x.fdiv 64))).toNat, UInt8.ofNat (IntKind.u8.wrap (ibits .or .i64 (128 : Int) (ibits .and .i64 x (63 : Int)))).toNat]), []))) (cond (decide (x < (65536 : Int))) (need (0 ≤ (12 : Int)) (need (0 ≤ (6 : Int)) (some (.p (.str [UInt8.ofNat (IntKind.u8.wrap (ibits .or .i64 (224 : Int) (x.fdiv 4096))).toNat, UInt8.ofNat (IntKind.u8.wrap (ibits .or .i64 (128 : Int) (ibits .and .i64 (x.fdiv 64) (63 : Int)))).toNat, UInt8.ofNat (IntKind.u8.wrap (ibits .or .i64 (128 : Int) (ibits .and .i64 x (63 : Int)))).toNat]), [])))) (need (0 ≤ (18 : Int)) (need (0 ≤ (12 : Int)) (need (0 ≤ (6 : Int)) (some (.p (.str [UInt8.ofNat (IntKind.u8.wrap (ibits .or .i64 (240 : Int) (x.fdiv 262144))).toNat, UInt8.ofNat (IntKind.u8.wrap (ibits .or .i64 (128 : Int) (ibits .and .i64 (x.fdiv 4096) (63 : Int)))).toNat, UInt8.ofNat (IntKind.u8.wrap (ibits .or .i64 (128 : Int) (ibits .and .i64 (x.fdiv 64) (63 : Int)))).toNat, UInt8.ofNat (IntKind.u8.wrap (ibits .or .i64 (128 : Int) (ibits .and .i64 x (63 : Int)))).toNat]), [])))))))) := by kernel_rfl
  rw [h, need_pos (show 0 ≤ (6 : Int) from (by decide)), need_pos (show 0 ≤ (6 : Int) from (by decide)), need_pos (show 0 ≤ (6 : Int) from (by decide)), need_pos (show 0 ≤ (12 : Int) from (by decide)), need_pos (show 0 ≤ (12 : Int) from (by decide)), need_pos (show 0 ≤ (18 : Int) from (by decide))]

theorem FrPut_eq (F : Nat) (x : Int) : FrPut F x = BrPut_1 F x (((decide (x < (0 : Int))) || (decide (x > (1114111 : Int)))) || ((decide (x ≥ (55296 : Int))) && (decide (x ≤ (57343 : Int))))) :=
  Eq.trans (show FrPut F x = need ((!(decide (x < (0 : Int)))) = true → (!(decide (x < (0 : Int)))) = true) (need ((decide (x < (0 : Int))) = false → (!(decide (x < (0 : Int)))) = true) (need ((!((decide (x < (0 : Int))) || (decide (x > (1114111 : Int))))) = true → (!((decide (x < (0 : Int))) || (decide (x > (1114111 : Int))))) = true) (need ((!((decide (x < (0 : Int))) || (decide (x > (1114111 : Int))))) = true → (!((decide (x < (0 : Int))) || (decide (x > (1114111 : Int))))) = true) (need (((!((decide (x < (0 : Int))) || (decide (x > (1114111 : Int))))) && (decide (x ≥ (55296 : Int)))) = true → ((!((decide (x < (0 : Int))) || (decide (x > (1114111 : Int))))) && (decide (x ≥ (55296 : Int)))) = true) (need ((!((decide (x < (0 : Int))) || (decide (x > (1114111 : Int))))) = true → (!((decide (x < (0 : Int))) || (decide (x > (1114111 : Int))))) = true) (need ((!((decide (x < (0 : Int))) || (decide (x > (1114111 : Int))))) = true → (decide (x ≥ (55296 : Int))) = true → ((!((decide (x < (0 : Int))) || (decide (x > (1114111 : Int))))) && (decide (x ≥ (55296 : Int)))) = true) (need (((decide (x < (0 : Int))) || (decide (x > (1114111 : Int)))) = false → (!((decide (x < (0 : Int))) || (decide (x > (1114111 : Int))))) = true) (BrPut_1 F x (((decide (x < (0 : Int))) || (decide (x > (1114111 : Int)))) || ((decide (x ≥ (55296 : Int))) && (decide (x ≤ (57343 : Int))))))))))))) by kernel_rfl) (need_strike (show (!(decide (x < (0 : Int)))) = true → (!(decide (x < (0 : Int)))) = true from (fun q0 => q0)) (need_strike (show (decide (x < (0 : Int))) = false → (!(decide (x < (0 : Int)))) = true from (fun q0 => (not_mk q0))) (need_strike (show (!((decide (x < (0 : Int))) || (decide (x > (1114111 : Int))))) = true → (!((decide (x < (0 : Int))) || (decide (x > (1114111 : Int))))) = true from (fun q0 => q0)) (need_strike (show (!((decide (x < (0 : Int))) || (decide (x > (1114111 : Int))))) = true → (!((decide (x < (0 : Int))) || (decide (x > (1114111 : Int))))) = true from (fun q0 => q0)) (need_strike (show ((!((decide (x < (0 : Int))) || (decide (x > (1114111 : Int))))) && (decide (x ≥ (55296 : Int)))) = true → ((!((decide (x < (0 : Int))) || (decide (x > (1114111 : Int))))) && (decide (x ≥ (55296 : Int)))) = true from (fun q0 => q0)) (need_strike (show (!((decide (x < (0 : Int))) || (decide (x > (1114111 : Int))))) = true → (!((decide (x < (0 : Int))) || (decide (x > (1114111 : Int))))) = true from (fun q0 => q0)) (need_strike (show (!((decide (x < (0 : Int))) || (decide (x > (1114111 : Int))))) = true → (decide (x ≥ (55296 : Int))) = true → ((!((decide (x < (0 : Int))) || (decide (x > (1114111 : Int))))) && (decide (x ≥ (55296 : Int)))) = true from (fun q0 q1 => (and_mk q0 q1))) (need_strike (show ((decide (x < (0 : Int))) || (decide (x > (1114111 : Int)))) = false → (!((decide (x < (0 : Int))) || (decide (x > (1114111 : Int))))) = true from (fun q0 => (not_mk q0))) (rfl)))))))))

theorem fn_rPut (F : Nat) (x : Int) (r : AV) (h : (∃ M vs, ARels γ0 M [.p (.int .i64 x)] vs) → FrPut F x = some (r, [])) : FnP Tryd.prog 16 [.p (.int .i64 x)] r :=
  FnP_run GrPut F rfl (EnvOk_mk (l := []) trivial) (EnvROk_mk (l := []) trivial) (Checked.mixed Tryd.checked) (fn := Tryd.f16) (by kernel_rfl) (by kernel_rfl) rfl h
theorem fd (n k : Nat) : ((n : Int)).fdiv ((2 ^ k : Nat) : Int) = ((n / 2 ^ k : Nat) : Int) := by
  rw [Int.fdiv_eq_ediv_of_nonneg _ (Int.natCast_nonneg _), Int.natCast_ediv]
theorem bad_dec (r : Int) : (((decide (r < (0 : Int))) || (decide (r > (1114111 : Int)))) || ((decide (r ≥ (55296 : Int))) && (decide (r ≤ (57343 : Int))))) = decide (badR r) := by
  simp [badR, Bool.decide_or, Bool.decide_and]
theorem more_of (n : Nat) : UInt8.ofNat (((moreB (n : Int)).toNat : Int)).toNat = UInt8.ofNat (128 + n % 64) := by
  rw [Int.toNat_natCast, UInt8.ofNat_toNat]; rfl
theorem Put_eq (r : Int) (h : -1000000000000 ≤ r ∧ r ≤ 1000000000000) : FPut 0 r = some (.p (.str (putS r)), []) := by
  rw [FPut_eq, bad_dec, BPut_1_eq, putS]
  by_cases hb : badR r
  · refine cond_t (by simpa using hb) ?_
    rw [if_pos hb]
  · refine cond_f (by simpa using hb) ?_
    rw [if_neg hb]
    have h0 : 0 ≤ r := by unfold badR at hb; omega
    have h1 : r ≤ 1114111 := by unfold badR at hb; omega
    obtain ⟨n, rfl⟩ := Int.eq_ofNat_of_zero_le h0
    rw [show ((n : Int)).toNat = n from rfl, putN]
    have e1 : ((n : Int)).fdiv 64 = ((n / 64 : Nat) : Int) := fd n 6
    have e2 : ((n : Int)).fdiv 4096 = ((n / 4096 : Nat) : Int) := fd n 12
    have e3 : ((n : Int)).fdiv 262144 = ((n / 262144 : Nat) : Int) := fd n 18
    simp only [e1, e2, e3, more_of]
    by_cases c1 : n < 128
    · refine cond_t (by simp; omega) ?_
      rw [if_pos c1, u8_of]
    · refine cond_f (by simp; omega) ?_
      rw [if_neg c1]
      by_cases c2 : n < 2048
      · refine cond_t (by simp; omega) ?_
        refine need_mk (by first | omega | (unfold i64ok; omega) | (simp only [List.length_cons, List.length_nil]; omega) | (simp; omega) | simp) ?_
        rw [if_pos c2, lead192 _ (by omega)]
      · refine cond_f (by simp; omega) ?_
        rw [if_neg c2]
        by_cases c3 : n < 65536
        · refine cond_t (by simp; omega) ?_
          refine need_mk (by first | omega | (unfold i64ok; omega) | (simp only [List.length_cons, List.length_nil]; omega) | (simp; omega) | simp) ?_
          refine need_mk (by first | omega | (unfold i64ok; omega) | (simp only [List.length_cons, List.length_nil]; omega) | (simp; omega) | simp) ?_
          rw [if_pos c3, lead224 _ (by omega)]
        · refine cond_f (by simp; omega) ?_
          refine need_mk (by first | omega | (unfold i64ok; omega) | (simp only [List.length_cons, List.length_nil]; omega) | (simp; omega) | simp) ?_
          refine need_mk (by first | omega | (unfold i64ok; omega) | (simp only [List.length_cons, List.length_nil]; omega) | (simp; omega) | simp) ?_
          refine need_mk (by first | omega | (unfold i64ok; omega) | (simp only [List.length_cons, List.length_nil]; omega) | (simp; omega) | simp) ?_
          rw [if_neg c3, lead240 _ (by omega)]
def sp_Put : List AV → Option (AV × Option Prop)
  | [.p (.int .i64 x)] => some (.p (.str (putS x)), some (-1000000000000 ≤ x ∧ x ≤ 1000000000000))
  | _ => none
theorem ok_Put : SpecOk Tryd.prog 37 sp_Put := by
  intro zs r ok he hok
  unfold sp_Put at he
  split at he
  · cases he; exact ⟨by kernel_rfl, fn_Put 0 _ _ fun hx => Put_eq _ hok⟩
  · cases he
theorem rPut_eq (r : Int) (h : -1000000000000 ≤ r ∧ r ≤ 1000000000000) : FrPut 0 r = some (.p (.str (putS r)), []) := by
  rw [FrPut_eq, bad_dec, BrPut_1_eq, putS]
  by_cases hb : badR r
  · refine cond_t (by simpa using hb) ?_
    rw [if_pos hb]
  · refine cond_f (by simpa using hb) ?_
    rw [if_neg hb]
    have h0 : 0 ≤ r := by unfold badR at hb; omega
    have h1 : r ≤ 1114111 := by unfold badR at hb; omega
    obtain ⟨n, rfl⟩ := Int.eq_ofNat_of_zero_le h0
    rw [show ((n : Int)).toNat = n from rfl, putN]
    have e1 : ((n : Int)).fdiv 64 = ((n / 64 : Nat) : Int) := fd n 6
    have e2 : ((n : Int)).fdiv 4096 = ((n / 4096 : Nat) : Int) := fd n 12
    have e3 : ((n : Int)).fdiv 262144 = ((n / 262144 : Nat) : Int) := fd n 18
    simp only [e1, e2, e3, low_more n (by omega), low_more (n / 64) (by omega), low_more (n / 4096) (by omega)]
    by_cases c1 : n < 128
    · refine cond_t (by simp; omega) ?_
      rw [if_pos c1, u8_of]
    · refine cond_f (by simp; omega) ?_
      rw [if_neg c1]
      by_cases c2 : n < 2048
      · refine cond_t (by simp; omega) ?_
        rw [if_pos c2, lead192 _ (by omega)]
      · refine cond_f (by simp; omega) ?_
        rw [if_neg c2]
        by_cases c3 : n < 65536
        · refine cond_t (by simp; omega) ?_
          rw [if_pos c3, lead224 _ (by omega)]
        · refine cond_f (by simp; omega) ?_
          rw [if_neg c3, lead240 _ (by omega)]
def sp_rPut : List AV → Option (AV × Option Prop)
  | [.p (.int .i64 x)] => some (.p (.str (putS x)), some (-1000000000000 ≤ x ∧ x ≤ 1000000000000))
  | _ => none
theorem ok_rPut : SpecOk Tryd.prog 16 sp_rPut := by
  intro zs r ok he hok
  unfold sp_rPut at he
  split at he
  · cases he; exact ⟨by kernel_rfl, fn_rPut 0 _ _ fun hx => rPut_eq _ hok⟩
  · cases he
end Go.Proofs.YtmnkkliibjlefaaDoor
