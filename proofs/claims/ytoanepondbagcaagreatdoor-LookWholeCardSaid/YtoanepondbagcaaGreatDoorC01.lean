/-
  Lifted functions, and facts about them.
-/
import Derived.Test.YtoanepondbagcaaGreatDoorAmC
import Derived.WalkKit
import Derived.Test.YtoanepondbagcaaGreatDoorRows
import Derived.Shelf.Strings.SlTrimAscii
import Derived.ShutString
/-! What holds by itself may be struck out of a text. -/
namespace Go.Am
open Go Go.RowKit
theorem need_congr {p : Prop} {x y : Option Ans} (h : x = y) : need p x = need p y := by rw [h]
theorem cond_congr {b : Bool} {x x' y y' : Option Ans} (h : x = x') (k : y = y') : cond b x y = cond b x' y' := by rw [h, k]
theorem need_strike {p : Prop} {x y : Option Ans} (hp : p) (h : x = y) : need p x = y := by rw [need_pos hp, h]
end Go.Am
/-! The long literals. -/
namespace Go.Proofs.YtoanepondbagcaaGreatDoor
/-- 24 bytes. -/
def LB_208aacab : List UInt8 := [83, 117, 98, 106, 101, 99, 116, 58, 32, 61, 63, 117, 116, 102, 45, 56, 63, 81, 63, 97, 63, 61, 10, 10]
/-- 19 bytes. -/
def LB_476f38ec : List UInt8 := [99, 111, 110, 116, 101, 110, 116, 45, 100, 105, 115, 112, 111, 115, 105, 116, 105, 111, 110]
/-- 64 bytes. -/
def LB_7543b37f : List UInt8 := [65, 66, 67, 68, 69, 70, 71, 72, 73, 74, 75, 76, 77, 78, 79, 80, 81, 82, 83, 84, 85, 86, 87, 88, 89, 90, 97, 98, 99, 100, 101, 102, 103, 104, 105, 106, 107, 108, 109, 110, 111, 112, 113, 114, 115, 116, 117, 118, 119, 120, 121, 122, 48, 49, 50, 51, 52, 53, 54, 55, 56, 57, 43, 47]
/-- 25 bytes. -/
def LB_7e72d125 : List UInt8 := [99, 111, 110, 116, 101, 110, 116, 45, 116, 114, 97, 110, 115, 102, 101, 114, 45, 101, 110, 99, 111, 100, 105, 110, 103]
/-- 41 bytes. -/
def LB_b9b80970 : List UInt8 := [40, 78, 73, 76, 32, 78, 73, 76, 32, 78, 73, 76, 32, 78, 73, 76, 32, 78, 73, 76, 32, 78, 73, 76, 32, 78, 73, 76, 32, 78, 73, 76, 32, 78, 73, 76, 32, 78, 73, 76, 41]
end Go.Proofs.YtoanepondbagcaaGreatDoor
namespace Go.Proofs.YtoanepondbagcaaGreatDoor
open Go Go.Am
set_option linter.unusedVariables false
theorem ok64 {n : Int} (h0 : -1000000000000 ≤ n) (h1 : n ≤ 1000000000000) : i64ok n := by unfold i64ok; omega

theorem drop_cons {s : List UInt8} {i : Nat} {c : UInt8} {r : List UInt8} (h : s.drop i = c :: r) : s.getD i 0 = c ∧ s.drop (i + 1) = r ∧ s.length = i + 1 + r.length := by
  have h1 : s[i]? = some c := by
    have : (s.drop i)[0]? = some c := by rw [h]; rfl
    simpa using this
  refine ⟨by rw [List.getD_eq_getElem?_getD, h1]; rfl, ?_, ?_⟩
  · have : (s.drop i).drop 1 = r := by rw [h]; rfl
    simpa [List.drop_drop] using this
  · have := congrArg List.length h
    simp at this
    have : i < s.length := by
      rcases Nat.lt_or_ge i s.length with h' | h'
      · exact h'
      · rw [List.drop_of_length_le h'] at h; cases h
    omega
theorem u8_eq {c d : UInt8} : ((c.toNat : Int) = (d.toNat : Int)) ↔ c = d := by
  constructor
  · intro h; exact UInt8.toNat_inj.1 (by omega)
  · rintro rfl; rfl
theorem u8_of (x : Nat) : UInt8.ofNat (IntKind.u8.wrap (x : Int)).toNat = UInt8.ofNat x := by
  rw [u8_wrap]
  have : ((x : Int) % 256).toNat = x % 256 := by omega
  rw [this]
  apply UInt8.toNat_inj.1
  rw [UInt8.toNat_ofNat', UInt8.toNat_ofNat']
  omega
theorem fdiv_nat (x k : Nat) : (x : Int).fdiv (2 ^ k) = ((x / 2 ^ k : Nat) : Int) := by
  rw [Int.fdiv_eq_ediv_of_nonneg _ (Int.pow_nonneg (by decide)), Int.natCast_ediv, Int.natCast_pow]; rfl



def spStr (g : List UInt8 → List UInt8) : List AV → Option (AV × Option Prop)
  | [.p (.str s)] => some (.p (.str (g s)), some (s.length ≤ 1000000))
  | _ => none
theorem spStr_ok {f : FuncId} {g : List UInt8 → List UInt8} (hc : callable Tryz.prog f = true) (h : ∀ s, s.length ≤ 1000000 → FnP Tryz.prog f [.p (.str s)] (.p (.str (g s)))) : SpecOk Tryz.prog f (spStr g) := by
  intro zs r ok he hok
  unfold spStr at he
  split at he
  · cases he; exact ⟨hc, h _ hok⟩
  · cases he
end Go.Proofs.YtoanepondbagcaaGreatDoor
namespace Go.Proofs.YtoanepondbagcaaGreatDoor
open Go Go.Am
set_option linter.unusedVariables false
/-! What is told of the empty text. -/

noncomputable def Glibs0 : Cfg := ⟨Tryz.prog, mkEnv [], mkEnvR [], 19, [], [], []⟩

noncomputable def Flibs0 (F : Nat) (c : Int) : Option Ans := runF Glibs0 Tryz.f163 F [.p (.str ([] : List UInt8)), .p (.int .u8 c)]

theorem Flibs0_eq (F : Nat) (c : Int) : Flibs0 (F + 1) c = need (i64ok ((0 : Int) - (1 : Int))) (some (.p (.int .i64 (-1 : Int)), [])) := by kernel_rfl

theorem fn_libs0 (F : Nat) (c : Int) (r : AV) (h : (∃ M vs, ARels γ0 M [.p (.str ([] : List UInt8)), .p (.int .u8 c)] vs) → Flibs0 F c = some (r, [])) : FnP Tryz.prog 163 [.p (.str ([] : List UInt8)), .p (.int .u8 c)] r :=
  FnP_run Glibs0 F rfl (EnvOk_mk (l := []) trivial) (EnvROk_mk (l := []) trivial) (Checked.mixed Tryz.checked) (fn := Tryz.f163) (by kernel_rfl) (by kernel_rfl) rfl h
def sp_libs0 : List AV → Option (AV × Option Prop)
  | [.p (.str []), .p (.int .u8 c)] => some (.p (.int .i64 (-1)), none)
  | _ => none
theorem ok_libs0 : SpecOk Tryz.prog 163 sp_libs0 := by
  intro zs r ok he hok
  unfold sp_libs0 at he
  split at he
  · cases he; exact ⟨by kernel_rfl, fn_libs0 1 _ _ fun _ => by rw [Flibs0_eq]; exact need_mk (by unfold i64ok; omega) rfl⟩
  · cases he

noncomputable def Glib0 : Cfg := ⟨Tryz.prog, mkEnv [(163, sp_libs0)], mkEnvR [], 8, [], [], []⟩

noncomputable def Flib0 (F : Nat) (c : Int) : Option Ans := runF Glib0 Tryz.f144 F [.p (.str ([] : List UInt8)), .p (.int .u8 c)]

theorem Flib0_eq (F : Nat) (c : Int) : Flib0 F c = some (.p (.int .i64 (-1 : Int)), []) := by kernel_rfl

theorem fn_lib0 (F : Nat) (c : Int) (r : AV) (h : (∃ M vs, ARels γ0 M [.p (.str ([] : List UInt8)), .p (.int .u8 c)] vs) → Flib0 F c = some (r, [])) : FnP Tryz.prog 144 [.p (.str ([] : List UInt8)), .p (.int .u8 c)] r :=
  FnP_run Glib0 F rfl (EnvOk_mk (l := [(163, sp_libs0)]) ⟨ok_libs0.any, trivial⟩) (EnvROk_mk (l := []) trivial) (Checked.mixed Tryz.checked) (fn := Tryz.f144) (by kernel_rfl) (by kernel_rfl) rfl h
def sp_lib0 : List AV → Option (AV × Option Prop)
  | [.p (.str []), .p (.int .u8 c)] => some (.p (.int .i64 (-1)), none)
  | _ => none
theorem ok_lib0 : SpecOk Tryz.prog 144 sp_lib0 := by
  intro zs r ok he hok
  unfold sp_lib0 at he
  split at he
  · cases he; exact ⟨by kernel_rfl, fn_lib0 0 _ _ fun _ => by rw [Flib0_eq]⟩
  · cases he

noncomputable def Gapart0 : Cfg := ⟨Tryz.prog, mkEnv [(144, sp_lib0)], mkEnvR [], 17, [], [], []⟩

noncomputable def Fapart0 (F : Nat)  : Option Ans := runF Gapart0 Tryz.f123 F [.p (.str ([] : List UInt8))]

theorem Fapart0_eq (F : Nat)  : Fapart0 F  = some (.tup [.p (.str ([] : List UInt8)), .p (.str ([] : List UInt8))], []) := by kernel_rfl

theorem fn_apart0 (F : Nat)  (r : AV) (h : (∃ M vs, ARels γ0 M [.p (.str ([] : List UInt8))] vs) → Fapart0 F  = some (r, [])) : FnP Tryz.prog 123 [.p (.str ([] : List UInt8))] r :=
  FnP_run Gapart0 F rfl (EnvOk_mk (l := [(144, sp_lib0)]) ⟨ok_lib0.any, trivial⟩) (EnvROk_mk (l := []) trivial) (Checked.mixed Tryz.checked) (fn := Tryz.f123) (by kernel_rfl) (by kernel_rfl) rfl h
def sp_apart0 : List AV → Option (AV × Option Prop)
  | [.p (.str [])] => some (.tup [.p (.str []), .p (.str [])], none)
  | _ => none
theorem ok_apart0 : SpecOk Tryz.prog 123 sp_apart0 := by
  intro zs r ok he hok
  unfold sp_apart0 at he
  split at he
  · cases he; exact ⟨by kernel_rfl, fn_apart0 0 _ fun _ => by rw [Fapart0_eq]⟩
  · cases he

noncomputable def Gjoin0 : Cfg := ⟨Tryz.prog, mkEnv [], mkEnvR [], 75, [], [], []⟩

noncomputable def Fjoin0 (F : Nat)  : Option Ans := runF Gjoin0 Tryz.f27 F [.p .nil, .p (.str ([] : List UInt8))]

theorem Fjoin0_eq (F : Nat)  : Fjoin0 F  = some (.p (.str ([] : List UInt8)), []) := by kernel_rfl

theorem fn_join0 (F : Nat)  (r : AV) (h : (∃ M vs, ARels γ0 M [.p .nil, .p (.str ([] : List UInt8))] vs) → Fjoin0 F  = some (r, [])) : FnP Tryz.prog 27 [.p .nil, .p (.str ([] : List UInt8))] r :=
  FnP_run Gjoin0 F rfl (EnvOk_mk (l := []) trivial) (EnvROk_mk (l := []) trivial) (Checked.mixed Tryz.checked) (fn := Tryz.f27) (by kernel_rfl) (by kernel_rfl) rfl h
def sp_join0 : List AV → Option (AV × Option Prop)
  | [.p .nil, .p (.str [])] => some (.p (.str []), none)
  | _ => none
theorem ok_join0 : SpecOk Tryz.prog 27 sp_join0 := by
  intro zs r ok he hok
  unfold sp_join0 at he
  split at he
  · cases he; exact ⟨by kernel_rfl, fn_join0 0 _ fun _ => by rw [Fjoin0_eq]⟩
  · cases he
def rd0 : AObj := .cells [.p (.str []), .p (.int .i64 0), .p .nil, .p (.str []), .p (.bool false), .p .nil]

noncomputable def Gdrop0 : Cfg := ⟨Tryz.prog, mkEnv [], mkEnvR [], 11, [70000], [], []⟩

noncomputable def Fdrop0 (F : Nat)  : Option Ans := runFR Gdrop0 Tryz.f85 ⟨[], [⟨.fix 70000, 70000, .cells []⟩]⟩ [70000] F [.ref 70000 0] [(70000, .cells [.p (.str ([] : List UInt8)), .p (.int .i64 (0 : Int)), .p .nil, .p (.str ([] : List UInt8)), .p (.bool false), .p .nil])]

theorem Fdrop0_eq (F : Nat)  : Fdrop0 F  = some (.tup [], [(70000, .cells [.p (.str ([] : List UInt8)), .p (.int .i64 (0 : Int)), .p .nil, .p (.str ([] : List UInt8)), .p (.bool false), .p .nil])]) := by kernel_rfl

theorem fn_drop0 (F : Nat)  (r : AV) (os : List (Nat × AObj)) (h : (∃ γ M w vs, ARels γ M [.ref 70000 0] vs ∧ Objs γ M w (fun i => lookO i [(70000, .cells [.p (.str ([] : List UInt8)), .p (.int .i64 (0 : Int)), .p .nil, .p (.str ([] : List UInt8)), .p (.bool false), .p .nil])]) (fun b => b < w.heap.size)) → Fdrop0 F  = some (r, os)) : FnR Tryz.prog 85 [.ref 70000 0] [(70000, .cells [.p (.str ([] : List UInt8)), .p (.int .i64 (0 : Int)), .p .nil, .p (.str ([] : List UInt8)), .p (.bool false), .p .nil])] [70000] r os :=
  FnR_run Gdrop0 ⟨[], [⟨.fix 70000, 70000, .cells []⟩]⟩ [70000] F rfl (EnvOk_mk (l := []) trivial) (EnvROk_mk (l := []) trivial) (Checked.mixed Tryz.checked) (fn := Tryz.f85) (by kernel_rfl) (by kernel_rfl) rfl h
def sp_drop0 : RSpec := ⟨[false], fun args ib => match args, ib with
  | [.ref 70000 0], [(70000, .cells [.p (.str []), .p (.int .i64 0), .p .nil, .p (.str []), .p (.bool false), .p .nil])] => some (([70000], .tup []), ([(70000, rd0)], none))
  | _, _ => none⟩
theorem ok_drop0 : SpecROk Tryz.prog 85 sp_drop0 := by
  intro args ib kept r outs ok he hok
  simp only [sp_drop0] at he
  split at he
  · cases he; exact ⟨by kernel_rfl, fn_drop0 0 _ _ fun _ => by rw [Fdrop0_eq]; rfl⟩
  · cases he

noncomputable def Gtell0 : Cfg := ⟨Tryz.prog, mkEnv [(27, sp_join0), (123, sp_apart0)], mkEnvR [(85, sp_drop0)], 55, [70000], [], [([1, 1, 1], [1])]⟩

noncomputable def Ftell0 (F : Nat)  : Option Ans := runFR Gtell0 Tryz.f86 ⟨[], [⟨.fix 70000, 70000, .cells []⟩]⟩ [70000] F [.ref 70000 0] [(70000, .cells [.p (.str ([] : List UInt8)), .p (.int .i64 (0 : Int)), .p .nil, .p (.str ([] : List UInt8)), .p (.bool false), .p .nil])]

theorem Ftell0_eq (F : Nat)  : Ftell0 F  = (((some (.tup [], [(70000, .cells [.p (.str ([] : List UInt8)), .p (.int .i64 (0 : Int)), .p .nil, .p (.str ([] : List UInt8)), .p (.bool false), .p .nil])])))) := by
  have h : Ftell0 F  = need ((!(([] : List UInt8) != ([] : List UInt8))) = true → (!(([] : List UInt8) != ([] : List UInt8))) = true) (need ((!(([] : List UInt8) != ([] : List UInt8))) = true → (!(([] : List UInt8) != ([] : List UInt8))) = true) (need ((([] : List UInt8) != ([] : List UInt8)) = false → (!(([] : List UInt8) != ([] : List UInt8))) = true) (some (.tup [], [(70000, .cells [.p (.str ([] : List UInt8)), .p (.int .i64 (0 : Int)), .p .nil, .p (.str ([] : List UInt8)), .p (.bool false), .p .nil])])))) := by kernel_rfl
  rw [h, need_pos (show (([] : List UInt8) != ([] : List UInt8)) = false → (!(([] : List UInt8) != ([] : List UInt8))) = true from (fun q0 => (not_mk q0))), need_pos (show (!(([] : List UInt8) != ([] : List UInt8))) = true → (!(([] : List UInt8) != ([] : List UInt8))) = true from (fun q0 => q0)), need_pos (show (!(([] : List UInt8) != ([] : List UInt8))) = true → (!(([] : List UInt8) != ([] : List UInt8))) = true from (fun q0 => q0))]

theorem fn_tell0 (F : Nat)  (r : AV) (os : List (Nat × AObj)) (h : (∃ γ M w vs, ARels γ M [.ref 70000 0] vs ∧ Objs γ M w (fun i => lookO i [(70000, .cells [.p (.str ([] : List UInt8)), .p (.int .i64 (0 : Int)), .p .nil, .p (.str ([] : List UInt8)), .p (.bool false), .p .nil])]) (fun b => b < w.heap.size)) → Ftell0 F  = some (r, os)) : FnR Tryz.prog 86 [.ref 70000 0] [(70000, .cells [.p (.str ([] : List UInt8)), .p (.int .i64 (0 : Int)), .p .nil, .p (.str ([] : List UInt8)), .p (.bool false), .p .nil])] [70000] r os :=
  FnR_run Gtell0 ⟨[], [⟨.fix 70000, 70000, .cells []⟩]⟩ [70000] F rfl (EnvOk_mk (l := [(27, sp_join0), (123, sp_apart0)]) ⟨ok_join0.any, ok_apart0.any, trivial⟩) (EnvROk_mk (l := [(85, sp_drop0)]) ⟨ok_drop0, trivial⟩) (Checked.mixed Tryz.checked) (fn := Tryz.f86) (by kernel_rfl) (by kernel_rfl) rfl h
def sp_tell0 : RSpec := ⟨[false], fun args ib => match args, ib with
  | [.ref 70000 0], [(70000, .cells [.p (.str []), .p (.int .i64 0), .p .nil, .p (.str []), .p (.bool false), .p .nil])] => some (([70000], .tup []), ([(70000, rd0)], none))
  | _, _ => none⟩
theorem ok_tell0 : SpecROk Tryz.prog 86 sp_tell0 := by
  intro args ib kept r outs ok he hok
  simp only [sp_tell0] at he
  split at he
  · cases he; exact ⟨by kernel_rfl, fn_tell0 0 _ _ fun _ => by rw [Ftell0_eq]; rfl⟩
  · cases he

noncomputable def Galist0 : Cfg := ⟨Tryz.prog, mkEnv [], mkEnvR [(86, sp_tell0)], 153, [], [], [([0, 1, 1, 1], [1])]⟩

noncomputable def Falist0 (F : Nat)  : Option Ans := runF Galist0 Tryz.f49 F [.p (.str ([] : List UInt8))]

theorem Falist0_eq (F : Nat)  : Falist0 (F + 1)  = some (.p .nil, []) := by kernel_rfl

theorem fn_alist0 (F : Nat)  (r : AV) (h : (∃ M vs, ARels γ0 M [.p (.str ([] : List UInt8))] vs) → Falist0 F  = some (r, [])) : FnP Tryz.prog 49 [.p (.str ([] : List UInt8))] r :=
  FnP_run Galist0 F rfl (EnvOk_mk (l := []) trivial) (EnvROk_mk (l := [(86, sp_tell0)]) ⟨ok_tell0, trivial⟩) (Checked.mixed Tryz.checked) (fn := Tryz.f49) (by kernel_rfl) (by kernel_rfl) rfl h
def sp_alist0 : List AV → Option (AV × Option Prop)
  | [.p (.str [])] => some (.p .nil, none)
  | _ => none
theorem ok_alist0 : SpecOk Tryz.prog 49 sp_alist0 := by
  intro zs r ok he hok
  unfold sp_alist0 at he
  split at he
  · cases he; exact ⟨by kernel_rfl, fn_alist0 1 _ fun _ => by rw [Falist0_eq]⟩
  · cases he
end Go.Proofs.YtoanepondbagcaaGreatDoor
namespace Go.Proofs.YtoanepondbagcaaGreatDoor
open Go Go.Am
set_option linter.unusedVariables false
/-! strings.Trim at blanks and tabs, by the shelf. -/
def isBl2 (c : UInt8) : Bool := [32, 9].contains c
def trimBl (s : List UInt8) : List UInt8 := (s.reverse.dropWhile isBl2).reverse.dropWhile isBl2
theorem trimBl_lib (s : List UInt8) : Lib.trimS s [32, 9] = trimBl s := rfl
theorem dropWhile_le (p : UInt8 → Bool) : ∀ l : List UInt8, (l.dropWhile p).length ≤ l.length
  | [] => by simp
  | c :: r => by rw [List.dropWhile_cons]; split <;> simp; exact Nat.le_succ_of_le (dropWhile_le p r)
theorem trimBl_len (s : List UInt8) : (trimBl s).length ≤ s.length := by
  unfold trimBl
  have h1 := dropWhile_le isBl2 (s.reverse.dropWhile isBl2).reverse
  have h2 := dropWhile_le isBl2 s.reverse
  simp at h1 h2; omega
end Go.Proofs.YtoanepondbagcaaGreatDoor
namespace Go.Proofs.YtoanepondbagcaaGreatDoor
open Go.Shelf
def lays160_ren : Go.Shelf.Ren:=⟨fun |160=>119|232=>132|231=>138|227=>133|234=>134|233=>139|236=>135|235=>140|228=>153|271=>154|151=>155|197=>137|120=>171|152=>169|260=>156|137=>87|119=>183|224=>147|225=>146|217=>124|266=>145|n=>n, fun |9=>9|4=>4|3=>3|5=>5|117=>155|116=>154|0=>0|124=>158|21=>21|105=>160|46=>103|119=>176|139=>195|138=>194|n=>n, fun |3=>1|4=>2|n=>n⟩
theorem lays160 : Go.Proofs.Lays.n160 Tryz.prog lays160_ren:={
 mixed:=by kernel_rfl
 f119:=Tryz.func183.trans (congrArg some (by kernel_rfl))
 f120:=Tryz.func171.trans (congrArg some (by kernel_rfl))
 f137:=Tryz.func87.trans (congrArg some (by kernel_rfl))
 f151:=Tryz.func155.trans (congrArg some (by kernel_rfl))
 f152:=Tryz.func169.trans (congrArg some (by kernel_rfl))
 f160:=Tryz.func119.trans (congrArg some (by kernel_rfl))
 f197:=Tryz.func137.trans (congrArg some (by kernel_rfl))
 f217:=Tryz.func124.trans (congrArg some (by kernel_rfl))
 f224:=Tryz.func147.trans (congrArg some (by kernel_rfl))
 f225:=Tryz.func146.trans (congrArg some (by kernel_rfl))
 f227:=Tryz.func133.trans (congrArg some (by kernel_rfl))
 f228:=Tryz.func153.trans (congrArg some (by kernel_rfl))
 f231:=Tryz.func138.trans (congrArg some (by kernel_rfl))
 f232:=Tryz.func132.trans (congrArg some (by kernel_rfl))
 f233:=Tryz.func139.trans (congrArg some (by kernel_rfl))
 f234:=Tryz.func134.trans (congrArg some (by kernel_rfl))
 f235:=Tryz.func140.trans (congrArg some (by kernel_rfl))
 f236:=Tryz.func135.trans (congrArg some (by kernel_rfl))
 f260:=Tryz.func156.trans (congrArg some (by kernel_rfl))
 f266:=Tryz.func145.trans (congrArg some (by kernel_rfl))
 f271:=Tryz.func154.trans (congrArg some (by kernel_rfl))
 t0:=Tryz.underlying0
 a0:=Tryz.isAgg0
 z0:=Tryz.sizeOf0
 v0:=Tryz.zeroValue0
 t3:=Tryz.underlying3
 a3:=Tryz.isAgg3
 z3:=Tryz.sizeOf3
 v3:=Tryz.zeroValue3
 t4:=Tryz.underlying4
 a4:=Tryz.isAgg4
 z4:=Tryz.sizeOf4
 v4:=Tryz.zeroValue4
 t5:=Tryz.underlying5
 a5:=Tryz.isAgg5
 z5:=Tryz.sizeOf5
 v5:=Tryz.zeroValue5
 t9:=Tryz.underlying9
 a9:=Tryz.isAgg9
 z9:=Tryz.sizeOf9
 v9:=Tryz.zeroValue9
 t21:=Tryz.underlying21
 a21:=Tryz.isAgg21
 z21:=Tryz.sizeOf21
 v21:=Tryz.zeroValue21
 t46:=Tryz.underlying103
 a46:=Tryz.isAgg103
 z46:=Tryz.sizeOf103
 v46:=Tryz.zeroValue103
 t105:=Tryz.underlying160
 a105:=Tryz.isAgg160
 z105:=Tryz.sizeOf160
 v105:=Tryz.zeroValue160
 t116:=Tryz.underlying154
 a116:=Tryz.isAgg154
 z116:=Tryz.sizeOf154
 t117:=Tryz.underlying155
 a117:=Tryz.isAgg155
 z117:=Tryz.sizeOf155
 v117:=Tryz.zeroValue155
 t119:=Tryz.underlying176
 a119:=Tryz.isAgg176
 z119:=Tryz.sizeOf176
 t124:=Tryz.underlying158
 a124:=Tryz.isAgg158
 z124:=Tryz.sizeOf158
 v124:=Tryz.zeroValue158
 t138:=Tryz.underlying194
 a138:=Tryz.isAgg194
 z138:=Tryz.sizeOf194
 v138:=Tryz.zeroValue194
 t139:=Tryz.underlying195
 a139:=Tryz.isAgg195
 z139:=Tryz.sizeOf195
 v139:=Tryz.zeroValue195
 g3:=by kernel_rfl
 g4:=by kernel_rfl }
end Go.Proofs.YtoanepondbagcaaGreatDoor
namespace Go.Proofs.YtoanepondbagcaaGreatDoor
open Go Go.Am Go.Shelf
def sp_trim2 : List AV → Option (AV × Option Prop)
  | [.p (.str s), .p (.str [32, 9])] => some (.p (.str (trimBl s)), some (s.length ≤ 1000000))
  | _ => none
theorem ok_trim2 : SpecOk Tryz.prog 119 sp_trim2 := by
  intro zs r ok he hok
  unfold sp_trim2 at he
  split at he
  · rename_i s
    cases he
    refine ⟨by kernel_rfl, fun M w vs hM hvs => ?_⟩
    cases hvs with | cons h1 h2 =>
    cases h2 with | cons h2 h3 =>
    cases h3
    cases h1 with | p _ _ h1 =>
    cases h2 with | p _ _ h2 =>
    cases h1 with | str _ hs =>
    cases h2 with | str _ hc =>
    have hok : s.length ≤ 1000000 := hok
    have hcon := Any.strings_Trim_laid lays160 (by kernel_rfl) ⟨s.toArray⟩ ⟨#[32, 9]⟩ w (by show s.toArray.size ≤ _; simp; omega) (by decide) (ascii_of_all (by decide))
    refine Calls.mono hcon fun e w' ⟨he, hB⟩ => ?_
    refine ⟨_, M, he, MLe.refl M, fun _ _ => rfl, fun b q v hv => ?_, .p _ _ (.str (trimBl s) ?_), hB⟩
    · have hc := hM b q v hv
      have hb : b < w.heap.size := World.block_lt_of_cell? w ⟨b, q, none⟩ hc
      rw [World.cell?_of_block (w := w) (hB.block b hb)]; exact hc
    · have := trimBl_len s
      unfold maxLen; omega
  · cases he
end Go.Proofs.YtoanepondbagcaaGreatDoor
