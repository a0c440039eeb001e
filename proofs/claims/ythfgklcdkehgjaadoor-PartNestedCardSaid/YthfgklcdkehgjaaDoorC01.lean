/-
  Lifted functions, and facts about them.
-/
import Derived.Test.YthfgklcdkehgjaaDoorAmC
import Derived.WalkKit
import Derived.Test.YthfgklcdkehgjaaDoorRows
import Derived.Shelf.Strings.SlTrimAscii
import Derived.ShutString
/-! What holds by itself may be struck out of a text. -/
namespace Go.Am
open Go Go.RowKit
theorem need_congr {p : Prop} {x y : Option Ans} (h : x = y) : need p x = need p y := by rw [h]
theorem cond_congr {b : Bool} {x x' y y' : Option Ans} (h : x = x') (k : y = y') : cond b x y = cond b x' y' := by rw [h, k]
theorem need_strike {p : Prop} {x y : Option Ans} (hp : p) (h : x = y) : need p x = y := by rw [need_pos hp, h]
end Go.Am
/-! The long literals. -/
namespace Go.Proofs.YthfgklcdkehgjaaDoor
/-- 60 bytes. -/
def LB_0f549e2b : List UInt8 := [67, 111, 110, 116, 101, 110, 116, 45, 84, 121, 112, 101, 58, 32, 109, 117, 108, 116, 105, 112, 97, 114, 116, 47, 97, 108, 116, 101, 114, 110, 97, 116, 105, 118, 101, 59, 32, 98, 111, 117, 110, 100, 97, 114, 121, 61, 105, 110, 13, 10, 13, 10, 45, 45, 105, 110, 13, 10, 13, 10]
/-- 19 bytes. -/
def LB_476f38ec : List UInt8 := [99, 111, 110, 116, 101, 110, 116, 45, 100, 105, 115, 112, 111, 115, 105, 116, 105, 111, 110]
/-- 21 bytes. -/
def LB_6cd5733e : List UInt8 := [109, 117, 108, 116, 105, 112, 97, 114, 116, 47, 97, 108, 116, 101, 114, 110, 97, 116, 105, 118, 101]
/-- 35 bytes. -/
def LB_72bcdf0b : List UInt8 := [13, 10, 45, 45, 105, 110, 13, 10, 67, 111, 110, 116, 101, 110, 116, 45, 84, 121, 112, 101, 58, 32, 116, 101, 120, 116, 47, 104, 116, 109, 108, 13, 10, 13, 10]
/-- 64 bytes. -/
def LB_7543b37f : List UInt8 := [65, 66, 67, 68, 69, 70, 71, 72, 73, 74, 75, 76, 77, 78, 79, 80, 81, 82, 83, 84, 85, 86, 87, 88, 89, 90, 97, 98, 99, 100, 101, 102, 103, 104, 105, 106, 107, 108, 109, 110, 111, 112, 113, 114, 115, 116, 117, 118, 119, 120, 121, 122, 48, 49, 50, 51, 52, 53, 54, 55, 56, 57, 43, 47]
/-- 25 bytes. -/
def LB_7e72d125 : List UInt8 := [99, 111, 110, 116, 101, 110, 116, 45, 116, 114, 97, 110, 115, 102, 101, 114, 45, 101, 110, 99, 111, 100, 105, 110, 103]
/-- 54 bytes. -/
def LB_8d318e03 : List UInt8 := [67, 111, 110, 116, 101, 110, 116, 45, 84, 121, 112, 101, 58, 32, 109, 117, 108, 116, 105, 112, 97, 114, 116, 47, 109, 105, 120, 101, 100, 59, 32, 98, 111, 117, 110, 100, 97, 114, 121, 61, 111, 117, 116, 13, 10, 13, 10, 45, 45, 111, 117, 116, 13, 10]
end Go.Proofs.YthfgklcdkehgjaaDoor
namespace Go.Proofs.YthfgklcdkehgjaaDoor
open Go Go.Am
set_option linter.unusedVariables false
theorem ok64 {n : Int} (h0 : -1000000000000 ≤ n) (h1 : n ≤ 1000000000000) : i64ok n := by unfold i64ok; omega

theorem drop_cons {s : List UInt8} {i : Nat} {c : UInt8} {r : List UInt8} (h : s.drop i = c :: r) : s.getD i 0 = c ∧ s.drop (i + 1) = r ∧ s.length = i + 1 + r.length := by
  have h1 : s[i]? = some c := by
    have : (s.drop i)[0]? = some c := by rw [h]; rfl
    simpa using this
  refine ⟨by rw [List.getD_eq_getElem?_getD, h1]; rfl, ?_, ?_⟩
  · have : (s.drop i).drop 1 = r := by rw [h]; rfl
    simpa [List.drop_drop] using this
  · have := congrArg List.length h
    simp at this
    have : i < s.length := by
      rcases Nat.lt_or_ge i s.length with h' | h'
      · exact h'
      · rw [List.drop_of_length_le h'] at h; cases h
    omega
theorem u8_eq {c d : UInt8} : ((c.toNat : Int) = (d.toNat : Int)) ↔ c = d := by
  constructor
  · intro h; exact UInt8.toNat_inj.1 (by omega)
  · rintro rfl; rfl
theorem u8_of (x : Nat) : UInt8.ofNat (IntKind.u8.wrap (x : Int)).toNat = UInt8.ofNat x := by
  rw [u8_wrap]
  have : ((x : Int) % 256).toNat = x % 256 := by omega
  rw [this]
  apply UInt8.toNat_inj.1
  rw [UInt8.toNat_ofNat', UInt8.toNat_ofNat']
  omega
theorem fdiv_nat (x k : Nat) : (x : Int).fdiv (2 ^ k) = ((x / 2 ^ k : Nat) : Int) := by
  rw [Int.fdiv_eq_ediv_of_nonneg _ (Int.pow_nonneg (by decide)), Int.natCast_ediv, Int.natCast_pow]; rfl



def spStr (g : List UInt8 → List UInt8) : List AV → Option (AV × Option Prop)
  | [.p (.str s)] => some (.p (.str (g s)), some (s.length ≤ 1000000))
  | _ => none
theorem spStr_ok {f : FuncId} {g : List UInt8 → List UInt8} (hc : callable Tryd.prog f = true) (h : ∀ s, s.length ≤ 1000000 → FnP Tryd.prog f [.p (.str s)] (.p (.str (g s)))) : SpecOk Tryd.prog f (spStr g) := by
  intro zs r ok he hok
  unfold spStr at he
  split at he
  · cases he; exact ⟨hc, h _ hok⟩
  · cases he
end Go.Proofs.YthfgklcdkehgjaaDoor
namespace Go.Proofs.YthfgklcdkehgjaaDoor
open Go Go.Am
set_option linter.unusedVariables false
/-! strings.Trim at blanks and tabs, by the shelf. -/
def isBl2 (c : UInt8) : Bool := [32, 9].contains c
def trimBl (s : List UInt8) : List UInt8 := (s.reverse.dropWhile isBl2).reverse.dropWhile isBl2
theorem trimBl_lib (s : List UInt8) : Lib.trimS s [32, 9] = trimBl s := rfl
theorem dropWhile_le (p : UInt8 → Bool) : ∀ l : List UInt8, (l.dropWhile p).length ≤ l.length
  | [] => by simp
  | c :: r => by rw [List.dropWhile_cons]; split <;> simp; exact Nat.le_succ_of_le (dropWhile_le p r)
theorem trimBl_len (s : List UInt8) : (trimBl s).length ≤ s.length := by
  unfold trimBl
  have h1 := dropWhile_le isBl2 (s.reverse.dropWhile isBl2).reverse
  have h2 := dropWhile_le isBl2 s.reverse
  simp at h1 h2; omega
end Go.Proofs.YthfgklcdkehgjaaDoor
namespace Go.Proofs.YthfgklcdkehgjaaDoor
open Go.Shelf
def lays160_ren : Go.Shelf.Ren:=⟨fun |160=>48|232=>74|231=>66|227=>67|234=>75|233=>68|236=>76|235=>69|228=>72|271=>91|151=>89|197=>88|120=>98|152=>70|260=>97|137=>53|119=>90|224=>86|225=>85|217=>80|266=>94|n=>n, fun |9=>9|4=>4|3=>3|5=>5|117=>84|116=>83|0=>0|124=>87|21=>21|105=>98|46=>61|119=>106|139=>109|138=>108|n=>n, fun |3=>1|4=>2|n=>n⟩
theorem lays160 : Go.Proofs.Lays.n160 Tryd.prog lays160_ren:={
 mixed:=by kernel_rfl
 f119:=Tryd.func90.trans (congrArg some (by kernel_rfl))
 f120:=Tryd.func98.trans (congrArg some (by kernel_rfl))
 f137:=Tryd.func53.trans (congrArg some (by kernel_rfl))
 f151:=Tryd.func89.trans (congrArg some (by kernel_rfl))
 f152:=Tryd.func70.trans (congrArg some (by kernel_rfl))
 f160:=Tryd.func48.trans (congrArg some (by kernel_rfl))
 f197:=Tryd.func88.trans (congrArg some (by kernel_rfl))
 f217:=Tryd.func80.trans (congrArg some (by kernel_rfl))
 f224:=Tryd.func86.trans (congrArg some (by kernel_rfl))
 f225:=Tryd.func85.trans (congrArg some (by kernel_rfl))
 f227:=Tryd.func67.trans (congrArg some (by kernel_rfl))
 f228:=Tryd.func72.trans (congrArg some (by kernel_rfl))
 f231:=Tryd.func66.trans (congrArg some (by kernel_rfl))
 f232:=Tryd.func74.trans (congrArg some (by kernel_rfl))
 f233:=Tryd.func68.trans (congrArg some (by kernel_rfl))
 f234:=Tryd.func75.trans (congrArg some (by kernel_rfl))
 f235:=Tryd.func69.trans (congrArg some (by kernel_rfl))
 f236:=Tryd.func76.trans (congrArg some (by kernel_rfl))
 f260:=Tryd.func97.trans (congrArg some (by kernel_rfl))
 f266:=Tryd.func94.trans (congrArg some (by kernel_rfl))
 f271:=Tryd.func91.trans (congrArg some (by kernel_rfl))
 t0:=Tryd.underlying0
 a0:=Tryd.isAgg0
 z0:=Tryd.sizeOf0
 v0:=Tryd.zeroValue0
 t3:=Tryd.underlying3
 a3:=Tryd.isAgg3
 z3:=Tryd.sizeOf3
 v3:=Tryd.zeroValue3
 t4:=Tryd.underlying4
 a4:=Tryd.isAgg4
 z4:=Tryd.sizeOf4
 v4:=Tryd.zeroValue4
 t5:=Tryd.underlying5
 a5:=Tryd.isAgg5
 z5:=Tryd.sizeOf5
 v5:=Tryd.zeroValue5
 t9:=Tryd.underlying9
 a9:=Tryd.isAgg9
 z9:=Tryd.sizeOf9
 v9:=Tryd.zeroValue9
 t21:=Tryd.underlying21
 a21:=Tryd.isAgg21
 z21:=Tryd.sizeOf21
 v21:=Tryd.zeroValue21
 t46:=Tryd.underlying61
 a46:=Tryd.isAgg61
 z46:=Tryd.sizeOf61
 v46:=Tryd.zeroValue61
 t105:=Tryd.underlying98
 a105:=Tryd.isAgg98
 z105:=Tryd.sizeOf98
 v105:=Tryd.zeroValue98
 t116:=Tryd.underlying83
 a116:=Tryd.isAgg83
 z116:=Tryd.sizeOf83
 t117:=Tryd.underlying84
 a117:=Tryd.isAgg84
 z117:=Tryd.sizeOf84
 v117:=Tryd.zeroValue84
 t119:=Tryd.underlying106
 a119:=Tryd.isAgg106
 z119:=Tryd.sizeOf106
 t124:=Tryd.underlying87
 a124:=Tryd.isAgg87
 z124:=Tryd.sizeOf87
 v124:=Tryd.zeroValue87
 t138:=Tryd.underlying108
 a138:=Tryd.isAgg108
 z138:=Tryd.sizeOf108
 v138:=Tryd.zeroValue108
 t139:=Tryd.underlying109
 a139:=Tryd.isAgg109
 z139:=Tryd.sizeOf109
 v139:=Tryd.zeroValue109
 g3:=by kernel_rfl
 g4:=by kernel_rfl }
end Go.Proofs.YthfgklcdkehgjaaDoor
namespace Go.Proofs.YthfgklcdkehgjaaDoor
open Go Go.Am Go.Shelf
def sp_trim2 : List AV → Option (AV × Option Prop)
  | [.p (.str s), .p (.str [32, 9])] => some (.p (.str (trimBl s)), some (s.length ≤ 1000000))
  | _ => none
theorem ok_trim2 : SpecOk Tryd.prog 48 sp_trim2 := by
  intro zs r ok he hok
  unfold sp_trim2 at he
  split at he
  · rename_i s
    cases he
    refine ⟨by kernel_rfl, fun M w vs hM hvs => ?_⟩
    cases hvs with | cons h1 h2 =>
    cases h2 with | cons h2 h3 =>
    cases h3
    cases h1 with | p _ _ h1 =>
    cases h2 with | p _ _ h2 =>
    cases h1 with | str _ hs =>
    cases h2 with | str _ hc =>
    have hok : s.length ≤ 1000000 := hok
    have hcon := Any.strings_Trim_laid lays160 (by kernel_rfl) ⟨s.toArray⟩ ⟨#[32, 9]⟩ w (by show s.toArray.size ≤ _; simp; omega) (by decide) (ascii_of_all (by decide))
    refine Calls.mono hcon fun e w' ⟨he, hB⟩ => ?_
    refine ⟨_, M, he, MLe.refl M, fun _ _ => rfl, fun b q v hv => ?_, .p _ _ (.str (trimBl s) ?_), hB⟩
    · have hc := hM b q v hv
      have hb : b < w.heap.size := World.block_lt_of_cell? w ⟨b, q, none⟩ hc
      rw [World.cell?_of_block (w := w) (hB.block b hb)]; exact hc
    · have := trimBl_len s
      unfold maxLen; omega
  · cases he
end Go.Proofs.YthfgklcdkehgjaaDoor
