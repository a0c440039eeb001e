/-
  Lifted functions, and facts about them.
-/
import Derived.WalkKit
import Derived.Test.YthfgklcdkehgjaaDoorAmC
import Derived.Test.YthfgklcdkehgjaaDoorRows
import Derived.Shelf.Strings.SlTrimAscii
import Derived.ShutString
import Derived.Deep.RegionWith
import Derived.Laws.Runes
import Derived.Shelf.Small.Utf8
import Derived.WalkMore
import Derived.Shelf.Strings.IndexAnyAll
import Derived.Laws.RangeAny
import Derived.Lib.IndexAny
import Derived.Lib.OthersKept
import Derived.Lib.Bytealg
/-! The long literals. -/
namespace Go.Proofs.YthfgklcdkehgjaaDoor
/-- 19 bytes. -/
def LB_476f38ec : List UInt8 := [99, 111, 110, 116, 101, 110, 116, 45, 100, 105, 115, 112, 111, 115, 105, 116, 105, 111, 110]
/-- 47 bytes. -/
def LB_6bcf3b24 : List UInt8 := [67, 111, 110, 116, 101, 110, 116, 45, 84, 121, 112, 101, 58, 32, 109, 117, 108, 116, 105, 112, 97, 114, 116, 47, 77, 105, 120, 101, 100, 59, 32, 98, 111, 117, 110, 100, 97, 114, 121, 61, 34, 122, 122, 43, 122, 122, 34]
/-- 25 bytes. -/
def LB_7e72d125 : List UInt8 := [99, 111, 110, 116, 101, 110, 116, 45, 116, 114, 97, 110, 115, 102, 101, 114, 45, 101, 110, 99, 111, 100, 105, 110, 103]
end Go.Proofs.YthfgklcdkehgjaaDoor
/-! What holds by itself may be struck out of a text. -/
namespace Go.Am
open Go Go.RowKit
theorem need_congr {p : Prop} {x y : Option Ans} (h : x = y) : need p x = need p y := by rw [h]
theorem cond_congr {b : Bool} {x x' y y' : Option Ans} (h : x = x') (k : y = y') : cond b x y = cond b x' y' := by rw [h, k]
theorem need_strike {p : Prop} {x y : Option Ans} (hp : p) (h : x = y) : need p x = y := by rw [need_pos hp, h]
end Go.Am
namespace Go.Proofs.YthfgklcdkehgjaaDoor
open Go Go.Am
set_option linter.unusedVariables false

theorem drop_cons {s : List UInt8} {i : Nat} {c : UInt8} {r : List UInt8} (h : s.drop i = c :: r) : s.getD i 0 = c ∧ s.drop (i + 1) = r ∧ s.length = i + 1 + r.length := by
  have h1 : s[i]? = some c := by
    have : (s.drop i)[0]? = some c := by rw [h]; rfl
    simpa using this
  refine ⟨by rw [List.getD_eq_getElem?_getD, h1]; rfl, ?_, ?_⟩
  · have : (s.drop i).drop 1 = r := by rw [h]; rfl
    simpa [List.drop_drop] using this
  · have := congrArg List.length h
    simp at this
    have : i < s.length := by
      rcases Nat.lt_or_ge i s.length with h' | h'
      · exact h'
      · rw [List.drop_of_length_le h'] at h; cases h
    omega
theorem u8_of (x : Nat) : UInt8.ofNat (IntKind.u8.wrap (x : Int)).toNat = UInt8.ofNat x := by
  rw [u8_wrap]
  have : ((x : Int) % 256).toNat = x % 256 := by omega
  rw [this]
  apply UInt8.toNat_inj.1
  rw [UInt8.toNat_ofNat', UInt8.toNat_ofNat']
  omega



end Go.Proofs.YthfgklcdkehgjaaDoor
namespace Go.Proofs.YthfgklcdkehgjaaDoor
open Go Go.Am
set_option linter.unusedVariables false
/-! strings.Trim at blanks and tabs, by the shelf. -/
def isBl2 (c : UInt8) : Bool := [32, 9].contains c
def trimBl (s : List UInt8) : List UInt8 := (s.reverse.dropWhile isBl2).reverse.dropWhile isBl2
theorem trimBl_lib (s : List UInt8) : Lib.trimS s [32, 9] = trimBl s := rfl
theorem dropWhile_le (p : UInt8 → Bool) : ∀ l : List UInt8, (l.dropWhile p).length ≤ l.length
  | [] => by simp
  | c :: r => by rw [List.dropWhile_cons]; split <;> simp; exact Nat.le_succ_of_le (dropWhile_le p r)
theorem trimBl_len (s : List UInt8) : (trimBl s).length ≤ s.length := by
  unfold trimBl
  have h1 := dropWhile_le isBl2 (s.reverse.dropWhile isBl2).reverse
  have h2 := dropWhile_le isBl2 s.reverse
  simp at h1 h2; omega
end Go.Proofs.YthfgklcdkehgjaaDoor
namespace Go.Proofs.YthfgklcdkehgjaaDoor
open Go.Shelf
def lays160_ren : Go.Shelf.Ren:=⟨fun |160=>48|232=>74|231=>66|227=>67|234=>75|233=>68|236=>76|235=>69|228=>72|271=>91|151=>89|197=>88|120=>98|152=>70|260=>97|137=>53|119=>90|224=>86|225=>85|217=>80|266=>94|n=>n, fun |9=>9|4=>4|3=>3|5=>5|117=>84|116=>83|0=>0|124=>87|21=>21|105=>98|46=>61|119=>106|139=>109|138=>108|n=>n, fun |3=>1|4=>2|n=>n⟩
theorem lays160 : Go.Proofs.Lays.n160 Tryd.prog lays160_ren:={
 mixed:=by kernel_rfl
 f119:=Tryd.func90.trans (congrArg some (by kernel_rfl))
 f120:=Tryd.func98.trans (congrArg some (by kernel_rfl))
 f137:=Tryd.func53.trans (congrArg some (by kernel_rfl))
 f151:=Tryd.func89.trans (congrArg some (by kernel_rfl))
 f152:=Tryd.func70.trans (congrArg some (by kernel_rfl))
 f160:=Tryd.func48.trans (congrArg some (by kernel_rfl))
 f197:=Tryd.func88.trans (congrArg some (by kernel_rfl))
 f217:=Tryd.func80.trans (congrArg some (by kernel_rfl))
 f224:=Tryd.func86.trans (congrArg some (by kernel_rfl))
 f225:=Tryd.func85.trans (congrArg some (by kernel_rfl))
 f227:=Tryd.func67.trans (congrArg some (by kernel_rfl))
 f228:=Tryd.func72.trans (congrArg some (by kernel_rfl))
 f231:=Tryd.func66.trans (congrArg some (by kernel_rfl))
 f232:=Tryd.func74.trans (congrArg some (by kernel_rfl))
 f233:=Tryd.func68.trans (congrArg some (by kernel_rfl))
 f234:=Tryd.func75.trans (congrArg some (by kernel_rfl))
 f235:=Tryd.func69.trans (congrArg some (by kernel_rfl))
 f236:=Tryd.func76.trans (congrArg some (by kernel_rfl))
 f260:=Tryd.func97.trans (congrArg some (by kernel_rfl))
 f266:=Tryd.func94.trans (congrArg some (by kernel_rfl))
 f271:=Tryd.func91.trans (congrArg some (by kernel_rfl))
 t0:=Tryd.underlying0
 a0:=Tryd.isAgg0
 z0:=Tryd.sizeOf0
 v0:=Tryd.zeroValue0
 t3:=Tryd.underlying3
 a3:=Tryd.isAgg3
 z3:=Tryd.sizeOf3
 v3:=Tryd.zeroValue3
 t4:=Tryd.underlying4
 a4:=Tryd.isAgg4
 z4:=Tryd.sizeOf4
 v4:=Tryd.zeroValue4
 t5:=Tryd.underlying5
 a5:=Tryd.isAgg5
 z5:=Tryd.sizeOf5
 v5:=Tryd.zeroValue5
 t9:=Tryd.underlying9
 a9:=Tryd.isAgg9
 z9:=Tryd.sizeOf9
 v9:=Tryd.zeroValue9
 t21:=Tryd.underlying21
 a21:=Tryd.isAgg21
 z21:=Tryd.sizeOf21
 v21:=Tryd.zeroValue21
 t46:=Tryd.underlying61
 a46:=Tryd.isAgg61
 z46:=Tryd.sizeOf61
 v46:=Tryd.zeroValue61
 t105:=Tryd.underlying98
 a105:=Tryd.isAgg98
 z105:=Tryd.sizeOf98
 v105:=Tryd.zeroValue98
 t116:=Tryd.underlying83
 a116:=Tryd.isAgg83
 z116:=Tryd.sizeOf83
 t117:=Tryd.underlying84
 a117:=Tryd.isAgg84
 z117:=Tryd.sizeOf84
 v117:=Tryd.zeroValue84
 t119:=Tryd.underlying106
 a119:=Tryd.isAgg106
 z119:=Tryd.sizeOf106
 t124:=Tryd.underlying87
 a124:=Tryd.isAgg87
 z124:=Tryd.sizeOf87
 v124:=Tryd.zeroValue87
 t138:=Tryd.underlying108
 a138:=Tryd.isAgg108
 z138:=Tryd.sizeOf108
 v138:=Tryd.zeroValue108
 t139:=Tryd.underlying109
 a139:=Tryd.isAgg109
 z139:=Tryd.sizeOf109
 v139:=Tryd.zeroValue109
 g3:=by kernel_rfl
 g4:=by kernel_rfl }
end Go.Proofs.YthfgklcdkehgjaaDoor
namespace Go.Proofs.YthfgklcdkehgjaaDoor
open Go Go.Am Go.Shelf
def sp_trim2 : List AV → Option (AV × Option Prop)
  | [.p (.str s), .p (.str [32, 9])] => some (.p (.str (trimBl s)), some (s.length ≤ 1000000))
  | _ => none
theorem ok_trim2 : SpecOk Tryd.prog 48 sp_trim2 := by
  intro zs r ok he hok
  unfold sp_trim2 at he
  split at he
  · rename_i s
    cases he
    refine ⟨by kernel_rfl, fun M w vs hM hvs => ?_⟩
    cases hvs with | cons h1 h2 =>
    cases h2 with | cons h2 h3 =>
    cases h3
    cases h1 with | p _ _ h1 =>
    cases h2 with | p _ _ h2 =>
    cases h1 with | str _ hs =>
    cases h2 with | str _ hc =>
    have hok : s.length ≤ 1000000 := hok
    have hcon := Any.strings_Trim_laid lays160 (by kernel_rfl) ⟨s.toArray⟩ ⟨#[32, 9]⟩ w (by show s.toArray.size ≤ _; simp; omega) (by decide) (ascii_of_all (by decide))
    refine Calls.mono hcon fun e w' ⟨he, hB⟩ => ?_
    refine ⟨_, M, he, MLe.refl M, fun _ _ => rfl, fun b q v hv => ?_, .p _ _ (.str (trimBl s) ?_), hB⟩
    · have hc := hM b q v hv
      have hb : b < w.heap.size := World.block_lt_of_cell? w ⟨b, q, none⟩ hc
      rw [World.cell?_of_block (w := w) (hB.block b hb)]; exact hc
    · have := trimBl_len s
      unfold maxLen; omega
  · cases he
end Go.Proofs.YthfgklcdkehgjaaDoor
namespace Go.Proofs.YthfgklcdkehgjaaDoor
open Go Go.Am
set_option linter.unusedVariables false
/-! strings.IndexAny at two signs, whatever the text. -/
end Go.Proofs.YthfgklcdkehgjaaDoor
namespace Go.Proofs.YthfgklcdkehgjaaDoor
open Go Go.RowKit Go.Lib
theorem inB_ret {i : Nat} {Q : Exit → Act → World → Prop} {a : Act} {w : World} : Exit.inBlock i Q .ret a w = Q .ret a w := rfl
theorem then_ret {K : Act → World → Prop} {Q : Exit → Act → World → Prop} {a : Act} {w : World} : Exit.then K Q .ret a w = Q .ret a w := rfl
open Go.Shelf in
theorem enc_high (r : Int) (h : 128 ≤ r) : (∃ a b : UInt8, Utf8.encode r = ⟨#[a, b]⟩ ∧ 128 ≤ b.toNat) ∨ (∃ a b c : UInt8, Utf8.encode r = ⟨#[a, b, c]⟩) ∨ (∃ a b c d : UInt8, Utf8.encode r = ⟨#[a, b, c, d]⟩) := by
  have hc : 128 ≤ (if Utf8.valid r then r.toNat else Utf8.runeError) := by
    split
    · omega
    · decide
  unfold Utf8.encode
  dsimp only
  generalize (if Utf8.valid r then r.toNat else Utf8.runeError) = c at hc
  rw [if_neg (by omega)]
  split
  · refine .inl ⟨_, _, rfl, ?_⟩
    rw [UInt8.toNat_ofNat']; omega
  · split
    · exact .inr (.inl ⟨_, _, _, rfl⟩)
    · exact .inr (.inr ⟨_, _, _, _, rfl⟩)
set_option maxHeartbeats 4000000 in
set_option maxRecDepth 100000 in
theorem ir_bad (w : World) : Calls Tryd.prog 70 #[.string ⟨#[61, 59]⟩, .int .i32 65533] w fun e w' => e = .returned (.int .i64 (-1)) ∧ Below w.heap.size w w' := by
  go_enter Tryd.func70, Tryd.ntmps70
  go_wp2
  go_loopg [5, 6] 2 (fun g _ _ wx => ∃ i : Nat, i + g = 2 ∧ wx = w.iter ⟨#[61, 59]⟩ i)
  case atStart => exact ⟨0, by omega, rfl⟩
  case round =>
    obtain ⟨i, hig, rfl⟩ := hrel
    cases gk with
    | zero =>
      obtain rfl : i = 2 := by omega
      have hnx := fun ty => run_next_end (P := Tryd.prog) w ⟨#[61, 59]⟩ 2 ty (by decide)
      go_wp2
      go_ret
      exact ⟨rfl, (Below.refl _ _).alloc (Nat.le_refl _) _⟩
    | succ g =>
      rcases (show i = 0 ∨ i = 1 by omega) with rfl | rfl
      · have hnx := fun ty => run_next_ascii (P := Tryd.prog) w ⟨#[61, 59]⟩ 0 ty (by decide) (by decide)
        go_wp2
        go_roundg g
        case measure => omega
        case rel => exact ⟨1, by omega, rfl⟩
      · have hnx := fun ty => run_next_ascii (P := Tryd.prog) w ⟨#[61, 59]⟩ 1 ty (by decide) (by decide)
        go_wp2
        go_roundg g
        case measure => omega
        case rel => exact ⟨2, by omega, rfl⟩
end Go.Proofs.YthfgklcdkehgjaaDoor
namespace Go.Proofs.YthfgklcdkehgjaaDoor
open Go.Shelf
def lays119_ren : Go.Shelf.Ren:=⟨fun |119=>90|n=>n, fun |21=>21|4=>4|n=>n, fun |n=>n⟩
theorem lays119 : Go.Proofs.Lays.n119 Tryd.prog lays119_ren:={
 mixed:=by kernel_rfl
 f119:=Tryd.func90.trans (congrArg some (by kernel_rfl))
 t4:=Tryd.underlying4
 a4:=Tryd.isAgg4
 z4:=Tryd.sizeOf4
 v4:=Tryd.zeroValue4
 t21:=Tryd.underlying21
 a21:=Tryd.isAgg21
 z21:=Tryd.sizeOf21
 v21:=Tryd.zeroValue21 }
def lays153_ren : Go.Shelf.Ren:=⟨fun |153=>43|152=>70|226=>71|227=>67|228=>72|137=>53|119=>90|224=>86|225=>85|217=>80|266=>94|n=>n, fun |9=>9|3=>3|4=>4|5=>5|21=>21|117=>84|116=>83|0=>0|46=>61|124=>87|n=>n, fun |n=>n⟩
theorem lays153 : Go.Proofs.Lays.n153 Tryd.prog lays153_ren:={
 mixed:=by kernel_rfl
 f119:=Tryd.func90.trans (congrArg some (by kernel_rfl))
 f137:=Tryd.func53.trans (congrArg some (by kernel_rfl))
 f152:=Tryd.func70.trans (congrArg some (by kernel_rfl))
 f153:=Tryd.func43.trans (congrArg some (by kernel_rfl))
 f217:=Tryd.func80.trans (congrArg some (by kernel_rfl))
 f224:=Tryd.func86.trans (congrArg some (by kernel_rfl))
 f225:=Tryd.func85.trans (congrArg some (by kernel_rfl))
 f226:=Tryd.func71.trans (congrArg some (by kernel_rfl))
 f227:=Tryd.func67.trans (congrArg some (by kernel_rfl))
 f228:=Tryd.func72.trans (congrArg some (by kernel_rfl))
 f266:=Tryd.func94.trans (congrArg some (by kernel_rfl))
 t0:=Tryd.underlying0
 a0:=Tryd.isAgg0
 z0:=Tryd.sizeOf0
 v0:=Tryd.zeroValue0
 t3:=Tryd.underlying3
 a3:=Tryd.isAgg3
 z3:=Tryd.sizeOf3
 v3:=Tryd.zeroValue3
 t4:=Tryd.underlying4
 a4:=Tryd.isAgg4
 z4:=Tryd.sizeOf4
 v4:=Tryd.zeroValue4
 t5:=Tryd.underlying5
 a5:=Tryd.isAgg5
 z5:=Tryd.sizeOf5
 v5:=Tryd.zeroValue5
 t9:=Tryd.underlying9
 a9:=Tryd.isAgg9
 z9:=Tryd.sizeOf9
 v9:=Tryd.zeroValue9
 t21:=Tryd.underlying21
 a21:=Tryd.isAgg21
 z21:=Tryd.sizeOf21
 v21:=Tryd.zeroValue21
 t46:=Tryd.underlying61
 a46:=Tryd.isAgg61
 z46:=Tryd.sizeOf61
 v46:=Tryd.zeroValue61
 t116:=Tryd.underlying83
 a116:=Tryd.isAgg83
 z116:=Tryd.sizeOf83
 t117:=Tryd.underlying84
 a117:=Tryd.isAgg84
 z117:=Tryd.sizeOf84
 v117:=Tryd.zeroValue84
 t124:=Tryd.underlying87
 a124:=Tryd.isAgg87
 z124:=Tryd.sizeOf87
 v124:=Tryd.zeroValue87 }
def lays161_ren : Go.Shelf.Ren:=⟨fun |161=>42|231=>66|227=>67|233=>68|235=>69|228=>72|197=>88|151=>89|260=>97|152=>70|137=>53|119=>90|224=>86|225=>85|217=>80|266=>94|n=>n, fun |9=>9|4=>4|3=>3|5=>5|117=>84|116=>83|0=>0|124=>87|105=>98|21=>21|119=>106|46=>61|139=>109|138=>108|n=>n, fun |3=>1|4=>2|n=>n⟩
theorem lays161 : Go.Proofs.Lays.n161 Tryd.prog lays161_ren:={
 mixed:=by kernel_rfl
 f119:=Tryd.func90.trans (congrArg some (by kernel_rfl))
 f137:=Tryd.func53.trans (congrArg some (by kernel_rfl))
 f151:=Tryd.func89.trans (congrArg some (by kernel_rfl))
 f152:=Tryd.func70.trans (congrArg some (by kernel_rfl))
 f161:=Tryd.func42.trans (congrArg some (by kernel_rfl))
 f197:=Tryd.func88.trans (congrArg some (by kernel_rfl))
 f217:=Tryd.func80.trans (congrArg some (by kernel_rfl))
 f224:=Tryd.func86.trans (congrArg some (by kernel_rfl))
 f225:=Tryd.func85.trans (congrArg some (by kernel_rfl))
 f227:=Tryd.func67.trans (congrArg some (by kernel_rfl))
 f228:=Tryd.func72.trans (congrArg some (by kernel_rfl))
 f231:=Tryd.func66.trans (congrArg some (by kernel_rfl))
 f233:=Tryd.func68.trans (congrArg some (by kernel_rfl))
 f235:=Tryd.func69.trans (congrArg some (by kernel_rfl))
 f260:=Tryd.func97.trans (congrArg some (by kernel_rfl))
 f266:=Tryd.func94.trans (congrArg some (by kernel_rfl))
 t0:=Tryd.underlying0
 a0:=Tryd.isAgg0
 z0:=Tryd.sizeOf0
 v0:=Tryd.zeroValue0
 t3:=Tryd.underlying3
 a3:=Tryd.isAgg3
 z3:=Tryd.sizeOf3
 v3:=Tryd.zeroValue3
 t4:=Tryd.underlying4
 a4:=Tryd.isAgg4
 z4:=Tryd.sizeOf4
 v4:=Tryd.zeroValue4
 t5:=Tryd.underlying5
 a5:=Tryd.isAgg5
 z5:=Tryd.sizeOf5
 v5:=Tryd.zeroValue5
 t9:=Tryd.underlying9
 a9:=Tryd.isAgg9
 z9:=Tryd.sizeOf9
 v9:=Tryd.zeroValue9
 t21:=Tryd.underlying21
 a21:=Tryd.isAgg21
 z21:=Tryd.sizeOf21
 v21:=Tryd.zeroValue21
 t46:=Tryd.underlying61
 a46:=Tryd.isAgg61
 z46:=Tryd.sizeOf61
 v46:=Tryd.zeroValue61
 t105:=Tryd.underlying98
 a105:=Tryd.isAgg98
 z105:=Tryd.sizeOf98
 v105:=Tryd.zeroValue98
 t116:=Tryd.underlying83
 a116:=Tryd.isAgg83
 z116:=Tryd.sizeOf83
 t117:=Tryd.underlying84
 a117:=Tryd.isAgg84
 z117:=Tryd.sizeOf84
 v117:=Tryd.zeroValue84
 t119:=Tryd.underlying106
 a119:=Tryd.isAgg106
 z119:=Tryd.sizeOf106
 t124:=Tryd.underlying87
 a124:=Tryd.isAgg87
 z124:=Tryd.sizeOf87
 v124:=Tryd.zeroValue87
 t138:=Tryd.underlying108
 a138:=Tryd.isAgg108
 z138:=Tryd.sizeOf108
 v138:=Tryd.zeroValue108
 t139:=Tryd.underlying109
 a139:=Tryd.isAgg109
 z139:=Tryd.sizeOf109
 v139:=Tryd.zeroValue109
 g3:=by kernel_rfl
 g4:=by kernel_rfl }
def lays162_ren : Go.Shelf.Ren:=⟨fun |162=>46|232=>74|227=>67|234=>75|236=>76|228=>72|271=>91|151=>89|120=>98|197=>88|152=>70|260=>97|137=>53|119=>90|224=>86|225=>85|217=>80|266=>94|n=>n, fun |9=>9|4=>4|3=>3|5=>5|117=>84|116=>83|0=>0|124=>87|21=>21|105=>98|46=>61|119=>106|139=>109|138=>108|n=>n, fun |3=>1|4=>2|n=>n⟩
theorem lays162 : Go.Proofs.Lays.n162 Tryd.prog lays162_ren:={
 mixed:=by kernel_rfl
 f119:=Tryd.func90.trans (congrArg some (by kernel_rfl))
 f120:=Tryd.func98.trans (congrArg some (by kernel_rfl))
 f137:=Tryd.func53.trans (congrArg some (by kernel_rfl))
 f151:=Tryd.func89.trans (congrArg some (by kernel_rfl))
 f152:=Tryd.func70.trans (congrArg some (by kernel_rfl))
 f162:=Tryd.func46.trans (congrArg some (by kernel_rfl))
 f197:=Tryd.func88.trans (congrArg some (by kernel_rfl))
 f217:=Tryd.func80.trans (congrArg some (by kernel_rfl))
 f224:=Tryd.func86.trans (congrArg some (by kernel_rfl))
 f225:=Tryd.func85.trans (congrArg some (by kernel_rfl))
 f227:=Tryd.func67.trans (congrArg some (by kernel_rfl))
 f228:=Tryd.func72.trans (congrArg some (by kernel_rfl))
 f232:=Tryd.func74.trans (congrArg some (by kernel_rfl))
 f234:=Tryd.func75.trans (congrArg some (by kernel_rfl))
 f236:=Tryd.func76.trans (congrArg some (by kernel_rfl))
 f260:=Tryd.func97.trans (congrArg some (by kernel_rfl))
 f266:=Tryd.func94.trans (congrArg some (by kernel_rfl))
 f271:=Tryd.func91.trans (congrArg some (by kernel_rfl))
 t0:=Tryd.underlying0
 a0:=Tryd.isAgg0
 z0:=Tryd.sizeOf0
 v0:=Tryd.zeroValue0
 t3:=Tryd.underlying3
 a3:=Tryd.isAgg3
 z3:=Tryd.sizeOf3
 v3:=Tryd.zeroValue3
 t4:=Tryd.underlying4
 a4:=Tryd.isAgg4
 z4:=Tryd.sizeOf4
 v4:=Tryd.zeroValue4
 t5:=Tryd.underlying5
 a5:=Tryd.isAgg5
 z5:=Tryd.sizeOf5
 v5:=Tryd.zeroValue5
 t9:=Tryd.underlying9
 a9:=Tryd.isAgg9
 z9:=Tryd.sizeOf9
 v9:=Tryd.zeroValue9
 t21:=Tryd.underlying21
 a21:=Tryd.isAgg21
 z21:=Tryd.sizeOf21
 v21:=Tryd.zeroValue21
 t46:=Tryd.underlying61
 a46:=Tryd.isAgg61
 z46:=Tryd.sizeOf61
 v46:=Tryd.zeroValue61
 t105:=Tryd.underlying98
 a105:=Tryd.isAgg98
 z105:=Tryd.sizeOf98
 v105:=Tryd.zeroValue98
 t116:=Tryd.underlying83
 a116:=Tryd.isAgg83
 z116:=Tryd.sizeOf83
 t117:=Tryd.underlying84
 a117:=Tryd.isAgg84
 z117:=Tryd.sizeOf84
 v117:=Tryd.zeroValue84
 t119:=Tryd.underlying106
 a119:=Tryd.isAgg106
 z119:=Tryd.sizeOf106
 t124:=Tryd.underlying87
 a124:=Tryd.isAgg87
 z124:=Tryd.sizeOf87
 v124:=Tryd.zeroValue87
 t138:=Tryd.underlying108
 a138:=Tryd.isAgg108
 z138:=Tryd.sizeOf108
 v138:=Tryd.zeroValue108
 t139:=Tryd.underlying109
 a139:=Tryd.isAgg109
 z139:=Tryd.sizeOf109
 v139:=Tryd.zeroValue109
 g3:=by kernel_rfl
 g4:=by kernel_rfl }
def lays137_ren : Go.Shelf.Ren:=⟨fun |137=>53|217=>80|266=>94|n=>n, fun |9=>9|5=>5|3=>3|n=>n, fun |n=>n⟩
theorem lays137 : Go.Proofs.Lays.n137 Tryd.prog lays137_ren:={
 mixed:=by kernel_rfl
 f137:=Tryd.func53.trans (congrArg some (by kernel_rfl))
 f217:=Tryd.func80.trans (congrArg some (by kernel_rfl))
 f266:=Tryd.func94.trans (congrArg some (by kernel_rfl))
 t3:=Tryd.underlying3
 a3:=Tryd.isAgg3
 z3:=Tryd.sizeOf3
 v3:=Tryd.zeroValue3
 t5:=Tryd.underlying5
 a5:=Tryd.isAgg5
 z5:=Tryd.sizeOf5
 v5:=Tryd.zeroValue5
 t9:=Tryd.underlying9
 a9:=Tryd.isAgg9
 z9:=Tryd.sizeOf9
 v9:=Tryd.zeroValue9 }
end Go.Proofs.YthfgklcdkehgjaaDoor
namespace Go.Proofs.YthfgklcdkehgjaaDoor
open Go Go.RowKit Go.Lib
set_option maxHeartbeats 4000000 in
set_option maxRecDepth 100000 in
theorem ir2 (r : Int) (h : 128 ≤ r) (h2 : r ≠ 65533) (a b : UInt8) (hb : 128 ≤ b.toNat) (hE : Utf8.encode r = ⟨#[a, b]⟩) (w : World) : Calls Tryd.prog 70 #[.string ⟨#[61, 59]⟩, .int .i32 r] w fun e w' => e = .returned (.int .i64 (-1)) ∧ Below w.heap.size w w' := by
  have mixed := Checked.mixed Tryd.checked
  have hV : Calls Tryd.prog 90 #[.int .i32 r] w fun e w' => e = .returned (.bool (Lib.validRune r)) ∧ w' = w := Any.utf8_ValidRune lays119 r w
  have hIB : ∀ (s : ByteArray) (c : Int) (w : World), Calls Tryd.prog 53 #[.string s, .int .u8 c] w fun e w' => e = .returned (.int .i64 (Lib.indexByte s.data.toList c.toNat.toUInt8)) ∧ w' = w := fun s c w => Any.strings_IndexByte lays137 s c w
  have q0 : ((59 : Int) == (b.toNat : Int)) = false := beq_eq_false_iff_ne.2 (by omega)
  have q1 : decide ((0 : Int) ≤ r) = true := decide_eq_true (by omega)
  have q2 : decide (r < (128 : Int)) = false := decide_eq_false (by omega)
  have q3 : (r == (65533 : Int)) = false := beq_eq_false_iff_ne.2 h2
  go_enter Tryd.func70, Tryd.ntmps70
  go_wp2_with (go_at_call 90; refine hV.mono ?_; rintro e w' ⟨rfl, hw⟩; rw [hw])
  cases hw
  have hconv := run_convert_int_string (P := Tryd.prog) w 21 9 .i32 r (by kernel_rfl) (by kernel_rfl)
  rw [hE] at hconv
  go_wp2
  · go_ret; exact ⟨rfl, Below.refl _ _⟩
  go_step3
  go_wp2
  go_loopg [9, 10] 1 (fun g s9 s10 wx => s9 = .int .i64 1 ∧ s10 = .int .i64 0 ∧ wx = w)
  case atStart => exact ⟨rfl, rfl, rfl⟩
  case round =>
    obtain ⟨rfl, rfl, rfl⟩ := hrel
    go_wp2
    go_step3
    go_wp2_with (go_at_call 53; refine (hIB _ _ _).mono ?_; rintro e w' ⟨rfl, hw2⟩; rw [hw2])
    go_region_o
    all_goals go_wp2
    · go_region_with (go_at_call 53; refine (hIB _ _ _).mono ?_; rintro e w' ⟨rfl, hw2⟩; rw [hw2])
      all_goals go_wp2
      all_goals (simp only [inB_ret, then_ret, Exit.noGoto_ret]; go_ret; refine ⟨?_, ((Below.refl _ _).drew).drew⟩; first | rfl | (simp [Lib.indexByte]))
    · exfalso
      rename_i h0 hbad
      have e0 : ((59 : Int) != (b.toNat : Int)) = false := by rename_i h1 h2; first | exact hbad | exact h1 | exact h2 | assumption
      rw [bne, q0] at e0
      cases e0
set_option maxHeartbeats 4000000 in
set_option maxRecDepth 100000 in
theorem ir3 (r : Int) (h : 128 ≤ r) (h2 : r ≠ 65533) (a b c : UInt8) (hE : Utf8.encode r = ⟨#[a, b, c]⟩) (w : World) : Calls Tryd.prog 70 #[.string ⟨#[61, 59]⟩, .int .i32 r] w fun e w' => e = .returned (.int .i64 (-1)) ∧ Below w.heap.size w w' := by
  have mixed := Checked.mixed Tryd.checked
  have hV : Calls Tryd.prog 90 #[.int .i32 r] w fun e w' => e = .returned (.bool (Lib.validRune r)) ∧ w' = w := Any.utf8_ValidRune lays119 r w
  have q1 : decide ((0 : Int) ≤ r) = true := decide_eq_true (by omega)
  have q2 : decide (r < (128 : Int)) = false := decide_eq_false (by omega)
  have q3 : (r == (65533 : Int)) = false := beq_eq_false_iff_ne.2 h2
  go_enter Tryd.func70, Tryd.ntmps70
  go_wp2_with (go_at_call 90; refine hV.mono ?_; rintro e w' ⟨rfl, hw⟩; rw [hw])
  cases hw
  have hconv := run_convert_int_string (P := Tryd.prog) w 21 9 .i32 r (by kernel_rfl) (by kernel_rfl)
  rw [hE] at hconv
  go_wp2
  · go_ret; exact ⟨rfl, Below.refl _ _⟩
  go_step3
  go_wp2
  go_loopg [9, 10] 1 (fun g s9 s10 wx => s9 = .int .i64 2 ∧ s10 = .int .i64 0 ∧ wx = w)
  case atStart => exact ⟨rfl, rfl, rfl⟩
  case round =>
    obtain ⟨rfl, rfl, rfl⟩ := hrel
    go_wp2
    rw [Exit.noGoto_ret]
    go_ret
    exact ⟨rfl, Below.refl _ _⟩
set_option maxHeartbeats 4000000 in
set_option maxRecDepth 100000 in
theorem ir4 (r : Int) (h : 128 ≤ r) (h2 : r ≠ 65533) (a b c d : UInt8) (hE : Utf8.encode r = ⟨#[a, b, c, d]⟩) (w : World) : Calls Tryd.prog 70 #[.string ⟨#[61, 59]⟩, .int .i32 r] w fun e w' => e = .returned (.int .i64 (-1)) ∧ Below w.heap.size w w' := by
  have mixed := Checked.mixed Tryd.checked
  have hV : Calls Tryd.prog 90 #[.int .i32 r] w fun e w' => e = .returned (.bool (Lib.validRune r)) ∧ w' = w := Any.utf8_ValidRune lays119 r w
  have q1 : decide ((0 : Int) ≤ r) = true := decide_eq_true (by omega)
  have q2 : decide (r < (128 : Int)) = false := decide_eq_false (by omega)
  have q3 : (r == (65533 : Int)) = false := beq_eq_false_iff_ne.2 h2
  go_enter Tryd.func70, Tryd.ntmps70
  go_wp2_with (go_at_call 90; refine hV.mono ?_; rintro e w' ⟨rfl, hw⟩; rw [hw])
  cases hw
  have hconv := run_convert_int_string (P := Tryd.prog) w 21 9 .i32 r (by kernel_rfl) (by kernel_rfl)
  rw [hE] at hconv
  go_wp2
  · go_ret; exact ⟨rfl, Below.refl _ _⟩
  go_step3
  go_wp2
  go_loopg [9, 10] 1 (fun g s9 s10 wx => s9 = .int .i64 3 ∧ s10 = .int .i64 0 ∧ wx = w)
  case atStart => exact ⟨rfl, rfl, rfl⟩
  case round =>
    obtain ⟨rfl, rfl, rfl⟩ := hrel
    go_wp2
    rw [Exit.noGoto_ret]
    go_ret
    exact ⟨rfl, Below.refl _ _⟩
theorem ir_all (r : Nat) (h : 128 ≤ r) (w : World) : Calls Tryd.prog 70 #[.string ⟨#[61, 59]⟩, .int .i32 (r : Int)] w fun e w' => e = .returned (.int .i64 (-1)) ∧ Below w.heap.size w w' := by
  by_cases h0 : r = 65533
  · subst h0; exact ir_bad w
  · rcases enc_high (r : Int) (by omega) with ⟨a, b, hE, hb⟩ | ⟨a, b, c, hE⟩ | ⟨a, b, c, d, hE⟩
    · exact ir2 _ (by omega) (by omega) a b hb hE w
    · exact ir3 _ (by omega) (by omega) a b c hE w
    · exact ir4 _ (by omega) (by omega) a b c d hE w
theorem dec_cover (s : ByteArray) (pos : Nat) (h : pos < s.size) (ha : 128 ≤ (s[pos]'h).toNat) : ∀ j, j < (Utf8.decode s pos).2 → pos + j < s.size ∧ 128 ≤ (s.get! (pos + j)).toNat := by
  have hn : ¬ (s[pos]'h).toNat < 128 := by omega
  have h0 : 128 ≤ (s.get! (pos + 0)).toNat := by rw [get_at s pos h]; exact ha
  intro j hj
  simp only [Utf8.decode, get_at s pos h, hn, if_false] at hj
  have key : ∀ n, n ≤ s.size - pos → (∀ k, 1 ≤ k → k < n → 128 ≤ (s.get! (pos + k)).toNat) → j < n → pos + j < s.size ∧ 128 ≤ (s.get! (pos + j)).toNat := by
    intro n h1 h2 h3
    refine ⟨by omega, ?_⟩
    rcases Nat.eq_zero_or_pos j with e | e
    · subst e; exact h0
    · exact h2 j e h3
  have one : j < 1 → pos + j < s.size ∧ 128 ≤ (s.get! (pos + j)).toNat := key 1 (by omega) (fun k h1 h2 => by omega)
  revert hj
  repeat' split
  all_goals try exact one
  · rename_i hc _
    simp only [Bool.and_eq_true, beq_iff_eq, decide_eq_true_eq] at hc
    exact fun hj => key 2 (by omega) (fun k k1 k2 => by obtain rfl : k = 1 := by omega
                                                        omega) hj
  · rename_i hc _
    simp only [Bool.and_eq_true, beq_iff_eq, decide_eq_true_eq] at hc
    exact fun hj => key 3 (by omega) (fun k k1 k2 => by rcases (show k = 1 ∨ k = 2 by omega) with rfl | rfl <;> omega) hj
  · rename_i hc _
    simp only [Bool.and_eq_true, beq_iff_eq, decide_eq_true_eq] at hc
    exact fun hj => key 4 (by omega) (fun k k1 k2 => by rcases (show k = 1 ∨ k = 2 ∨ k = 3 by omega) with rfl | rfl | rfl <;> omega) hj
theorem noAny_cover {s : ByteArray} {pos n : Nat} (hno : Lib.NoAny s.data.toList [61, 59] pos) (hc : ∀ j, j < n → pos + j < s.size ∧ 128 ≤ (s.get! (pos + j)).toNat) : Lib.NoAny s.data.toList [61, 59] (pos + n) := by
  intro j b hj hb
  by_cases h : j < pos
  · exact hno j b h hb
  · obtain ⟨h1, h2⟩ := hc (j - pos) (by omega)
    rw [show pos + (j - pos) = j by omega] at h1 h2
    have e := get_at s j h1
    rw [Nat.add_zero] at e
    rw [e] at h2
    have e2 := Lib.data_getElem? s j h1
    rw [e2] at hb
    cases hb
    have n1 : (s[j]'h1) ≠ 61 := by intro e; rw [e] at h2; exact absurd h2 (by decide)
    have n2 : (s[j]'h1) ≠ 59 := by intro e; rw [e] at h2; exact absurd h2 (by decide)
    simp [n1, n2]
end Go.Proofs.YthfgklcdkehgjaaDoor
namespace Go.Proofs.YthfgklcdkehgjaaDoor
open Go Go.Am
set_option linter.unusedVariables false
/-! strings.IndexAny at two signs, whatever the text. -/
end Go.Proofs.YthfgklcdkehgjaaDoor
namespace Go.Proofs.YthfgklcdkehgjaaDoor
open Go Go.RowKit Go.Lib Go.Shelf
set_option maxHeartbeats 8000000 in
set_option maxRecDepth 1000000 in
theorem ia_short (s : ByteArray) (w : World) (h8 : s.size ≤ 8) : Calls Tryd.prog 43 #[.string s, .string ⟨#[61, 59]⟩] w fun e w' => e = .returned (.int .i64 (Lib.indexAny s.data.toList [61, 59])) ∧ Below w.heap.size w w' := by
  have h8z : decide ((8 : Int) < (s.size : Int)) = false := decide_eq_false (by omega)
  have hSh : ∀ w, Calls Tryd.prog 71 #[.int .i64 s.size] w fun e w' => e = .returned (.bool (decide ((8 : Int) < (s.size : Int)))) ∧ w' = w := fun w => Any.strings_shouldUseASCIISet { lays153 with } _ w
  have hIR : ∀ (r : Nat) (h : 128 ≤ r) (w : World), Calls Tryd.prog 70 #[.string ⟨#[61, 59]⟩, .int .i32 (r : Int)] w fun e w' => e = .returned (.int .i64 (-1)) ∧ Below w.heap.size w w' := ir_all
  have hIA : ∀ (r : Int) (w : World), 0 ≤ r → r < 128 → Calls Tryd.prog 70 #[.string ⟨#[61, 59]⟩, .int .i32 r] w fun e w' => e = .returned (.int .i64 (Lib.indexByte [61, 59] r.toNat.toUInt8)) ∧ w' = w := fun r w h0 h1 => Any.strings_IndexRune_ascii { lays153 with } ⟨#[61, 59]⟩ r w h0 h1
  go_enter Tryd.func43, Tryd.ntmps43
  go_wp2_with (go_at_call 71; refine (hSh _).mono ?_; rintro e w' ⟨rfl, hw⟩; rw [hw, h8z])
  go_loopg [9, 10] s.size (fun g _ _ wx => ∃ i : Nat, i + g = s.size ∧ wx.heap[w.heap.size]? = some (.stringIter s i) ∧ Below w.heap.size w wx ∧ Lib.NoAny s.data.toList [61, 59] i)
  case atStart =>
    refine ⟨0, by omega, ?_, (Below.refl _ w).alloc (Nat.le_refl _) _, Lib.NoAny.zero _ _⟩
    have := World.iter_heap w s 0
    simpa using this
  case round =>
    obtain ⟨i, hig, hit, hbw, hno⟩ := hrel
    have hsz : w.heap.size < wr.heap.size := (Array.getElem?_eq_some_iff.1 hit).1
    have HN : Aside (Lib.NoAny s.data.toList [61, 59] i) := hno
    clear hno
    by_cases hp : i < s.size
    · have hbw2 := fun p => Lib.below_iterAt hbw (k := w.heap.size) (Nat.le_refl _) s p
      have hit2 := fun p => Lib.iterAt_heap wr w.heap.size s i p hit
      by_cases ha : (s[i]'hp).toNat < 128
      · obtain ⟨x, hx⟩ : ∃ x : UInt8, s[i]'hp = x := ⟨_, rfl⟩
        have hxl : s.data.toList[i]? = some x := by rw [← hx]; exact Lib.data_getElem? s i hp
        have hnx : ∀ ty, (Instr.next (.pointer (some ⟨w.heap.size, 0, none⟩)) true ty).run Tryd.prog wr = _ := fun ty => Lib.run_next_ascii_at wr w.heap.size s i ty hit hp ha
        rw [hx] at hnx ha
        have Hx : Aside (s.data.toList[i]? = some x) := hxl
        clear hxl hx
        have hcon := Lib.contains_iff_indexByte [61, 59] x
        have hback : ((x.toNat : Int)).toNat.toUInt8 = x := by simp
        cases hin : [61, 59].contains x
        · rw [hin] at hcon
          have hlt : ¬ ((0 : Int) ≤ Lib.indexByte [61, 59] x) := of_decide_eq_false hcon.symm
          clear hcon
          go_wp2_with (go_at_call 70; refine (hIA _ _ (by omega) (by omega)).mono ?_; rintro e w' ⟨rfl, hw⟩; rw [hw, hback])
          go_roundg (s.size - (i + 1))
          case measure => omega
          case rel => exact ⟨i + 1, by omega, hit2 _, hbw2 _, HN.out.succ Hx.out hin⟩
        · rw [hin] at hcon
          have hge : (0 : Int) ≤ Lib.indexByte [61, 59] x := of_decide_eq_true hcon.symm
          clear hcon
          go_wp2_with (go_at_call 70; refine (hIA _ _ (by omega) (by omega)).mono ?_; rintro e w' ⟨rfl, hw⟩; rw [hw, hback])
          go_ret
          exact ⟨by rw [Lib.indexAny_hit HN.out Hx.out hin]; rfl, hbw2 _⟩
      · have hnx : ∀ ty, (Instr.next (.pointer (some ⟨w.heap.size, 0, none⟩)) true ty).run Tryd.prog wr = _ := fun ty => Lib.run_next_any_at wr w.heap.size s i ty hit hp
        have hcov := dec_cover s i hp (by omega)
        have hwd := (decode_high s i hp (by omega)).2
        have hhi := (decode_high s i hp (by omega)).1
        have hend : i + (Utf8.decode s i).2 ≤ s.size := by have := (hcov ((Utf8.decode s i).2 - 1) (by omega)).1; omega
        have HC : Aside (∀ j, j < (Utf8.decode s i).2 → i + j < s.size ∧ 128 ≤ (s.get! (i + j)).toNat) := hcov
        clear hcov ha
        go_wp2_with (go_at_call 70; refine (hIR _ hhi _).mono ?_; rintro e w' ⟨rfl, hw⟩)
        go_roundg (s.size - (i + (Utf8.decode s i).2))
        case measure => omega
        case rel => exact ⟨i + (Utf8.decode s i).2, by omega, by rw [hw.block _ (by rw [Lib.iterAt_size]; exact hsz)]; exact hit2 _, (hbw2 _).trans (hw.mono (by rw [Lib.iterAt_size]; omega)), noAny_cover HN.out HC.out⟩
    · obtain rfl : i = s.size := by omega
      have hnx : ∀ ty, (Instr.next (.pointer (some ⟨w.heap.size, 0, none⟩)) true ty).run Tryd.prog wr = _ := fun ty => Lib.run_next_end_at wr w.heap.size s s.size ty hit hp
      go_wp2
      go_ret
      exact ⟨by rw [Lib.indexAny_none (by rw [← Lib.size_eq]; exact HN.out)]; rfl, hbw⟩
set_option maxRecDepth 100000 in
theorem ia_all (s : ByteArray) (w : World) (hs : s.size < 4294967281) : Calls Tryd.prog 43 #[.string s, .string ⟨#[61, 59]⟩] w fun e w' => e = .returned (.int .i64 (Lib.indexAny s.data.toList [61, 59])) ∧ Below w.heap.size w w' := by
  by_cases h8 : s.size ≤ 8
  · exact ia_short s w h8
  · have h116 : (Tryd.prog.info? 82).map (fun i => (i.zero, i.size)) = some (some (.agg (Array.replicate 256 (.bool false))), 256) := by kernel_rfl
    refine (Any.strings_IndexAny_long lays153 (zero_of_info h116).1 (zero_of_info h116).2 s ⟨#[61, 59]⟩ w (by decide) (by omega) hs (by decide) (ascii_of_all (by decide))).mono fun e w' ⟨h1, h2⟩ => ⟨h1, ?_⟩
    rw [h2]
    exact ((Below.refl _ _).alloc (Nat.le_refl _) _).alloc (by simp) _
end Go.Proofs.YthfgklcdkehgjaaDoor
namespace Go.Proofs.YthfgklcdkehgjaaDoor
open Go Go.Am
set_option linter.unusedVariables false
/-! TrimLeft, TrimRight at blanks and tabs; IndexAny at two signs: as contracts. -/
theorem FnP_pure {P : Program} {f : FuncId} {args : List AV} {r : AV} (h : ∀ (M : Mem) (w : World) (vs : List Value), ARels γ0 M args vs → ∃ v, (∀ M', ARel γ0 M' r v) ∧ Calls P f vs.toArray w fun e w' => e = .returned v ∧ RowKit.Below w.heap.size w w') : FnP P f args r := by
  intro M w vs hM hvs
  obtain ⟨v, hr, hc⟩ := h M w vs hvs
  refine hc.mono fun e w' ⟨he, hB⟩ => ⟨v, M, he, MLe.refl M, fun _ _ => rfl, fun b q u hu => ?_, hr M, hB⟩
  have hc := hM b q u hu
  have hb : b < w.heap.size := World.block_lt_of_cell? w ⟨b, q, none⟩ hc
  rw [World.cell?_of_block (w := w) (hB.block b hb)]; exact hc
def trimLB (s : List UInt8) : List UInt8 := s.dropWhile isBl2
def trimRB (s : List UInt8) : List UInt8 := (s.reverse.dropWhile isBl2).reverse
theorem trimLB_len (s : List UInt8) : (trimLB s).length ≤ s.length := dropWhile_le isBl2 s
theorem trimRB_len (s : List UInt8) : (trimRB s).length ≤ s.length := by unfold trimRB; have := dropWhile_le isBl2 s.reverse; simp at this ⊢; exact this
open Go.Shelf Go.Lib in
set_option maxRecDepth 100000 in
theorem fn_triml (s : List UInt8) (hs : s.length ≤ 1000000) : FnP Tryd.prog 42 [.p (.str s), .p (.str [32, 9])] (.p (.str (trimLB s))) := by
  refine FnP_pure fun M w vs hvs => ⟨.string ⟨(trimLB s).toArray⟩, fun M' => .p _ _ (.str _ (by have := trimLB_len s; unfold maxLen; omega)), ?_⟩
  cases hvs with | cons h1 h2 =>
  cases h2 with | cons h2 h3 =>
  cases h3
  cases h1 with | p _ _ h1 =>
  cases h2 with | p _ _ h2 =>
  cases h1 with | str _ _ =>
  cases h2 with | str _ _ =>
  exact Any.strings_TrimLeft_laid lays161 (by kernel_rfl) ⟨s.toArray⟩ ⟨#[32, 9]⟩ w (by decide) (ascii_of_all (by decide))
open Go.Shelf Go.Lib in
set_option maxRecDepth 100000 in
theorem fn_trimr (s : List UInt8) (hs : s.length ≤ 1000000) : FnP Tryd.prog 46 [.p (.str s), .p (.str [32, 9])] (.p (.str (trimRB s))) := by
  refine FnP_pure fun M w vs hvs => ⟨.string ⟨(trimRB s).toArray⟩, fun M' => .p _ _ (.str _ (by have := trimRB_len s; unfold maxLen; omega)), ?_⟩
  cases hvs with | cons h1 h2 =>
  cases h2 with | cons h2 h3 =>
  cases h3
  cases h1 with | p _ _ h1 =>
  cases h2 with | p _ _ h2 =>
  cases h1 with | str _ _ =>
  cases h2 with | str _ _ =>
  exact Any.strings_TrimRight_laid lays162 (by kernel_rfl) ⟨s.toArray⟩ ⟨#[32, 9]⟩ w (by show s.toArray.size ≤ _; simp; omega) (by decide) (ascii_of_all (by decide))
/-- Where one of the two signs stands first; -1. -/
def ixSep (s : List UInt8) : Int := Lib.indexAny s [61, 59]
theorem ixSep_ge (s : List UInt8) : -1 ≤ ixSep s := Lib.indexAny_ge _ _
theorem fn_ixany (s : List UInt8) (hs : s.length ≤ 1000000) : FnP Tryd.prog 43 [.p (.str s), .p (.str [61, 59])] (.p (.int .i64 (ixSep s))) := by
  have hlt : ∀ l : List UInt8, Lib.indexAny l [61, 59] < l.length + 1 := by
    intro l
    induction l with
    | nil => decide
    | cons b l ih =>
      unfold Lib.indexAny
      split
      · simp; omega
      · split
        · simp; omega
        · simp; omega
  refine FnP_pure fun M w vs hvs => ⟨.int .i64 (ixSep s), fun M' => .p _ _ (.int _ _ ?_), ?_⟩
  · have h1 := ixSep_ge s
    have h2 := hlt s
    unfold ixSep at h1 ⊢
    have h3 := hlt s
    show IntKind.i64.min ≤ _ ∧ _ ≤ IntKind.i64.max
    rw [show IntKind.i64.min = -9223372036854775808 from rfl, show IntKind.i64.max = 9223372036854775807 from rfl]
    omega
  cases hvs with | cons h1 h2 =>
  cases h2 with | cons h2 h3 =>
  cases h3
  cases h1 with | p _ _ h1 =>
  cases h2 with | p _ _ h2 =>
  cases h1 with | str _ _ =>
  cases h2 with | str _ _ =>
  exact ia_all ⟨s.toArray⟩ w (by show s.toArray.size < _; simp; omega)
def sp_triml : List AV → Option (AV × Option Prop)
  | [.p (.str s), .p (.str [32, 9])] => some (.p (.str (trimLB s)), some (s.length ≤ 1000000))
  | _ => none
theorem ok_triml : SpecOk Tryd.prog 42 sp_triml := by
  intro zs r ok he hok
  unfold sp_triml at he
  split at he
  · cases he; exact ⟨by kernel_rfl, fn_triml _ hok⟩
  · cases he
def sp_trimr : List AV → Option (AV × Option Prop)
  | [.p (.str s), .p (.str [32, 9])] => some (.p (.str (trimRB s)), some (s.length ≤ 1000000))
  | _ => none
theorem ok_trimr : SpecOk Tryd.prog 46 sp_trimr := by
  intro zs r ok he hok
  unfold sp_trimr at he
  split at he
  · cases he; exact ⟨by kernel_rfl, fn_trimr _ hok⟩
  · cases he
def sp_ixany : List AV → Option (AV × Option Prop)
  | [.p (.str s), .p (.str [61, 59])] => some (.p (.int .i64 (ixSep s)), some (s.length ≤ 1000000))
  | _ => none
theorem ok_ixany : SpecOk Tryd.prog 43 sp_ixany := by
  intro zs r ok he hok
  unfold sp_ixany at he
  split at he
  · cases he; exact ⟨by kernel_rfl, fn_ixany _ hok⟩
  · cases he
end Go.Proofs.YthfgklcdkehgjaaDoor
namespace Go.Proofs.YthfgklcdkehgjaaDoor
open Go Go.Am
set_option linter.unusedVariables false
noncomputable def cFold : Code := bodyOf Tryd.f47

noncomputable def GFold : Cfg := ⟨Tryd.prog, mkEnv [], mkEnvR [], 32, [], [([0, 1, 0, 1, 1], ⟨[0, 3, 10, 11], [⟨.slot 3, 3, (.barr 5 false [])⟩]⟩), ([1, 0, 1, 1, 0, 0, 1, 1, 0, 0, 1, 0, 1, 1], ⟨[0, 3, 5, 10, 11, 22], [⟨.slot 3, 3, (.barr 5 false [])⟩]⟩), ([1, 1, 1, 0, 0, 1, 1, 0, 0, 1, 0, 1, 1], ⟨[0, 3, 5, 10, 11], [⟨.slot 3, 3, (.barr 5 false [])⟩]⟩)], []⟩

noncomputable def BFold_1 (F f1 : Nat) (s : List UInt8) (vi1 vi2 : Int) (vb3 : List UInt8) : Option Ans := runR GFold cFold (kP Tryd.prog Tryd.f47.results.toList) F [] [1, 1, 0, 1, 0] f1 [(0, .p (.str s)), (3, .arr 3), (10, .p (.int .i64 vi1)), (11, .p (.int .i64 vi2))] [(3, .barr 5 true vb3)]

noncomputable def BFold_2 (F f1 : Nat) (s : List UInt8) (vi4 vi1 vi2 : Int) (vc5 : Bool) (vb3 : List UInt8) : Option Ans := runB GFold cFold (kP Tryd.prog Tryd.f47.results.toList) F [f1] [1, 1, 0, 1, 0, 0, 1, 1, 0, 0, 1, 1, 0, 1] [(0, .p (.str s)), (3, .arr 3), (5, .p (.int .u8 vi4)), (10, .p (.int .i64 vi1)), (11, .p (.int .i64 vi2)), (22, .p (.bool vc5))] [(3, .barr 5 true vb3)]

noncomputable def BFold_3 (F f1 : Nat) (s : List UInt8) (vi6 vi1 vi2 : Int) (vb3 : List UInt8) : Option Ans := runB GFold cFold (kP Tryd.prog Tryd.f47.results.toList) F [f1] [1, 1, 0, 1, 0, 0, 1, 1, 0, 0, 1, 1, 1] [(0, .p (.str s)), (3, .arr 3), (5, .p (.int .u8 vi6)), (10, .p (.int .i64 vi1)), (11, .p (.int .i64 vi2))] [(3, .barr 5 true vb3)]

noncomputable def FFold (F : Nat) (s : List UInt8) : Option Ans := runF GFold Tryd.f47 F [.p (.str s)]

theorem BFold_1_eq (F f1 : Nat) (s : List UInt8) (vi1 vi2 : Int) (vb3 : List UInt8) : BFold_1 F (f1 + 1) s vi1 vi2 vb3 = cond (decide (vi2 < vi1)) (need (0 ≤ vi2 ∧ vi2 < (s.length : Int)) (((BFold_2 F f1 s ((s.getD (vi2).toNat 0).toNat : Int) vi1 vi2 ((decide (((s.getD (vi2).toNat 0).toNat : Int) ≥ (65 : Int))) && (decide (((s.getD (vi2).toNat 0).toNat : Int) ≤ (90 : Int)))) vb3)))) (some (.p (.str vb3), [])) := by
  have h : BFold_1 F (f1 + 1) s vi1 vi2 vb3 = cond (decide (vi2 < vi1)) (need (0 ≤ vi2 ∧ vi2 < (s.length : Int)) (need ((decide (((s.getD (vi2).toNat 0).toNat : Int) ≥ (65 : Int))) = true → (decide (((s.getD (vi2).toNat 0).toNat : Int) ≥ (65 : Int))) = true) (need ((decide (((s.getD (vi2).toNat 0).toNat : Int) ≥ (65 : Int))) = true → (decide (((s.getD (vi2).toNat 0).toNat : Int) ≥ (65 : Int))) = true) (BFold_2 F f1 s ((s.getD (vi2).toNat 0).toNat : Int) vi1 vi2 ((decide (((s.getD (vi2).toNat 0).toNat : Int) ≥ (65 : Int))) && (decide (((s.getD (vi2).toNat 0).toNat : Int) ≤ (90 : Int)))) vb3)))) (some (.p (.str vb3), [])) := by kernel_rfl
  rw [h, need_pos (show (decide (((s.getD (vi2).toNat 0).toNat : Int) ≥ (65 : Int))) = true → (decide (((s.getD (vi2).toNat 0).toNat : Int) ≥ (65 : Int))) = true from (fun q0 => q0)), need_pos (show (decide (((s.getD (vi2).toNat 0).toNat : Int) ≥ (65 : Int))) = true → (decide (((s.getD (vi2).toNat 0).toNat : Int) ≥ (65 : Int))) = true from (fun q0 => q0))]

theorem BFold_2_eq (F f1 : Nat) (s : List UInt8) (vi4 vi1 vi2 : Int) (vc5 : Bool) (vb3 : List UInt8) : BFold_2 F f1 s vi4 vi1 vi2 vc5 vb3 = cond (vc5) (BFold_3 F f1 s (IntKind.u8.wrap (vi4 + (32 : Int))) vi1 vi2 vb3) (BFold_3 F f1 s vi4 vi1 vi2 vb3) := by kernel_rfl

theorem BFold_3_eq (F f1 : Nat) (s : List UInt8) (vi6 vi1 vi2 : Int) (vb3 : List UInt8) : BFold_3 F f1 s vi6 vi1 vi2 vb3 = need ((vb3.length + [UInt8.ofNat (vi6).toNat].length) * 1 ≤ 140737488355328) (need (i64ok (vi2 + (1 : Int))) (BFold_1 F f1 s vi1 (vi2 + (1 : Int)) (vb3 ++ [UInt8.ofNat (vi6).toNat]))) := by kernel_rfl

theorem FFold_eq (F : Nat) (s : List UInt8) : FFold F s = need (0 ≤ (0 : Int) ∧ (0 : Int) ≤ (s.length : Int) ∧ (1 : Int) * (s.length : Int) ≤ 281474976710656 ∧ (s.length : Int) ≤ 9223372036854775807) (BFold_1 F F s (s.length : Int) (0 : Int) (List.replicate ((0 : Int)).toNat 0)) := by kernel_rfl

theorem fn_Fold (F : Nat) (s : List UInt8) (r : AV) (h : (∃ M vs, ARels γ0 M [.p (.str s)] vs) → FFold F s = some (r, [])) : FnP Tryd.prog 47 [.p (.str s)] r :=
  FnP_run GFold F rfl (EnvOk_mk (l := []) trivial) (EnvROk_mk (l := []) trivial) (Checked.mixed Tryd.checked) (fn := Tryd.f47) (by kernel_rfl) (by kernel_rfl) rfl h











def lowB (b : UInt8) : UInt8 := if 65 ≤ b.toNat ∧ b.toNat ≤ 90 then b + 32 else b
def foldS (s : List UInt8) : List UInt8 := s.map lowB
theorem low_up (b : UInt8) (h : 65 ≤ b.toNat ∧ b.toNat ≤ 90) : UInt8.ofNat (IntKind.u8.wrap ((b.toNat : Int) + (32 : Int))).toNat = lowB b := by
  have e : ((b.toNat : Int) + 32) = ((b.toNat + 32 : Nat) : Int) := by omega
  rw [e, u8_of, lowB, if_pos h]
  apply UInt8.toNat_inj.1
  rw [UInt8.toNat_ofNat', UInt8.toNat_add]; rfl
theorem low_id (b : UInt8) (h : ¬ (65 ≤ b.toNat ∧ b.toNat ≤ 90)) : UInt8.ofNat ((b.toNat : Int)).toNat = lowB b := by
  rw [lowB, if_neg h, Int.toNat_natCast, UInt8.ofNat_toNat]
theorem up_dec (b : UInt8) : ((decide ((b.toNat : Int) ≥ (65 : Int))) && (decide ((b.toNat : Int) ≤ (90 : Int)))) = decide (65 ≤ b.toNat ∧ b.toNat ≤ 90) := by
  rw [← Bool.decide_and]; exact decide_eq_decide.2 (by omega)
theorem BFold_spec (F : Nat) (s : List UInt8) (hs : s.length ≤ 140737488355328) : ∀ (r : List UInt8) (f i : Nat) (acc : List UInt8), s.drop i = r → acc.length = i → r.length < f → i ≤ s.length →
    BFold_1 F f s (s.length : Int) (i : Int) acc = some (.p (.str (acc ++ r.map lowB)), []) := by
  intro r
  induction r with
  | nil =>
    intro f i acc hd ha hf hi
    have : i = s.length := by have := congrArg List.length hd; simp at this; omega
    cases f with
    | zero => omega
    | succ f =>
      rw [BFold_1_eq]
      refine cond_f (by first | omega | (unfold i64ok; omega) | (simp only [List.length_cons, List.length_nil]; omega) | (simp; omega) | simp) ?_
      simp
  | cons c r ih =>
    intro f i acc hd ha hf hi
    obtain ⟨h1, h2, h3⟩ := drop_cons hd
    cases f with
    | zero => omega
    | succ f =>
      rw [BFold_1_eq]
      refine cond_t (by first | omega | (unfold i64ok; omega) | (simp only [List.length_cons, List.length_nil]; omega) | (simp; omega) | simp) ?_
      refine need_mk (by first | omega | (unfold i64ok; omega) | (simp only [List.length_cons, List.length_nil]; omega) | (simp; omega) | simp) ?_
      rw [Int.toNat_natCast, h1, BFold_2_eq, up_dec]
      have e : (i : Int) + 1 = ((i + 1 : Nat) : Int) := by omega
      have step : ∀ d, BFold_1 F f s (s.length : Int) ((i : Int) + 1) (acc ++ [d]) = some (.p (.str (acc ++ d :: r.map lowB)), []) := fun d => by
        rw [e, ih f (i + 1) (acc ++ [d]) h2 (by simp [ha]) (by simp at hf; omega) (by omega)]; simp
      by_cases hc : 65 ≤ c.toNat ∧ c.toNat ≤ 90
      · refine cond_t (by simpa using hc) ?_
        rw [BFold_3_eq]
        refine need_mk (by first | omega | (unfold i64ok; omega) | (simp only [List.length_cons, List.length_nil]; omega) | (simp; omega) | simp) ?_
        refine need_mk (by first | omega | (unfold i64ok; omega) | (simp only [List.length_cons, List.length_nil]; omega) | (simp; omega) | simp) ?_
        rw [low_up c hc, step]; rfl
      · refine cond_f (by simpa using hc) ?_
        rw [BFold_3_eq]
        refine need_mk (by first | omega | (unfold i64ok; omega) | (simp only [List.length_cons, List.length_nil]; omega) | (simp; omega) | simp) ?_
        refine need_mk (by first | omega | (unfold i64ok; omega) | (simp only [List.length_cons, List.length_nil]; omega) | (simp; omega) | simp) ?_
        rw [low_id c hc, step]; rfl
theorem Fold_eq (s : List UInt8) (hs : s.length ≤ 140737488355328) : FFold (s.length + 1) s = some (.p (.str (foldS s)), []) := by
  rw [FFold_eq]
  refine need_mk (by first | omega | (unfold i64ok; omega) | (simp only [List.length_cons, List.length_nil]; omega) | (simp; omega) | simp) ?_
  exact BFold_spec _ s hs s (s.length + 1) 0 [] rfl rfl (by omega) (by omega)
def sp_Fold : List AV → Option (AV × Option Prop)
  | [.p (.str s)] => some (.p (.str (foldS s)), some (s.length ≤ 140737488355328))
  | _ => none
theorem ok_Fold : SpecOk Tryd.prog 47 sp_Fold := by
  intro zs r ok he hok
  unfold sp_Fold at he
  split at he
  · cases he; exact ⟨by kernel_rfl, fn_Fold (_) _ _ fun hx => Fold_eq _ hok⟩
  · cases he
end Go.Proofs.YthfgklcdkehgjaaDoor
namespace Go.Proofs.YthfgklcdkehgjaaDoor
open Go Go.Am
set_option linter.unusedVariables false
def ixS (s : List UInt8) (c : Int) : Int := Lib.indexByte s c.toNat.toUInt8
def sp_extib : List AV → Option (AV × Option Prop)
  | [.p (.str s), .p (.int .u8 c)] => some (.p (.int .i64 (ixS s c)), none)
  | _ => none
theorem indexByte_lt (l : List UInt8) (c : UInt8) : Lib.indexByte l c < l.length ∨ Lib.indexByte l c = -1 := by
  induction l with
  | nil => right; rfl
  | cons b l ih =>
    unfold Lib.indexByte
    split
    · left; simp
    · split
      · right; rfl
      · left; rename_i h1 h2; simp at h2; simp; omega
theorem ok_extib : SpecExt Tryd.prog 94 sp_extib := by
  intro zs r ok h hok M w vs hM hvs
  unfold sp_extib at h
  split at h
  · rename_i s c
    cases h
    cases hvs with
    | cons h1 h2 => cases h2 with
      | cons h2 h3 =>
        cases h3
        cases h1 with | p _ _ h1 =>
        cases h2 with | p _ _ h2 =>
        cases h1 with | str _ hs =>
        cases h2 with | int _ _ hc =>
        refine ⟨.int .i64 (ixS s c), ?_, .p _ _ (.int _ _ ?_)⟩
        · rw [run_callFunc_extern (fn := Tryd.f94) (e := Extern.BytealgIndexByte.indexByte) (by kernel_rfl) (by kernel_rfl) (by kernel_rfl) (by kernel_rfl) (by kernel_rfl)]
          rw [Lib.run_indexByteString]; rfl
        · have h1 := Lib.indexByte_ge s c.toNat.toUInt8
          have h2 := indexByte_lt s c.toNat.toUInt8
          exact has_i64 (by unfold maxLen at hs; unfold i64ok ixS; omega)
  · cases h
end Go.Proofs.YthfgklcdkehgjaaDoor
namespace Go.Proofs.YthfgklcdkehgjaaDoor
open Go Go.Am
set_option linter.unusedVariables false
def Fixbl (fuel : Nat) (s : List UInt8) (c : Int) : Option Int := some (ixS s c)

noncomputable def cixbl : Code := bodyOf Tryd.f80

def envixbl : Env := mkEnv [(94, sp_extib)]

theorem envixbl_ok : EnvOk Tryd.prog envixbl := EnvOk_mk ⟨ok_extib.any, trivial⟩

theorem Tixbl (fuel : Nat) (s : List UInt8) (c res : Int) (h : Fixbl fuel s c = some res) (C : Ctx) (hC : CtxOk C 8 []) :
    T Tryd.prog C (at_ cixbl []) (mkS [(0, .p (.str s)), (1, .p (.int .u8 c))] []) (Qend Tryd.prog C Tryd.f80.results.toList (.p (.int .i64 res))) := by
  have henv := envixbl_ok
  unfold Fixbl at h
  refine T_seqp (p := []) (by kernel_rfl) ?_
  refine T_reg henv hC [] [(0, .p (.str s)), (1, .p (.int .u8 c))] [] [] (by kernel_rfl) (by kernel_rfl) trivial (fun s1 hs1 => ?_)
  refine (T.weaken ?_ hs1 : T Tryd.prog C (at_ cixbl [1]) _ _)
  refine T_seqp (p := [1]) (by kernel_rfl) ?_
  refine T_reg henv hC [] [(4, .p (.int .i64 (ixS s c)))] [] [] (by kernel_rfl) (by kernel_rfl) trivial (fun s1 hs1 => ?_)
  refine (T.weaken ?_ hs1 : T Tryd.prog C (at_ cixbl [1, 1]) _ _)
  refine T_retp (p := [1, 1]) (by kernel_rfl) ?_
  have h := Option.some.inj h; subst h
  exact ⟨mkS [(4, .p (.int .i64 (ixS s c)))] [], (Sub.refl _), by kernel_rfl⟩

theorem fn_ixbl (fuel : Nat) (s : List UInt8) (c res : Int) (h : (∃ M vs, ARels γ0 M [.p (.str s), .p (.int .u8 c)] vs) → Fixbl fuel s c = some res) : FnP Tryd.prog 80 [.p (.str s), .p (.int .u8 c)] (.p (.int .i64 res)) :=
  FnP_lift (fn := Tryd.f80) (by kernel_rfl) (by kernel_rfl) fun M vs hvs C hC0 => have hC : CtxOk C 8 [] := ⟨hC0.nt.trans (by kernel_rfl), hC0.fx⟩; T.weaken (Tixbl fuel s c res (h ⟨M, vs, hvs⟩) C hC) (sinit_sub hC (by kernel_rfl) (by kernel_rfl))
def sp_ixbl : List AV → Option (AV × Option Prop) := sp_extib
theorem ok_ixbl : SpecOk Tryd.prog 80 sp_ixbl := by
  intro zs r ok h hok
  unfold sp_ixbl sp_extib at h
  split at h
  · cases h; exact ⟨by kernel_rfl, fn_ixbl 0 _ _ _ fun _ => rfl⟩
  · cases h
end Go.Proofs.YthfgklcdkehgjaaDoor
namespace Go.Proofs.YthfgklcdkehgjaaDoor
open Go Go.Am
set_option linter.unusedVariables false
/-! strings: Index at one byte. -/
theorem u8c (c : UInt8) : ((c.toNat : Int)).toNat.toUInt8 = c := by simp

noncomputable def Gixl : Cfg := ⟨Tryd.prog, mkEnv [(80, sp_ixbl)], mkEnvR [], 143, [], [], []⟩

noncomputable def Fixl (F : Nat) (s : List UInt8) (c : UInt8) : Option Ans := runF Gixl Tryd.f65 F [.p (.str s), .p (.str [c])]

theorem Fixl_eq (F : Nat) (s : List UInt8) (c : UInt8) : Fixl F s c = (((cond (false || ([c] == s)) (some (.p (.int .i64 (0 : Int)), [])) (need (0 ≤ (0 : Int) ∧ (0 : Int) < ([c].length : Int)) (some (.p (.int .i64 (ixS s (([c].getD ((0 : Int)).toNat 0).toNat : Int))), [])))))) := by
  have h : Fixl F s c = need ((!false) = true → (!false) = true) (need ((!false) = true → (!false) = true) (need (false = false → (!false) = true) (cond (false || ([c] == s)) (some (.p (.int .i64 (0 : Int)), [])) (need (0 ≤ (0 : Int) ∧ (0 : Int) < ([c].length : Int)) (some (.p (.int .i64 (ixS s (([c].getD ((0 : Int)).toNat 0).toNat : Int))), [])))))) := by kernel_rfl
  rw [h, need_pos (show false = false → (!false) = true from (fun q0 => (not_mk q0))), need_pos (show (!false) = true → (!false) = true from (fun q0 => q0)), need_pos (show (!false) = true → (!false) = true from (fun q0 => q0))]

theorem fn_ixl (F : Nat) (s : List UInt8) (c : UInt8) (r : AV) (h : (∃ M vs, ARels γ0 M [.p (.str s), .p (.str [c])] vs) → Fixl F s c = some (r, [])) : FnP Tryd.prog 65 [.p (.str s), .p (.str [c])] r :=
  FnP_run Gixl F rfl (EnvOk_mk (l := [(80, sp_ixbl)]) ⟨ok_ixbl.any, trivial⟩) (EnvROk_mk (l := []) trivial) (Checked.mixed Tryd.checked) (fn := Tryd.f65) (by kernel_rfl) (by kernel_rfl) rfl h
theorem ixl_eq (s : List UInt8) (c : UInt8) : Fixl 0 s c = some (.p (.int .i64 (ixS s (c.toNat : Int))), []) := by
  rw [Fixl_eq]
  by_cases h : [c] = s
  · refine cond_t (by simp [h]) ?_
    subst h
    have : ixS [c] (c.toNat : Int) = 0 := by unfold ixS; rw [u8c]; simp [Lib.indexByte]
    rw [this]
  · refine cond_f (by simp [h]) ?_
    exact need_mk (by simp) rfl
def sp_ixl : List AV → Option (AV × Option Prop)
  | [.p (.str s), .p (.str [c])] => some (.p (.int .i64 (ixS s (c.toNat : Int))), none)
  | _ => none
theorem ok_ixl : SpecOk Tryd.prog 65 sp_ixl := by
  intro zs r ok he hok
  unfold sp_ixl at he
  split at he
  · cases he; exact ⟨by kernel_rfl, fn_ixl 0 _ _ _ fun hx => ixl_eq _ _⟩
  · cases he
end Go.Proofs.YthfgklcdkehgjaaDoor
namespace Go.Proofs.YthfgklcdkehgjaaDoor
open Go Go.Am
set_option linter.unusedVariables false
/-! Cut at one byte. -/
def cutS (s : List UInt8) (c : UInt8) : List UInt8 × List UInt8 × Bool :=
  if ixS s (c.toNat : Int) ≥ 0 then (s.take (ixS s (c.toNat : Int)).toNat, s.drop ((ixS s (c.toNat : Int)) + 1).toNat, true) else (s, [], false)

noncomputable def Gcutl : Cfg := ⟨Tryd.prog, mkEnv [(65, sp_ixl)], mkEnvR [], 23, [], [], []⟩

noncomputable def Fcutl (F : Nat) (s : List UInt8) (c : UInt8) : Option Ans := runF Gcutl Tryd.f41 F [.p (.str s), .p (.str [c])]

theorem Fcutl_eq (F : Nat) (s : List UInt8) (c : UInt8) : Fcutl F s c = cond (decide ((ixS s (c.toNat : Int)) ≥ (0 : Int))) (need (0 ≤ (ixS s (c.toNat : Int)) ∧ (ixS s (c.toNat : Int)) ≤ (s.length : Int)) (need (i64ok ((ixS s (c.toNat : Int)) + (1 : Int))) (need (0 ≤ ((ixS s (c.toNat : Int)) + (1 : Int)) ∧ ((ixS s (c.toNat : Int)) + (1 : Int)) ≤ (s.length : Int)) (some (.tup [.p (.str (s.take (ixS s (c.toNat : Int)).toNat)), .p (.str (s.drop ((ixS s (c.toNat : Int)) + (1 : Int)).toNat)), .p (.bool true)], []))))) (some (.tup [.p (.str s), .p (.str ([] : List UInt8)), .p (.bool false)], [])) := by kernel_rfl

theorem fn_cutl (F : Nat) (s : List UInt8) (c : UInt8) (r : AV) (h : (∃ M vs, ARels γ0 M [.p (.str s), .p (.str [c])] vs) → Fcutl F s c = some (r, [])) : FnP Tryd.prog 41 [.p (.str s), .p (.str [c])] r :=
  FnP_run Gcutl F rfl (EnvOk_mk (l := [(65, sp_ixl)]) ⟨ok_ixl.any, trivial⟩) (EnvROk_mk (l := []) trivial) (Checked.mixed Tryd.checked) (fn := Tryd.f41) (by kernel_rfl) (by kernel_rfl) rfl h
theorem ixS_lt (s : List UInt8) (c : Int) : ixS s c < s.length ∨ ixS s c = -1 := indexByte_lt s c.toNat.toUInt8
theorem cutl_eq (s : List UInt8) (c : UInt8) (hs : s.length ≤ 1000000) : Fcutl 0 s c = some (.tup [.p (.str (cutS s c).1), .p (.str (cutS s c).2.1), .p (.bool (cutS s c).2.2)], []) := by
  rw [Fcutl_eq, cutS]
  have h := ixS_lt s (c.toNat : Int)
  by_cases hc : ixS s (c.toNat : Int) ≥ 0
  · refine cond_t (by simpa using hc) ?_
    rw [if_pos hc]
    refine need_mk (by omega) (need_mk (by unfold i64ok; omega) (need_mk (by omega) rfl))
  · refine cond_f (by simpa using hc) ?_
    rw [if_neg hc]
def sp_cutl : List AV → Option (AV × Option Prop)
  | [.p (.str s), .p (.str [c])] => some (.tup [.p (.str ((cutS s c).1)), .p (.str ((cutS s c).2.1)), .p (.bool ((cutS s c).2.2))], some (s.length ≤ 1000000))
  | _ => none
theorem ok_cutl : SpecOk Tryd.prog 41 sp_cutl := by
  intro zs r ok he hok
  unfold sp_cutl at he
  split at he
  · cases he; exact ⟨by kernel_rfl, fn_cutl 0 _ _ _ fun hx => cutl_eq _ _ hok⟩
  · cases he

noncomputable def Gcut : Cfg := ⟨Tryd.prog, mkEnv [(41, sp_cutl)], mkEnvR [], 13, [], [], []⟩

noncomputable def Fcut (F : Nat) (s : List UInt8) (c : UInt8) : Option Ans := runF Gcut Tryd.f24 F [.p (.str s), .p (.str [c])]

theorem Fcut_eq (F : Nat) (s : List UInt8) (c : UInt8) : Fcut F s c = need (s.length ≤ 1000000) (some (.tup [.p (.str ((cutS s c).1)), .p (.str ((cutS s c).2.1)), .p (.bool ((cutS s c).2.2))], [])) := by kernel_rfl

theorem fn_cut (F : Nat) (s : List UInt8) (c : UInt8) (r : AV) (h : (∃ M vs, ARels γ0 M [.p (.str s), .p (.str [c])] vs) → Fcut F s c = some (r, [])) : FnP Tryd.prog 24 [.p (.str s), .p (.str [c])] r :=
  FnP_run Gcut F rfl (EnvOk_mk (l := [(41, sp_cutl)]) ⟨ok_cutl.any, trivial⟩) (EnvROk_mk (l := []) trivial) (Checked.mixed Tryd.checked) (fn := Tryd.f24) (by kernel_rfl) (by kernel_rfl) rfl h
theorem cut_eq (s : List UInt8) (c : UInt8) (hs : s.length ≤ 1000000) : Fcut 0 s c = some (.tup [.p (.str (cutS s c).1), .p (.str (cutS s c).2.1), .p (.bool (cutS s c).2.2)], []) := by
  rw [Fcut_eq]; exact need_pos hs
def sp_cut : List AV → Option (AV × Option Prop)
  | [.p (.str s), .p (.str [c])] => some (.tup [.p (.str ((cutS s c).1)), .p (.str ((cutS s c).2.1)), .p (.bool ((cutS s c).2.2))], some (s.length ≤ 1000000))
  | _ => none
theorem ok_cut : SpecOk Tryd.prog 24 sp_cut := by
  intro zs r ok he hok
  unfold sp_cut at he
  split at he
  · cases he; exact ⟨by kernel_rfl, fn_cut 0 _ _ _ fun hx => cut_eq _ _ hok⟩
  · cases he
end Go.Proofs.YthfgklcdkehgjaaDoor
namespace Go.Proofs.YthfgklcdkehgjaaDoor
open Go Go.Am
set_option linter.unusedVariables false
/-! Where a byte stands first. -/
theorem ixb_split (c : UInt8) : ∀ (s : List UInt8), (∃ p q, s = p ++ c :: q ∧ (∀ x ∈ p, x ≠ c) ∧ Lib.indexByte s c = (p.length : Int)) ∨ ((∀ x ∈ s, x ≠ c) ∧ Lib.indexByte s c = -1)
  | [] => .inr ⟨by simp, rfl⟩
  | b :: l => by
    by_cases h : b = c
    · subst h
      exact .inl ⟨[], l, rfl, by simp, by simp [Lib.indexByte]⟩
    · rcases ixb_split c l with ⟨p, q, e, hp, hi⟩ | ⟨hn, hi⟩
      · refine .inl ⟨b :: p, q, by rw [e]; rfl, ?_, ?_⟩
        · intro x hx
          rcases List.mem_cons.1 hx with rfl | hx
          · exact h
          · exact hp x hx
        · unfold Lib.indexByte
          rw [if_neg (by simpa using h), hi, if_neg (by simp)]
          simp only [List.length_cons]; omega
      · refine .inr ⟨?_, ?_⟩
        · intro x hx
          rcases List.mem_cons.1 hx with rfl | hx
          · exact h
          · exact hn x hx
        · simp [Lib.indexByte, hi, h]
theorem ixS_u8 (s : List UInt8) (c : UInt8) : ixS s (c.toNat : Int) = Lib.indexByte s c := by unfold ixS; rw [u8c]
theorem cut_split (c : UInt8) (s : List UInt8) : (∃ p q, s = p ++ c :: q ∧ (∀ x ∈ p, x ≠ c) ∧ cutS s c = (p, q, true)) ∨ ((∀ x ∈ s, x ≠ c) ∧ cutS s c = (s, [], false)) := by
  rcases ixb_split c s with ⟨p, q, e, hp, hi⟩ | ⟨hn, hi⟩
  · refine .inl ⟨p, q, e, hp, ?_⟩
    rw [cutS, ixS_u8, hi, if_pos (by omega)]
    have e1 : ((p.length : Int) + 1).toNat = p.length + 1 := by omega
    rw [Int.toNat_natCast, e1, e]
    simp
  · refine .inr ⟨hn, ?_⟩
    rw [cutS, ixS_u8, hi, if_neg (by decide)]
end Go.Proofs.YthfgklcdkehgjaaDoor
