/-
  Lifted functions, and facts about them.
-/
import Derived.Test.YthfgklcdkehgjaaDoorRows
import Derived.Test.YthfgklcdkehgjaaDoorAmC
import Derived.Test.YthfgklcdkehgjaaDoorC13Small
import Derived.Shelf.Strings.SlTrimAscii
import Derived.ShutString
namespace Go.Proofs.YthfgklcdkehgjaaDoor
open Go Go.Am
set_option linter.unusedVariables false
/-! strings.Trim at blanks and tabs, by the shelf. -/
def isBl2 (c : UInt8) : Bool := [32, 9].contains c
def trimBl (s : List UInt8) : List UInt8 := (s.reverse.dropWhile isBl2).reverse.dropWhile isBl2
theorem trimBl_lib (s : List UInt8) : Lib.trimS s [32, 9] = trimBl s := rfl
theorem dropWhile_le (p : UInt8 → Bool) : ∀ l : List UInt8, (l.dropWhile p).length ≤ l.length
  | [] => by simp
  | c :: r => by rw [List.dropWhile_cons]; split <;> simp; exact Nat.le_succ_of_le (dropWhile_le p r)
theorem trimBl_len (s : List UInt8) : (trimBl s).length ≤ s.length := by
  unfold trimBl
  have h1 := dropWhile_le isBl2 (s.reverse.dropWhile isBl2).reverse
  have h2 := dropWhile_le isBl2 s.reverse
  simp at h1 h2; omega
end Go.Proofs.YthfgklcdkehgjaaDoor
namespace Go.Proofs.YthfgklcdkehgjaaDoor
open Go.Shelf
def lays160_ren : Go.Shelf.Ren:=⟨fun |160=>48|232=>74|231=>66|227=>67|234=>75|233=>68|236=>76|235=>69|228=>72|271=>91|151=>89|197=>88|120=>98|152=>70|260=>97|137=>53|119=>90|224=>86|225=>85|217=>80|266=>94|n=>n, fun |9=>9|4=>4|3=>3|5=>5|117=>84|116=>83|0=>0|124=>87|21=>21|105=>98|46=>61|119=>106|139=>109|138=>108|n=>n, fun |3=>1|4=>2|n=>n⟩
theorem lays160 : Go.Proofs.Lays.n160 Tryd.prog lays160_ren:={
 mixed:=by kernel_rfl
 f119:=Tryd.func90.trans (congrArg some (by kernel_rfl))
 f120:=Tryd.func98.trans (congrArg some (by kernel_rfl))
 f137:=Tryd.func53.trans (congrArg some (by kernel_rfl))
 f151:=Tryd.func89.trans (congrArg some (by kernel_rfl))
 f152:=Tryd.func70.trans (congrArg some (by kernel_rfl))
 f160:=Tryd.func48.trans (congrArg some (by kernel_rfl))
 f197:=Tryd.func88.trans (congrArg some (by kernel_rfl))
 f217:=Tryd.func80.trans (congrArg some (by kernel_rfl))
 f224:=Tryd.func86.trans (congrArg some (by kernel_rfl))
 f225:=Tryd.func85.trans (congrArg some (by kernel_rfl))
 f227:=Tryd.func67.trans (congrArg some (by kernel_rfl))
 f228:=Tryd.func72.trans (congrArg some (by kernel_rfl))
 f231:=Tryd.func66.trans (congrArg some (by kernel_rfl))
 f232:=Tryd.func74.trans (congrArg some (by kernel_rfl))
 f233:=Tryd.func68.trans (congrArg some (by kernel_rfl))
 f234:=Tryd.func75.trans (congrArg some (by kernel_rfl))
 f235:=Tryd.func69.trans (congrArg some (by kernel_rfl))
 f236:=Tryd.func76.trans (congrArg some (by kernel_rfl))
 f260:=Tryd.func97.trans (congrArg some (by kernel_rfl))
 f266:=Tryd.func94.trans (congrArg some (by kernel_rfl))
 f271:=Tryd.func91.trans (congrArg some (by kernel_rfl))
 t0:=Tryd.underlying0
 a0:=Tryd.isAgg0
 z0:=Tryd.sizeOf0
 v0:=Tryd.zeroValue0
 t3:=Tryd.underlying3
 a3:=Tryd.isAgg3
 z3:=Tryd.sizeOf3
 v3:=Tryd.zeroValue3
 t4:=Tryd.underlying4
 a4:=Tryd.isAgg4
 z4:=Tryd.sizeOf4
 v4:=Tryd.zeroValue4
 t5:=Tryd.underlying5
 a5:=Tryd.isAgg5
 z5:=Tryd.sizeOf5
 v5:=Tryd.zeroValue5
 t9:=Tryd.underlying9
 a9:=Tryd.isAgg9
 z9:=Tryd.sizeOf9
 v9:=Tryd.zeroValue9
 t21:=Tryd.underlying21
 a21:=Tryd.isAgg21
 z21:=Tryd.sizeOf21
 v21:=Tryd.zeroValue21
 t46:=Tryd.underlying61
 a46:=Tryd.isAgg61
 z46:=Tryd.sizeOf61
 v46:=Tryd.zeroValue61
 t105:=Tryd.underlying98
 a105:=Tryd.isAgg98
 z105:=Tryd.sizeOf98
 v105:=Tryd.zeroValue98
 t116:=Tryd.underlying83
 a116:=Tryd.isAgg83
 z116:=Tryd.sizeOf83
 t117:=Tryd.underlying84
 a117:=Tryd.isAgg84
 z117:=Tryd.sizeOf84
 v117:=Tryd.zeroValue84
 t119:=Tryd.underlying106
 a119:=Tryd.isAgg106
 z119:=Tryd.sizeOf106
 t124:=Tryd.underlying87
 a124:=Tryd.isAgg87
 z124:=Tryd.sizeOf87
 v124:=Tryd.zeroValue87
 t138:=Tryd.underlying108
 a138:=Tryd.isAgg108
 z138:=Tryd.sizeOf108
 v138:=Tryd.zeroValue108
 t139:=Tryd.underlying109
 a139:=Tryd.isAgg109
 z139:=Tryd.sizeOf109
 v139:=Tryd.zeroValue109
 g3:=by kernel_rfl
 g4:=by kernel_rfl }
end Go.Proofs.YthfgklcdkehgjaaDoor
namespace Go.Proofs.YthfgklcdkehgjaaDoor
open Go Go.Am Go.Shelf
def sp_trim2 : List AV → Option (AV × Option Prop)
  | [.p (.str s), .p (.str [32, 9])] => some (.p (.str (trimBl s)), some (s.length ≤ 1000000))
  | _ => none
theorem ok_trim2 : SpecOk Tryd.prog 48 sp_trim2 := by
  intro zs r ok he hok
  unfold sp_trim2 at he
  split at he
  · rename_i s
    cases he
    refine ⟨by kernel_rfl, fun M w vs hM hvs => ?_⟩
    cases hvs with | cons h1 h2 =>
    cases h2 with | cons h2 h3 =>
    cases h3
    cases h1 with | p _ _ h1 =>
    cases h2 with | p _ _ h2 =>
    cases h1 with | str _ hs =>
    cases h2 with | str _ hc =>
    have hok : s.length ≤ 1000000 := hok
    have hcon := Any.strings_Trim_laid lays160 (by kernel_rfl) ⟨s.toArray⟩ ⟨#[32, 9]⟩ w (by show s.toArray.size ≤ _; simp; omega) (by decide) (ascii_of_all (by decide))
    refine Calls.mono hcon fun e w' ⟨he, hB⟩ => ?_
    refine ⟨_, M, he, MLe.refl M, fun _ _ => rfl, fun b q v hv => ?_, .p _ _ (.str (trimBl s) ?_), hB⟩
    · have hc := hM b q v hv
      have hb : b < w.heap.size := World.block_lt_of_cell? w ⟨b, q, none⟩ hc
      rw [World.cell?_of_block (w := w) (hB.block b hb)]; exact hc
    · have := trimBl_len s
      unfold maxLen; omega
  · cases he
end Go.Proofs.YthfgklcdkehgjaaDoor
