/-
  Lifted functions, and facts about them.
-/
import Derived.Test.YthfgklcdkehgjaaDoorRows
import Derived.Test.YthfgklcdkehgjaaDoorAmC
import Derived.Test.YthfgklcdkehgjaaDoorC13Small
import Derived.Shelf.Strings.SlTrimAscii
import Derived.ShutString
import Derived.Ground.NamesProg
import Derived.Shelf.Lay
namespace Go.Proofs.YthfgklcdkehgjaaDoor
open Go Go.Am
set_option linter.unusedVariables false
/-! strings.Trim at blanks and tabs, by the shelf. -/
def isBl2 (c : UInt8) : Bool := [32, 9].contains c
def trimBl (s : List UInt8) : List UInt8 := (s.reverse.dropWhile isBl2).reverse.dropWhile isBl2
theorem trimBl_lib (s : List UInt8) : Lib.trimS s [32, 9] = trimBl s := rfl
theorem dropWhile_le (p : UInt8 → Bool) : ∀ l : List UInt8, (l.dropWhile p).length ≤ l.length
  | [] => by simp
  | c :: r => by rw [List.dropWhile_cons]; split <;> simp; exact Nat.le_succ_of_le (dropWhile_le p r)
theorem trimBl_len (s : List UInt8) : (trimBl s).length ≤ s.length := by
  unfold trimBl
  have h1 := dropWhile_le isBl2 (s.reverse.dropWhile isBl2).reverse
  have h2 := dropWhile_le isBl2 s.reverse
  simp at h1 h2; omega
end Go.Proofs.YthfgklcdkehgjaaDoor
namespace Go.Proofs.YthfgklcdkehgjaaDoor
open Go.Shelf
shelf_lay Lays.n160 Nm 160 at Tryd as lays160
end Go.Proofs.YthfgklcdkehgjaaDoor
namespace Go.Proofs.YthfgklcdkehgjaaDoor
open Go Go.Am Go.Shelf
def sp_trim2 : List AV → Option (AV × Option Prop)
  | [.p (.str s), .p (.str [32, 9])] => some (.p (.str (trimBl s)), some (s.length ≤ 1000000))
  | _ => none
theorem ok_trim2 : SpecOk Tryd.prog 48 sp_trim2 := by
  intro zs r ok he hok
  unfold sp_trim2 at he
  split at he
  · rename_i s
    cases he
    refine ⟨by kernel_rfl, fun M w vs hM hvs => ?_⟩
    cases hvs with | cons h1 h2 =>
    cases h2 with | cons h2 h3 =>
    cases h3
    cases h1 with | p _ _ h1 =>
    cases h2 with | p _ _ h2 =>
    cases h1 with | str _ hs =>
    cases h2 with | str _ hc =>
    have hok : s.length ≤ 1000000 := hok
    have hcon := Any.strings_Trim_laid lays160 (by kernel_rfl) ⟨s.toArray⟩ ⟨#[32, 9]⟩ w (by show s.toArray.size ≤ _; simp; omega) (by decide) (ascii_of_all (by decide))
    refine Calls.mono hcon fun e w' ⟨he, hB⟩ => ?_
    refine ⟨_, M, he, MLe.refl M, fun _ _ => rfl, fun b q v hv => ?_, .p _ _ (.str (trimBl s) ?_), hB⟩
    · have hc := hM b q v hv
      have hb : b < w.heap.size := World.block_lt_of_cell? w ⟨b, q, none⟩ hc
      rw [World.cell?_of_block (w := w) (hB.block b hb)]; exact hc
    · have := trimBl_len s
      unfold maxLen; omega
  · cases he
end Go.Proofs.YthfgklcdkehgjaaDoor
