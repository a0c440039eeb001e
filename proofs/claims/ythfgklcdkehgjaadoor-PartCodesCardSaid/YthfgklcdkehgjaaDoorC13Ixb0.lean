/-
  Lifted functions, and facts about them.
-/
import Derived.Test.YthfgklcdkehgjaaDoorRows
import Derived.Test.YthfgklcdkehgjaaDoorAmC
import Derived.Test.YthfgklcdkehgjaaDoorC13Small
import Derived.Lib.Bytealg
namespace Go.Proofs.YthfgklcdkehgjaaDoor
open Go Go.Am
set_option linter.unusedVariables false
def ixS (s : List UInt8) (c : Int) : Int := Lib.indexByte s c.toNat.toUInt8
def sp_extib : List AV → Option (AV × Option Prop)
  | [.p (.str s), .p (.int .u8 c)] => some (.p (.int .i64 (ixS s c)), none)
  | _ => none
theorem indexByte_lt (l : List UInt8) (c : UInt8) : Lib.indexByte l c < l.length ∨ Lib.indexByte l c = -1 := by
  induction l with
  | nil => right; rfl
  | cons b l ih =>
    unfold Lib.indexByte
    split
    · left; simp
    · split
      · right; rfl
      · left; rename_i h1 h2; simp at h2; simp; omega
theorem ok_extib : SpecExt Tryd.prog 94 sp_extib := by
  intro zs r ok h hok M w vs hM hvs
  unfold sp_extib at h
  split at h
  · rename_i s c
    cases h
    cases hvs with
    | cons h1 h2 => cases h2 with
      | cons h2 h3 =>
        cases h3
        cases h1 with | p _ _ h1 =>
        cases h2 with | p _ _ h2 =>
        cases h1 with | str _ hs =>
        cases h2 with | int _ _ hc =>
        refine ⟨.int .i64 (ixS s c), ?_, .p _ _ (.int _ _ ?_)⟩
        · rw [run_callFunc_extern (fn := Tryd.f94) (e := Extern.BytealgIndexByte.indexByte) (by kernel_rfl) (by kernel_rfl) (by kernel_rfl) (by kernel_rfl) (by kernel_rfl)]
          rw [Lib.run_indexByteString]; rfl
        · have h1 := Lib.indexByte_ge s c.toNat.toUInt8
          have h2 := indexByte_lt s c.toNat.toUInt8
          exact has_i64 (by unfold maxLen at hs; unfold i64ok ixS; omega)
  · cases h
end Go.Proofs.YthfgklcdkehgjaaDoor
