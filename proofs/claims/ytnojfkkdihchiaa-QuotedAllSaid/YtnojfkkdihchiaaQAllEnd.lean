/-
  A lifted function, or a fact about one.
-/
import Derived.Test.YtnojfkkdihchiaaQLawAll
namespace Go.Proofs.Ytnojfkkdihchiaa
open Go Go.Am
theorem All_true (s : List UInt8) : FnP Try.prog 3 [.p (.str s)] (.p (.bool true)) := fn_All 0 s _ fun _ => by
  unfold FAll
  have h : (!(decide ((s.length : Int) > (3000 : Int)))) = true → s.length ≤ 1000000 := by
    intro h; simp at h; omega
  rw [if_pos ⟨h, h, fun h' => h (and_l h'), fun h' => h (and_l h')⟩]
  simp
end Go.Proofs.Ytnojfkkdihchiaa
