/-
  Lifted functions, and facts about them.
-/
import Derived.Test.YtoanepondbagcaaGreatDoorRows
import Derived.Test.YtoanepondbagcaaGreatDoorAmC
import Derived.Test.YtoanepondbagcaaGreatDoorC01
import Derived.Test.YtoanepondbagcaaGreatDoorC10
namespace Go.Proofs.YtoanepondbagcaaGreatDoor
open Go Go.Am
set_option linter.unusedVariables false
def lnOk:Nat->Nat->List (Nat×List UInt8×Nat)->Prop
 | a,b,[]=>a<=b
 | a,b,(_,t,nx)::r=>a < nx/\nx<=b/\t.length<=nx - a/\lnOk nx b r
theorem linesN_ok {s:List UInt8} {b:Nat} (hb:b<=s.length):∀ (n i:Nat),b - i=n->i<=b->lnOk i b (linesN s i b)/\(linesN s i b).length<=b - i:=by
 intro n
 induction n using Nat.strongRecOn with
 | _ n ih=>
  intro i hn hi
  by_cases h:i < b
  .obtain ⟨h1,h2,h3,h4⟩:=nextL_spec h hb
   obtain ⟨k1,k2⟩:=ih (b - (nextL s i b).2) (by omega) _ rfl h3
   rw [h1]
   exact ⟨⟨h2,h3,h4,k1⟩,by simp; omega⟩
  .rw [linesN_nil (by omega)]; exact ⟨hi,by simp⟩
end Go.Proofs.YtoanepondbagcaaGreatDoor
