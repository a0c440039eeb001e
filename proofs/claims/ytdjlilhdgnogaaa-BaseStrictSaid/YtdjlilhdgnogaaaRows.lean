/-
  No cell of these rows narrows 'for every input' (looked for: loops, veiled, ifaces, maps, wideKeys, modest, calm, conditions, laid).
  DERIVED. THE GIVEN ROWS OF THIS SEAT. 5 by the template 'for every input the law returns true; each argument reads behind the call as it read before'; 0 by the template 'total and deterministic' (their statements: YtdjlilhdgnogaaaTotals.lean).
  GIVEN WITH THE SEED: the statements are not yours to turn. If you find one false, say at which input.
  Laid BY PROGRAM, IN A SANDBOX (cutbox-rows.mjs): the forced cells as the released guide's own fill.sh prints them over the translation af1531981357a9a8… (all of the seat's roots in one cut). By AI agents, Wed Nov 11 2026. No macro, syntax, notation, axiom, sorry.
-/
import Derived.Test.YtdjlilhdgnogaaaChecked
import GoSem.Claim
import GoSem.ClaimJoined
import GoSem.ClaimMapViews
import Derived.JoinedTies
import Derived.KernelRfl
namespace Go.Proofs.Ytdjlilhdgnogaaa
/- THE CELL 'sum', in the pinned program and in every row, IS THE sha256 OF THE DUMP (.gsa) THAT YtdjlilhdgnogaaaProg.lean LOADS. Nothing in Lean hashes anything: it is a label: what it is worth is what the hold of that sum in a sandbox is worth. -/
noncomputable def Try.pinned : Pinned := { name := "ytdjlilhdgnogaaa", sum := "af1531981357a9a87492a514f45a921c419b757f3f05fd036e1fd937948806bc", checked := Try.checked }
namespace Rows
def none {H : Type} : Left H := { results := [], args := [] }

/-- 'pillarboxlaw3.BaseJoins': WHATEVER THE INPUT: true; the input reads as it did. -/
def baseJoinsSpec : ChangeSpec := { name := "baseJoins", fn := fun _ => fun
  | [d1, d2] => { results := [.lit (.bool true)], args := [d1, d2] }
  | _ => none }
def baseJoinsRow : OpenClaim := { program := "ytdjlilhdgnogaaa", sum := "af1531981357a9a87492a514f45a921c419b757f3f05fd036e1fd937948806bc", func := "pillarbox/pillarboxlaw3.BaseJoins", spec := "baseJoins", inPlace := ["internal/bytealg.IndexByteString"], apart := false }
def BaseJoinsSaid : Prop := baseJoinsRow.holds Try.pinned (OpenSpec.ofChange baseJoinsSpec)

/-- ITS FALSE NEIGHBOUR: 'it returns false'. Refute it at one input. -/
def baseJoinsWrong : ChangeSpec := { name := "baseJoins", fn := fun _ => fun
  | [d1, d2] => { results := [.lit (.bool false)], args := [d1, d2] }
  | _ => none }
def BaseJoinsWrongFalsely : Prop := baseJoinsRow.holds Try.pinned (OpenSpec.ofChange baseJoinsWrong)

/-- 'pillarboxlaw3.BaseLetters': WHATEVER THE INPUT: true; the input reads as it did. -/
def baseLettersSpec : ChangeSpec := { name := "baseLetters", fn := fun _ => fun
  | [d] => { results := [.lit (.bool true)], args := [d] }
  | _ => none }
def baseLettersRow : OpenClaim := { program := "ytdjlilhdgnogaaa", sum := "af1531981357a9a87492a514f45a921c419b757f3f05fd036e1fd937948806bc", func := "pillarbox/pillarboxlaw3.BaseLetters", spec := "baseLetters", inPlace := ["internal/bytealg.IndexByteString"], apart := false }
def BaseLettersSaid : Prop := baseLettersRow.holds Try.pinned (OpenSpec.ofChange baseLettersSpec)

/-- ITS FALSE NEIGHBOUR: 'it returns false'. Refute it at one input. -/
def baseLettersWrong : ChangeSpec := { name := "baseLetters", fn := fun _ => fun
  | [d] => { results := [.lit (.bool false)], args := [d] }
  | _ => none }
def BaseLettersWrongFalsely : Prop := baseLettersRow.holds Try.pinned (OpenSpec.ofChange baseLettersWrong)

/-- 'pillarboxlaw3.BaseAll': WHATEVER THE INPUT: true; the input reads as it did. -/
def baseAllSpec : ChangeSpec := { name := "baseAll", fn := fun _ => fun
  | [d] => { results := [.lit (.bool true)], args := [d] }
  | _ => none }
def baseAllRow : OpenClaim := { program := "ytdjlilhdgnogaaa", sum := "af1531981357a9a87492a514f45a921c419b757f3f05fd036e1fd937948806bc", func := "pillarbox/pillarboxlaw3.BaseAll", spec := "baseAll", inPlace := ["internal/bytealg.IndexByteString"], apart := false }
def BaseAllSaid : Prop := baseAllRow.holds Try.pinned (OpenSpec.ofChange baseAllSpec)

/-- ITS FALSE NEIGHBOUR: 'it returns false'. Refute it at one input. -/
def baseAllWrong : ChangeSpec := { name := "baseAll", fn := fun _ => fun
  | [d] => { results := [.lit (.bool false)], args := [d] }
  | _ => none }
def BaseAllWrongFalsely : Prop := baseAllRow.holds Try.pinned (OpenSpec.ofChange baseAllWrong)

/-- 'pillarboxlaw3.BaseBack': WHATEVER THE INPUT: true; the input reads as it did. -/
def baseBackSpec : ChangeSpec := { name := "baseBack", fn := fun _ => fun
  | [d1, d2] => { results := [.lit (.bool true)], args := [d1, d2] }
  | _ => none }
def baseBackRow : OpenClaim := { program := "ytdjlilhdgnogaaa", sum := "af1531981357a9a87492a514f45a921c419b757f3f05fd036e1fd937948806bc", func := "pillarbox/pillarboxlaw3.BaseBack", spec := "baseBack", inPlace := ["internal/bytealg.IndexByteString"], apart := false }
def BaseBackSaid : Prop := baseBackRow.holds Try.pinned (OpenSpec.ofChange baseBackSpec)

/-- ITS FALSE NEIGHBOUR: 'it returns false'. Refute it at one input. -/
def baseBackWrong : ChangeSpec := { name := "baseBack", fn := fun _ => fun
  | [d1, d2] => { results := [.lit (.bool false)], args := [d1, d2] }
  | _ => none }
def BaseBackWrongFalsely : Prop := baseBackRow.holds Try.pinned (OpenSpec.ofChange baseBackWrong)

/-- 'pillarboxlaw3.BaseStrict': WHATEVER THE INPUT: true; the input reads as it did. -/
def baseStrictSpec : ChangeSpec := { name := "baseStrict", fn := fun _ => fun
  | [d1, d2] => { results := [.lit (.bool true)], args := [d1, d2] }
  | _ => none }
def baseStrictRow : OpenClaim := { program := "ytdjlilhdgnogaaa", sum := "af1531981357a9a87492a514f45a921c419b757f3f05fd036e1fd937948806bc", func := "pillarbox/pillarboxlaw3.BaseStrict", spec := "baseStrict", inPlace := ["internal/bytealg.IndexByteString"], apart := false }
def BaseStrictSaid : Prop := baseStrictRow.holds Try.pinned (OpenSpec.ofChange baseStrictSpec)

/-- ITS FALSE NEIGHBOUR: 'it returns false'. Refute it at one input. -/
def baseStrictWrong : ChangeSpec := { name := "baseStrict", fn := fun _ => fun
  | [d1, d2] => { results := [.lit (.bool false)], args := [d1, d2] }
  | _ => none }
def BaseStrictWrongFalsely : Prop := baseStrictRow.holds Try.pinned (OpenSpec.ofChange baseStrictWrong)

/- THE SECOND FORM. 'bulk': how many values and letters a reading holds, each counted each time it is reached (what is shared counts as often as it is met; a slice's spare places count too). A statement '..UptoSaid' is the law's where the arguments, and the package variables that the reading takes, are together of bulk at most 1048576: NARROWER than '..Said'. Prove '..Said' where nothing that the law and all that it calls make is longer than what came in: it says more and counts as full. Else prove '..UptoSaid'. A law counts once. -/
mutual
def uptoBulk {H : Type} : DataW H → Nat
  | .lit (.string bytes) => bytes.length + 1
  | .lit _ => 1
  | .nil => 1
  | .ptr d => uptoBulk d + 1
  | .slice elems spare => uptoBulkAll elems + uptoBulkAll spare + 1
  | .agg parts => uptoBulkAll parts + 1
  | .iface _ d => uptoBulk d + 1
  | .map entries => uptoBulkEntries entries + 1
  | .held _ => 1
def uptoBulkAll {H : Type} : List (DataW H) → Nat
  | [] => 0
  | d :: r => uptoBulk d + uptoBulkAll r
def uptoBulkEntries {H : Type} : List (Lit × DataW H) → Nat
  | [] => 0
  | x :: r => uptoBulkEntry x + uptoBulkEntries r
def uptoBulkEntry {H : Type} : Lit × DataW H → Nat
  | (.string bytes, d) => bytes.length + uptoBulk d + 1
  | (_, d) => uptoBulk d + 1
 end
def uptoSmall : (H : Type) → List (DataW H) → Bool := fun _ ds => decide (uptoBulkAll ds ≤ 1048576)
def OpenSpec.upto (s : _root_.Go.ChangeSpec) : _root_.Go.OpenSpec := { _root_.Go.OpenSpec.ofChange s with cond := some uptoSmall }

/-- 'pillarboxlaw3.BaseJoins', WHERE WHAT IT READS IS OF BULK AT MOST 1048576: true; the input reads as it did. -/
def baseJoinsUptoRow : OpenClaim := { program := "ytdjlilhdgnogaaa", sum := "af1531981357a9a87492a514f45a921c419b757f3f05fd036e1fd937948806bc", func := "pillarbox/pillarboxlaw3.BaseJoins", spec := "baseJoins", inPlace := ["internal/bytealg.IndexByteString"], apart := false, narrowed := true }
def BaseJoinsUptoSaid : Prop := baseJoinsUptoRow.holds Try.pinned (OpenSpec.upto baseJoinsSpec)

/-- 'pillarboxlaw3.BaseLetters', WHERE WHAT IT READS IS OF BULK AT MOST 1048576: true; the input reads as it did. -/
def baseLettersUptoRow : OpenClaim := { program := "ytdjlilhdgnogaaa", sum := "af1531981357a9a87492a514f45a921c419b757f3f05fd036e1fd937948806bc", func := "pillarbox/pillarboxlaw3.BaseLetters", spec := "baseLetters", inPlace := ["internal/bytealg.IndexByteString"], apart := false, narrowed := true }
def BaseLettersUptoSaid : Prop := baseLettersUptoRow.holds Try.pinned (OpenSpec.upto baseLettersSpec)

/-- 'pillarboxlaw3.BaseAll', WHERE WHAT IT READS IS OF BULK AT MOST 1048576: true; the input reads as it did. -/
def baseAllUptoRow : OpenClaim := { program := "ytdjlilhdgnogaaa", sum := "af1531981357a9a87492a514f45a921c419b757f3f05fd036e1fd937948806bc", func := "pillarbox/pillarboxlaw3.BaseAll", spec := "baseAll", inPlace := ["internal/bytealg.IndexByteString"], apart := false, narrowed := true }
def BaseAllUptoSaid : Prop := baseAllUptoRow.holds Try.pinned (OpenSpec.upto baseAllSpec)

/-- 'pillarboxlaw3.BaseBack', WHERE WHAT IT READS IS OF BULK AT MOST 1048576: true; the input reads as it did. -/
def baseBackUptoRow : OpenClaim := { program := "ytdjlilhdgnogaaa", sum := "af1531981357a9a87492a514f45a921c419b757f3f05fd036e1fd937948806bc", func := "pillarbox/pillarboxlaw3.BaseBack", spec := "baseBack", inPlace := ["internal/bytealg.IndexByteString"], apart := false, narrowed := true }
def BaseBackUptoSaid : Prop := baseBackUptoRow.holds Try.pinned (OpenSpec.upto baseBackSpec)

/-- 'pillarboxlaw3.BaseStrict', WHERE WHAT IT READS IS OF BULK AT MOST 1048576: true; the input reads as it did. -/
def baseStrictUptoRow : OpenClaim := { program := "ytdjlilhdgnogaaa", sum := "af1531981357a9a87492a514f45a921c419b757f3f05fd036e1fd937948806bc", func := "pillarbox/pillarboxlaw3.BaseStrict", spec := "baseStrict", inPlace := ["internal/bytealg.IndexByteString"], apart := false, narrowed := true }
def BaseStrictUptoSaid : Prop := baseStrictUptoRow.holds Try.pinned (OpenSpec.upto baseStrictSpec)

end Rows
end Go.Proofs.Ytdjlilhdgnogaaa
