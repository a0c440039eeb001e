/-
  NARROWER THAN 'FOR EVERY INPUT', by the rows' own cells (each row's printed sentence says how): SevenJoins: laid · SevenBad: laid · SevenAll: laid · SevenBack: laid · SevenPoints: laid · SevenPlain: laid.
  DERIVED. THE GIVEN ROWS OF THIS SEAT. 6 by the template 'for every input the law returns true; each argument reads behind the call as it read before'; 0 by the template 'total and deterministic' (their statements: YtmnkkliibjlefaaDoorTotals.lean).
  GIVEN WITH THE SEED: the statements are not yours to turn. If you find one false, say at which input.
  Laid BY PROGRAM, IN A SANDBOX (cutbox-rows.mjs): the forced cells as the released guide's own fill.sh prints them over the translation 92f274173f7ef113… (all of the seat's roots in one cut). By AI agents, Wed Nov 11 2026. No macro, syntax, notation, axiom, sorry.
-/
import Derived.Test.YtmnkkliibjlefaaDoorChecked
import GoSem.PinnedTables
import GoSem.Claim
import GoSem.ClaimJoined
import GoSem.ClaimMapViews
import Derived.JoinedTies
import Derived.KernelRfl
namespace Go.Proofs.YtmnkkliibjlefaaDoor
/- THE CELL 'sum', in the pinned program and in every row, IS THE sha256 OF THE DUMP (.gsa) THAT YtmnkkliibjlefaaDoorProg.lean LOADS. Nothing in Lean hashes anything: it is a label: what it is worth is what the hold of that sum in a sandbox is worth. -/
noncomputable def Tryd.pinned : Pinned := { name := "ytmnkkliibjlefaadoor", sum := "92f274173f7ef113c624bf9c9f23195f92938a511562bd844b5121f9323f7fe5", checked := Tryd.checked }
namespace Rows
def none {H : Type} : Left H := { results := [], args := [] }

/- WHAT THE LISTED PACKAGE-LEVEL VARIABLES READ AS WHEN THE CALL BEGINS. Each datum BY PROGRAM (the guide's laid-datum.mjs) off the statement by which the dump's own 'gosem.cut.vars' lays the variable. In a bare row this is a premise. The card (YtmnkkliibjlefaaDoorCards.lean) ties it to the program's text. -/
def laid_unicode_utf8_acceptRanges {H : Type} : DataW H := .agg [.agg [.lit (.int .u8 128), .lit (.int .u8 191)], .agg [.lit (.int .u8 160), .lit (.int .u8 191)], .agg [.lit (.int .u8 128), .lit (.int .u8 159)], .agg [.lit (.int .u8 144), .lit (.int .u8 191)], .agg [.lit (.int .u8 128), .lit (.int .u8 143)], .agg [.lit (.int .u8 0), .lit (.int .u8 0)], .agg [.lit (.int .u8 0), .lit (.int .u8 0)], .agg [.lit (.int .u8 0), .lit (.int .u8 0)], .agg [.lit (.int .u8 0), .lit (.int .u8 0)], .agg [.lit (.int .u8 0), .lit (.int .u8 0)], .agg [.lit (.int .u8 0), .lit (.int .u8 0)], .agg [.lit (.int .u8 0), .lit (.int .u8 0)], .agg [.lit (.int .u8 0), .lit (.int .u8 0)], .agg [.lit (.int .u8 0), .lit (.int .u8 0)], .agg [.lit (.int .u8 0), .lit (.int .u8 0)], .agg [.lit (.int .u8 0), .lit (.int .u8 0)]]
/-- One of Go's own tables, pinned by name: the form's constant. -/
def laid_unicode_utf8_first : DataW Unit := Go.Pinned.utf8First

/-- 'pillarboxlaw5.SevenJoins': WHATEVER THE INPUT: true; the input reads as it did. -/
def sevenJoinsSpec : ChangeSpec := { name := "sevenJoins", fn := fun _ => fun
  | [d1, d2, d3] => { results := [.lit (.bool true)], args := [d1, d2, d3] }
  | _ => none }
def sevenJoinsRow : OpenClaim := { program := "ytmnkkliibjlefaadoor", sum := "92f274173f7ef113c624bf9c9f23195f92938a511562bd844b5121f9323f7fe5", func := "pillarbox/pillarboxlaw5.SevenJoins", spec := "sevenJoins", inPlace := ["internal/bytealg.IndexByteString", "internal/bytealg.IndexString", "internal/bytealg.CountString", "internal/abi.NoEscape", "internal/bytealg.MakeNoZero"], unfollowed := true, recurses := true, named := ["unicode/utf8.first", "unicode/utf8.acceptRanges", "internal/bytealg.MaxLen"], apart := false, laid := [("unicode/utf8.acceptRanges", laid_unicode_utf8_acceptRanges), ("unicode/utf8.first", laid_unicode_utf8_first)] }
def SevenJoinsSaid : Prop := sevenJoinsRow.holds Tryd.pinned (OpenSpec.ofChange sevenJoinsSpec)

/-- ITS FALSE NEIGHBOUR: 'it returns false'. Refute it at one input. -/
def sevenJoinsWrong : ChangeSpec := { name := "sevenJoins", fn := fun _ => fun
  | [d1, d2, d3] => { results := [.lit (.bool false)], args := [d1, d2, d3] }
  | _ => none }
def SevenJoinsWrongFalsely : Prop := sevenJoinsRow.holds Tryd.pinned (OpenSpec.ofChange sevenJoinsWrong)

/-- 'pillarboxlaw5.SevenBad': WHATEVER THE INPUT: true; the input reads as it did. -/
def sevenBadSpec : ChangeSpec := { name := "sevenBad", fn := fun _ => fun
  | [d1, d2] => { results := [.lit (.bool true)], args := [d1, d2] }
  | _ => none }
def sevenBadRow : OpenClaim := { program := "ytmnkkliibjlefaadoor", sum := "92f274173f7ef113c624bf9c9f23195f92938a511562bd844b5121f9323f7fe5", func := "pillarbox/pillarboxlaw5.SevenBad", spec := "sevenBad", inPlace := ["internal/bytealg.IndexByteString", "internal/bytealg.IndexString", "internal/bytealg.CountString", "internal/abi.NoEscape", "internal/bytealg.MakeNoZero"], unfollowed := true, recurses := true, named := ["unicode/utf8.first", "unicode/utf8.acceptRanges", "internal/bytealg.MaxLen"], apart := false, laid := [("unicode/utf8.acceptRanges", laid_unicode_utf8_acceptRanges), ("unicode/utf8.first", laid_unicode_utf8_first)] }
def SevenBadSaid : Prop := sevenBadRow.holds Tryd.pinned (OpenSpec.ofChange sevenBadSpec)

/-- ITS FALSE NEIGHBOUR: 'it returns false'. Refute it at one input. -/
def sevenBadWrong : ChangeSpec := { name := "sevenBad", fn := fun _ => fun
  | [d1, d2] => { results := [.lit (.bool false)], args := [d1, d2] }
  | _ => none }
def SevenBadWrongFalsely : Prop := sevenBadRow.holds Tryd.pinned (OpenSpec.ofChange sevenBadWrong)

/-- 'pillarboxlaw5.SevenAll': WHATEVER THE INPUT: true; the input reads as it did. -/
def sevenAllSpec : ChangeSpec := { name := "sevenAll", fn := fun _ => fun
  | [d] => { results := [.lit (.bool true)], args := [d] }
  | _ => none }
def sevenAllRow : OpenClaim := { program := "ytmnkkliibjlefaadoor", sum := "92f274173f7ef113c624bf9c9f23195f92938a511562bd844b5121f9323f7fe5", func := "pillarbox/pillarboxlaw5.SevenAll", spec := "sevenAll", inPlace := ["internal/bytealg.IndexByteString", "internal/bytealg.IndexString", "internal/bytealg.CountString", "internal/abi.NoEscape", "internal/bytealg.MakeNoZero"], unfollowed := true, recurses := true, named := ["unicode/utf8.first", "unicode/utf8.acceptRanges", "internal/bytealg.MaxLen"], apart := false, laid := [("unicode/utf8.acceptRanges", laid_unicode_utf8_acceptRanges), ("unicode/utf8.first", laid_unicode_utf8_first)] }
def SevenAllSaid : Prop := sevenAllRow.holds Tryd.pinned (OpenSpec.ofChange sevenAllSpec)

/-- ITS FALSE NEIGHBOUR: 'it returns false'. Refute it at one input. -/
def sevenAllWrong : ChangeSpec := { name := "sevenAll", fn := fun _ => fun
  | [d] => { results := [.lit (.bool false)], args := [d] }
  | _ => none }
def SevenAllWrongFalsely : Prop := sevenAllRow.holds Tryd.pinned (OpenSpec.ofChange sevenAllWrong)

/-- 'pillarboxlaw5.SevenBack': WHATEVER THE INPUT: true; the input reads as it did. -/
def sevenBackSpec : ChangeSpec := { name := "sevenBack", fn := fun _ => fun
  | [d1, d2] => { results := [.lit (.bool true)], args := [d1, d2] }
  | _ => none }
def sevenBackRow : OpenClaim := { program := "ytmnkkliibjlefaadoor", sum := "92f274173f7ef113c624bf9c9f23195f92938a511562bd844b5121f9323f7fe5", func := "pillarbox/pillarboxlaw5.SevenBack", spec := "sevenBack", inPlace := ["internal/bytealg.IndexByteString", "internal/bytealg.IndexString", "internal/bytealg.CountString", "internal/abi.NoEscape", "internal/bytealg.MakeNoZero"], unfollowed := true, recurses := true, named := ["unicode/utf8.first", "unicode/utf8.acceptRanges", "internal/bytealg.MaxLen"], apart := false, laid := [("unicode/utf8.acceptRanges", laid_unicode_utf8_acceptRanges), ("unicode/utf8.first", laid_unicode_utf8_first)] }
def SevenBackSaid : Prop := sevenBackRow.holds Tryd.pinned (OpenSpec.ofChange sevenBackSpec)

/-- ITS FALSE NEIGHBOUR: 'it returns false'. Refute it at one input. -/
def sevenBackWrong : ChangeSpec := { name := "sevenBack", fn := fun _ => fun
  | [d1, d2] => { results := [.lit (.bool false)], args := [d1, d2] }
  | _ => none }
def SevenBackWrongFalsely : Prop := sevenBackRow.holds Tryd.pinned (OpenSpec.ofChange sevenBackWrong)

/-- 'pillarboxlaw5.SevenPoints': WHATEVER THE INPUT: true; the input reads as it did. -/
def sevenPointsSpec : ChangeSpec := { name := "sevenPoints", fn := fun _ => fun
  | [d] => { results := [.lit (.bool true)], args := [d] }
  | _ => none }
def sevenPointsRow : OpenClaim := { program := "ytmnkkliibjlefaadoor", sum := "92f274173f7ef113c624bf9c9f23195f92938a511562bd844b5121f9323f7fe5", func := "pillarbox/pillarboxlaw5.SevenPoints", spec := "sevenPoints", inPlace := ["internal/bytealg.IndexByteString", "internal/bytealg.IndexString", "internal/bytealg.CountString", "internal/abi.NoEscape", "internal/bytealg.MakeNoZero"], unfollowed := true, recurses := true, named := ["unicode/utf8.first", "unicode/utf8.acceptRanges", "internal/bytealg.MaxLen"], apart := false, laid := [("unicode/utf8.acceptRanges", laid_unicode_utf8_acceptRanges), ("unicode/utf8.first", laid_unicode_utf8_first)] }
def SevenPointsSaid : Prop := sevenPointsRow.holds Tryd.pinned (OpenSpec.ofChange sevenPointsSpec)

/-- ITS FALSE NEIGHBOUR: 'it returns false'. Refute it at one input. -/
def sevenPointsWrong : ChangeSpec := { name := "sevenPoints", fn := fun _ => fun
  | [d] => { results := [.lit (.bool false)], args := [d] }
  | _ => none }
def SevenPointsWrongFalsely : Prop := sevenPointsRow.holds Tryd.pinned (OpenSpec.ofChange sevenPointsWrong)

/-- 'pillarboxlaw5.SevenPlain': WHATEVER THE INPUT: true; the input reads as it did. -/
def sevenPlainSpec : ChangeSpec := { name := "sevenPlain", fn := fun _ => fun
  | [d1, d2] => { results := [.lit (.bool true)], args := [d1, d2] }
  | _ => none }
def sevenPlainRow : OpenClaim := { program := "ytmnkkliibjlefaadoor", sum := "92f274173f7ef113c624bf9c9f23195f92938a511562bd844b5121f9323f7fe5", func := "pillarbox/pillarboxlaw5.SevenPlain", spec := "sevenPlain", inPlace := ["internal/bytealg.IndexByteString", "internal/bytealg.IndexString", "internal/bytealg.CountString", "internal/abi.NoEscape", "internal/bytealg.MakeNoZero"], unfollowed := true, recurses := true, named := ["unicode/utf8.first", "unicode/utf8.acceptRanges", "internal/bytealg.MaxLen"], apart := false, laid := [("unicode/utf8.acceptRanges", laid_unicode_utf8_acceptRanges), ("unicode/utf8.first", laid_unicode_utf8_first)] }
def SevenPlainSaid : Prop := sevenPlainRow.holds Tryd.pinned (OpenSpec.ofChange sevenPlainSpec)

/-- ITS FALSE NEIGHBOUR: 'it returns false'. Refute it at one input. -/
def sevenPlainWrong : ChangeSpec := { name := "sevenPlain", fn := fun _ => fun
  | [d1, d2] => { results := [.lit (.bool false)], args := [d1, d2] }
  | _ => none }
def SevenPlainWrongFalsely : Prop := sevenPlainRow.holds Tryd.pinned (OpenSpec.ofChange sevenPlainWrong)

/- THE SECOND FORM. 'bulk': how many values and letters a reading holds, each counted each time it is reached (what is shared counts as often as it is met; a slice's spare places count too). A statement '..UptoSaid' is the law's where the arguments, and the package variables that the reading takes, are together of bulk at most 1048576: NARROWER than '..Said'. Prove '..Said' where nothing that the law and all that it calls make is longer than what came in: it says more and counts as full. Else prove '..UptoSaid'. A law counts once. -/
mutual
def uptoBulk {H : Type} : DataW H → Nat
  | .lit (.string bytes) => bytes.length + 1
  | .lit _ => 1
  | .nil => 1
  | .ptr d => uptoBulk d + 1
  | .slice elems spare => uptoBulkAll elems + uptoBulkAll spare + 1
  | .agg parts => uptoBulkAll parts + 1
  | .iface _ d => uptoBulk d + 1
  | .map entries => uptoBulkEntries entries + 1
  | .held _ => 1
def uptoBulkAll {H : Type} : List (DataW H) → Nat
  | [] => 0
  | d :: r => uptoBulk d + uptoBulkAll r
def uptoBulkEntries {H : Type} : List (Lit × DataW H) → Nat
  | [] => 0
  | x :: r => uptoBulkEntry x + uptoBulkEntries r
def uptoBulkEntry {H : Type} : Lit × DataW H → Nat
  | (.string bytes, d) => bytes.length + uptoBulk d + 1
  | (_, d) => uptoBulk d + 1
 end
def uptoSmall : (H : Type) → List (DataW H) → Bool := fun _ ds => decide (uptoBulkAll ds ≤ 1048576)
def OpenSpec.upto (s : _root_.Go.ChangeSpec) : _root_.Go.OpenSpec := { _root_.Go.OpenSpec.ofChange s with cond := some uptoSmall }

/-- 'pillarboxlaw5.SevenJoins', WHERE WHAT IT READS IS OF BULK AT MOST 1048576: true; the input reads as it did. -/
def sevenJoinsUptoRow : OpenClaim := { program := "ytmnkkliibjlefaadoor", sum := "92f274173f7ef113c624bf9c9f23195f92938a511562bd844b5121f9323f7fe5", func := "pillarbox/pillarboxlaw5.SevenJoins", spec := "sevenJoins", inPlace := ["internal/bytealg.IndexByteString", "internal/bytealg.IndexString", "internal/bytealg.CountString", "internal/abi.NoEscape", "internal/bytealg.MakeNoZero"], unfollowed := true, recurses := true, named := ["unicode/utf8.first", "unicode/utf8.acceptRanges", "internal/bytealg.MaxLen"], apart := false, laid := [("unicode/utf8.acceptRanges", laid_unicode_utf8_acceptRanges), ("unicode/utf8.first", laid_unicode_utf8_first)], narrowed := true }
def SevenJoinsUptoSaid : Prop := sevenJoinsUptoRow.holds Tryd.pinned (OpenSpec.upto sevenJoinsSpec)

/-- 'pillarboxlaw5.SevenBad', WHERE WHAT IT READS IS OF BULK AT MOST 1048576: true; the input reads as it did. -/
def sevenBadUptoRow : OpenClaim := { program := "ytmnkkliibjlefaadoor", sum := "92f274173f7ef113c624bf9c9f23195f92938a511562bd844b5121f9323f7fe5", func := "pillarbox/pillarboxlaw5.SevenBad", spec := "sevenBad", inPlace := ["internal/bytealg.IndexByteString", "internal/bytealg.IndexString", "internal/bytealg.CountString", "internal/abi.NoEscape", "internal/bytealg.MakeNoZero"], unfollowed := true, recurses := true, named := ["unicode/utf8.first", "unicode/utf8.acceptRanges", "internal/bytealg.MaxLen"], apart := false, laid := [("unicode/utf8.acceptRanges", laid_unicode_utf8_acceptRanges), ("unicode/utf8.first", laid_unicode_utf8_first)], narrowed := true }
def SevenBadUptoSaid : Prop := sevenBadUptoRow.holds Tryd.pinned (OpenSpec.upto sevenBadSpec)

/-- 'pillarboxlaw5.SevenAll', WHERE WHAT IT READS IS OF BULK AT MOST 1048576: true; the input reads as it did. -/
def sevenAllUptoRow : OpenClaim := { program := "ytmnkkliibjlefaadoor", sum := "92f274173f7ef113c624bf9c9f23195f92938a511562bd844b5121f9323f7fe5", func := "pillarbox/pillarboxlaw5.SevenAll", spec := "sevenAll", inPlace := ["internal/bytealg.IndexByteString", "internal/bytealg.IndexString", "internal/bytealg.CountString", "internal/abi.NoEscape", "internal/bytealg.MakeNoZero"], unfollowed := true, recurses := true, named := ["unicode/utf8.first", "unicode/utf8.acceptRanges", "internal/bytealg.MaxLen"], apart := false, laid := [("unicode/utf8.acceptRanges", laid_unicode_utf8_acceptRanges), ("unicode/utf8.first", laid_unicode_utf8_first)], narrowed := true }
def SevenAllUptoSaid : Prop := sevenAllUptoRow.holds Tryd.pinned (OpenSpec.upto sevenAllSpec)

/-- 'pillarboxlaw5.SevenBack', WHERE WHAT IT READS IS OF BULK AT MOST 1048576: true; the input reads as it did. -/
def sevenBackUptoRow : OpenClaim := { program := "ytmnkkliibjlefaadoor", sum := "92f274173f7ef113c624bf9c9f23195f92938a511562bd844b5121f9323f7fe5", func := "pillarbox/pillarboxlaw5.SevenBack", spec := "sevenBack", inPlace := ["internal/bytealg.IndexByteString", "internal/bytealg.IndexString", "internal/bytealg.CountString", "internal/abi.NoEscape", "internal/bytealg.MakeNoZero"], unfollowed := true, recurses := true, named := ["unicode/utf8.first", "unicode/utf8.acceptRanges", "internal/bytealg.MaxLen"], apart := false, laid := [("unicode/utf8.acceptRanges", laid_unicode_utf8_acceptRanges), ("unicode/utf8.first", laid_unicode_utf8_first)], narrowed := true }
def SevenBackUptoSaid : Prop := sevenBackUptoRow.holds Tryd.pinned (OpenSpec.upto sevenBackSpec)

/-- 'pillarboxlaw5.SevenPoints', WHERE WHAT IT READS IS OF BULK AT MOST 1048576: true; the input reads as it did. -/
def sevenPointsUptoRow : OpenClaim := { program := "ytmnkkliibjlefaadoor", sum := "92f274173f7ef113c624bf9c9f23195f92938a511562bd844b5121f9323f7fe5", func := "pillarbox/pillarboxlaw5.SevenPoints", spec := "sevenPoints", inPlace := ["internal/bytealg.IndexByteString", "internal/bytealg.IndexString", "internal/bytealg.CountString", "internal/abi.NoEscape", "internal/bytealg.MakeNoZero"], unfollowed := true, recurses := true, named := ["unicode/utf8.first", "unicode/utf8.acceptRanges", "internal/bytealg.MaxLen"], apart := false, laid := [("unicode/utf8.acceptRanges", laid_unicode_utf8_acceptRanges), ("unicode/utf8.first", laid_unicode_utf8_first)], narrowed := true }
def SevenPointsUptoSaid : Prop := sevenPointsUptoRow.holds Tryd.pinned (OpenSpec.upto sevenPointsSpec)

/-- 'pillarboxlaw5.SevenPlain', WHERE WHAT IT READS IS OF BULK AT MOST 1048576: true; the input reads as it did. -/
def sevenPlainUptoRow : OpenClaim := { program := "ytmnkkliibjlefaadoor", sum := "92f274173f7ef113c624bf9c9f23195f92938a511562bd844b5121f9323f7fe5", func := "pillarbox/pillarboxlaw5.SevenPlain", spec := "sevenPlain", inPlace := ["internal/bytealg.IndexByteString", "internal/bytealg.IndexString", "internal/bytealg.CountString", "internal/abi.NoEscape", "internal/bytealg.MakeNoZero"], unfollowed := true, recurses := true, named := ["unicode/utf8.first", "unicode/utf8.acceptRanges", "internal/bytealg.MaxLen"], apart := false, laid := [("unicode/utf8.acceptRanges", laid_unicode_utf8_acceptRanges), ("unicode/utf8.first", laid_unicode_utf8_first)], narrowed := true }
def SevenPlainUptoSaid : Prop := sevenPlainUptoRow.holds Tryd.pinned (OpenSpec.upto sevenPlainSpec)

end Rows
end Go.Proofs.YtmnkkliibjlefaaDoor
