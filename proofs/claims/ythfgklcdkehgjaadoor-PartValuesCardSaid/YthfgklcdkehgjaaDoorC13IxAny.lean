/-
  Lifted functions, and facts about them.
-/
import Derived.Test.YthfgklcdkehgjaaDoorRows
import Derived.Test.YthfgklcdkehgjaaDoorAmC
import Derived.Test.YthfgklcdkehgjaaDoorC13Trim2
import Derived.Deep.RegionWith
import Derived.Laws.Runes
import Derived.Shelf.Small.Utf8
import Derived.WalkMore
import Derived.Shelf.Strings.IndexAnyAll
import Derived.Laws.RangeAny
import Derived.Lib.IndexAny
namespace Go.Proofs.YthfgklcdkehgjaaDoor
open Go Go.Am
set_option linter.unusedVariables false
/-! strings.IndexAny at two signs, whatever the text. -/
end Go.Proofs.YthfgklcdkehgjaaDoor
namespace Go.Proofs.YthfgklcdkehgjaaDoor
open Go Go.RowKit Go.Lib
theorem inB_ret {i : Nat} {Q : Exit → Act → World → Prop} {a : Act} {w : World} : Exit.inBlock i Q .ret a w = Q .ret a w := rfl
theorem then_ret {K : Act → World → Prop} {Q : Exit → Act → World → Prop} {a : Act} {w : World} : Exit.then K Q .ret a w = Q .ret a w := rfl
open Go.Shelf in
theorem enc_high (r : Int) (h : 128 ≤ r) : (∃ a b : UInt8, Utf8.encode r = ⟨#[a, b]⟩ ∧ 128 ≤ b.toNat) ∨ (∃ a b c : UInt8, Utf8.encode r = ⟨#[a, b, c]⟩) ∨ (∃ a b c d : UInt8, Utf8.encode r = ⟨#[a, b, c, d]⟩) := by
  have hc : 128 ≤ (if Utf8.valid r then r.toNat else Utf8.runeError) := by
    split
    · omega
    · decide
  unfold Utf8.encode
  dsimp only
  generalize (if Utf8.valid r then r.toNat else Utf8.runeError) = c at hc
  rw [if_neg (by omega)]
  split
  · refine .inl ⟨_, _, rfl, ?_⟩
    rw [UInt8.toNat_ofNat']; omega
  · split
    · exact .inr (.inl ⟨_, _, _, rfl⟩)
    · exact .inr (.inr ⟨_, _, _, _, rfl⟩)
set_option maxHeartbeats 4000000 in
set_option maxRecDepth 100000 in
theorem ir_bad (w : World) : Calls Tryd.prog 70 #[.string ⟨#[61, 59]⟩, .int .i32 65533] w fun e w' => e = .returned (.int .i64 (-1)) ∧ Below w.heap.size w w' := by
  go_enter Tryd.func70, Tryd.ntmps70
  go_wp2
  go_loopg [5, 6] 2 (fun g _ _ wx => ∃ i : Nat, i + g = 2 ∧ wx = w.iter ⟨#[61, 59]⟩ i)
  case atStart => exact ⟨0, by omega, rfl⟩
  case round =>
    obtain ⟨i, hig, rfl⟩ := hrel
    cases gk with
    | zero =>
      obtain rfl : i = 2 := by omega
      have hnx := fun ty => run_next_end (P := Tryd.prog) w ⟨#[61, 59]⟩ 2 ty (by decide)
      go_wp2
      go_ret
      exact ⟨rfl, (Below.refl _ _).alloc (Nat.le_refl _) _⟩
    | succ g =>
      rcases (show i = 0 ∨ i = 1 by omega) with rfl | rfl
      · have hnx := fun ty => run_next_ascii (P := Tryd.prog) w ⟨#[61, 59]⟩ 0 ty (by decide) (by decide)
        go_wp2
        go_roundg g
        case measure => omega
        case rel => exact ⟨1, by omega, rfl⟩
      · have hnx := fun ty => run_next_ascii (P := Tryd.prog) w ⟨#[61, 59]⟩ 1 ty (by decide) (by decide)
        go_wp2
        go_roundg g
        case measure => omega
        case rel => exact ⟨2, by omega, rfl⟩
end Go.Proofs.YthfgklcdkehgjaaDoor
namespace Go.Proofs.YthfgklcdkehgjaaDoor
open Go.Shelf
def lays119_ren : Go.Shelf.Ren:=⟨fun |119=>90|n=>n, fun |21=>21|4=>4|n=>n, fun |n=>n⟩
theorem lays119 : Go.Proofs.Lays.n119 Tryd.prog lays119_ren:={
 mixed:=by kernel_rfl
 f119:=Tryd.func90.trans (congrArg some (by kernel_rfl))
 t4:=Tryd.underlying4
 a4:=Tryd.isAgg4
 z4:=Tryd.sizeOf4
 v4:=Tryd.zeroValue4
 t21:=Tryd.underlying21
 a21:=Tryd.isAgg21
 z21:=Tryd.sizeOf21
 v21:=Tryd.zeroValue21 }
def lays153_ren : Go.Shelf.Ren:=⟨fun |153=>43|152=>70|226=>71|227=>67|228=>72|137=>53|119=>90|224=>86|225=>85|217=>80|266=>94|n=>n, fun |9=>9|3=>3|4=>4|5=>5|21=>21|117=>84|116=>83|0=>0|46=>61|124=>87|n=>n, fun |n=>n⟩
theorem lays153 : Go.Proofs.Lays.n153 Tryd.prog lays153_ren:={
 mixed:=by kernel_rfl
 f119:=Tryd.func90.trans (congrArg some (by kernel_rfl))
 f137:=Tryd.func53.trans (congrArg some (by kernel_rfl))
 f152:=Tryd.func70.trans (congrArg some (by kernel_rfl))
 f153:=Tryd.func43.trans (congrArg some (by kernel_rfl))
 f217:=Tryd.func80.trans (congrArg some (by kernel_rfl))
 f224:=Tryd.func86.trans (congrArg some (by kernel_rfl))
 f225:=Tryd.func85.trans (congrArg some (by kernel_rfl))
 f226:=Tryd.func71.trans (congrArg some (by kernel_rfl))
 f227:=Tryd.func67.trans (congrArg some (by kernel_rfl))
 f228:=Tryd.func72.trans (congrArg some (by kernel_rfl))
 f266:=Tryd.func94.trans (congrArg some (by kernel_rfl))
 t0:=Tryd.underlying0
 a0:=Tryd.isAgg0
 z0:=Tryd.sizeOf0
 v0:=Tryd.zeroValue0
 t3:=Tryd.underlying3
 a3:=Tryd.isAgg3
 z3:=Tryd.sizeOf3
 v3:=Tryd.zeroValue3
 t4:=Tryd.underlying4
 a4:=Tryd.isAgg4
 z4:=Tryd.sizeOf4
 v4:=Tryd.zeroValue4
 t5:=Tryd.underlying5
 a5:=Tryd.isAgg5
 z5:=Tryd.sizeOf5
 v5:=Tryd.zeroValue5
 t9:=Tryd.underlying9
 a9:=Tryd.isAgg9
 z9:=Tryd.sizeOf9
 v9:=Tryd.zeroValue9
 t21:=Tryd.underlying21
 a21:=Tryd.isAgg21
 z21:=Tryd.sizeOf21
 v21:=Tryd.zeroValue21
 t46:=Tryd.underlying61
 a46:=Tryd.isAgg61
 z46:=Tryd.sizeOf61
 v46:=Tryd.zeroValue61
 t116:=Tryd.underlying83
 a116:=Tryd.isAgg83
 z116:=Tryd.sizeOf83
 t117:=Tryd.underlying84
 a117:=Tryd.isAgg84
 z117:=Tryd.sizeOf84
 v117:=Tryd.zeroValue84
 t124:=Tryd.underlying87
 a124:=Tryd.isAgg87
 z124:=Tryd.sizeOf87
 v124:=Tryd.zeroValue87 }
def lays161_ren : Go.Shelf.Ren:=⟨fun |161=>42|231=>66|227=>67|233=>68|235=>69|228=>72|197=>88|151=>89|260=>97|152=>70|137=>53|119=>90|224=>86|225=>85|217=>80|266=>94|n=>n, fun |9=>9|4=>4|3=>3|5=>5|117=>84|116=>83|0=>0|124=>87|105=>98|21=>21|119=>106|46=>61|139=>109|138=>108|n=>n, fun |3=>1|4=>2|n=>n⟩
theorem lays161 : Go.Proofs.Lays.n161 Tryd.prog lays161_ren:={
 mixed:=by kernel_rfl
 f119:=Tryd.func90.trans (congrArg some (by kernel_rfl))
 f137:=Tryd.func53.trans (congrArg some (by kernel_rfl))
 f151:=Tryd.func89.trans (congrArg some (by kernel_rfl))
 f152:=Tryd.func70.trans (congrArg some (by kernel_rfl))
 f161:=Tryd.func42.trans (congrArg some (by kernel_rfl))
 f197:=Tryd.func88.trans (congrArg some (by kernel_rfl))
 f217:=Tryd.func80.trans (congrArg some (by kernel_rfl))
 f224:=Tryd.func86.trans (congrArg some (by kernel_rfl))
 f225:=Tryd.func85.trans (congrArg some (by kernel_rfl))
 f227:=Tryd.func67.trans (congrArg some (by kernel_rfl))
 f228:=Tryd.func72.trans (congrArg some (by kernel_rfl))
 f231:=Tryd.func66.trans (congrArg some (by kernel_rfl))
 f233:=Tryd.func68.trans (congrArg some (by kernel_rfl))
 f235:=Tryd.func69.trans (congrArg some (by kernel_rfl))
 f260:=Tryd.func97.trans (congrArg some (by kernel_rfl))
 f266:=Tryd.func94.trans (congrArg some (by kernel_rfl))
 t0:=Tryd.underlying0
 a0:=Tryd.isAgg0
 z0:=Tryd.sizeOf0
 v0:=Tryd.zeroValue0
 t3:=Tryd.underlying3
 a3:=Tryd.isAgg3
 z3:=Tryd.sizeOf3
 v3:=Tryd.zeroValue3
 t4:=Tryd.underlying4
 a4:=Tryd.isAgg4
 z4:=Tryd.sizeOf4
 v4:=Tryd.zeroValue4
 t5:=Tryd.underlying5
 a5:=Tryd.isAgg5
 z5:=Tryd.sizeOf5
 v5:=Tryd.zeroValue5
 t9:=Tryd.underlying9
 a9:=Tryd.isAgg9
 z9:=Tryd.sizeOf9
 v9:=Tryd.zeroValue9
 t21:=Tryd.underlying21
 a21:=Tryd.isAgg21
 z21:=Tryd.sizeOf21
 v21:=Tryd.zeroValue21
 t46:=Tryd.underlying61
 a46:=Tryd.isAgg61
 z46:=Tryd.sizeOf61
 v46:=Tryd.zeroValue61
 t105:=Tryd.underlying98
 a105:=Tryd.isAgg98
 z105:=Tryd.sizeOf98
 v105:=Tryd.zeroValue98
 t116:=Tryd.underlying83
 a116:=Tryd.isAgg83
 z116:=Tryd.sizeOf83
 t117:=Tryd.underlying84
 a117:=Tryd.isAgg84
 z117:=Tryd.sizeOf84
 v117:=Tryd.zeroValue84
 t119:=Tryd.underlying106
 a119:=Tryd.isAgg106
 z119:=Tryd.sizeOf106
 t124:=Tryd.underlying87
 a124:=Tryd.isAgg87
 z124:=Tryd.sizeOf87
 v124:=Tryd.zeroValue87
 t138:=Tryd.underlying108
 a138:=Tryd.isAgg108
 z138:=Tryd.sizeOf108
 v138:=Tryd.zeroValue108
 t139:=Tryd.underlying109
 a139:=Tryd.isAgg109
 z139:=Tryd.sizeOf109
 v139:=Tryd.zeroValue109
 g3:=by kernel_rfl
 g4:=by kernel_rfl }
def lays162_ren : Go.Shelf.Ren:=⟨fun |162=>46|232=>74|227=>67|234=>75|236=>76|228=>72|271=>91|151=>89|120=>98|197=>88|152=>70|260=>97|137=>53|119=>90|224=>86|225=>85|217=>80|266=>94|n=>n, fun |9=>9|4=>4|3=>3|5=>5|117=>84|116=>83|0=>0|124=>87|21=>21|105=>98|46=>61|119=>106|139=>109|138=>108|n=>n, fun |3=>1|4=>2|n=>n⟩
theorem lays162 : Go.Proofs.Lays.n162 Tryd.prog lays162_ren:={
 mixed:=by kernel_rfl
 f119:=Tryd.func90.trans (congrArg some (by kernel_rfl))
 f120:=Tryd.func98.trans (congrArg some (by kernel_rfl))
 f137:=Tryd.func53.trans (congrArg some (by kernel_rfl))
 f151:=Tryd.func89.trans (congrArg some (by kernel_rfl))
 f152:=Tryd.func70.trans (congrArg some (by kernel_rfl))
 f162:=Tryd.func46.trans (congrArg some (by kernel_rfl))
 f197:=Tryd.func88.trans (congrArg some (by kernel_rfl))
 f217:=Tryd.func80.trans (congrArg some (by kernel_rfl))
 f224:=Tryd.func86.trans (congrArg some (by kernel_rfl))
 f225:=Tryd.func85.trans (congrArg some (by kernel_rfl))
 f227:=Tryd.func67.trans (congrArg some (by kernel_rfl))
 f228:=Tryd.func72.trans (congrArg some (by kernel_rfl))
 f232:=Tryd.func74.trans (congrArg some (by kernel_rfl))
 f234:=Tryd.func75.trans (congrArg some (by kernel_rfl))
 f236:=Tryd.func76.trans (congrArg some (by kernel_rfl))
 f260:=Tryd.func97.trans (congrArg some (by kernel_rfl))
 f266:=Tryd.func94.trans (congrArg some (by kernel_rfl))
 f271:=Tryd.func91.trans (congrArg some (by kernel_rfl))
 t0:=Tryd.underlying0
 a0:=Tryd.isAgg0
 z0:=Tryd.sizeOf0
 v0:=Tryd.zeroValue0
 t3:=Tryd.underlying3
 a3:=Tryd.isAgg3
 z3:=Tryd.sizeOf3
 v3:=Tryd.zeroValue3
 t4:=Tryd.underlying4
 a4:=Tryd.isAgg4
 z4:=Tryd.sizeOf4
 v4:=Tryd.zeroValue4
 t5:=Tryd.underlying5
 a5:=Tryd.isAgg5
 z5:=Tryd.sizeOf5
 v5:=Tryd.zeroValue5
 t9:=Tryd.underlying9
 a9:=Tryd.isAgg9
 z9:=Tryd.sizeOf9
 v9:=Tryd.zeroValue9
 t21:=Tryd.underlying21
 a21:=Tryd.isAgg21
 z21:=Tryd.sizeOf21
 v21:=Tryd.zeroValue21
 t46:=Tryd.underlying61
 a46:=Tryd.isAgg61
 z46:=Tryd.sizeOf61
 v46:=Tryd.zeroValue61
 t105:=Tryd.underlying98
 a105:=Tryd.isAgg98
 z105:=Tryd.sizeOf98
 v105:=Tryd.zeroValue98
 t116:=Tryd.underlying83
 a116:=Tryd.isAgg83
 z116:=Tryd.sizeOf83
 t117:=Tryd.underlying84
 a117:=Tryd.isAgg84
 z117:=Tryd.sizeOf84
 v117:=Tryd.zeroValue84
 t119:=Tryd.underlying106
 a119:=Tryd.isAgg106
 z119:=Tryd.sizeOf106
 t124:=Tryd.underlying87
 a124:=Tryd.isAgg87
 z124:=Tryd.sizeOf87
 v124:=Tryd.zeroValue87
 t138:=Tryd.underlying108
 a138:=Tryd.isAgg108
 z138:=Tryd.sizeOf108
 v138:=Tryd.zeroValue108
 t139:=Tryd.underlying109
 a139:=Tryd.isAgg109
 z139:=Tryd.sizeOf109
 v139:=Tryd.zeroValue109
 g3:=by kernel_rfl
 g4:=by kernel_rfl }
def lays137_ren : Go.Shelf.Ren:=⟨fun |137=>53|217=>80|266=>94|n=>n, fun |9=>9|5=>5|3=>3|n=>n, fun |n=>n⟩
theorem lays137 : Go.Proofs.Lays.n137 Tryd.prog lays137_ren:={
 mixed:=by kernel_rfl
 f137:=Tryd.func53.trans (congrArg some (by kernel_rfl))
 f217:=Tryd.func80.trans (congrArg some (by kernel_rfl))
 f266:=Tryd.func94.trans (congrArg some (by kernel_rfl))
 t3:=Tryd.underlying3
 a3:=Tryd.isAgg3
 z3:=Tryd.sizeOf3
 v3:=Tryd.zeroValue3
 t5:=Tryd.underlying5
 a5:=Tryd.isAgg5
 z5:=Tryd.sizeOf5
 v5:=Tryd.zeroValue5
 t9:=Tryd.underlying9
 a9:=Tryd.isAgg9
 z9:=Tryd.sizeOf9
 v9:=Tryd.zeroValue9 }
end Go.Proofs.YthfgklcdkehgjaaDoor
namespace Go.Proofs.YthfgklcdkehgjaaDoor
open Go Go.RowKit Go.Lib
set_option maxHeartbeats 4000000 in
set_option maxRecDepth 100000 in
theorem ir2 (r : Int) (h : 128 ≤ r) (h2 : r ≠ 65533) (a b : UInt8) (hb : 128 ≤ b.toNat) (hE : Utf8.encode r = ⟨#[a, b]⟩) (w : World) : Calls Tryd.prog 70 #[.string ⟨#[61, 59]⟩, .int .i32 r] w fun e w' => e = .returned (.int .i64 (-1)) ∧ Below w.heap.size w w' := by
  have mixed := Checked.mixed Tryd.checked
  have hV : Calls Tryd.prog 90 #[.int .i32 r] w fun e w' => e = .returned (.bool (Lib.validRune r)) ∧ w' = w := Any.utf8_ValidRune lays119 r w
  have hIB : ∀ (s : ByteArray) (c : Int) (w : World), Calls Tryd.prog 53 #[.string s, .int .u8 c] w fun e w' => e = .returned (.int .i64 (Lib.indexByte s.data.toList c.toNat.toUInt8)) ∧ w' = w := fun s c w => Any.strings_IndexByte lays137 s c w
  have q0 : ((59 : Int) == (b.toNat : Int)) = false := beq_eq_false_iff_ne.2 (by omega)
  have q1 : decide ((0 : Int) ≤ r) = true := decide_eq_true (by omega)
  have q2 : decide (r < (128 : Int)) = false := decide_eq_false (by omega)
  have q3 : (r == (65533 : Int)) = false := beq_eq_false_iff_ne.2 h2
  go_enter Tryd.func70, Tryd.ntmps70
  go_wp2_with (go_at_call 90; refine hV.mono ?_; rintro e w' ⟨rfl, hw⟩; rw [hw])
  cases hw
  have hconv := run_convert_int_string (P := Tryd.prog) w 21 9 .i32 r (by kernel_rfl) (by kernel_rfl)
  rw [hE] at hconv
  go_wp2
  · go_ret; exact ⟨rfl, Below.refl _ _⟩
  go_step3
  go_wp2
  go_loopg [9, 10] 1 (fun g s9 s10 wx => s9 = .int .i64 1 ∧ s10 = .int .i64 0 ∧ wx = w)
  case atStart => exact ⟨rfl, rfl, rfl⟩
  case round =>
    obtain ⟨rfl, rfl, rfl⟩ := hrel
    go_wp2
    go_step3
    go_wp2_with (go_at_call 53; refine (hIB _ _ _).mono ?_; rintro e w' ⟨rfl, hw2⟩; rw [hw2])
    go_region_o
    all_goals go_wp2
    · go_region_with (go_at_call 53; refine (hIB _ _ _).mono ?_; rintro e w' ⟨rfl, hw2⟩; rw [hw2])
      all_goals go_wp2
      all_goals (simp only [inB_ret, then_ret, Exit.noGoto_ret]; go_ret; refine ⟨?_, ((Below.refl _ _).drew).drew⟩; first | rfl | (simp [Lib.indexByte]))
    · exfalso
      rename_i h0 hbad
      have e0 : ((59 : Int) != (b.toNat : Int)) = false := by rename_i h1 h2; first | exact hbad | exact h1 | exact h2 | assumption
      rw [bne, q0] at e0
      cases e0
set_option maxHeartbeats 4000000 in
set_option maxRecDepth 100000 in
theorem ir3 (r : Int) (h : 128 ≤ r) (h2 : r ≠ 65533) (a b c : UInt8) (hE : Utf8.encode r = ⟨#[a, b, c]⟩) (w : World) : Calls Tryd.prog 70 #[.string ⟨#[61, 59]⟩, .int .i32 r] w fun e w' => e = .returned (.int .i64 (-1)) ∧ Below w.heap.size w w' := by
  have mixed := Checked.mixed Tryd.checked
  have hV : Calls Tryd.prog 90 #[.int .i32 r] w fun e w' => e = .returned (.bool (Lib.validRune r)) ∧ w' = w := Any.utf8_ValidRune lays119 r w
  have q1 : decide ((0 : Int) ≤ r) = true := decide_eq_true (by omega)
  have q2 : decide (r < (128 : Int)) = false := decide_eq_false (by omega)
  have q3 : (r == (65533 : Int)) = false := beq_eq_false_iff_ne.2 h2
  go_enter Tryd.func70, Tryd.ntmps70
  go_wp2_with (go_at_call 90; refine hV.mono ?_; rintro e w' ⟨rfl, hw⟩; rw [hw])
  cases hw
  have hconv := run_convert_int_string (P := Tryd.prog) w 21 9 .i32 r (by kernel_rfl) (by kernel_rfl)
  rw [hE] at hconv
  go_wp2
  · go_ret; exact ⟨rfl, Below.refl _ _⟩
  go_step3
  go_wp2
  go_loopg [9, 10] 1 (fun g s9 s10 wx => s9 = .int .i64 2 ∧ s10 = .int .i64 0 ∧ wx = w)
  case atStart => exact ⟨rfl, rfl, rfl⟩
  case round =>
    obtain ⟨rfl, rfl, rfl⟩ := hrel
    go_wp2
    rw [Exit.noGoto_ret]
    go_ret
    exact ⟨rfl, Below.refl _ _⟩
set_option maxHeartbeats 4000000 in
set_option maxRecDepth 100000 in
theorem ir4 (r : Int) (h : 128 ≤ r) (h2 : r ≠ 65533) (a b c d : UInt8) (hE : Utf8.encode r = ⟨#[a, b, c, d]⟩) (w : World) : Calls Tryd.prog 70 #[.string ⟨#[61, 59]⟩, .int .i32 r] w fun e w' => e = .returned (.int .i64 (-1)) ∧ Below w.heap.size w w' := by
  have mixed := Checked.mixed Tryd.checked
  have hV : Calls Tryd.prog 90 #[.int .i32 r] w fun e w' => e = .returned (.bool (Lib.validRune r)) ∧ w' = w := Any.utf8_ValidRune lays119 r w
  have q1 : decide ((0 : Int) ≤ r) = true := decide_eq_true (by omega)
  have q2 : decide (r < (128 : Int)) = false := decide_eq_false (by omega)
  have q3 : (r == (65533 : Int)) = false := beq_eq_false_iff_ne.2 h2
  go_enter Tryd.func70, Tryd.ntmps70
  go_wp2_with (go_at_call 90; refine hV.mono ?_; rintro e w' ⟨rfl, hw⟩; rw [hw])
  cases hw
  have hconv := run_convert_int_string (P := Tryd.prog) w 21 9 .i32 r (by kernel_rfl) (by kernel_rfl)
  rw [hE] at hconv
  go_wp2
  · go_ret; exact ⟨rfl, Below.refl _ _⟩
  go_step3
  go_wp2
  go_loopg [9, 10] 1 (fun g s9 s10 wx => s9 = .int .i64 3 ∧ s10 = .int .i64 0 ∧ wx = w)
  case atStart => exact ⟨rfl, rfl, rfl⟩
  case round =>
    obtain ⟨rfl, rfl, rfl⟩ := hrel
    go_wp2
    rw [Exit.noGoto_ret]
    go_ret
    exact ⟨rfl, Below.refl _ _⟩
theorem ir_all (r : Nat) (h : 128 ≤ r) (w : World) : Calls Tryd.prog 70 #[.string ⟨#[61, 59]⟩, .int .i32 (r : Int)] w fun e w' => e = .returned (.int .i64 (-1)) ∧ Below w.heap.size w w' := by
  by_cases h0 : r = 65533
  · subst h0; exact ir_bad w
  · rcases enc_high (r : Int) (by omega) with ⟨a, b, hE, hb⟩ | ⟨a, b, c, hE⟩ | ⟨a, b, c, d, hE⟩
    · exact ir2 _ (by omega) (by omega) a b hb hE w
    · exact ir3 _ (by omega) (by omega) a b c hE w
    · exact ir4 _ (by omega) (by omega) a b c d hE w
theorem dec_cover (s : ByteArray) (pos : Nat) (h : pos < s.size) (ha : 128 ≤ (s[pos]'h).toNat) : ∀ j, j < (Utf8.decode s pos).2 → pos + j < s.size ∧ 128 ≤ (s.get! (pos + j)).toNat := by
  have hn : ¬ (s[pos]'h).toNat < 128 := by omega
  have h0 : 128 ≤ (s.get! (pos + 0)).toNat := by rw [get_at s pos h]; exact ha
  intro j hj
  simp only [Utf8.decode, get_at s pos h, hn, if_false] at hj
  have key : ∀ n, n ≤ s.size - pos → (∀ k, 1 ≤ k → k < n → 128 ≤ (s.get! (pos + k)).toNat) → j < n → pos + j < s.size ∧ 128 ≤ (s.get! (pos + j)).toNat := by
    intro n h1 h2 h3
    refine ⟨by omega, ?_⟩
    rcases Nat.eq_zero_or_pos j with e | e
    · subst e; exact h0
    · exact h2 j e h3
  have one : j < 1 → pos + j < s.size ∧ 128 ≤ (s.get! (pos + j)).toNat := key 1 (by omega) (fun k h1 h2 => by omega)
  revert hj
  repeat' split
  all_goals try exact one
  · rename_i hc _
    simp only [Bool.and_eq_true, beq_iff_eq, decide_eq_true_eq] at hc
    exact fun hj => key 2 (by omega) (fun k k1 k2 => by obtain rfl : k = 1 := by omega
                                                        omega) hj
  · rename_i hc _
    simp only [Bool.and_eq_true, beq_iff_eq, decide_eq_true_eq] at hc
    exact fun hj => key 3 (by omega) (fun k k1 k2 => by rcases (show k = 1 ∨ k = 2 by omega) with rfl | rfl <;> omega) hj
  · rename_i hc _
    simp only [Bool.and_eq_true, beq_iff_eq, decide_eq_true_eq] at hc
    exact fun hj => key 4 (by omega) (fun k k1 k2 => by rcases (show k = 1 ∨ k = 2 ∨ k = 3 by omega) with rfl | rfl | rfl <;> omega) hj
theorem noAny_cover {s : ByteArray} {pos n : Nat} (hno : Lib.NoAny s.data.toList [61, 59] pos) (hc : ∀ j, j < n → pos + j < s.size ∧ 128 ≤ (s.get! (pos + j)).toNat) : Lib.NoAny s.data.toList [61, 59] (pos + n) := by
  intro j b hj hb
  by_cases h : j < pos
  · exact hno j b h hb
  · obtain ⟨h1, h2⟩ := hc (j - pos) (by omega)
    rw [show pos + (j - pos) = j by omega] at h1 h2
    have e := get_at s j h1
    rw [Nat.add_zero] at e
    rw [e] at h2
    have e2 := Lib.data_getElem? s j h1
    rw [e2] at hb
    cases hb
    have n1 : (s[j]'h1) ≠ 61 := by intro e; rw [e] at h2; exact absurd h2 (by decide)
    have n2 : (s[j]'h1) ≠ 59 := by intro e; rw [e] at h2; exact absurd h2 (by decide)
    simp [n1, n2]
end Go.Proofs.YthfgklcdkehgjaaDoor
