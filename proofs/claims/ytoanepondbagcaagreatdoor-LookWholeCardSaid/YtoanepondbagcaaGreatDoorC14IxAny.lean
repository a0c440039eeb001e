/-
  Lifted functions, and facts about them.
-/
import Derived.Test.YtoanepondbagcaaGreatDoorRows
import Derived.Test.YtoanepondbagcaaGreatDoorAmC
import Derived.Test.YtoanepondbagcaaGreatDoorC01
import Derived.Deep.RegionWith
import Derived.Laws.Runes
import Derived.Shelf.Small.Utf8
import Derived.WalkMore
import Derived.Shelf.Strings.IndexAnyAll
import Derived.Laws.RangeAny
import Derived.Lib.IndexAny
namespace Go.Proofs.YtoanepondbagcaaGreatDoor
open Go Go.Am
set_option linter.unusedVariables false
/-! strings.IndexAny at two signs, whatever the text. -/
end Go.Proofs.YtoanepondbagcaaGreatDoor
namespace Go.Proofs.YtoanepondbagcaaGreatDoor
open Go Go.RowKit Go.Lib
theorem inBRetX {i : Nat} {Q : Exit → Act → World → Prop} {a : Act} {w : World} : Exit.inBlock i Q .ret a w = Q .ret a w := rfl
theorem thenRetX {K : Act → World → Prop} {Q : Exit → Act → World → Prop} {a : Act} {w : World} : Exit.then K Q .ret a w = Q .ret a w := rfl
open Go.Shelf in
theorem enc_high (r : Int) (h : 128 ≤ r) : (∃ a b : UInt8, Utf8.encode r = ⟨#[a, b]⟩ ∧ 128 ≤ b.toNat) ∨ (∃ a b c : UInt8, Utf8.encode r = ⟨#[a, b, c]⟩) ∨ (∃ a b c d : UInt8, Utf8.encode r = ⟨#[a, b, c, d]⟩) := by
  have hc : 128 ≤ (if Utf8.valid r then r.toNat else Utf8.runeError) := by
    split
    · omega
    · decide
  unfold Utf8.encode
  dsimp only
  generalize (if Utf8.valid r then r.toNat else Utf8.runeError) = c at hc
  rw [if_neg (by omega)]
  split
  · refine .inl ⟨_, _, rfl, ?_⟩
    rw [UInt8.toNat_ofNat']; omega
  · split
    · exact .inr (.inl ⟨_, _, _, rfl⟩)
    · exact .inr (.inr ⟨_, _, _, _, rfl⟩)
set_option maxHeartbeats 4000000 in
set_option maxRecDepth 100000 in
theorem ir_bad (w : World) : Calls Tryz.prog 169 #[.string ⟨#[61, 59]⟩, .int .i32 65533] w fun e w' => e = .returned (.int .i64 (-1)) ∧ Below w.heap.size w w' := by
  go_enter Tryz.func169, Tryz.ntmps169
  go_wp2
  go_loopg [5, 6] 2 (fun g _ _ wx => ∃ i : Nat, i + g = 2 ∧ wx = w.iter ⟨#[61, 59]⟩ i)
  case atStart => exact ⟨0, by omega, rfl⟩
  case round =>
    obtain ⟨i, hig, rfl⟩ := hrel
    cases gk with
    | zero =>
      obtain rfl : i = 2 := by omega
      have hnx := fun ty => run_next_end (P := Tryz.prog) w ⟨#[61, 59]⟩ 2 ty (by decide)
      go_wp2
      go_ret
      exact ⟨rfl, (Below.refl _ _).alloc (Nat.le_refl _) _⟩
    | succ g =>
      rcases (show i = 0 ∨ i = 1 by omega) with rfl | rfl
      · have hnx := fun ty => run_next_ascii (P := Tryz.prog) w ⟨#[61, 59]⟩ 0 ty (by decide) (by decide)
        go_wp2
        go_roundg g
        case measure => omega
        case rel => exact ⟨1, by omega, rfl⟩
      · have hnx := fun ty => run_next_ascii (P := Tryz.prog) w ⟨#[61, 59]⟩ 1 ty (by decide) (by decide)
        go_wp2
        go_roundg g
        case measure => omega
        case rel => exact ⟨2, by omega, rfl⟩
end Go.Proofs.YtoanepondbagcaaGreatDoor
namespace Go.Proofs.YtoanepondbagcaaGreatDoor
open Go.Shelf
def lays119_ren : Go.Shelf.Ren:=⟨fun |119=>183|n=>n, fun |21=>21|4=>4|n=>n, fun |n=>n⟩
theorem lays119 : Go.Proofs.Lays.n119 Tryz.prog lays119_ren:={
 mixed:=by kernel_rfl
 f119:=Tryz.func183.trans (congrArg some (by kernel_rfl))
 t4:=Tryz.underlying4
 a4:=Tryz.isAgg4
 z4:=Tryz.sizeOf4
 v4:=Tryz.zeroValue4
 t21:=Tryz.underlying21
 a21:=Tryz.isAgg21
 z21:=Tryz.sizeOf21
 v21:=Tryz.zeroValue21 }
def lays153_ren : Go.Shelf.Ren:=⟨fun |153=>151|152=>169|226=>170|227=>133|228=>153|137=>87|119=>183|224=>147|225=>146|217=>124|266=>145|n=>n, fun |9=>9|3=>3|4=>4|5=>5|21=>21|117=>155|116=>154|0=>0|46=>103|124=>158|n=>n, fun |n=>n⟩
theorem lays153 : Go.Proofs.Lays.n153 Tryz.prog lays153_ren:={
 mixed:=by kernel_rfl
 f119:=Tryz.func183.trans (congrArg some (by kernel_rfl))
 f137:=Tryz.func87.trans (congrArg some (by kernel_rfl))
 f152:=Tryz.func169.trans (congrArg some (by kernel_rfl))
 f153:=Tryz.func151.trans (congrArg some (by kernel_rfl))
 f217:=Tryz.func124.trans (congrArg some (by kernel_rfl))
 f224:=Tryz.func147.trans (congrArg some (by kernel_rfl))
 f225:=Tryz.func146.trans (congrArg some (by kernel_rfl))
 f226:=Tryz.func170.trans (congrArg some (by kernel_rfl))
 f227:=Tryz.func133.trans (congrArg some (by kernel_rfl))
 f228:=Tryz.func153.trans (congrArg some (by kernel_rfl))
 f266:=Tryz.func145.trans (congrArg some (by kernel_rfl))
 t0:=Tryz.underlying0
 a0:=Tryz.isAgg0
 z0:=Tryz.sizeOf0
 v0:=Tryz.zeroValue0
 t3:=Tryz.underlying3
 a3:=Tryz.isAgg3
 z3:=Tryz.sizeOf3
 v3:=Tryz.zeroValue3
 t4:=Tryz.underlying4
 a4:=Tryz.isAgg4
 z4:=Tryz.sizeOf4
 v4:=Tryz.zeroValue4
 t5:=Tryz.underlying5
 a5:=Tryz.isAgg5
 z5:=Tryz.sizeOf5
 v5:=Tryz.zeroValue5
 t9:=Tryz.underlying9
 a9:=Tryz.isAgg9
 z9:=Tryz.sizeOf9
 v9:=Tryz.zeroValue9
 t21:=Tryz.underlying21
 a21:=Tryz.isAgg21
 z21:=Tryz.sizeOf21
 v21:=Tryz.zeroValue21
 t46:=Tryz.underlying103
 a46:=Tryz.isAgg103
 z46:=Tryz.sizeOf103
 v46:=Tryz.zeroValue103
 t116:=Tryz.underlying154
 a116:=Tryz.isAgg154
 z116:=Tryz.sizeOf154
 t117:=Tryz.underlying155
 a117:=Tryz.isAgg155
 z117:=Tryz.sizeOf155
 v117:=Tryz.zeroValue155
 t124:=Tryz.underlying158
 a124:=Tryz.isAgg158
 z124:=Tryz.sizeOf158
 v124:=Tryz.zeroValue158 }
def lays161_ren : Go.Shelf.Ren:=⟨fun |161=>150|231=>138|227=>133|233=>139|235=>140|228=>153|197=>137|151=>155|260=>156|152=>169|137=>87|119=>183|224=>147|225=>146|217=>124|266=>145|n=>n, fun |9=>9|4=>4|3=>3|5=>5|117=>155|116=>154|0=>0|124=>158|105=>160|21=>21|119=>176|46=>103|139=>195|138=>194|n=>n, fun |3=>1|4=>2|n=>n⟩
theorem lays161 : Go.Proofs.Lays.n161 Tryz.prog lays161_ren:={
 mixed:=by kernel_rfl
 f119:=Tryz.func183.trans (congrArg some (by kernel_rfl))
 f137:=Tryz.func87.trans (congrArg some (by kernel_rfl))
 f151:=Tryz.func155.trans (congrArg some (by kernel_rfl))
 f152:=Tryz.func169.trans (congrArg some (by kernel_rfl))
 f161:=Tryz.func150.trans (congrArg some (by kernel_rfl))
 f197:=Tryz.func137.trans (congrArg some (by kernel_rfl))
 f217:=Tryz.func124.trans (congrArg some (by kernel_rfl))
 f224:=Tryz.func147.trans (congrArg some (by kernel_rfl))
 f225:=Tryz.func146.trans (congrArg some (by kernel_rfl))
 f227:=Tryz.func133.trans (congrArg some (by kernel_rfl))
 f228:=Tryz.func153.trans (congrArg some (by kernel_rfl))
 f231:=Tryz.func138.trans (congrArg some (by kernel_rfl))
 f233:=Tryz.func139.trans (congrArg some (by kernel_rfl))
 f235:=Tryz.func140.trans (congrArg some (by kernel_rfl))
 f260:=Tryz.func156.trans (congrArg some (by kernel_rfl))
 f266:=Tryz.func145.trans (congrArg some (by kernel_rfl))
 t0:=Tryz.underlying0
 a0:=Tryz.isAgg0
 z0:=Tryz.sizeOf0
 v0:=Tryz.zeroValue0
 t3:=Tryz.underlying3
 a3:=Tryz.isAgg3
 z3:=Tryz.sizeOf3
 v3:=Tryz.zeroValue3
 t4:=Tryz.underlying4
 a4:=Tryz.isAgg4
 z4:=Tryz.sizeOf4
 v4:=Tryz.zeroValue4
 t5:=Tryz.underlying5
 a5:=Tryz.isAgg5
 z5:=Tryz.sizeOf5
 v5:=Tryz.zeroValue5
 t9:=Tryz.underlying9
 a9:=Tryz.isAgg9
 z9:=Tryz.sizeOf9
 v9:=Tryz.zeroValue9
 t21:=Tryz.underlying21
 a21:=Tryz.isAgg21
 z21:=Tryz.sizeOf21
 v21:=Tryz.zeroValue21
 t46:=Tryz.underlying103
 a46:=Tryz.isAgg103
 z46:=Tryz.sizeOf103
 v46:=Tryz.zeroValue103
 t105:=Tryz.underlying160
 a105:=Tryz.isAgg160
 z105:=Tryz.sizeOf160
 v105:=Tryz.zeroValue160
 t116:=Tryz.underlying154
 a116:=Tryz.isAgg154
 z116:=Tryz.sizeOf154
 t117:=Tryz.underlying155
 a117:=Tryz.isAgg155
 z117:=Tryz.sizeOf155
 v117:=Tryz.zeroValue155
 t119:=Tryz.underlying176
 a119:=Tryz.isAgg176
 z119:=Tryz.sizeOf176
 t124:=Tryz.underlying158
 a124:=Tryz.isAgg158
 z124:=Tryz.sizeOf158
 v124:=Tryz.zeroValue158
 t138:=Tryz.underlying194
 a138:=Tryz.isAgg194
 z138:=Tryz.sizeOf194
 v138:=Tryz.zeroValue194
 t139:=Tryz.underlying195
 a139:=Tryz.isAgg195
 z139:=Tryz.sizeOf195
 v139:=Tryz.zeroValue195
 g3:=by kernel_rfl
 g4:=by kernel_rfl }
def lays162_ren : Go.Shelf.Ren:=⟨fun |162=>100|232=>132|227=>133|234=>134|236=>135|228=>153|271=>154|151=>155|120=>171|197=>137|152=>169|260=>156|137=>87|119=>183|224=>147|225=>146|217=>124|266=>145|n=>n, fun |9=>9|4=>4|3=>3|5=>5|117=>155|116=>154|0=>0|124=>158|21=>21|105=>160|46=>103|119=>176|139=>195|138=>194|n=>n, fun |3=>1|4=>2|n=>n⟩
theorem lays162 : Go.Proofs.Lays.n162 Tryz.prog lays162_ren:={
 mixed:=by kernel_rfl
 f119:=Tryz.func183.trans (congrArg some (by kernel_rfl))
 f120:=Tryz.func171.trans (congrArg some (by kernel_rfl))
 f137:=Tryz.func87.trans (congrArg some (by kernel_rfl))
 f151:=Tryz.func155.trans (congrArg some (by kernel_rfl))
 f152:=Tryz.func169.trans (congrArg some (by kernel_rfl))
 f162:=Tryz.func100.trans (congrArg some (by kernel_rfl))
 f197:=Tryz.func137.trans (congrArg some (by kernel_rfl))
 f217:=Tryz.func124.trans (congrArg some (by kernel_rfl))
 f224:=Tryz.func147.trans (congrArg some (by kernel_rfl))
 f225:=Tryz.func146.trans (congrArg some (by kernel_rfl))
 f227:=Tryz.func133.trans (congrArg some (by kernel_rfl))
 f228:=Tryz.func153.trans (congrArg some (by kernel_rfl))
 f232:=Tryz.func132.trans (congrArg some (by kernel_rfl))
 f234:=Tryz.func134.trans (congrArg some (by kernel_rfl))
 f236:=Tryz.func135.trans (congrArg some (by kernel_rfl))
 f260:=Tryz.func156.trans (congrArg some (by kernel_rfl))
 f266:=Tryz.func145.trans (congrArg some (by kernel_rfl))
 f271:=Tryz.func154.trans (congrArg some (by kernel_rfl))
 t0:=Tryz.underlying0
 a0:=Tryz.isAgg0
 z0:=Tryz.sizeOf0
 v0:=Tryz.zeroValue0
 t3:=Tryz.underlying3
 a3:=Tryz.isAgg3
 z3:=Tryz.sizeOf3
 v3:=Tryz.zeroValue3
 t4:=Tryz.underlying4
 a4:=Tryz.isAgg4
 z4:=Tryz.sizeOf4
 v4:=Tryz.zeroValue4
 t5:=Tryz.underlying5
 a5:=Tryz.isAgg5
 z5:=Tryz.sizeOf5
 v5:=Tryz.zeroValue5
 t9:=Tryz.underlying9
 a9:=Tryz.isAgg9
 z9:=Tryz.sizeOf9
 v9:=Tryz.zeroValue9
 t21:=Tryz.underlying21
 a21:=Tryz.isAgg21
 z21:=Tryz.sizeOf21
 v21:=Tryz.zeroValue21
 t46:=Tryz.underlying103
 a46:=Tryz.isAgg103
 z46:=Tryz.sizeOf103
 v46:=Tryz.zeroValue103
 t105:=Tryz.underlying160
 a105:=Tryz.isAgg160
 z105:=Tryz.sizeOf160
 v105:=Tryz.zeroValue160
 t116:=Tryz.underlying154
 a116:=Tryz.isAgg154
 z116:=Tryz.sizeOf154
 t117:=Tryz.underlying155
 a117:=Tryz.isAgg155
 z117:=Tryz.sizeOf155
 v117:=Tryz.zeroValue155
 t119:=Tryz.underlying176
 a119:=Tryz.isAgg176
 z119:=Tryz.sizeOf176
 t124:=Tryz.underlying158
 a124:=Tryz.isAgg158
 z124:=Tryz.sizeOf158
 v124:=Tryz.zeroValue158
 t138:=Tryz.underlying194
 a138:=Tryz.isAgg194
 z138:=Tryz.sizeOf194
 v138:=Tryz.zeroValue194
 t139:=Tryz.underlying195
 a139:=Tryz.isAgg195
 z139:=Tryz.sizeOf195
 v139:=Tryz.zeroValue195
 g3:=by kernel_rfl
 g4:=by kernel_rfl }
def lays137_ren : Go.Shelf.Ren:=⟨fun |137=>87|217=>124|266=>145|n=>n, fun |9=>9|5=>5|3=>3|n=>n, fun |n=>n⟩
theorem lays137 : Go.Proofs.Lays.n137 Tryz.prog lays137_ren:={
 mixed:=by kernel_rfl
 f137:=Tryz.func87.trans (congrArg some (by kernel_rfl))
 f217:=Tryz.func124.trans (congrArg some (by kernel_rfl))
 f266:=Tryz.func145.trans (congrArg some (by kernel_rfl))
 t3:=Tryz.underlying3
 a3:=Tryz.isAgg3
 z3:=Tryz.sizeOf3
 v3:=Tryz.zeroValue3
 t5:=Tryz.underlying5
 a5:=Tryz.isAgg5
 z5:=Tryz.sizeOf5
 v5:=Tryz.zeroValue5
 t9:=Tryz.underlying9
 a9:=Tryz.isAgg9
 z9:=Tryz.sizeOf9
 v9:=Tryz.zeroValue9 }
end Go.Proofs.YtoanepondbagcaaGreatDoor
namespace Go.Proofs.YtoanepondbagcaaGreatDoor
open Go Go.RowKit Go.Lib
set_option maxHeartbeats 4000000 in
set_option maxRecDepth 100000 in
theorem ir2 (r : Int) (h : 128 ≤ r) (h2 : r ≠ 65533) (a b : UInt8) (hb : 128 ≤ b.toNat) (hE : Utf8.encode r = ⟨#[a, b]⟩) (w : World) : Calls Tryz.prog 169 #[.string ⟨#[61, 59]⟩, .int .i32 r] w fun e w' => e = .returned (.int .i64 (-1)) ∧ Below w.heap.size w w' := by
  have mixed := Checked.mixed Tryz.checked
  have hV : Calls Tryz.prog 183 #[.int .i32 r] w fun e w' => e = .returned (.bool (Lib.validRune r)) ∧ w' = w := Any.utf8_ValidRune lays119 r w
  have hIB : ∀ (s : ByteArray) (c : Int) (w : World), Calls Tryz.prog 87 #[.string s, .int .u8 c] w fun e w' => e = .returned (.int .i64 (Lib.indexByte s.data.toList c.toNat.toUInt8)) ∧ w' = w := fun s c w => Any.strings_IndexByte lays137 s c w
  have q0 : ((59 : Int) == (b.toNat : Int)) = false := beq_eq_false_iff_ne.2 (by omega)
  have q1 : decide ((0 : Int) ≤ r) = true := decide_eq_true (by omega)
  have q2 : decide (r < (128 : Int)) = false := decide_eq_false (by omega)
  have q3 : (r == (65533 : Int)) = false := beq_eq_false_iff_ne.2 h2
  go_enter Tryz.func169, Tryz.ntmps169
  go_wp2_with (go_at_call 183; refine hV.mono ?_; rintro e w' ⟨rfl, hw⟩; rw [hw])
  cases hw
  have hconv := run_convert_int_string (P := Tryz.prog) w 21 9 .i32 r (by kernel_rfl) (by kernel_rfl)
  rw [hE] at hconv
  go_wp2
  · go_ret; exact ⟨rfl, Below.refl _ _⟩
  go_step3
  go_wp2
  go_loopg [9, 10] 1 (fun g s9 s10 wx => s9 = .int .i64 1 ∧ s10 = .int .i64 0 ∧ wx = w)
  case atStart => exact ⟨rfl, rfl, rfl⟩
  case round =>
    obtain ⟨rfl, rfl, rfl⟩ := hrel
    go_wp2
    go_step3
    go_wp2_with (go_at_call 87; refine (hIB _ _ _).mono ?_; rintro e w' ⟨rfl, hw2⟩; rw [hw2])
    go_region_o
    all_goals go_wp2
    · go_region_with (go_at_call 87; refine (hIB _ _ _).mono ?_; rintro e w' ⟨rfl, hw2⟩; rw [hw2])
      all_goals go_wp2
      all_goals (simp only [inBRetX, thenRetX, Exit.noGoto_ret]; go_ret; refine ⟨?_, ((Below.refl _ _).drew).drew⟩; first | rfl | (simp [Lib.indexByte]))
    · exfalso
      rename_i h0 hbad
      have e0 : ((59 : Int) != (b.toNat : Int)) = false := by rename_i h1 h2; first | exact hbad | exact h1 | exact h2 | assumption
      rw [bne, q0] at e0
      cases e0
set_option maxHeartbeats 4000000 in
set_option maxRecDepth 100000 in
theorem ir3 (r : Int) (h : 128 ≤ r) (h2 : r ≠ 65533) (a b c : UInt8) (hE : Utf8.encode r = ⟨#[a, b, c]⟩) (w : World) : Calls Tryz.prog 169 #[.string ⟨#[61, 59]⟩, .int .i32 r] w fun e w' => e = .returned (.int .i64 (-1)) ∧ Below w.heap.size w w' := by
  have mixed := Checked.mixed Tryz.checked
  have hV : Calls Tryz.prog 183 #[.int .i32 r] w fun e w' => e = .returned (.bool (Lib.validRune r)) ∧ w' = w := Any.utf8_ValidRune lays119 r w
  have q1 : decide ((0 : Int) ≤ r) = true := decide_eq_true (by omega)
  have q2 : decide (r < (128 : Int)) = false := decide_eq_false (by omega)
  have q3 : (r == (65533 : Int)) = false := beq_eq_false_iff_ne.2 h2
  go_enter Tryz.func169, Tryz.ntmps169
  go_wp2_with (go_at_call 183; refine hV.mono ?_; rintro e w' ⟨rfl, hw⟩; rw [hw])
  cases hw
  have hconv := run_convert_int_string (P := Tryz.prog) w 21 9 .i32 r (by kernel_rfl) (by kernel_rfl)
  rw [hE] at hconv
  go_wp2
  · go_ret; exact ⟨rfl, Below.refl _ _⟩
  go_step3
  go_wp2
  go_loopg [9, 10] 1 (fun g s9 s10 wx => s9 = .int .i64 2 ∧ s10 = .int .i64 0 ∧ wx = w)
  case atStart => exact ⟨rfl, rfl, rfl⟩
  case round =>
    obtain ⟨rfl, rfl, rfl⟩ := hrel
    go_wp2
    rw [Exit.noGoto_ret]
    go_ret
    exact ⟨rfl, Below.refl _ _⟩
set_option maxHeartbeats 4000000 in
set_option maxRecDepth 100000 in
theorem ir4 (r : Int) (h : 128 ≤ r) (h2 : r ≠ 65533) (a b c d : UInt8) (hE : Utf8.encode r = ⟨#[a, b, c, d]⟩) (w : World) : Calls Tryz.prog 169 #[.string ⟨#[61, 59]⟩, .int .i32 r] w fun e w' => e = .returned (.int .i64 (-1)) ∧ Below w.heap.size w w' := by
  have mixed := Checked.mixed Tryz.checked
  have hV : Calls Tryz.prog 183 #[.int .i32 r] w fun e w' => e = .returned (.bool (Lib.validRune r)) ∧ w' = w := Any.utf8_ValidRune lays119 r w
  have q1 : decide ((0 : Int) ≤ r) = true := decide_eq_true (by omega)
  have q2 : decide (r < (128 : Int)) = false := decide_eq_false (by omega)
  have q3 : (r == (65533 : Int)) = false := beq_eq_false_iff_ne.2 h2
  go_enter Tryz.func169, Tryz.ntmps169
  go_wp2_with (go_at_call 183; refine hV.mono ?_; rintro e w' ⟨rfl, hw⟩; rw [hw])
  cases hw
  have hconv := run_convert_int_string (P := Tryz.prog) w 21 9 .i32 r (by kernel_rfl) (by kernel_rfl)
  rw [hE] at hconv
  go_wp2
  · go_ret; exact ⟨rfl, Below.refl _ _⟩
  go_step3
  go_wp2
  go_loopg [9, 10] 1 (fun g s9 s10 wx => s9 = .int .i64 3 ∧ s10 = .int .i64 0 ∧ wx = w)
  case atStart => exact ⟨rfl, rfl, rfl⟩
  case round =>
    obtain ⟨rfl, rfl, rfl⟩ := hrel
    go_wp2
    rw [Exit.noGoto_ret]
    go_ret
    exact ⟨rfl, Below.refl _ _⟩
theorem ir_all (r : Nat) (h : 128 ≤ r) (w : World) : Calls Tryz.prog 169 #[.string ⟨#[61, 59]⟩, .int .i32 (r : Int)] w fun e w' => e = .returned (.int .i64 (-1)) ∧ Below w.heap.size w w' := by
  by_cases h0 : r = 65533
  · subst h0; exact ir_bad w
  · rcases enc_high (r : Int) (by omega) with ⟨a, b, hE, hb⟩ | ⟨a, b, c, hE⟩ | ⟨a, b, c, d, hE⟩
    · exact ir2 _ (by omega) (by omega) a b hb hE w
    · exact ir3 _ (by omega) (by omega) a b c hE w
    · exact ir4 _ (by omega) (by omega) a b c d hE w
theorem dec_cover (s : ByteArray) (pos : Nat) (h : pos < s.size) (ha : 128 ≤ (s[pos]'h).toNat) : ∀ j, j < (Utf8.decode s pos).2 → pos + j < s.size ∧ 128 ≤ (s.get! (pos + j)).toNat := by
  have hn : ¬ (s[pos]'h).toNat < 128 := by omega
  have h0 : 128 ≤ (s.get! (pos + 0)).toNat := by rw [get_at s pos h]; exact ha
  intro j hj
  simp only [Utf8.decode, get_at s pos h, hn, if_false] at hj
  have key : ∀ n, n ≤ s.size - pos → (∀ k, 1 ≤ k → k < n → 128 ≤ (s.get! (pos + k)).toNat) → j < n → pos + j < s.size ∧ 128 ≤ (s.get! (pos + j)).toNat := by
    intro n h1 h2 h3
    refine ⟨by omega, ?_⟩
    rcases Nat.eq_zero_or_pos j with e | e
    · subst e; exact h0
    · exact h2 j e h3
  have one : j < 1 → pos + j < s.size ∧ 128 ≤ (s.get! (pos + j)).toNat := key 1 (by omega) (fun k h1 h2 => by omega)
  revert hj
  repeat' split
  all_goals try exact one
  · rename_i hc _
    simp only [Bool.and_eq_true, beq_iff_eq, decide_eq_true_eq] at hc
    exact fun hj => key 2 (by omega) (fun k k1 k2 => by obtain rfl : k = 1 := by omega
                                                        omega) hj
  · rename_i hc _
    simp only [Bool.and_eq_true, beq_iff_eq, decide_eq_true_eq] at hc
    exact fun hj => key 3 (by omega) (fun k k1 k2 => by rcases (show k = 1 ∨ k = 2 by omega) with rfl | rfl <;> omega) hj
  · rename_i hc _
    simp only [Bool.and_eq_true, beq_iff_eq, decide_eq_true_eq] at hc
    exact fun hj => key 4 (by omega) (fun k k1 k2 => by rcases (show k = 1 ∨ k = 2 ∨ k = 3 by omega) with rfl | rfl | rfl <;> omega) hj
theorem noAny_cover {s : ByteArray} {pos n : Nat} (hno : Lib.NoAny s.data.toList [61, 59] pos) (hc : ∀ j, j < n → pos + j < s.size ∧ 128 ≤ (s.get! (pos + j)).toNat) : Lib.NoAny s.data.toList [61, 59] (pos + n) := by
  intro j b hj hb
  by_cases h : j < pos
  · exact hno j b h hb
  · obtain ⟨h1, h2⟩ := hc (j - pos) (by omega)
    rw [show pos + (j - pos) = j by omega] at h1 h2
    have e := get_at s j h1
    rw [Nat.add_zero] at e
    rw [e] at h2
    have e2 := Lib.data_getElem? s j h1
    rw [e2] at hb
    cases hb
    have n1 : (s[j]'h1) ≠ 61 := by intro e; rw [e] at h2; exact absurd h2 (by decide)
    have n2 : (s[j]'h1) ≠ 59 := by intro e; rw [e] at h2; exact absurd h2 (by decide)
    simp [n1, n2]
end Go.Proofs.YtoanepondbagcaaGreatDoor
