/-
  Lifted functions, and facts about them.
-/
import Derived.Test.YtfadnlnmlkemfaaGreatDoorRows
import Derived.Test.YtfadnlnmlkemfaaGreatDoorAmC
import Derived.Test.YtfadnlnmlkemfaaGreatDoorC05
import Derived.Shelf.Strings.Count
import Derived.Laws.CopyOwn
import Derived.Deep.Cut
import Derived.Deep.CutRange
import Derived.Deep.DeepMust
import Derived.Test.YtfadnlnmlkemfaaGreatDoorC02
namespace Go.Proofs.YtfadnlnmlkemfaaGreatDoor
open Go Go.Am
set_option linter.unusedVariables false
/-! strings.Replacer: built once. -/
end Go.Proofs.YtfadnlnmlkemfaaGreatDoor
namespace Go.Proofs.YtfadnlnmlkemfaaGreatDoor
open Go Go.RowKit
abbrev rpI (w : World) : Value := .iface 94 (.pointer (some ⟨w.heap.size + 1, 0, none⟩))
theorem below_frozen {w w' : World} (hB : Below w.heap.size w w') {a : Addr} {v : Value} (h : w.cell? a = some v) (hz : w.frozen? a = false) : w'.frozen? a = false := by
  rw [World.frozen?_of_block (w := w) (hB.block _ (World.block_lt_of_cell? w a h))]; exact hz
set_option maxRecDepth 100000 in
set_option maxHeartbeats 4000000 in
theorem rp_once (b R off cap : Nat) (x3 : Value) (w : World) (h3 : w.cell? ⟨b, 3, none⟩ = some x3) (h4 : w.cell? ⟨b, 4, none⟩ = some (.slice (some ⟨R, off, none⟩) 4 cap)) (f3 : w.frozen? ⟨b, 3, none⟩ = false) (f4 : w.frozen? ⟨b, 4, none⟩ = false)
    (r0 : w.cell? ⟨R, off, none⟩ = some (.string ⟨#[32]⟩)) (r1 : w.cell? ⟨R, off + 1, none⟩ = some (.string ⟨#[]⟩)) (r2 : w.cell? ⟨R, off + 2, none⟩ = some (.string ⟨#[9]⟩)) (r3 : w.cell? ⟨R, off + 3, none⟩ = some (.string ⟨#[]⟩)) :
    Calls Tryz.prog 19 #[.pointer (some ⟨b, 0, none⟩)] w fun e w' => e = .returned (.tuple #[]) ∧ ∃ W2, RpSt w W2 2 ∧ w' = (W2.setCell ⟨b, 3, none⟩ (rpI w)).setCell ⟨b, 4, none⟩ (.slice none 0 0) := by
  go_enter Tryz.func19, Tryz.ntmps19
  go_wp2_with (go_at_call 27; refine (rp_build b R off cap w h4 r0 r1 r2 r3).mono ?_; rintro e W2 ⟨rfl, hst⟩; have c3 := below_some hst.1 h3; have z3 := below_frozen hst.1 h3 f3; have c4 := below_some hst.1 h4; have z4 := below_frozen hst.1 h4 f4)
  go_end0
  exact ⟨rfl, W2, hst, rfl⟩
set_option maxRecDepth 100000 in
set_option maxHeartbeats 4000000 in
theorem rp_slow (b R off cap : Nat) (hRb : R ≠ b) (x3 : Value) (w : World) (h0 : w.cell? ⟨b, 0, none⟩ = some (.int .u32 0)) (h1 : w.cell? ⟨b, 1, none⟩ = some (.int .i32 0)) (h3 : w.cell? ⟨b, 3, none⟩ = some x3)
    (h4 : w.cell? ⟨b, 4, none⟩ = some (.slice (some ⟨R, off, none⟩) 4 cap)) (f0 : w.frozen? ⟨b, 0, none⟩ = false) (f1 : w.frozen? ⟨b, 1, none⟩ = false) (f3 : w.frozen? ⟨b, 3, none⟩ = false) (f4 : w.frozen? ⟨b, 4, none⟩ = false)
    (r0 : w.cell? ⟨R, off, none⟩ = some (.string ⟨#[32]⟩)) (r1 : w.cell? ⟨R, off + 1, none⟩ = some (.string ⟨#[]⟩)) (r2 : w.cell? ⟨R, off + 2, none⟩ = some (.string ⟨#[9]⟩)) (r3 : w.cell? ⟨R, off + 3, none⟩ = some (.string ⟨#[]⟩)) :
    Calls Tryz.prog 26 #[.pointer (some ⟨b, 0, none⟩), .func (.func 19) #[.pointer (some ⟨b, 0, none⟩)] #[]] w fun e w' => e = .returned (.tuple #[]) ∧
      ∃ W2, RpSt (w.setCell ⟨b, 1, none⟩ (.int .i32 1)) W2 2 ∧ w' = (((W2.setCell ⟨b, 3, none⟩ (rpI (w.setCell ⟨b, 1, none⟩ (.int .i32 1)))).setCell ⟨b, 4, none⟩ (.slice none 0 0)).drew.setCell ⟨b, 0, none⟩ (.int .u32 1)).setCell ⟨b, 1, none⟩ (.int .i32 0) := by
  have hl := run_call_load (P := Tryz.prog) Tryz.func39 (by kernel_rfl) (by kernel_rfl) (by kernel_rfl) .u32 (by kernel_rfl) (w := w.setCell ⟨b, 1, none⟩ (.int .i32 1)) (a := ⟨b, 0, none⟩) (x := 0) ((World.cell?_setCell_other _ ⟨b, 1, none⟩ ⟨b, 0, none⟩ _ (by simp)).trans h0)
  have other : ∀ (a : Addr) (v : Value), a ≠ ⟨b, 1, none⟩ → w.cell? a = some v → (w.setCell ⟨b, 1, none⟩ (.int .i32 1)).cell? a = some v := fun a v hne h => (World.cell?_setCell_other _ ⟨b, 1, none⟩ a _ (by first | exact hne | exact fun e => hne e.symm)).trans h
  have hne : ∀ q : Nat, (⟨R, q, none⟩ : Addr) ≠ ⟨b, 1, none⟩ := fun q e => hRb (congrArg Addr.block e)
  have hnot : ∀ (x : Bool) (w : World), (Op.unary .not (.bool x)).run Tryz.prog w = .ok (.bool (!x)) w := fun _ _ => rfl
  go_enter_defers Tryz.func26, Tryz.ntmps26
  go_wp2_with (first
    | (go_at_call 40; refine (rp_lock ⟨b, 1, none⟩ _ (by go_simp) (by go_simp)).mono ?_; rintro e w' ⟨rfl, rfl⟩)
    | (go_at_call 25; go_in))
  obtain ⟨w1, hw1⟩ : ∃ w1, w1 = w.setCell ⟨b, 1, none⟩ (.int .i32 1) := ⟨_, rfl⟩
  have g0 := other ⟨b, 0, none⟩ _ (by simp) h0
  have g1 : w1.cell? ⟨b, 1, none⟩ = some (.int .i32 1) := by rw [hw1]; exact World.cell?_setCell_same w _ _ h1
  have g3 := other ⟨b, 3, none⟩ _ (by simp) h3
  have g4 := other ⟨b, 4, none⟩ _ (by simp) h4
  have s0 := other _ _ (hne _) r0
  have s1 := other _ _ (hne _) r1
  have s2 := other _ _ (hne _) r2
  have s3 := other _ _ (hne _) r3
  have z0 : w1.frozen? ⟨b, 0, none⟩ = false := by rw [hw1]; simpa using f0
  have z1 : w1.frozen? ⟨b, 1, none⟩ = false := by rw [hw1]; simpa using f1
  have z3 : w1.frozen? ⟨b, 3, none⟩ = false := by rw [hw1]; simpa using f3
  have z4 : w1.frozen? ⟨b, 4, none⟩ = false := by rw [hw1]; simpa using f4
  rw [← hw1] at g0 g3 g4 s0 s1 s2 s3 ⊢
  refine (rp_once b R off cap x3 w1 g3 g4 z3 z4 s0 s1 s2 s3).mono ?_
  rintro e w' ⟨rfl, W2, hst, rfl⟩
  have c0 := below_some hst.1 g0
  have c1 := below_some hst.1 g1
  have y0 := below_frozen hst.1 g0 z0
  have y1 := below_frozen hst.1 g1 z1
  go_wp2
  refine leaves_cons (f := 42) (args := #[.pointer (some ⟨b, 0, none⟩), .bool true]) (by simp) (by simp [go_sem]) ?_
  refine (rp_store ⟨b, 0, none⟩ (.int .u32 0) .returning _ ?_ (by simp [y0])).mono ?_
  · exact (World.cell?_setCell_other _ ⟨b, 4, none⟩ ⟨b, 0, none⟩ _ (by simp)).trans ((World.cell?_setCell_other _ ⟨b, 3, none⟩ ⟨b, 0, none⟩ _ (by simp)).trans c0)
  rintro e u' w'' ⟨rfl, rfl, rfl⟩
  refine leaves_cons (f := 41) (args := #[.pointer (some ⟨b, 1, none⟩)]) (by simp [settle]) (by simp [go_sem]) ?_
  refine (rp_unlock ⟨b, 1, none⟩ _ _ ?_ (by simp [y1])).mono ?_
  · refine (World.cell?_setCell_other _ ⟨b, 0, none⟩ ⟨b, 1, none⟩ _ (by simp)).trans ?_
    rw [World.cell?_drew]
    exact (World.cell?_setCell_other _ ⟨b, 4, none⟩ ⟨b, 1, none⟩ _ (by simp)).trans ((World.cell?_setCell_other _ ⟨b, 3, none⟩ ⟨b, 1, none⟩ _ (by simp)).trans c1)
  rintro e u' w'' ⟨rfl, rfl, rfl⟩
  simp [Leaves, settle, results, Tryz.results26]
  subst hw1
  exact ⟨W2, hst, rfl⟩
set_option maxRecDepth 100000 in
set_option maxHeartbeats 4000000 in
theorem rp_do (b R off cap : Nat) (hRb : R ≠ b) (x3 : Value) (w : World) (h0 : w.cell? ⟨b, 0, none⟩ = some (.int .u32 0)) (h1 : w.cell? ⟨b, 1, none⟩ = some (.int .i32 0)) (h3 : w.cell? ⟨b, 3, none⟩ = some x3)
    (h4 : w.cell? ⟨b, 4, none⟩ = some (.slice (some ⟨R, off, none⟩) 4 cap)) (f0 : w.frozen? ⟨b, 0, none⟩ = false) (f1 : w.frozen? ⟨b, 1, none⟩ = false) (f3 : w.frozen? ⟨b, 3, none⟩ = false) (f4 : w.frozen? ⟨b, 4, none⟩ = false)
    (r0 : w.cell? ⟨R, off, none⟩ = some (.string ⟨#[32]⟩)) (r1 : w.cell? ⟨R, off + 1, none⟩ = some (.string ⟨#[]⟩)) (r2 : w.cell? ⟨R, off + 2, none⟩ = some (.string ⟨#[9]⟩)) (r3 : w.cell? ⟨R, off + 3, none⟩ = some (.string ⟨#[]⟩)) :
    Calls Tryz.prog 18 #[.pointer (some ⟨b, 0, none⟩), .func (.func 19) #[.pointer (some ⟨b, 0, none⟩)] #[]] w fun e w' => e = .returned (.tuple #[]) ∧
      ∃ W2, RpSt (w.setCell ⟨b, 1, none⟩ (.int .i32 1)) W2 2 ∧ w' = (((W2.setCell ⟨b, 3, none⟩ (rpI (w.setCell ⟨b, 1, none⟩ (.int .i32 1)))).setCell ⟨b, 4, none⟩ (.slice none 0 0)).drew.setCell ⟨b, 0, none⟩ (.int .u32 1)).setCell ⟨b, 1, none⟩ (.int .i32 0) := by
  have hl := run_call_load (P := Tryz.prog) Tryz.func39 (by kernel_rfl) (by kernel_rfl) (by kernel_rfl) .u32 (by kernel_rfl) h0
  have hnot : ∀ (x : Bool) (w : World), (Op.unary .not (.bool x)).run Tryz.prog w = .ok (.bool (!x)) w := fun _ _ => rfl
  go_enter Tryz.func18, Tryz.ntmps18
  go_wp2_with (first
    | (go_at_call 26; refine (rp_slow b R off cap hRb x3 w h0 h1 h3 h4 f0 f1 f3 f4 r0 r1 r2 r3).mono ?_; rintro e w' ⟨rfl, W2, hst, rfl⟩)
    | (go_at_call 25; go_in))
  go_end0
  exact ⟨rfl, W2, hst, rfl⟩
end Go.Proofs.YtfadnlnmlkemfaaGreatDoor
namespace Go.Proofs.YtfadnlnmlkemfaaGreatDoor
open Go Go.Am
set_option linter.unusedVariables false
/-! strings.Replacer: the text without blanks. -/
end Go.Proofs.YtfadnlnmlkemfaaGreatDoor
namespace Go.Proofs.YtfadnlnmlkemfaaGreatDoor
open Go.Shelf
def lays138_ren : Go.Shelf.Ren:=⟨fun |138=>78|195=>90|218=>91|143=>79|219=>24|217=>23|225=>36|224=>37|267=>38|266=>35|314=>54|n=>n, fun |9=>9|3=>3|4=>4|5=>5|0=>0|46=>79|146=>99|51=>45|n=>n, fun |1=>0|n=>n⟩
theorem lays138 : Go.Proofs.Lays.n138 Tryz.prog lays138_ren:={
 mixed:=by kernel_rfl
 f138:=Tryz.func78.trans (congrArg some (by kernel_rfl))
 f143:=Tryz.func79.trans (congrArg some (by kernel_rfl))
 f195:=Tryz.func90.trans (congrArg some (by kernel_rfl))
 f217:=Tryz.func23.trans (congrArg some (by kernel_rfl))
 f218:=Tryz.func91.trans (congrArg some (by kernel_rfl))
 f219:=Tryz.func24.trans (congrArg some (by kernel_rfl))
 f224:=Tryz.func37.trans (congrArg some (by kernel_rfl))
 f225:=Tryz.func36.trans (congrArg some (by kernel_rfl))
 f266:=Tryz.func35.trans (congrArg some (by kernel_rfl))
 f267:=Tryz.func38.trans (congrArg some (by kernel_rfl))
 f314:=Tryz.func54.trans (congrArg some (by kernel_rfl))
 t0:=Tryz.underlying0
 a0:=Tryz.isAgg0
 z0:=Tryz.sizeOf0
 v0:=Tryz.zeroValue0
 t3:=Tryz.underlying3
 a3:=Tryz.isAgg3
 z3:=Tryz.sizeOf3
 v3:=Tryz.zeroValue3
 t4:=Tryz.underlying4
 a4:=Tryz.isAgg4
 z4:=Tryz.sizeOf4
 v4:=Tryz.zeroValue4
 t5:=Tryz.underlying5
 a5:=Tryz.isAgg5
 z5:=Tryz.sizeOf5
 v5:=Tryz.zeroValue5
 t9:=Tryz.underlying9
 a9:=Tryz.isAgg9
 z9:=Tryz.sizeOf9
 v9:=Tryz.zeroValue9
 t46:=Tryz.underlying79
 a46:=Tryz.isAgg79
 z46:=Tryz.sizeOf79
 v46:=Tryz.zeroValue79
 t51:=Tryz.underlying45
 a51:=Tryz.isAgg45
 z51:=Tryz.sizeOf45
 v51:=Tryz.zeroValue45
 t146:=Tryz.underlying99
 a146:=Tryz.isAgg99
 z146:=Tryz.sizeOf99
 v146:=Tryz.zeroValue99
 g1:=by kernel_rfl }
end Go.Proofs.YtfadnlnmlkemfaaGreatDoor
namespace Go.Proofs.YtfadnlnmlkemfaaGreatDoor
open Go Go.RowKit
def isBk (c : UInt8) : Bool := c == 9 || c == 32
def unbS (l : List UInt8) : List UInt8 := l.filter fun c => !isBk c
def bkN (l : List UInt8) : Nat := (l.filter isBk).length
theorem bk_len (l : List UInt8) : (unbS l).length + bkN l = l.length := by
  induction l with
  | nil => rfl
  | cons c l ih =>
    unfold unbS bkN at *
    cases h : isBk c <;> simp [h] <;> omega
theorem bk_count (l : List UInt8) : l.count 9 + l.count 32 = bkN l := by
  induction l with
  | nil => rfl
  | cons c l ih =>
    unfold bkN at *
    rw [List.count_cons, List.count_cons, List.filter_cons]
    by_cases h9 : c = 9
    · subst h9
      have : isBk 9 = true := rfl
      rw [if_pos this]
      simp; omega
    · by_cases h32 : c = 32
      · subst h32
        have : isBk 32 = true := rfl
        rw [if_pos this]
        simp; omega
      · have : isBk c = false := by simp [isBk, h9, h32]
        rw [this]
        simp [h9, h32]; exact ih
theorem unb_none {l : List UInt8} (h : bkN l = 0) : unbS l = l := by
  refine List.filter_eq_self.2 fun c hc => ?_
  unfold bkN at h
  have h0 := List.eq_nil_of_length_eq_zero h
  cases hb : isBk c with
  | false => rfl
  | true =>
    have : c ∈ l.filter isBk := List.mem_filter.2 ⟨hc, hb⟩
    rw [h0] at this; cases this
/-- A fact that the walk shall not see. -/
structure RpHid (p : Prop) : Prop where
  out : p
/-- What stands built. -/
structure RpAt (w : World) (S : Nat) : Prop where
  ex : ∃ arr : Array Value, w.heap[S + 1]? = some (.cells arr 93 (0, 0)) ∧ arr[256]? = some (.slice (some ⟨S, 0, none⟩) 2 2) ∧
    (∀ c : UInt8, if isBk c = true then ∃ a k, arr[c.toNat]? = some (.slice (some a) 0 k) else arr[c.toNat]? = some (.slice none 0 0))
  t0 : w.cell? ⟨S, 0, none⟩ = some (.string ⟨#[9]⟩)
  t1 : w.cell? ⟨S, 1, none⟩ = some (.string ⟨#[32]⟩)
theorem bk_take (l : List UInt8) (i : Nat) (h : i < l.length) : bkN (l.take (i + 1)) = bkN (l.take i) + (if isBk (l[i]'h) = true then 1 else 0) := by
  rw [List.take_add_one, List.getElem?_eq_getElem h]
  unfold bkN
  rw [List.filter_append, List.length_append]
  cases hb : isBk (l[i]'h) <;> simp [hb]
theorem unb_take (l : List UInt8) (i : Nat) (h : i < l.length) : unbS (l.take (i + 1)) = unbS (l.take i) ++ (if isBk (l[i]'h) = true then [] else [l[i]'h]) := by
  rw [List.take_add_one, List.getElem?_eq_getElem h]
  unfold unbS
  rw [List.filter_append]
  cases hb : isBk (l[i]'h) <;> simp [hb]
def rowU (l : List UInt8) (n : Nat) : Array Value := (l.map (fun c => Value.int .u8 (c.toNat : Int)) ++ List.replicate (n - l.length) (Value.int .u8 0)).toArray
/-- The new row with its first letters laid. -/
def RpBuf (w wx : World) (n : Nat) (l : List UInt8) : Prop := Below w.heap.size w wx ∧ wx.heap[w.heap.size]? = some (.cells (rowU l n) 5 (0, 0))
theorem rowU_get {l : List UInt8} {n j : Nat} (hj : j < n) (hl : l.length ≤ n) : ∃ v, (rowU l n)[j]? = some v := by
  have : j < (rowU l n).size := by simp [rowU]; omega
  exact ⟨_, Array.getElem?_eq_getElem this⟩
theorem rowU_set (l : List UInt8) (n : Nat) (c : UInt8) (h : l.length < n) : (rowU l n).setIfInBounds l.length (.int .u8 (c.toNat : Int)) = rowU (l ++ [c]) n := by
  unfold rowU
  rw [List.setIfInBounds_toArray]
  congr 1
  obtain ⟨k, hk⟩ : ∃ k, n - l.length = k + 1 := ⟨n - l.length - 1, by omega⟩
  have hk2 : n - (l ++ [c]).length = k := by simp; omega
  rw [hk, hk2, List.replicate_succ, List.set_append_right _ _ (by simp)]
  simp
theorem rowU_full (l : List UInt8) : (rowU l l.length).toList = l.map fun c => Value.int .u8 (c.toNat : Int) := by simp [rowU]
theorem unb_le (l : List UInt8) (i : Nat) : (unbS (l.take i)).length ≤ (unbS l).length := by
  have h : unbS l = unbS (l.take i) ++ unbS (l.drop i) := by
    unfold unbS
    rw [← List.filter_append, List.take_append_drop]
  rw [h, List.length_append]; omega
theorem rp_conv {w wx : World} {l : List UInt8} (h : RpBuf w wx l.length l) : (convert 23 9 (.slice (some ⟨w.heap.size, 0, none⟩) l.length l.length)).run Tryz.prog wx = .ok (.string ⟨l.toArray⟩) wx := by
  rw [Go.Am.run_convert_bytes (by kernel_rfl) _ ⟨_, _, _, rfl⟩]
  refine Go.Am.run_bytesToString w.heap.size 0 l.length l fun i d hd => ?_
  rw [Nat.zero_add, rp_row h.2, ← Array.getElem?_toList, rowU_full, List.getElem?_map, hd]
  rfl
theorem RpBuf.put {w wx : World} {l : List UInt8} {n : Nat} (h : RpBuf w wx n l) (hl : l.length < n) (c : UInt8) : RpBuf w (wx.setCell ⟨w.heap.size, l.length, none⟩ (.int .u8 (c.toNat : Int))) n (l ++ [c]) := by
  refine ⟨h.1.setCell (Nat.le_refl _) _, ?_⟩
  rw [setCell_eq_setRow wx w.heap.size l.length _ _ (0, 0) _ h.2, setRow_heap wx _ _ _ _ _ h.2, rowU_set l n c hl]
theorem rp_hc {w wx : World} (h : wx.heap = w.heap) (a : Addr) : wx.cell? a = w.cell? a := by unfold World.cell?; rw [h]
set_option maxRecDepth 100000 in
set_option maxHeartbeats 8000000 in
theorem rp_run (S : Nat) (s : ByteArray) (hs : s.size ≤ 1000000) (w : World) (hR : RpAt w S) :
    Calls Tryz.prog 119 #[.pointer (some ⟨S + 1, 0, none⟩), .string s] w fun e w' => e = .returned (.string ⟨(unbS s.data.toList).toArray⟩) ∧ Below w.heap.size w w' := by
  obtain ⟨⟨arr, q1, q2, q3⟩, t0, t1⟩ := hR
  have z256 : w.cell? ⟨S + 1, 256, none⟩ = some (.slice (some ⟨S, 0, none⟩) 2 2) := by rw [rp_row q1]; exact q2
  have hnot : ∀ (x : Bool) (w : World), (Op.unary .not (.bool x)).run Tryz.prog w = .ok (.bool (!x)) w := fun _ _ => rfl
  obtain ⟨K, hK⟩ : ∃ K : UInt8 → Nat, ∀ c, s.data.toList.count c = K c := ⟨fun c => s.data.toList.count c, fun _ => rfl⟩
  obtain ⟨N, hN⟩ : ∃ N, bkN s.data.toList = N := ⟨_, rfl⟩
  have hcnt : ∀ (c : UInt8) (w : World), Calls Tryz.prog 78 #[.string s, .string ⟨#[c]⟩] w fun e w' => e = .returned (.int .i64 (K c)) ∧ w' = w := fun c w => by rw [← hK]; exact Any.strings_Count_one lays138 s c w
  have hbk : K 9 + K 32 = N := by rw [← hK, ← hK, ← hN]; exact bk_count _
  have hbl : (unbS s.data.toList).length + N = s.size := by rw [← hN, bk_len, Array.length_toList]; rfl
  have z9 : ∃ a k, w.cell? ⟨S + 1, 9, none⟩ = some (.slice (some a) 0 k) := by
    have h := q3 9; rw [if_pos (show isBk 9 = true from rfl)] at h; rw [rp_row q1]; exact h
  have z32 : ∃ a k, w.cell? ⟨S + 1, 32, none⟩ = some (.slice (some a) 0 k) := by
    have h := q3 32; rw [if_pos (show isBk 32 = true from rfl)] at h; rw [rp_row q1]; exact h
  obtain ⟨a9, k9, z9⟩ := z9
  obtain ⟨a32, k32, z32⟩ := z32
  have e9 : ((⟨#[9]⟩ : ByteArray)[0]'(by decide)).toNat = 9 := rfl
  have e32 : ((⟨#[32]⟩ : ByteArray)[0]'(by decide)).toNat = 32 := rfl
  go_enter Tryz.func119, Tryz.ntmps119
  go_upto_if 26 with fail
  go_cut [5, 6, 8, 9, 10, 11] from 16 (fun s5 s6 s8 s9 s10 s11 wc => s5 = .int .i64 ((s.size : Int) - N) ∧ s6 = .bool (decide (N ≠ 0)) ∧ wc.heap = w.heap ∧ Below w.heap.size w wc)
  case first =>
    obtain ⟨d16, -⟩ | ⟨d16, -⟩ : (decide ((16 : Int) ≤ (s.size : Int)) = true ∧ True) ∨ (decide ((16 : Int) ≤ (s.size : Int)) = false ∧ True) := by
      by_cases h : (16 : Int) ≤ (s.size : Int)
      · exact .inl ⟨decide_eq_true h, trivial⟩
      · exact .inr ⟨decide_eq_false h, trivial⟩
    · rw [d16]
      clear d16
      go_wp2
      go_loopg [5, 6, 8, 9, 32] 2 (fun g s5 s6 s8 s9 s32 wx => (wx.heap = w.heap ∧ Below w.heap.size w wx) ∧ ((g = 2 ∧ s32 = .int .i64 0 ∧ s5 = .int .i64 s.size ∧ s6 = .bool false) ∨ (g = 1 ∧ s32 = .int .i64 1 ∧ s5 = .int .i64 ((s.size : Int) - K 9) ∧ s6 = .bool (decide (K 9 ≠ 0))) ∨ (g = 0 ∧ s32 = .int .i64 2 ∧ s5 = .int .i64 ((s.size : Int) - N) ∧ s6 = .bool (decide (N ≠ 0)))))
      case atStart => exact ⟨⟨rfl, Below.refl _ _⟩, .inl ⟨rfl, rfl, rfl, rfl⟩⟩
      case round =>
        obtain ⟨⟨hh, hB⟩, hrel⟩ := hrel
        have t0' := (rp_hc hh ⟨S, 0, none⟩).trans t0
        have t1' := (rp_hc hh ⟨S, 1, none⟩).trans t1
        have z9' := (rp_hc hh ⟨S + 1, 9, none⟩).trans z9
        have z32' := (rp_hc hh ⟨S + 1, 32, none⟩).trans z32
        rcases hrel with ⟨rfl, rfl, rfl, rfl⟩ | ⟨rfl, rfl, rfl, rfl⟩ | ⟨rfl, rfl, rfl, rfl⟩
        · obtain ⟨hz, hk⟩ | ⟨hz, hk⟩ : ((((K 9 : Nat) : Int) != 0) = false ∧ RpHid (K 9 = 0)) ∨ ((((K 9 : Nat) : Int) != 0) = true ∧ RpHid (K 9 ≠ 0)) := by
            by_cases h9 : K 9 = 0
            · exact .inl ⟨by simp [h9], ⟨h9⟩⟩
            · exact .inr ⟨by simp [h9], ⟨h9⟩⟩
          · go_wp2_with (go_at_call 78; refine (hcnt 9 _).mono ?_; rintro e w' ⟨rfl, rfl⟩)
            go_roundg 1
            case measure => omega
            case rel =>
              have h9 := hk.out
              exact ⟨⟨hh, hB⟩, .inr (.inl ⟨rfl, rfl, by rw [h9]; simp, by rw [h9]; rfl⟩)⟩
          · go_wp2_with (go_at_call 78; refine (hcnt 9 _).mono ?_; rintro e w' ⟨rfl, rfl⟩)
            go_region
            go_wp2
            go_roundg 1
            case measure => omega
            case rel =>
              have h9 := hk.out
              exact ⟨⟨hh, hB.drew⟩, .inr (.inl ⟨rfl, rfl, by congr 1, by simp [h9]⟩)⟩
        · obtain ⟨hz, hk⟩ | ⟨hz, hk⟩ : ((((K 32 : Nat) : Int) != 0) = false ∧ RpHid (K 32 = 0)) ∨ ((((K 32 : Nat) : Int) != 0) = true ∧ RpHid (K 32 ≠ 0)) := by
            by_cases h9 : K 32 = 0
            · exact .inl ⟨by simp [h9], ⟨h9⟩⟩
            · exact .inr ⟨by simp [h9], ⟨h9⟩⟩
          · go_wp2_with (go_at_call 78; refine (hcnt 32 _).mono ?_; rintro e w' ⟨rfl, rfl⟩)
            go_roundg 0
            case measure => omega
            case rel =>
              have h9 := hk.out
              have hN9 : N = K 9 := by omega
              exact ⟨⟨hh, hB⟩, .inr (.inr ⟨rfl, rfl, by rw [hN9], by rw [hN9]; simp⟩)⟩
          · go_wp2_with (go_at_call 78; refine (hcnt 32 _).mono ?_; rintro e w' ⟨rfl, rfl⟩)
            go_region
            go_wp2
            go_roundg 0
            case measure => omega
            case rel =>
              have h9 := hk.out
              have hN0 : N ≠ 0 := by omega
              exact ⟨⟨hh, hB.drew⟩, .inr (.inr ⟨rfl, rfl, by congr 1; omega, by simp [hN0]⟩)⟩
        · go_wp2
          go_meet
          case rel => exact ⟨rfl, rfl, hh, hB⟩
    · rw [d16]
      clear d16
      go_wp2
      go_loopg [5, 6, 10, 11] s.size (fun g s5 s6 s10 s11 wx => (wx.heap = w.heap ∧ Below w.heap.size w wx) ∧ ∃ i m : Nat, i + g = s.size ∧ bkN (s.data.toList.take i) = m ∧ s10 = .int .i64 i ∧ s5 = .int .i64 ((s.size : Int) - m) ∧ s6 = .bool (decide (m ≠ 0)))
      case atStart => exact ⟨⟨rfl, Below.refl _ _⟩, 0, 0, by omega, rfl, rfl, by simp, rfl⟩
      case round =>
        obtain ⟨⟨hh, hB⟩, i, m, hi, hm, rfl, rfl, rfl⟩ := hrel
        have hm := RpHid.mk hm
        cases gk with
        | zero =>
          have hi2 : i = s.size := by omega
          subst hi2
          go_wp2
          go_meet
          case rel =>
            have hmN : m = N := by
              rw [← hm.out, ← hN, List.take_of_length_le (by rw [Array.length_toList]; exact Nat.le_refl _)]
            exact ⟨by rw [hmN], by rw [hmN], hh, hB⟩
        | succ g =>
          have hi2 : i < s.size := by omega
          obtain ⟨c, hc⟩ : ∃ c : UInt8, s[i] = c := ⟨_, rfl⟩
          have hc256 : c.toNat < 256 := c.toNat_lt
          have hli : i < s.data.toList.length := by rw [Array.length_toList]; exact hi2
          have hcl : s.data.toList[i] = c := by rw [Array.getElem_toList]; exact hc
          have hstep := RpHid.mk (bk_take s.data.toList i hli)
          have hq := q3 c
          cases hb : isBk c with
          | true =>
            rw [hb, if_pos rfl] at hq
            obtain ⟨a, k, hq⟩ := hq
            have zc : wr.cell? ⟨S + 1, c.toNat, none⟩ = some (.slice (some a) 0 k) := by rw [rp_hc hh, rp_row q1]; exact hq
            have hne : ∀ w : World, (binOp .neq 23 (.slice (some a) 0 k) (.slice none 0 0)).run Tryz.prog w = .ok (.bool true) w := fun w => rfl
            go_wp2
            go_roundg g
            case measure => omega
            case rel =>
              have hs2 := hstep.out
              rw [hcl, hb, if_pos rfl, hm.out] at hs2
              have hml := bk_len (s.data.toList.take i)
              rw [hm.out, List.length_take] at hml
              exact ⟨⟨hh, hB⟩, i + 1, m + 1, by omega, hs2, by simp, by congr 1; unfold wrap64; omega, by simp⟩
          | false =>
            rw [hb, if_neg (by decide)] at hq
            have zc : wr.cell? ⟨S + 1, c.toNat, none⟩ = some (.slice none 0 0) := by rw [rp_hc hh, rp_row q1]; exact hq
            have hne : ∀ w : World, (binOp .neq 23 (.slice none 0 0) (.slice none 0 0)).run Tryz.prog w = .ok (.bool false) w := fun w => rfl
            go_wp2
            go_roundg g
            case measure => omega
            case rel =>
              have hs2 := hstep.out
              rw [hcl, hb, if_neg (by decide), hm.out] at hs2
              exact ⟨⟨hh, hB⟩, i + 1, m, by omega, hs2, by simp, rfl, rfl⟩
  case rest =>
    obtain ⟨rfl, rfl, hh, hB⟩ := hcut
    have hsz : wc.heap.size = w.heap.size := by rw [hh]
    obtain ⟨n, hn⟩ : ∃ n, n = s.size - N := ⟨_, rfl⟩
    have hn2 : (s.size : Int) - N = n := by omega
    have hmk : ∀ w : World, (Instr.makeSlice 23 (.int .i64 n) (.int .i64 n)).run Tryz.prog w = .ok (.slice (some ⟨w.heap.size, 0, none⟩) n n) (w.alloc (.cells (madeCells #[.int .u8 0] n) 5)) := fun w => by
      have h := run_make (P := Tryz.prog) w 23 5 Tryz.t5 (.int .u8 0) Tryz.underlying23 (by kernel_rfl) (by kernel_rfl) .i64 .i64 n n (by omega) (by omega) (by show ((1 : Nat) : Int) * n ≤ _; omega) (by omega)
      rw [h]
      simp only [Int.toNat_natCast]
      show Result.ok _ (w.alloc (.cells (madeCells #[.int .u8 0] (n * 1)) 5)) = _
      rw [Nat.mul_one]
    rw [hn2]
    have hhH := RpHid.mk hh
    have hszH := RpHid.mk hsz
    clear hh hsz
    have hnH := RpHid.mk hn
    have hnH2 := RpHid.mk hn2
    clear hn hn2
    by_cases h0 : N = 0
    · have hd : decide (N ≠ 0) = false := by simp [h0]
      rw [hd]
      go_wp2
      go_ret
      have e : (⟨(unbS s.data.toList).toArray⟩ : ByteArray) = s := by rw [unb_none (by rw [hN]; exact h0), Array.toArray_toList]
      rw [e]
      exact ⟨rfl, hB⟩
    · have hd : decide (N ≠ 0) = true := by simp [h0]
      rw [hd]
      have h0 := RpHid.mk h0
      go_wp2
      go_loopg [13, 14, 15] s.size (fun g s13 s14 s15 wx => ∃ (i : Nat) (L : List UInt8), i + g = s.size ∧ RpHid (unbS (s.data.toList.take i) = L) ∧ RpBuf wc wx n L ∧ s14 = .int .i64 (i : Int) ∧ s13 = .int .i64 (L.length : Int))
      case atStart =>
        refine ⟨0, [], by omega, ⟨rfl⟩, ⟨(Below.refl _ _).alloc (Nat.le_refl _) _, ?_⟩, rfl, rfl⟩
        rw [heap_alloc_new wc]
        congr 2
        unfold rowU
        apply Array.ext'
        rw [toList_madeCells_one]
        simp
      case round =>
        obtain ⟨i, L, hi, hL, hbuf, rfl, rfl⟩ := hrel
        have hnn := hnH.out
        cases gk with
        | zero =>
          have hi2 : i = s.size := by omega
          subst hi2
          have hLL := hL.out
          rw [List.take_of_length_le (by rw [Array.length_toList]; exact Nat.le_refl _)] at hLL
          obtain rfl : n = L.length := by rw [← hLL]; omega
          have hcv := rp_conv hbuf
          clear hnn hnH hnH2 hmk
          go_wp2
          go_ret
          rw [hLL]
          exact ⟨rfl, hB.trans (hbuf.1.mono (by rw [hszH.out]; exact Nat.le_refl _))⟩
        | succ g =>
          have hi2 : i < s.size := by omega
          obtain ⟨c, hc⟩ : ∃ c : UInt8, s[i] = c := ⟨_, rfl⟩
          have hc256 : c.toNat < 256 := c.toNat_lt
          have hli : i < s.data.toList.length := by rw [Array.length_toList]; exact hi2
          have hcl : s.data.toList[i] = c := by rw [Array.getElem_toList]; exact hc
          have hstep := RpHid.mk (unb_take s.data.toList i hli)
          have hle := unb_le s.data.toList (i + 1)
          have hle0 := unb_le s.data.toList i
          rw [hL.out] at hle0
          have hLn : L.length ≤ n := by omega
          have hLn2 : (L.length : Int) ≤ n := by omega
          have hq := q3 c
          have hold := hbuf.1
          have k1 : wr.heap[S + 1]? = some (.cells arr 93 (0, 0)) := by
            rw [hold.block _ (by rw [hszH.out]; exact (Array.getElem?_eq_some_iff.1 q1).1), hhH.out]; exact q1
          cases hb : isBk c with
          | true =>
            rw [hb, if_pos rfl] at hq
            obtain ⟨a, k, hq⟩ := hq
            have zc : wr.cell? ⟨S + 1, c.toNat, none⟩ = some (.slice (some a) 0 k) := by rw [rp_row k1]; exact hq
            have hne : ∀ w : World, (binOp .neq 23 (.slice (some a) 0 k) (.slice none 0 0)).run Tryz.prog w = .ok (.bool true) w := fun w => rfl
            have hcp : ∀ (p : Option Addr) (d q : Nat) (w : World), (Builtin.copy_ #[23, 23] 3 #[.slice p d q, .slice (some a) 0 k]).run Tryz.prog w = .ok (.int .i64 0) w := fun p d q w => run_copy_none (P := Tryz.prog) w 23 23 3 5 p (some a) d q 0 k Tryz.underlying23 (by kernel_rfl) (by simp)
            have hc256i : ((c.toNat : Nat) : Int) < 256 := by omega
            have hLB : L.length ≤ 1000000 := by omega
            clear hnn hnH hnH2 hle hle0
            rcases Nat.eq_or_lt_of_le hLn with hnl | hnl
            · obtain rfl : n = L.length := hnl.symm
              go_wp2
              go_region
              go_wp2
              go_roundg g
              case measure => omega
              case rel =>
                have hs2 := hstep.out
                rw [hcl, hb, if_pos rfl, hL.out, List.append_nil] at hs2
                exact ⟨i + 1, L, by omega, ⟨hs2⟩, ⟨hbuf.1.drew, hbuf.2⟩, by simp, by first | rfl | (congr 1; unfold wrap64; omega) | congr 1⟩
            · have hnl2 : ¬ n = L.length := by omega
              clear hnl
              go_wp2
              go_region
              go_wp2
              go_roundg g
              case measure => omega
              case rel =>
                have hs2 := hstep.out
                rw [hcl, hb, if_pos rfl, hL.out, List.append_nil] at hs2
                exact ⟨i + 1, L, by omega, ⟨hs2⟩, ⟨hbuf.1.drew, hbuf.2⟩, by simp, by first | rfl | (congr 1; unfold wrap64; omega) | congr 1⟩
          | false =>
            rw [hb, if_neg (by decide)] at hq
            have zc : wr.cell? ⟨S + 1, c.toNat, none⟩ = some (.slice none 0 0) := by rw [rp_row k1]; exact hq
            have hne : ∀ w : World, (binOp .neq 23 (.slice none 0 0) (.slice none 0 0)).run Tryz.prog w = .ok (.bool false) w := fun w => rfl
            have hs2 := hstep.out
            rw [hcl, hb, if_neg (by decide), hL.out] at hs2
            rw [hs2, List.length_append] at hle
            have hlt : L.length < n := by simp at hle; omega
            have hlt2 : (L.length : Int) < n := by omega
            obtain ⟨v, hv⟩ := rowU_get hlt hLn
            have zb : wr.cell? ⟨wc.heap.size, L.length, none⟩ = some v := by rw [rp_row hbuf.2]; exact hv
            have yb := rp_thaw hbuf.2 L.length
            have hput := RpHid.mk (hbuf.put hlt c)
            have hs3 := RpHid.mk hs2
            have hLB : L.length ≤ 1000000 := by omega
            clear hnn hnH hnH2 hle hle0 hs2 hv
            go_wp2
            go_roundg g
            case measure => omega
            case rel => exact ⟨i + 1, L ++ [c], by omega, hs3, hput.out, by simp, by congr 1; rw [List.length_append]; simp only [List.length_cons, List.length_nil]; first | rfl | omega | (unfold wrap64; omega)⟩
end Go.Proofs.YtfadnlnmlkemfaaGreatDoor
namespace Go.Proofs.YtfadnlnmlkemfaaGreatDoor
open Go Go.Am
set_option linter.unusedVariables false
/-! strings.Replacer.Replace: once built, carried out. -/
end Go.Proofs.YtfadnlnmlkemfaaGreatDoor
namespace Go.Proofs.YtfadnlnmlkemfaaGreatDoor
open Go Go.RowKit
structure RpKeep (b : Nat) (w w' : World) : Prop where
  old : ∀ c, c < w.heap.size → c ≠ b → w'.heap[c]? = w.heap[c]?
  size : w.heap.size ≤ w'.heap.size
  os : w'.os = w.os
  tape : w'.tape = w.tape
  output : w'.output = w.output
theorem RpKeep.setCell {b : Nat} {w w' : World} (h : RpKeep b w w') (q : Nat) (v : Value) : RpKeep b w (w'.setCell ⟨b, q, none⟩ v) :=
  ⟨fun c hc hne => (Below.heap_setCell w' ⟨b, q, none⟩ v c hne).trans (h.old c hc hne), by
    have := ((Below.refl 0 w').setCell (p := ⟨b, q, none⟩) (Nat.zero_le _) v).size
    exact Nat.le_trans h.size this, h.os, h.tape, h.output⟩
theorem RpKeep.drew {b : Nat} {w w' : World} (h : RpKeep b w w') : RpKeep b w w'.drew := ⟨h.old, h.size, h.os, h.tape, h.output⟩
theorem RpKeep.below {b : Nat} {w w1 w' : World} (h : RpKeep b w w1) (k : Below w1.heap.size w1 w') : RpKeep b w w' :=
  ⟨fun c hc hne => (k.block c (Nat.lt_of_lt_of_le hc h.size)).trans (h.old c hc hne), Nat.le_trans h.size k.size, k.os.trans h.os, k.tape.trans h.tape, k.output.trans h.output⟩
theorem RpSt.at {w w2 : World} (h : RpSt w w2 2) : RpAt w2 w.heap.size := by
  obtain ⟨hB, hsz, arr, c0, c1, q1, q2, q3, q4, q5, q6, q7⟩ := h
  refine ⟨⟨arr, q1, q4, fun c => ?_⟩, ?_, ?_⟩
  · have hc := c.toNat_lt
    have h := q5 c.toNat hc
    by_cases hb : isBk c = true
    · rw [if_pos hb]
      have hc2 : (c.toNat = 9 ∧ 1 ≤ 2) ∨ (c.toNat = 32 ∧ 2 ≤ 2) := by
        unfold isBk at hb
        rw [Bool.or_eq_true, beq_iff_eq, beq_iff_eq] at hb
        rcases hb with rfl | rfl
        · exact .inl ⟨rfl, by decide⟩
        · exact .inr ⟨rfl, by decide⟩
      rw [if_pos hc2] at h; exact h
    · rw [if_neg hb]
      have hc2 : ¬ ((c.toNat = 9 ∧ 1 ≤ 2) ∨ (c.toNat = 32 ∧ 2 ≤ 2)) := by
        rintro (⟨h1, _⟩ | ⟨h1, _⟩)
        · have : c = 9 := UInt8.toNat_inj.1 h1
          subst this; exact hb rfl
        · have : c = 32 := UInt8.toNat_inj.1 h1
          subst this; exact hb rfl
      rw [if_neg hc2] at h; exact h
  · rw [rp_row q3, q6 (by decide)]; rfl
  · rw [rp_row q3, q7 (by decide)]; rfl
theorem RpAt.other {w w' : World} {S b : Nat} (h : RpAt w S) (h0 : S ≠ b) (h1 : S + 1 ≠ b) (hk : ∀ c, c ≠ b → w'.heap[c]? = w.heap[c]?) : RpAt w' S := by
  obtain ⟨⟨arr, q1, q2, q3⟩, t0, t1⟩ := h
  have e : ∀ q, w'.cell? ⟨S, q, none⟩ = w.cell? ⟨S, q, none⟩ := fun q => World.cell?_of_block (w := w) (hk S h0)
  exact ⟨⟨arr, (hk _ h1).trans q1, q2, q3⟩, (e 0).trans t0, (e 1).trans t1⟩
set_option maxRecDepth 100000 in
set_option maxHeartbeats 8000000 in
theorem rp_replace (b R off cap : Nat) (hRb : R ≠ b) (x3 : Value) (s : ByteArray) (hs : s.size ≤ 1000000) (w : World) (h0 : w.cell? ⟨b, 0, none⟩ = some (.int .u32 0)) (h1 : w.cell? ⟨b, 1, none⟩ = some (.int .i32 0)) (h3 : w.cell? ⟨b, 3, none⟩ = some x3)
    (h4 : w.cell? ⟨b, 4, none⟩ = some (.slice (some ⟨R, off, none⟩) 4 cap)) (f0 : w.frozen? ⟨b, 0, none⟩ = false) (f1 : w.frozen? ⟨b, 1, none⟩ = false) (f3 : w.frozen? ⟨b, 3, none⟩ = false) (f4 : w.frozen? ⟨b, 4, none⟩ = false)
    (r0 : w.cell? ⟨R, off, none⟩ = some (.string ⟨#[32]⟩)) (r1 : w.cell? ⟨R, off + 1, none⟩ = some (.string ⟨#[]⟩)) (r2 : w.cell? ⟨R, off + 2, none⟩ = some (.string ⟨#[9]⟩)) (r3 : w.cell? ⟨R, off + 3, none⟩ = some (.string ⟨#[]⟩)) :
    Calls Tryz.prog 13 #[.pointer (some ⟨b, 0, none⟩), .string s] w fun e w' => e = .returned (.string ⟨(unbS s.data.toList).toArray⟩) ∧ RpKeep b w w' := by
  have hmeth : ∀ (p : Option Addr) (W : World), (method 272 94 (.pointer p) "Replace").run Tryz.prog W = .ok (119, .pointer p) W := fun p W => by kernel_rfl
  have hmf : ∀ (fn : Fn) (first cap : Array Value) (w : World), (Instr.makeFunc fn first cap).run Tryz.prog w = .ok (.func fn first cap) w := fun _ _ _ _ => rfl
  have hb : b < w.heap.size := World.block_lt_of_cell? w ⟨b, 0, none⟩ h0
  have hdo : ∃ Q : World → Prop, (∀ W, Q W → W.cell? ⟨b, 3, none⟩ = some (.iface 94 (.pointer (some ⟨w.heap.size + 1, 0, none⟩))) ∧ RpAt W w.heap.size ∧ RpKeep b w W) ∧
      Calls Tryz.prog 18 #[.pointer (some ⟨b, 0, none⟩), .func (.func 19) #[.pointer (some ⟨b, 0, none⟩)] #[]] w fun e w' => e = .returned (.tuple #[]) ∧ Q w' := by
    refine ⟨fun W => W.cell? ⟨b, 3, none⟩ = some (.iface 94 (.pointer (some ⟨w.heap.size + 1, 0, none⟩))) ∧ RpAt W w.heap.size ∧ RpKeep b w W, fun W h => h, ?_⟩
    refine (rp_do b R off cap hRb x3 w h0 h1 h3 h4 f0 f1 f3 f4 r0 r1 r2 r3).mono ?_
    rintro e w' ⟨rfl, W2, hst, rfl⟩
    have hsz : (w.setCell ⟨b, 1, none⟩ (.int .i32 1)).heap.size = w.heap.size := by
      obtain ⟨cur, ty, fr, hh⟩ : ∃ cur ty fr, w.heap[b]? = some (.cells cur ty fr) := by
        unfold World.cell? at h0
        dsimp only at h0
        cases hq : w.heap[b]? with
        | none => rw [hq] at h0; cases h0
        | some o => cases o <;> rw [hq] at h0 <;> first | exact ⟨_, _, _, rfl⟩ | cases h0
      rw [setCell_eq_setRow w b 1 cur ty fr _ hh]; simp [World.setRow]
    have hat := hst.at
    rw [hsz] at hat
    have k0 : RpKeep b w (w.setCell ⟨b, 1, none⟩ (.int .i32 1)) := RpKeep.setCell ⟨fun _ _ _ => rfl, Nat.le_refl _, rfl, rfl, rfl⟩ 1 _
    have k2 := k0.below hst.1
    have hc3 : (w.setCell ⟨b, 1, none⟩ (.int .i32 1)).cell? ⟨b, 3, none⟩ = some x3 := (World.cell?_setCell_other _ ⟨b, 1, none⟩ ⟨b, 3, none⟩ _ (by simp)).trans h3
    have hc3' := below_some hst.1 hc3
    refine ⟨rfl, ?_, ?_, ?_⟩
    · refine (World.cell?_setCell_other _ ⟨b, 1, none⟩ ⟨b, 3, none⟩ _ (by simp)).trans ((World.cell?_setCell_other _ ⟨b, 0, none⟩ ⟨b, 3, none⟩ _ (by simp)).trans ?_)
      rw [World.cell?_drew]
      refine (World.cell?_setCell_other _ ⟨b, 4, none⟩ ⟨b, 3, none⟩ _ (by simp)).trans ?_
      rw [World.cell?_setCell_same W2 _ _ hc3', rpI, hsz]
    · refine hat.other (b := b) (by omega) (by omega) fun c hc => ?_
      rw [Below.heap_setCell _ _ _ _ hc, Below.heap_setCell _ _ _ _ hc]
      show ((W2.setCell ⟨b, 3, none⟩ _).setCell ⟨b, 4, none⟩ _).heap[c]? = _
      rw [Below.heap_setCell _ _ _ _ hc, Below.heap_setCell _ _ _ _ hc]
    · exact ((((k2.setCell 3 _).setCell 4 _).drew.setCell 0 _).setCell 1 _)
  obtain ⟨Q, hQ, hdo⟩ := hdo
  go_enter Tryz.func13, Tryz.ntmps13
  go_wp2_with (first
    | (go_at_call 18; refine hdo.mono ?_; rintro e W ⟨rfl, hW⟩; obtain ⟨c3, hat, hkeep⟩ := hQ W hW)
    | (go_at_call 119; refine (rp_run w.heap.size s hs W hat).mono ?_; rintro e W' ⟨rfl, hB⟩))
  go_ret
  exact ⟨rfl, hkeep.below hB⟩
end Go.Proofs.YtfadnlnmlkemfaaGreatDoor
namespace Go.Proofs.YtfadnlnmlkemfaaGreatDoor
open Go Go.Am
set_option linter.unusedVariables false
/-! The contract of Replace. -/
end Go.Proofs.YtfadnlnmlkemfaaGreatDoor
namespace Go.Proofs.YtfadnlnmlkemfaaGreatDoor
open Go Go.Am
abbrev oldnew : List (List UInt8) := [[32], [], [9], []]
theorem rp_arr {M : Mem} {w : World} {g cap : Nat} {vs : List Value} (hA : ArrOK M w 9 false 1 4 vs (some g) cap) (hR : ∀ i j, i < (Rows.dat .str oldnew).n → j < 1 → ∃ v, vs[i * 1 + j]? = some v ∧ PRel M ((Rows.dat .str oldnew).f i j) v) :
    w.cell? ⟨g, 0, none⟩ = some (.string ⟨#[32]⟩) ∧ w.cell? ⟨g, 0 + 1, none⟩ = some (.string ⟨#[]⟩) ∧ w.cell? ⟨g, 0 + 2, none⟩ = some (.string ⟨#[9]⟩) ∧ w.cell? ⟨g, 0 + 3, none⟩ = some (.string ⟨#[]⟩) := by
  have key : ∀ (i : Nat) (l : List UInt8), i < 4 → (Rows.dat .str oldnew).f i 0 = .str l → w.cell? ⟨g, 0 + i, none⟩ = some (.string ⟨l.toArray⟩) := fun i l hi hl => by
    obtain ⟨v, hv, hr⟩ := hR i 0 hi (by decide)
    rw [hl] at hr
    have e0 : i * 1 + 0 = i := by omega
    rw [e0] at hv
    rw [Nat.zero_add, hA.cell i v hv]
    cases hr; rfl
  exact ⟨key 0 [32] (by decide) rfl, key 1 [] (by decide) rfl, key 2 [9] (by decide) rfl, key 3 [] (by decide) rfl⟩
theorem FnR_repl (t : List UInt8) (ht : t.length ≤ 1000000) :
    FnR Tryz.prog 13 [.ref 70000 0, .p (.str t)] [(70000, .cells [.p (.int .u32 0), .p (.int .i32 0), .p (.int .u32 0), .p (.plain .nilIface), .arr 70001]), (70001, .larr 9 false 1 (.dat .str oldnew))] [] (.p (.str (unbS t))) [] := by
  intro γ M w vs hO hnone hM hvs
  obtain ⟨b, vs0, e, hg, hh, hsz, hrel, hmem⟩ := hO.ob 70000 _ rfl
  obtain ⟨a, cap, vs1, hg1, hR, hA⟩ := hO.ob 70001 _ rfl
  cases hvs with | cons hx hvs =>
  cases hvs with | cons hy hvs =>
  cases hvs
  obtain ⟨b', hg', rfl⟩ := hx.ref_inv
  rw [hg] at hg'; cases hg'
  cases hy with | p _ _ hy =>
  cases hy with | str _ hlen =>
  have hc : ∀ j, j < 5 → w.cell? ⟨b, j, none⟩ = some (vs0.getD j undef) := fun j hj => by
    rw [rp_row hh j, Array.getD_eq_getD_getElem?, Array.getElem?_eq_getElem (by rw [hsz]; exact hj)]; rfl
  have e0 : vs0.getD 0 undef = .int .u32 0 := by
    have h := (hrel 0 (by decide)).1
    generalize vs0.getD 0 undef = v at h
    cases h with | p _ _ h => cases h; rfl
  have e1 : vs0.getD 1 undef = .int .i32 0 := by
    have h := (hrel 1 (by decide)).1
    generalize vs0.getD 1 undef = v at h
    cases h with | p _ _ h => cases h; rfl
  have h4 : ARel γ M (.arr 70001) (vs0.getD 4 undef) := (hrel 4 (by decide)).1
  obtain ⟨a', k', n', cap', hg1', e4⟩ := h4.arr_inv
  rw [hg1] at hg1'; cases hg1'
  cases a with
  | none => exact absurd hA.none.1 (by decide)
  | some g =>
    have e4 : vs0.getD 4 undef = .slice (some ⟨g, 0, none⟩) 4 cap := e4
    have hRb : g ≠ b := fun e => by
      subst e
      have := hO.sep 70000 70001 _ _ g (by simp [lookO]) (by simp [lookO]) hg hg1 rfl rfl
      cases this
    obtain ⟨r0, r1, r2, r3⟩ := rp_arr hA hR
    have hlen2 : t.toArray.size = t.length := by simp
    have hcon := rp_replace b g 0 cap hRb (vs0.getD 3 undef) ⟨t.toArray⟩ (by show t.toArray.size ≤ _; rw [hlen2]; exact ht) w (by rw [hc 0 (by decide), e0]) (by rw [hc 1 (by decide), e1]) (hc 3 (by decide)) (by rw [hc 4 (by decide), e4])
      (rp_thaw hh 0) (rp_thaw hh 1) (rp_thaw hh 3) (rp_thaw hh 4) r0 r1 r2 r3
    refine Calls.mono hcon fun e' w' ⟨he, hk⟩ => ?_
    have hst : (⟨t.toArray⟩ : ByteArray).data.toList = t := rfl
    rw [hst] at he
    rw [he]
    have hbl := bk_len t
    refine FnR_str_of hM (by unfold maxLen; omega) (fun c hc hno => hk.old c hc fun e => hno (by subst e; exact ⟨70000, _, by simp [lookO], hg, rfl⟩)) (fun c o v hv => ?_) hk.size hk.os hk.tape hk.output
    have hcb : c ≠ b := fun e => by subst e; rw [hmem] at hv; cases hv
    have hlt : c < w.heap.size := World.block_lt_of_cell? w ⟨c, o, none⟩ (hM c o v hv)
    exact World.cell?_of_block (w := w) (hk.old c hlt hcb)
def sp_repl : RSpec := ⟨[false, true], fun args ib => match args, ib with
  | [.ref 70000 0, .p (.str t)], [(70000, .cells [.p (.int .u32 0), .p (.int .i32 0), .p (.int .u32 0), .p (.plain .nilIface), .arr 70001]), (70001, .larr 9 false 1 R)] =>
    match pList .str (.list 1 R) with
    | some [[32], [], [9], []] => some (([], .p (.str (unbS t))), ([], some (t.length ≤ 1000000)))
    | _ => none
  | _, _ => none⟩
end Go.Proofs.YtfadnlnmlkemfaaGreatDoor
