/-
  Lifted functions, and facts about them.
-/
import Derived.Test.YtoanepondbagcaaGreatDoorRows
import Derived.Test.YtoanepondbagcaaGreatDoorAmC
import Derived.Test.YtoanepondbagcaaGreatDoorC20
import Derived.Test.YtoanepondbagcaaGreatDoorC14IxAny2
import Derived.Shelf.Strings.FieldsFuncAny
import Derived.Shelf.Spec.SlicesGrow
namespace Go.Proofs.YtoanepondbagcaaGreatDoor
open Go Go.Am
set_option linter.unusedVariables false
/-! strings.FieldsFunc at blanks and below: the pieces between bytes of at most 32. -/
def fldF : List UInt8 → List UInt8 → List (List UInt8)
  | [], cur => if cur = [] then [] else [cur]
  | c :: r, cur => if c.toNat ≤ 32 then (if cur = [] then fldF r [] else cur :: fldF r []) else fldF r (cur ++ [c])
def fldS (s : List UInt8) : List (List UInt8) := fldF s []
theorem fldF_skip : ∀ (x r cur : List UInt8), (∀ c ∈ x, 32 < c.toNat) → fldF (x ++ r) cur = fldF r (cur ++ x)
  | [], r, cur, _ => by simp
  | c :: x, r, cur, h => by
    have hc := h c (List.mem_cons_self ..)
    rw [List.cons_append, fldF, if_neg (by omega), fldF_skip x r _ fun d hd => h d (List.mem_cons_of_mem _ hd)]
    simp
def curOf (l : List UInt8) (pos : Nat) : Option Nat → List UInt8
  | none => []
  | some a => (l.take pos).drop a
abbrev p32 : Nat → Bool := fun x => decide (x ≤ 32)
theorem cur_more {l : List UInt8} {pos k : Nat} (hk : pos + k ≤ l.length) (st : Option Nat) (h : ∀ a, st = some a → a < pos) :
    curOf l pos st ++ (l.take (pos + k)).drop pos = curOf l (pos + k) (some (st.getD pos)) := by
  cases st with
  | none => rfl
  | some a =>
    have := h a rfl
    show (l.take pos).drop a ++ (l.take (pos + k)).drop pos = (l.take (pos + k)).drop a
    have e : l.take (pos + k) = l.take pos ++ (l.take (pos + k)).drop pos := by
      have e0 := (List.take_append_drop pos (l.take (pos + k))).symm
      rw [List.take_take, Nat.min_eq_left (by omega)] at e0
      exact e0
    have e2 := congrArg (List.drop a) e
    rw [List.drop_append_of_le_length (by simp; omega)] at e2
    exact e2.symm
theorem cur_ne {l : List UInt8} {pos : Nat} (hp : pos ≤ l.length) {a : Nat} (h : a < pos) : (l.take pos).drop a ≠ [] := by
  intro e
  have := congrArg List.length e
  simp at this; omega
theorem sf_sep {p : Nat → Bool} {s : ByteArray} {f pos : Nat} {st : Option Nat} {acc : List (Nat × Nat)} (h : pos < s.size) (hp : p (Utf8.decode s pos).1 = true) :
    Lib.spansFromP p s (f + 1) pos st acc = match st with
      | some a => Lib.spansFromP p s f (pos + (Utf8.decode s pos).2) none (acc ++ [(a, pos)])
      | none => Lib.spansFromP p s f (pos + (Utf8.decode s pos).2) none acc := by
  cases st <;> simp only [Lib.spansFromP, h, hp, if_true]
theorem sf_keep {p : Nat → Bool} {s : ByteArray} {f pos : Nat} {st : Option Nat} {acc : List (Nat × Nat)} (h : pos < s.size) (hp : p (Utf8.decode s pos).1 = false) :
    Lib.spansFromP p s (f + 1) pos st acc = match st with
      | some a => Lib.spansFromP p s f (pos + (Utf8.decode s pos).2) (some a) acc
      | none => Lib.spansFromP p s f (pos + (Utf8.decode s pos).2) (some pos) acc := by
  cases st <;> simp only [Lib.spansFromP, h, hp, if_true, Bool.false_eq_true, if_false]
open Go.Lib in
theorem fld_spans (l : List UInt8) : ∀ (f pos : Nat) (st : Option Nat) (acc : List (Nat × Nat)), l.length - pos ≤ f → pos ≤ l.length → (∀ a, st = some a → a < pos) →
    (closeSpans ⟨l.toArray⟩ (spansFromP p32 ⟨l.toArray⟩ f pos st acc)).map (fun x => ((⟨l.toArray⟩ : ByteArray).extract x.1 x.2).data.toList) = acc.map (fun x => ((⟨l.toArray⟩ : ByteArray).extract x.1 x.2).data.toList) ++ fldF (l.drop pos) (curOf l pos st) := by
  intro f
  have hsz : (⟨l.toArray⟩ : ByteArray).size = l.length := rfl
  have hend : ∀ (pos : Nat) (st : Option Nat) (acc : List (Nat × Nat)), pos = l.length → (∀ a, st = some a → a < pos) →
      (closeSpans ⟨l.toArray⟩ (acc, st)).map (fun x => ((⟨l.toArray⟩ : ByteArray).extract x.1 x.2).data.toList) = acc.map (fun x => ((⟨l.toArray⟩ : ByteArray).extract x.1 x.2).data.toList) ++ fldF (l.drop pos) (curOf l pos st) := by
    intro pos st acc hp hst
    rw [List.drop_eq_nil_of_le (by omega), fldF]
    cases st with
    | none => rw [if_pos (by rfl), List.append_nil]; rfl
    | some a =>
      have := hst a rfl
      rw [if_neg (by exact cur_ne (by omega) this)]
      unfold closeSpans
      simp only [List.map_append, List.map_cons, List.map_nil]
      rw [hsz, extract_str l _ _ (by omega)]
      simp [curOf, hp]
  induction f with
  | zero =>
    intro pos st acc h1 h2 h3
    exact hend pos st acc (by omega) h3
  | succ f ih =>
    intro pos st acc h1 h2 h3
    by_cases hlt : pos < l.length
    · have hlt' : pos < (⟨l.toArray⟩ : ByteArray).size := hlt
      obtain ⟨c, hc⟩ : ∃ c, l[pos]? = some c := ⟨_, List.getElem?_eq_getElem hlt⟩
      have hget : (⟨l.toArray⟩ : ByteArray)[pos]'hlt' = c := by
        have : l[pos] = c := by rw [List.getElem?_eq_getElem hlt] at hc; exact Option.some.inj hc
        exact this
      have hd : l.drop pos = c :: l.drop (pos + 1) := by
        rw [List.drop_eq_getElem_cons hlt]
        rw [List.getElem?_eq_getElem hlt] at hc
        rw [Option.some.inj hc]
      have skip : ∀ (k : Nat), 1 ≤ k → pos + k ≤ l.length → (∀ j, j < k → ∀ d, l[pos + j]? = some d → 32 < d.toNat) →
          acc.map (fun x => ((⟨l.toArray⟩ : ByteArray).extract x.1 x.2).data.toList) ++ fldF (l.drop (pos + k)) (curOf l (pos + k) (some (st.getD pos))) = acc.map (fun x => ((⟨l.toArray⟩ : ByteArray).extract x.1 x.2).data.toList) ++ fldF (l.drop pos) (curOf l pos st) := by
        intro k hk1 hk2 hall
        congr 1
        have e : l.drop pos = (l.take (pos + k)).drop pos ++ l.drop (pos + k) := by
          rw [List.drop_take, show pos + k - pos = k by omega]
          rw [show l.drop (pos + k) = (l.drop pos).drop k by rw [List.drop_drop], List.take_append_drop]
        rw [e, fldF_skip _ _ _ (fun d hdm => ?_), cur_more hk2 st h3]
        obtain ⟨j, hj⟩ := List.mem_iff_getElem?.1 hdm
        rw [List.getElem?_drop, List.getElem?_take] at hj
        split at hj
        · exact hall j (by omega) d hj
        · cases hj
      have keep : ∀ k, p32 (Utf8.decode ⟨l.toArray⟩ pos).1 = false → (Utf8.decode ⟨l.toArray⟩ pos).2 = k → 1 ≤ k → pos + k ≤ l.length → (∀ j, j < k → ∀ d, l[pos + j]? = some d → 32 < d.toNat) →
          (closeSpans ⟨l.toArray⟩ (spansFromP p32 ⟨l.toArray⟩ (f + 1) pos st acc)).map (fun x => ((⟨l.toArray⟩ : ByteArray).extract x.1 x.2).data.toList) = acc.map (fun x => ((⟨l.toArray⟩ : ByteArray).extract x.1 x.2).data.toList) ++ fldF (l.drop pos) (curOf l pos st) := by
        intro k hp hk hk1 hk2 hall
        rw [sf_keep hlt' hp, hk]
        rw [← skip k hk1 hk2 hall]
        cases st with
        | none => exact ih (pos + k) (some pos) acc (by omega) hk2 fun a h => by cases h; omega
        | some a => exact ih (pos + k) (some a) acc (by omega) hk2 fun b h => by cases h; have := h3 a rfl; omega
      by_cases ha : c.toNat < 128
      · have hdec : Utf8.decode ⟨l.toArray⟩ pos = (c.toNat, 1) := by
          rw [decode_ascii _ pos hlt' (by rw [hget]; exact ha), hget]
        by_cases hb : c.toNat ≤ 32
        · rw [sf_sep hlt' (by rw [hdec]; simpa using hb), hdec, hd, fldF, if_pos hb]
          cases st with
          | none =>
            dsimp only
            rw [ih (pos + 1) none acc (by omega) (by omega) fun a h => by cases h]
            rw [show curOf l pos none = [] from rfl, if_pos rfl]; rfl
          | some a =>
            have := h3 a rfl
            dsimp only
            rw [ih (pos + 1) none (acc ++ [(a, pos)]) (by omega) (by omega) fun a h => by cases h]
            rw [if_neg (by exact cur_ne (by omega) this)]
            simp only [List.map_append, List.map_cons, List.map_nil, List.append_assoc]
            rw [extract_str l _ _ (by omega)]
            rfl
        · refine keep 1 (by rw [hdec]; simpa using hb) (by rw [hdec]) (Nat.le_refl _) (by omega) fun j hj d hjd => ?_
          have : j = 0 := by omega
          subst this
          rw [Nat.add_zero, hc] at hjd; cases hjd; omega
      · have h128 : 128 ≤ ((⟨l.toArray⟩ : ByteArray)[pos]'hlt').toNat := by rw [hget]; omega
        obtain ⟨g1, g2⟩ := decode_high _ pos hlt' h128
        have hcov := dec_cover _ pos hlt' h128
        have hlast := (hcov ((Utf8.decode ⟨l.toArray⟩ pos).2 - 1) (by omega)).1
        refine keep _ (by simp only [decide_eq_false_iff_not]; omega) rfl g2 (by rw [hsz] at hlast; omega) fun j hj d hjd => ?_
        obtain ⟨q1, q2⟩ := hcov j hj
        have hq : (⟨l.toArray⟩ : ByteArray).get! (pos + j) = d := by
          have q3 := get_at _ _ q1
          rw [Nat.add_zero] at q3
          rw [q3]
          have : l[pos + j]? = some (l[pos + j]'q1) := List.getElem?_eq_getElem q1
          rw [this] at hjd
          exact Option.some.inj hjd
        rw [hq] at q2; omega
    · have : pos = l.length := by omega
      rw [Lib.spansFromP_end _ _ _ _ _ _ (by rw [hsz]; omega)]
      exact hend pos st acc this h3
theorem fields_fld (l : List UInt8) : (Lib.goFieldsP p32 ⟨l.toArray⟩).map (fun b => b.data.toList) = fldS l := by
  have := fld_spans l l.length 0 none [] (by omega) (by omega) fun a h => by cases h
  unfold Lib.goFieldsP
  rw [List.map_map]
  exact this
theorem FnP_fresh {P : Program} {f : FuncId} {args : List AV} {e : TypeId} {l : List (List UInt8)} (hlen : l.length ≤ maxLen) (hel : ∀ x ∈ l, x.length ≤ maxLen)
    (h : ∀ (M : Mem) (w : World) (vs : List Value), ARels γ0 M args vs → Calls P f vs.toArray w fun r w' => ∃ A, r = .returned (.slice (some ⟨A, 0, none⟩) l.length l.length) ∧ w.heap.size ≤ A ∧
      w'.ownsRow w.heap.size e 1 (.slice (some ⟨A, 0, none⟩) l.length l.length) l.length (l.map fun x => Value.string ⟨x.toArray⟩) ∧ Go.RowKit.Below w.heap.size w w') : FnP P f args (.p (.list 1 (.dat .str l))) := by
  intro M w vs hM hvs
  refine (h M w vs hvs).mono fun r w' ⟨A, hr, hA, hown, hB⟩ => ?_
  have hMn : ∀ b, w.heap.size ≤ b → ∀ q, M b q = none := by
    intro b hb q
    cases hq : M b q with
    | none => rfl
    | some u =>
      have := World.block_lt_of_cell? w ⟨b, q, none⟩ (hM b q u hq)
      have : b < w.heap.size := this
      omega
  let M' : Mem := fun b q => if b = A then (l.map fun x => Value.string ⟨x.toArray⟩)[q]? else M b q
  have hle : MLe M M' := by
    intro b q v hv
    show (if b = A then _ else M b q) = some v
    by_cases hb : b = A
    · subst hb; rw [hMn b hA q] at hv; cases hv
    · rw [if_neg hb]; exact hv
  have hcell : ∀ q u, (l.map fun x => Value.string ⟨x.toArray⟩)[q]? = some u → w'.cell? ⟨A, q, none⟩ = some u := by
    intro q u hu
    have := hown.cells (g := A) rfl q u hu
    rw [addr_add, Nat.zero_add] at this; exact this
  refine ⟨_, M', hr, hle, fun b hb => ?_, ?_, ?_, hB⟩
  · funext q
    show (if b = A then _ else M b q) = M b q
    rw [if_neg (by omega)]
  · intro b q u hu
    have hu : (if b = A then (l.map fun x => Value.string ⟨x.toArray⟩)[q]? else M b q) = some u := hu
    by_cases hb : b = A
    · subst hb; rw [if_pos rfl] at hu; exact hcell q u hu
    · rw [if_neg hb] at hu
      have hc := hM b q u hu
      have hlt : b < w.heap.size := World.block_lt_of_cell? w ⟨b, q, none⟩ hc
      rw [World.cell?_of_block (w := w) (hB.block b hlt)]; exact hc
  · refine .p _ _ (.list 1 _ A 0 l.length (fun i _ => Value.string ⟨(l.getD i []).toArray⟩) hlen (Nat.le_refl _) (fun i j hi hj => ?_) (fun i j hi hj => ?_))
    · have hi' : i < l.length := hi
      have hj' : j = 0 := by omega
      subst hj'
      show (if A = A then (l.map fun x => Value.string ⟨x.toArray⟩)[0 + i * 1 + 0]? else M A _) = _
      rw [if_pos rfl, show 0 + i * 1 + 0 = i by omega, List.getElem?_map, List.getElem?_eq_getElem hi', List.getD_eq_getElem?_getD, List.getElem?_eq_getElem hi']; rfl
    · have hi' : i < l.length := hi
      show PRel M' (.str (l.getD i [])) (.string ⟨(l.getD i []).toArray⟩)
      exact .str _ (hel _ (getD_mem hi' _))
theorem fldF_len : ∀ (s cur : List UInt8), (fldF s cur).length ≤ s.length + 1 ∧ ∀ x ∈ fldF s cur, x.length ≤ s.length + cur.length
  | [], cur => by
    rw [fldF]; split
    · simp
    · simp
  | c :: r, cur => by
    rw [fldF]
    have h0 := fldF_len r []
    have h1 := fldF_len r (cur ++ [c])
    split
    · split
      · refine ⟨by have := h0.1; simp; omega, fun x hx => ?_⟩
        have := h0.2 x hx; simp at this ⊢; omega
      · refine ⟨by have := h0.1; simp; omega, fun x hx => ?_⟩
        rcases List.mem_cons.1 hx with rfl | hx
        · simp
        · have := h0.2 x hx; simp at this ⊢; omega
    · refine ⟨by have := h1.1; simp; omega, fun x hx => ?_⟩
      have := h1.2 x hx; simp at this ⊢; omega
end Go.Proofs.YtoanepondbagcaaGreatDoor
namespace Go.Proofs.YtoanepondbagcaaGreatDoor
open Go Go.RowKit Go.Lib Go.Shelf
def lays229_ren : Go.Shelf.Ren:=⟨fun |229=>42|n=>n, fun |9=>9|40=>55|31=>30|152=>100|3=>3|0=>0|4=>4|21=>21|154=>102|n=>n, fun |n=>n⟩
theorem lays229 : Go.Proofs.Lays.n229 Tryz.prog lays229_ren:={
 mixed:=by kernel_rfl
 f229:=Tryz.func42.trans (congrArg some (by kernel_rfl))
 t0:=Tryz.underlying0
 a0:=Tryz.isAgg0
 z0:=Tryz.sizeOf0
 v0:=Tryz.zeroValue0
 t3:=Tryz.underlying3
 a3:=Tryz.isAgg3
 z3:=Tryz.sizeOf3
 v3:=Tryz.zeroValue3
 t4:=Tryz.underlying4
 a4:=Tryz.isAgg4
 z4:=Tryz.sizeOf4
 v4:=Tryz.zeroValue4
 t9:=Tryz.underlying9
 a9:=Tryz.isAgg9
 z9:=Tryz.sizeOf9
 v9:=Tryz.zeroValue9
 t21:=Tryz.underlying21
 a21:=Tryz.isAgg21
 z21:=Tryz.sizeOf21
 v21:=Tryz.zeroValue21
 t31:=Tryz.underlying30
 a31:=Tryz.isAgg30
 z31:=Tryz.sizeOf30
 v31:=Tryz.zeroValue30
 t40:=Tryz.underlying55
 a40:=Tryz.isAgg55
 z40:=Tryz.sizeOf55
 v40:=Tryz.zeroValue55
 t152:=Tryz.underlying100
 a152:=Tryz.isAgg100
 z152:=Tryz.sizeOf100
 v152:=Tryz.zeroValue100
 t154:=Tryz.underlying102
 a154:=Tryz.isAgg102
 z154:=Tryz.sizeOf102
 v154:=Tryz.zeroValue102 }
set_option maxRecDepth 100000 in
theorem low_runes (w : World) : PredAtRunes Tryz.prog 41 #[] (fun x => decide (x ≤ 32)) w := fun W x hx _ => by
  unfold FnGives
  have z1 : ((x : Int) ≤ 32) ↔ x ≤ 32 := by omega
  by_cases h1 : x ≤ 32
  all_goals
    go_enter Tryz.func41, Tryz.ntmps41
    go_wp2
    go_ret
    exact ⟨by simp [h1], 0, rfl⟩
end Go.Proofs.YtoanepondbagcaaGreatDoor
namespace Go.Proofs.YtoanepondbagcaaGreatDoor
open Go Go.Am Go.Shelf
set_option maxRecDepth 100000 in
theorem fn_ffun (s : List UInt8) (hs : s.length ≤ 1000000) : FnP Tryz.prog 42 [.p (.str s), .clo (.func 41) [] []] (.p (.list 1 (.dat .str (fldS s)))) := by
  have hl := fldF_len s []
  refine FnP_fresh (e := 9) (by have := hl.1; unfold fldS maxLen; omega) (fun x hx => by have := hl.2 x hx; simp at this; unfold maxLen; omega) fun M w vs hvs => ?_
  cases hvs with | cons h1 h2 =>
  cases h2 with | cons h2 h3 =>
  cases h3
  cases h1 with | p _ _ h1 =>
  cases h1 with | str _ _ =>
  cases h2 with
  | clo _ _ _ vf vc hf hc _ _ =>
    have hf : vf = #[] := Array.eq_empty_of_size_eq_zero hf
    have hc : vc = #[] := Array.eq_empty_of_size_eq_zero hc
    subst hf; subst hc
    have := Any.strings_FieldsFunc_runes lays229 41 #[] (enters_of Tryz.func41 (by kernel_rfl) rfl) (fun x => decide (x ≤ 32)) ⟨s.toArray⟩ w (by show s.toArray.size ≤ _; simp; omega) (low_runes w) (by kernel_rfl) (by kernel_rfl)
    have e1 : (Lib.goFieldsP (fun x => decide (x ≤ 32)) ⟨s.toArray⟩).length = (fldS s).length := by rw [← fields_fld]; simp
    have e2 : (Lib.goFieldsP (fun x => decide (x ≤ 32)) ⟨s.toArray⟩).map Value.string = (fldS s).map fun x => Value.string ⟨x.toArray⟩ := by
      rw [← fields_fld, List.map_map]
      exact List.map_congr_left fun b _ => by rfl
    rw [e1, e2] at this
    exact this
def sp_ffun : List AV → Option (AV × Option Prop)
  | [.p (.str s), .clo (.func 41) [] []] => some (.p (.list 1 (.dat .str (fldS s))), some (s.length ≤ 1000000))
  | _ => none
theorem ok_ffun : SpecOk Tryz.prog 42 sp_ffun := by
  intro zs r ok he hok
  unfold sp_ffun at he
  split at he
  · cases he; exact ⟨by kernel_rfl, fn_ffun _ hok⟩
  · cases he
end Go.Proofs.YtoanepondbagcaaGreatDoor
namespace Go.Proofs.YtoanepondbagcaaGreatDoor
open Go Go.Am
set_option linter.unusedVariables false
/-! slices.Grow at nil, slices.Concat, part.All. -/
end Go.Proofs.YtoanepondbagcaaGreatDoor
namespace Go.Proofs.YtoanepondbagcaaGreatDoor
open Go Go.RowKit Go.Lib Go.Shelf
def layGrow_ren : Go.Shelf.Ren:=⟨fun |4=>115|n=>n, fun |22=>44|25=>46|3=>3|4=>4|9=>9|20=>20|0=>0|n=>n, fun |n=>n⟩
theorem layGrow : Go.Proofs.Lays8.n4 Tryz.prog layGrow_ren:={
 mixed:=by kernel_rfl
 f4:=⟨Tryz.f115.name, by decide, Tryz.func115.trans (congrArg some (by kernel_rfl))⟩
 t0:=Tryz.underlying0
 a0:=Tryz.isAgg0
 z0:=Tryz.sizeOf0
 v0:=Tryz.zeroValue0
 t3:=Tryz.underlying3
 a3:=Tryz.isAgg3
 z3:=Tryz.sizeOf3
 v3:=Tryz.zeroValue3
 t4:=Tryz.underlying4
 a4:=Tryz.isAgg4
 z4:=Tryz.sizeOf4
 v4:=Tryz.zeroValue4
 t9:=Tryz.underlying9
 a9:=Tryz.isAgg9
 z9:=Tryz.sizeOf9
 v9:=Tryz.zeroValue9
 t20:=Tryz.underlying20
 a20:=Tryz.isAgg20
 z20:=Tryz.sizeOf20
 v20:=Tryz.zeroValue20
 t22:=Tryz.underlying44
 a22:=Tryz.isAgg44
 z22:=Tryz.sizeOf44
 v22:=Tryz.zeroValue44 }
end Go.Proofs.YtoanepondbagcaaGreatDoor
namespace Go.Proofs.YtoanepondbagcaaGreatDoor
open Go Go.Am Go.Shelf
theorem FnR_sgrow (n : Nat) (h1 : 1 ≤ n) (hn : n ≤ 10000000) :
    FnR Tryz.prog 115 [.p .nil, .p (.int .i64 (n : Int))] [] [] (.arr 2) [(2, .larr 46 true 8 (.dat .part []))] := by
  intro γ M w vs hO hnone hM hvs
  cases hvs with | cons hx ht =>
  cases ht with | cons hy ht =>
  cases ht
  have hx := hx.p_inv
  cases hx
  cases hy with | p _ _ hy =>
  cases hy with | int _ _ hi =>
  obtain ⟨i0, hi0, hz⟩ := Option.map_eq_some_iff.1 (show (Tryz.prog.info? 46).map (fun i => (i.zero.isSome, i.size, i.bytes)) = some (true, 8, 112) by kernel_rfl)
  simp only [Prod.mk.injEq] at hz
  obtain ⟨hz0, hz1, hz2⟩ := hz
  obtain ⟨z, hz0⟩ := Option.isSome_iff_exists.1 hz0
  have hzs : z.cells.size = 8 := by
    obtain ⟨i1, hi1, hzz⟩ := Option.map_eq_some_iff.1 (show (Tryz.prog.info? 46).map (fun i => i.zero.map fun z => z.cells.size) = some (some 8) by kernel_rfl)
    rw [hi0] at hi1; cases hi1
    rw [hz0] at hzz
    exact Option.some.inj hzz
  refine (Any8.slices_Grow_grow layGrow i0 z hi0 hz0 (by omega) none 0 0 n [] w (Nat.le_refl _) (by omega) (by rw [hz2]; omega) (by omega) (by simp) (fun _ => rfl) (fun a h => by cases h)).mono fun e w' ⟨he, hw⟩ => ?_
  have hg := Go.grownCap_ge w (0 + n) 0 46
  have hg2 := Go.grownCap_le_maxLen w (0 + n) 0 46 (by unfold maxLen; omega)
  have he : e = .returned (.slice (some ⟨w.heap.size, 0, none⟩) 0 (grownCap w (0 + n) 0 46)) := he
  generalize hcap : grownCap w (0 + n) 0 46 = cap at he hg hg2
  obtain ⟨cur, hcur, hnew⟩ : ∃ cur : Array Value, cur.size = cap * 8 ∧ w' = w.drew.alloc (.cells cur 46) := by
    refine ⟨_, ?_, hw⟩
    have hcap' : grownCap w (0 + n) 0 (layGrow_ren.t 25) = cap := hcap
    rw [hcap']
    simp only [Array.size_append, size_zeroCells, hzs, List.size_toArray, List.length_nil]
    omega
  have hsz : w'.heap.size = w.heap.size + 1 := by rw [hnew, World.size_alloc]; rfl
  have hbb : w'.heap[w.heap.size]? = some (.cells cur 46 (0, 0)) := by rw [hnew]; exact heap_alloc_new w.drew _
  have hoth : ∀ c, c < w.heap.size → w'.heap[c]? = w.heap[c]? := fun c hc => by rw [hnew]; exact Lib.alloc_old w.drew _ c hc
  have hMn : ∀ o, M w.heap.size o = none := fun o => by
    cases hv : M w.heap.size o with
    | none => rfl
    | some v => have := hM _ _ _ hv; simp [World.cell?] at this
  refine ⟨_, upd γ 2 (some (.arr (some w.heap.size) 8 0 cap)), M, he, fun i hi => (by cases hi), MLe.refl M, ?_, .arr 2 (some w.heap.size) 8 0 cap (upd_same _ _ _), ⟨?_, ?_, ?_⟩, ?_, by omega, by rw [hnew]; rfl, by rw [hnew]; rfl, by rw [hnew]; rfl⟩
  · intro c o v hv
    have hcl : c < w.heap.size := by
      rcases Nat.lt_or_ge c w.heap.size with h | h
      · exact h
      · have := hM c o v hv
        simp [World.cell?, Array.getElem?_eq_none h] at this
    rw [World.cell?_of_block (w := w) (hoth c hcl)]; exact hM c o v hv
  · intro i o hi
    have : i = 2 ∧ o = .larr 46 true 8 (.dat .part []) := by
      have := lookO_mem hi
      simpa using this
    obtain ⟨rfl, rfl⟩ := this
    refine ⟨some w.heap.size, cap, [], upd_same _ _ _, fun i j hi => absurd hi (Nat.not_lt_zero _), ⟨⟨rfl, .inr ⟨w.heap.size, cap, cur, rfl, Nat.zero_le _, hbb, Nat.zero_le _, hg2, hcur, List.take_zero⟩⟩, fun v hv => (by cases hv), Nat.zero_le _, fun g hgg => ?_⟩⟩
    cases hgg
    exact fun o => hMn o
  · intro i j g g' c hi hj hgi hgj hgc hgc'
    have key : ∀ i, lookO i [(2, AObj.larr 46 true 8 (.dat .part []))] ≠ none → i = 2 := by
      intro i hi
      cases hl : lookO i [(2, AObj.larr 46 true 8 (.dat .part []))] with
      | none => exact absurd hl hi
      | some o => have := lookO_mem hl; simp at this; exact this.1
    rw [key i hi, key j hj]
  · intro i g c hi hgi hgc
    have hi2 : i = 2 := by
      cases hl : lookO i [(2, AObj.larr 46 true 8 (.dat .part []))] with
      | none => exact absurd hl hi
      | some o => have := lookO_mem hl; simp at this; exact this.1
    subst hi2
    rw [upd_same] at hgi; cases hgi; cases hgc
    exact ⟨.inl (Nat.le_refl _), by omega⟩
  · intro c hc hno
    exact ⟨hoth c hc, rfl⟩
def sp_sgrow : RSpec := ⟨[true, true], fun args ib => match args, ib with
  | [.p .nil, .p (.int .i64 n)], [] => some (([], .arr 2), ([(2, .larr 46 true 8 (.dat .part []))], some (1 ≤ n ∧ n ≤ 10000000)))
  | _, _ => none⟩
theorem ok_sgrow : SpecROk Tryz.prog 115 sp_sgrow := by
  intro args ib kept r outs ok he hok
  simp only [sp_sgrow] at he
  split at he
  · rename_i n
    cases he
    have hok : 1 ≤ n ∧ n ≤ 10000000 := hok
    obtain ⟨n, rfl⟩ := Int.eq_ofNat_of_zero_le (show (0 : Int) ≤ n by omega)
    exact ⟨by kernel_rfl, FnR_sgrow n (by omega) (by omega)⟩
  · cases he
abbrev concok (ll : List (List Part)) : Prop := 1 ≤ ll.flatten.length ∧ ll.flatten.length ≤ 1000000 ∧ ll.length ≤ 1000000
noncomputable def cconcat : Code := bodyOf Tryz.f73

noncomputable def Gconcat : Cfg := ⟨Tryz.prog, mkEnv [], mkEnvR [(115, sp_sgrow)], 36, [], [([0, 1, 0, 1, 1], ⟨[0, 3, 9, 10, 11], []⟩), ([1, 1, 1, 0, 0, 1, 0, 1, 1], ⟨[0, 3, 9, 10, 11], []⟩), ([0, 1, 0, 1, 1, 1, 1], ⟨[6, 25, 26, 27], [⟨.slot 6, 6, (.larr 46 false 8 (.dat .part ([] : List Part)))⟩]⟩)], [([0, 1, 1, 1], [1]), ([888888, 1, 1, 1, 1, 1, 1], [6])]⟩

noncomputable def Bconcat_1 (F f1 : Nat) (ll : List (List Part)) (vi1 vi2 vi3 : Int) : Option Ans := runR Gconcat cconcat (kP Tryz.prog Tryz.f73.results.toList) F [] [1, 1, 0, 1, 0] f1 [(0, .p (.list 1 (.dat (.list .part) ll))), (3, .p (.int .i64 vi1)), (9, .p (.list 1 (.dat (.list .part) ll))), (10, .p (.int .i64 vi2)), (11, .p (.int .i64 vi3))] []

noncomputable def Bconcat_2 (F f1 : Nat) (ll : List (List Part)) (vi4 vi2 vi3 : Int) : Option Ans := runB Gconcat cconcat (kP Tryz.prog Tryz.f73.results.toList) F [f1] [1, 1, 0, 1, 0, 0, 1, 1, 1] [(0, .p (.list 1 (.dat (.list .part) ll))), (3, .p (.int .i64 vi4)), (9, .p (.list 1 (.dat (.list .part) ll))), (10, .p (.int .i64 vi2)), (11, .p (.int .i64 vi3))] []

noncomputable def Bconcat_3 (F f2 : Nat) (ll : List (List Part)) (vi5 vi6 : Int) (vl7 : List Part) : Option Ans := runR Gconcat cconcat (kP Tryz.prog Tryz.f73.results.toList) F [] [1, 1, 1, 1, 0, 1, 0] f2 [(6, .arr 6), (25, .p (.list 1 (.dat (.list .part) ll))), (26, .p (.int .i64 vi5)), (27, .p (.int .i64 vi6))] [(6, .larr 46 true 8 (.dat .part vl7))]

noncomputable def Fconcat (F : Nat) (ll : List (List Part)) : Option Ans := runF Gconcat Tryz.f73 F [.p (.list 1 (.dat (.list .part) ll))]

theorem Bconcat_1_eq (F f1 : Nat) (ll : List (List Part)) (vi1 vi2 vi3 : Int) : Bconcat_1 F (f1 + 1) ll vi1 vi2 vi3 = cond (decide (vi3 < vi2)) (need (0 ≤ vi3 ∧ vi3 < (ll.length : Int)) (need (i64ok (vi1 + ((ll.getD (vi3).toNat []).length : Int))) (cond (decide ((vi1 + ((ll.getD (vi3).toNat []).length : Int)) < (0 : Int))) (none) (Bconcat_2 F f1 ll (vi1 + ((ll.getD (vi3).toNat []).length : Int)) vi2 vi3)))) (need (1 ≤ vi1 ∧ vi1 ≤ 10000000) (Bconcat_3 F F ll (ll.length : Int) (0 : Int) ([] : List Part))) := by kernel_rfl

theorem Bconcat_2_eq (F f1 : Nat) (ll : List (List Part)) (vi4 vi2 vi3 : Int) : Bconcat_2 F f1 ll vi4 vi2 vi3 = need (i64ok (vi3 + (1 : Int))) (Bconcat_1 F f1 ll vi4 vi2 (vi3 + (1 : Int))) := by kernel_rfl

theorem Bconcat_3_eq (F f2 : Nat) (ll : List (List Part)) (vi5 vi6 : Int) (vl7 : List Part) : Bconcat_3 F (f2 + 1) ll vi5 vi6 vl7 = cond (decide (vi6 < vi5)) (need (0 ≤ vi6 ∧ vi6 < (ll.length : Int)) (need ((vl7.length + (ll.getD (vi6).toNat []).length) * 112 ≤ 140737488355328) (need (i64ok (vi6 + (1 : Int))) (Bconcat_3 F f2 ll vi5 (vi6 + (1 : Int)) (vl7 ++ (ll.getD (vi6).toNat [])))))) (some (.p (.list 8 (.dat .part vl7)), [])) := by kernel_rfl

theorem Fconcat_eq (F : Nat) (ll : List (List Part)) : Fconcat F ll = Bconcat_1 F F ll (0 : Int) (ll.length : Int) (0 : Int) := by kernel_rfl

theorem fn_concat (F : Nat) (ll : List (List Part)) (r : AV) (h : (∃ M vs, ARels γ0 M [.p (.list 1 (.dat (.list .part) ll))] vs) → Fconcat F ll = some (r, [])) : FnP Tryz.prog 73 [.p (.list 1 (.dat (.list .part) ll))] r :=
  FnP_run Gconcat F rfl (EnvOk_mk (l := []) trivial) (EnvROk_mk (l := [(115, sp_sgrow)]) ⟨ok_sgrow, trivial⟩) (Checked.mixed Tryz.checked) (fn := Tryz.f73) (by kernel_rfl) (by kernel_rfl) rfl h
theorem Bconcat_two (F : Nat) (ll : List (List Part)) (hk : concok ll) : ∀ (r : List (List Part)) (f i : Nat) (acc : List Part), ll.drop i = r → r.length < f → i ≤ ll.length → acc.length + r.flatten.length ≤ 1000000 →
    Bconcat_3 F f ll (ll.length : Int) (i : Int) acc = some (.p (.list 8 (.dat .part (acc ++ r.flatten))), []) := by
  intro r
  induction r with
  | nil =>
    intro f i acc hd hf hi ha
    have : i = ll.length := by have := congrArg List.length hd; simp at this; omega
    cases f with
    | zero => omega
    | succ f => rw [Bconcat_3_eq]; exact cond_f (by simp; omega) (by simp)
  | cons x r ih =>
    intro f i acc hd hf hi ha
    obtain ⟨h1, h2, h3⟩ := dropG hd []
    rw [List.flatten_cons, List.length_append] at ha
    cases f with
    | zero => omega
    | succ f =>
      rw [Bconcat_3_eq, Int.toNat_natCast, h1]
      refine cond_t (by simp; omega) (need_mk ⟨by omega, by omega⟩ (need_mk (by omega) (need_mk (by have := hk.2.2; unfold i64ok; omega) ?_)))
      rw [show (i : Int) + 1 = ((i + 1 : Nat) : Int) by omega, ih f (i + 1) _ h2 (by simp at hf; omega) (by omega) (by rw [List.length_append]; omega)]
      simp
theorem Bconcat_one (F : Nat) (ll : List (List Part)) (hk : concok ll) (hF : ll.length < F) : ∀ (r : List (List Part)) (f i n : Nat), ll.drop i = r → r.length < f → i ≤ ll.length → n + r.flatten.length = ll.flatten.length →
    Bconcat_1 F f ll (n : Int) (ll.length : Int) (i : Int) = some (.p (.list 8 (.dat .part ll.flatten)), []) := by
  intro r
  induction r with
  | nil =>
    intro f i n hd hf hi ha
    have : i = ll.length := by have := congrArg List.length hd; simp at this; omega
    simp only [List.flatten_nil, List.length_nil] at ha
    cases f with
    | zero => omega
    | succ f =>
      rw [Bconcat_1_eq]
      refine cond_f (by simp; omega) (need_mk (by have := hk.1; have := hk.2.1; omega) ?_)
      rw [show (0 : Int) = ((0 : Nat) : Int) from rfl, Bconcat_two F ll hk ll F 0 [] rfl hF (by omega) (by have := hk.2.1; simpa using this)]
      rfl
  | cons x r ih =>
    intro f i n hd hf hi ha
    obtain ⟨h1, h2, h3⟩ := dropG hd []
    rw [List.flatten_cons, List.length_append] at ha
    have h4 := hk.2.1
    cases f with
    | zero => omega
    | succ f =>
      rw [Bconcat_1_eq, Int.toNat_natCast, h1]
      refine cond_t (by simp; omega) (need_mk ⟨by omega, by omega⟩ (need_mk (by unfold i64ok; omega) (cond_f (by simp; omega) ?_)))
      rw [Bconcat_2_eq]
      refine need_mk (by have := hk.2.2; unfold i64ok; omega) ?_
      rw [show (i : Int) + 1 = ((i + 1 : Nat) : Int) by omega, show (n : Int) + (x.length : Int) = ((n + x.length : Nat) : Int) by omega]
      exact ih f (i + 1) _ h2 (by simp at hf; omega) (by omega) (by omega)
theorem concat_eq (ll : List (List Part)) (hk : concok ll) : Fconcat (ll.length + 1) ll = some (.p (.list 8 (.dat .part ll.flatten)), []) := by
  rw [Fconcat_eq]
  exact Bconcat_one _ ll hk (by omega) ll _ 0 0 rfl (by omega) (by omega) (by simp)
def sp_concat : List AV → Option (AV × Option Prop)
  | [.p (.list 1 (.dat (.list .part) ll))] => some (.p (.list 8 (.dat .part ((ll).flatten))), some (concok ll))
  | _ => none
theorem ok_concat : SpecOk Tryz.prog 73 sp_concat := by
  intro zs r ok he hok
  unfold sp_concat at he
  split at he
  · cases he; exact ⟨by kernel_rfl, fn_concat (_) _ _ fun hx => concat_eq _ hok⟩
  · cases he
def allP : Nat → Part → List Part
  | 0, p => [p]
  | k + 1, p => p :: p.kids.flatMap (allP k)
abbrev allok (k : Nat) (p : Part) : Prop := deepP k p ∧ (allP k p).length ≤ 1000000
def sp_all_ (k : Nat) : List AV → Option (AV × Option Prop)
  | [.agg [.p (.str ty), .p (.list 2 (.dat (.pair .str .str) ps)), .p (.str en), .p (.bool at_), .p (.int .i64 h), .p (.int .i64 f), .p (.int .i64 t), .p (.list 8 (.dat .part ks))]] => some (.p (.list 8 (.dat .part (allP k (Part.mk ty ps en at_ h f t ks)))), some (allok k (Part.mk ty ps en at_ h f t ks)))
  | _ => none
noncomputable def call_ : Code := bodyOf Tryz.f40

noncomputable def Gall_ (k : Nat) : Cfg := ⟨Tryz.prog, mkEnv [(40, sp_all_ k), (73, sp_concat)], mkEnvR [], 22, [], [([0, 1, 0, 1, 1], ⟨[3, 9, 10, 11], []⟩), ([1, 1, 1, 0, 0, 1, 0, 1, 1], ⟨[3, 9, 10, 11], []⟩)], [([888888, 1, 0, 1, 1], [7])]⟩

noncomputable def Ball__1 (k F f1 : Nat) (vl1 ks : List Part) (vi2 vi3 : Int) : Option Ans := runR (Gall_ k) call_ (kP Tryz.prog Tryz.f40.results.toList) F [] [1, 1, 0, 1, 0] f1 [(3, .p (.list 8 (.dat .part vl1))), (9, .p (.list 8 (.dat .part ks))), (10, .p (.int .i64 vi2)), (11, .p (.int .i64 vi3))] []

noncomputable def Ball__2 (k F f1 : Nat) (vl4 ks : List Part) (vi2 vi3 : Int) : Option Ans := runB (Gall_ k) call_ (kP Tryz.prog Tryz.f40.results.toList) F [f1] [1, 1, 0, 1, 0, 0, 1, 1, 1] [(3, .p (.list 8 (.dat .part vl4))), (9, .p (.list 8 (.dat .part ks))), (10, .p (.int .i64 vi2)), (11, .p (.int .i64 vi3))] []

noncomputable def Fall_ (k F : Nat) (ty : List UInt8) (ps : List (List UInt8 × List UInt8)) (en : List UInt8) (at_ : Bool) (h_ f_ t_ : Int) (ks : List Part) : Option Ans := runF (Gall_ k) Tryz.f40 F [.agg [.p (.str ty), .p (.list 2 (.dat (.pair .str .str) ps)), .p (.str en), .p (.bool at_), .p (.int .i64 h_), .p (.int .i64 f_), .p (.int .i64 t_), .p (.list 8 (.dat .part ks))]]

theorem Ball__1_eq (k F f1 : Nat) (vl1 ks : List Part) (vi2 vi3 : Int) : Ball__1 k F (f1 + 1) vl1 ks vi2 vi3 = cond (decide (vi3 < vi2)) (need (0 ≤ vi3 ∧ vi3 < (ks.length : Int)) (need (allok k (Part.mk ((ks.getD (vi3).toNat (dfl .part)).type) ((ks.getD (vi3).toNat (dfl .part)).params) ((ks.getD (vi3).toNat (dfl .part)).enc) ((ks.getD (vi3).toNat (dfl .part)).attach) ((ks.getD (vi3).toNat (dfl .part)).head) ((ks.getD (vi3).toNat (dfl .part)).frm) ((ks.getD (vi3).toNat (dfl .part)).til) ((ks.getD (vi3).toNat (dfl .part)).kids))) (need (concok [vl1, (allP k (Part.mk ((ks.getD (vi3).toNat (dfl .part)).type) ((ks.getD (vi3).toNat (dfl .part)).params) ((ks.getD (vi3).toNat (dfl .part)).enc) ((ks.getD (vi3).toNat (dfl .part)).attach) ((ks.getD (vi3).toNat (dfl .part)).head) ((ks.getD (vi3).toNat (dfl .part)).frm) ((ks.getD (vi3).toNat (dfl .part)).til) ((ks.getD (vi3).toNat (dfl .part)).kids)))]) (Ball__2 k F f1 (([vl1, (allP k (Part.mk ((ks.getD (vi3).toNat (dfl .part)).type) ((ks.getD (vi3).toNat (dfl .part)).params) ((ks.getD (vi3).toNat (dfl .part)).enc) ((ks.getD (vi3).toNat (dfl .part)).attach) ((ks.getD (vi3).toNat (dfl .part)).head) ((ks.getD (vi3).toNat (dfl .part)).frm) ((ks.getD (vi3).toNat (dfl .part)).til) ((ks.getD (vi3).toNat (dfl .part)).kids)))]).flatten) ks vi2 vi3)))) (some (.p (.list 8 (.dat .part vl1)), [])) := by kernel_rfl

theorem Ball__2_eq (k F f1 : Nat) (vl4 ks : List Part) (vi2 vi3 : Int) : Ball__2 k F f1 vl4 ks vi2 vi3 = need (i64ok (vi3 + (1 : Int))) (Ball__1 k F f1 vl4 ks vi2 (vi3 + (1 : Int))) := by kernel_rfl

theorem Fall__eq (k F : Nat) (ty : List UInt8) (ps : List (List UInt8 × List UInt8)) (en : List UInt8) (at_ : Bool) (h_ f_ t_ : Int) (ks : List Part) : Fall_ k F ty ps en at_ h_ f_ t_ ks = Ball__1 k F F [Part.mk ty ps en at_ h_ f_ t_ ks] ks (ks.length : Int) (0 : Int) := by kernel_rfl

theorem fn_all_ (k : Nat) (hrec : SpecOk Tryz.prog 40 (sp_all_ k)) (F : Nat) (ty : List UInt8) (ps : List (List UInt8 × List UInt8)) (en : List UInt8) (at_ : Bool) (h_ f_ t_ : Int) (ks : List Part) (r : AV) (h : (∃ M vs, ARels γ0 M [.agg [.p (.str ty), .p (.list 2 (.dat (.pair .str .str) ps)), .p (.str en), .p (.bool at_), .p (.int .i64 h_), .p (.int .i64 f_), .p (.int .i64 t_), .p (.list 8 (.dat .part ks))]] vs) → Fall_ k F ty ps en at_ h_ f_ t_ ks = some (r, [])) : FnP Tryz.prog 40 [.agg [.p (.str ty), .p (.list 2 (.dat (.pair .str .str) ps)), .p (.str en), .p (.bool at_), .p (.int .i64 h_), .p (.int .i64 f_), .p (.int .i64 t_), .p (.list 8 (.dat .part ks))]] r :=
  FnP_run (Gall_ k) F rfl (EnvOk_mk (l := [(40, sp_all_ k), (73, sp_concat)]) ⟨hrec.any, ok_concat.any, trivial⟩) (EnvROk_mk (l := []) trivial) (Checked.mixed Tryz.checked) (fn := Tryz.f40) (by kernel_rfl) (by kernel_rfl) rfl h
theorem Ball__spec (k F : Nat) (ks : List Part) (hk : ks.length ≤ 10000000) (hd : ∀ q ∈ ks, deepP k q) : ∀ (r : List Part) (f i : Nat) (acc : List Part), ks.drop i = r → r.length < f → i ≤ ks.length → 1 ≤ acc.length → acc.length + (r.flatMap (allP k)).length ≤ 1000000 →
    Ball__1 k F f acc ks (ks.length : Int) (i : Int) = some (.p (.list 8 (.dat .part (acc ++ r.flatMap (allP k)))), []) := by
  intro r
  induction r with
  | nil =>
    intro f i acc hd hf hi ha hb
    have : i = ks.length := by have := congrArg List.length hd; simp at this; omega
    cases f with
    | zero => omega
    | succ f => rw [Ball__1_eq]; exact cond_f (by simp; omega) (by simp)
  | cons x r ih =>
    intro f i acc hdd hf hi ha hb
    obtain ⟨h1, h2, h3⟩ := dropG hdd (dfl .part)
    have hx : x ∈ ks := by rw [← h1]; exact getD_mem h3 _
    rw [List.flatMap_cons, List.length_append] at hb
    cases f with
    | zero => omega
    | succ f =>
      rw [Ball__1_eq, Int.toNat_natCast, h1, part_eta]
      have hl : ([acc, allP k x] : List (List Part)).flatten = acc ++ allP k x := by simp
      refine cond_t (by simp; omega) (need_mk ⟨by omega, by omega⟩ (need_mk ⟨hd x hx, by omega⟩ (need_mk ⟨by rw [hl, List.length_append]; omega, by rw [hl, List.length_append]; omega, by simp⟩ ?_)))
      rw [Ball__2_eq, hl]
      refine need_mk (by unfold i64ok; omega) ?_
      rw [show (i : Int) + 1 = ((i + 1 : Nat) : Int) by omega, ih f (i + 1) _ h2 (by simp at hf; omega) (by omega) (by rw [List.length_append]; omega) (by rw [List.length_append]; omega)]
      simp
theorem all__eq (k : Nat) (ty en : List UInt8) (ps : List (List UInt8 × List UInt8)) (at_ : Bool) (h f t : Int) (ks : List Part) (hk : allok (k + 1) (Part.mk ty ps en at_ h f t ks)) :
    Fall_ k (ks.length + 1) ty ps en at_ h f t ks = some (.p (.list 8 (.dat .part (allP (k + 1) (Part.mk ty ps en at_ h f t ks)))), []) := by
  obtain ⟨h1, h2⟩ := hk
  rw [deepP] at h1
  rw [allP, List.length_cons] at h2
  rw [Fall__eq]
  rw [show (0 : Int) = ((0 : Nat) : Int) from rfl]
  exact Ball__spec k _ ks h1.1 h1.2.2 ks _ 0 _ rfl (by omega) (by omega) (by simp) (by show 1 + _ ≤ _; have : (ks.flatMap (allP k)).length + 1 ≤ 1000000 := h2; omega)
theorem ok_all_ : ∀ k, SpecOk Tryz.prog 40 (sp_all_ k)
  | 0 => by
    intro zs r ok he hok
    unfold sp_all_ at he
    split at he
    · cases he; exact absurd hok.1 (by simp [deepP])
    · cases he
  | k + 1 => by
    intro zs r ok he hok
    unfold sp_all_ at he
    split at he
    · cases he; exact ⟨by kernel_rfl, fn_all_ k (ok_all_ k) _ _ _ _ _ _ _ _ _ _ fun _ => all__eq k _ _ _ _ _ _ _ _ hok⟩
    · cases he
end Go.Proofs.YtoanepondbagcaaGreatDoor
namespace Go.Proofs.YtoanepondbagcaaGreatDoor
open Go Go.Am
set_option linter.unusedVariables false
/-! utf8.Cut, both ways; the preview. -/
def ucutN (s : List UInt8) : Nat → Nat → Nat
  | 0, at_ => at_
  | n + 1, at_ => if at_ < s.length then (if (getS s (at_ : Int)).1 < 0 then at_ else ucutN s n (getS s (at_ : Int)).2.toNat) else at_
def cutU (s : List UInt8) (n : Nat) : List UInt8 := s.take (ucutN s n 0)
noncomputable def cucut : Code := bodyOf Tryz.f44

noncomputable def Gucut : Cfg := ⟨Tryz.prog, mkEnv [(76, sp_uget)], mkEnvR [], 30, [], [([0, 0, 1, 1], ⟨[0, 1, 5], []⟩), ([1, 1, 1], ⟨[0, 5], []⟩)], []⟩

noncomputable def Bucut_1 (F f1 : Nat) (s : List UInt8) (vi1 vi2 : Int) : Option Ans := runR Gucut cucut (kP Tryz.prog Tryz.f44.results.toList) F [] [1, 1, 0, 0] f1 [(0, .p (.str s)), (1, .p (.int .i64 vi1)), (5, .p (.int .i64 vi2))] []

noncomputable def Bucut_2 (F : Nat) (s : List UInt8) (vi3 : Int) : Option Ans := runB Gucut cucut (kP Tryz.prog Tryz.f44.results.toList) F [] [1, 1, 1] [(0, .p (.str s)), (5, .p (.int .i64 vi3))] []

noncomputable def Fucut (F : Nat) (s : List UInt8) (n : Int) : Option Ans := runF Gucut Tryz.f44 F [.p (.str s), .p (.int .i64 n)]

theorem Bucut_1_eq (F f1 : Nat) (s : List UInt8) (vi1 vi2 : Int) : Bucut_1 F (f1 + 1) s vi1 vi2 = ((((cond ((decide (vi1 > (0 : Int))) && (decide (vi2 < (s.length : Int)))) (need (posok s vi2) (cond (decide (((getS s vi2).1) < (0 : Int))) (Bucut_2 F s vi2) (need (i64ok (vi1 - (1 : Int))) (Bucut_1 F f1 s (vi1 - (1 : Int)) ((getS s vi2).2))))) (Bucut_2 F s vi2))))) := by
  have h : Bucut_1 F (f1 + 1) s vi1 vi2 = need ((decide (vi1 > (0 : Int))) = true → (decide (vi1 > (0 : Int))) = true) (need ((decide (vi1 > (0 : Int))) = true → (decide (vi1 > (0 : Int))) = true) (need ((decide (vi1 > (0 : Int))) = true → (decide (vi1 > (0 : Int))) = true) (need ((decide (vi1 > (0 : Int))) = true → (decide (vi1 > (0 : Int))) = true) (cond ((decide (vi1 > (0 : Int))) && (decide (vi2 < (s.length : Int)))) (need (posok s vi2) (cond (decide (((getS s vi2).1) < (0 : Int))) (Bucut_2 F s vi2) (need (i64ok (vi1 - (1 : Int))) (Bucut_1 F f1 s (vi1 - (1 : Int)) ((getS s vi2).2))))) (Bucut_2 F s vi2))))) := by kernel_rfl
  rw [h, need_pos (show (decide (vi1 > (0 : Int))) = true → (decide (vi1 > (0 : Int))) = true from (fun q0 => q0)), need_pos (show (decide (vi1 > (0 : Int))) = true → (decide (vi1 > (0 : Int))) = true from (fun q0 => q0)), need_pos (show (decide (vi1 > (0 : Int))) = true → (decide (vi1 > (0 : Int))) = true from (fun q0 => q0)), need_pos (show (decide (vi1 > (0 : Int))) = true → (decide (vi1 > (0 : Int))) = true from (fun q0 => q0))]

theorem Bucut_2_eq (F : Nat) (s : List UInt8) (vi3 : Int) : Bucut_2 F s vi3 = need (0 ≤ vi3 ∧ vi3 ≤ (s.length : Int)) (some (.p (.str (s.take (vi3).toNat)), [])) := by kernel_rfl

theorem Fucut_eq (F : Nat) (s : List UInt8) (n : Int) : Fucut F s n = Bucut_1 F F s n (0 : Int) := by kernel_rfl

theorem fn_ucut (F : Nat) (s : List UInt8) (n : Int) (r : AV) (h : (∃ M vs, ARels γ0 M [.p (.str s), .p (.int .i64 n)] vs) → Fucut F s n = some (r, [])) : FnP Tryz.prog 44 [.p (.str s), .p (.int .i64 n)] r :=
  FnP_run Gucut F rfl (EnvOk_mk (l := [(76, sp_uget)]) ⟨ok_uget.any, trivial⟩) (EnvROk_mk (l := []) trivial) (Checked.mixed Tryz.checked) (fn := Tryz.f44) (by kernel_rfl) (by kernel_rfl) rfl h
theorem Bucut_spec (F : Nat) (s : List UInt8) (hs : s.length ≤ 1000000) : ∀ (n f at_ : Nat), n < f → at_ ≤ s.length → n ≤ 1000000 → Bucut_1 F f s (n : Int) (at_ : Int) = some (.p (.str (s.take (ucutN s n at_))), []) := by
  have hend : ∀ at_ : Nat, at_ ≤ s.length → Bucut_2 F s (at_ : Int) = some (.p (.str (s.take at_)), []) := by
    intro at_ h
    rw [Bucut_2_eq]
    exact need_mk ⟨by omega, by omega⟩ rfl
  intro n
  induction n with
  | zero =>
    intro f at_ hf ha hn
    cases f with
    | zero => omega
    | succ f =>
      rw [Bucut_1_eq]
      exact cond_f (by simp) (hend at_ ha)
  | succ n ih =>
    intro f at_ hf ha hn
    cases f with
    | zero => omega
    | succ f =>
      rw [Bucut_1_eq, ucutN]
      by_cases h1 : at_ < s.length
      · rw [if_pos h1]
        refine cond_t (by simp; omega) (need_mk ⟨by omega, by omega, hs⟩ ?_)
        by_cases h2 : (getS s (at_ : Int)).1 < 0
        · rw [if_pos h2]
          exact cond_t (by simpa using h2) (hend at_ ha)
        · rw [if_neg h2]
          obtain ⟨m, e, h3, h4⟩ := getS_next h2
          refine cond_f (by simpa using h2) (need_mk (by unfold i64ok; omega) ?_)
          rw [e, show ((n + 1 : Nat) : Int) - 1 = (n : Int) by omega, Int.toNat_natCast]
          exact ih f m (by omega) h4 (by omega)
      · rw [if_neg h1]
        exact cond_f (by simp; omega) (hend at_ ha)
theorem ucut_eq (s : List UInt8) (n : Int) (h : s.length ≤ 1000000 ∧ 0 ≤ n ∧ n ≤ 1000000) : Fucut (n.toNat + 1) s n = some (.p (.str (cutU s n.toNat)), []) := by
  obtain ⟨h1, h2, h3⟩ := h
  obtain ⟨m, rfl⟩ := Int.eq_ofNat_of_zero_le h2
  rw [Fucut_eq]
  exact Bucut_spec _ s h1 m _ 0 (by omega) (by omega) (by omega)
def sp_ucut : List AV → Option (AV × Option Prop)
  | [.p (.str s), .p (.int .i64 n)] => some (.p (.str (cutU s (n).toNat)), some (s.length ≤ 1000000 ∧ 0 ≤ n ∧ n ≤ 1000000))
  | _ => none
theorem ok_ucut : SpecOk Tryz.prog 44 sp_ucut := by
  intro zs r ok he hok
  unfold sp_ucut at he
  split at he
  · cases he; exact ⟨by kernel_rfl, fn_ucut (_) _ _ _ fun hx => ucut_eq _ _ hok⟩
  · cases he








/-! ### How many parts there are -/
theorem all_cnt {s : List UInt8} : ∀ (d : Nat) (a b n : Int), ((allP (d + 1) (treeP 1 s d a b n).1).length : Int) ≤ (treeP 1 s d a b n).2 - n + 1 ∧ (treeP 1 s d a b n).2 ≤ max n 30 + d
  | 0, a, b, n => by
    rw [treeP, allP]
    simp [oneP, Part.kids]; omega
  | d + 1, a, b, n => by
    have key : ∀ (l : List (Int × Int)) (n : Int), (((kidsP 1 (treeP 1 s d) l n).1.flatMap (allP (d + 1))).length : Int) ≤ (kidsP 1 (treeP 1 s d) l n).2 - n ∧ (kidsP 1 (treeP 1 s d) l n).2 ≤ max n (30 + d) + 1 := by
      intro l
      induction l with
      | nil => intro n; rw [kidsP]; simp; omega
      | cons x r ih =>
        intro n
        rw [kidsP]
        split
        · rename_i h
          have h1 := all_cnt (s := s) d x.1 x.2 (n + 1)
          have h2 := ih (treeP 1 s d x.1 x.2 (n + 1)).2
          dsimp only
          rw [List.flatMap_cons, List.length_append]
          omega
        · dsimp only
          simp; omega
    rw [treeP]
    split
    · rw [allP]
      simp [oneP, Part.kids]; omega
    · have := key (spansP s a b) n
      dsimp only
      rw [allP]
      show (((_ :: (kidsP 1 (treeP 1 s d) (spansP s a b) n).1.flatMap (allP (d + 1))).length : Nat) : Int) ≤ _ ∧ _
      rw [List.length_cons]
      omega
theorem all_ok (s : List UInt8) (hs : s.length ≤ 1000000) : allok 7 (treeT s) := by
  refine ⟨tree_deep hs 6 _ _ _ (by omega) (by omega) (by omega), ?_⟩
  have := all_cnt (s := s) 6 0 (s.length : Int) ((0 : Int) + 1)
  have h2 : ((allP 7 (treeT s)).length : Int) ≤ (treeP 1 s 6 0 (s.length : Int) ((0 : Int) + 1)).2 - ((0 : Int) + 1) + 1 := this.1
  omega
/-! ### The preview -/
abbrev cPlainT : List UInt8 := [116, 101, 120, 116, 47, 112, 108, 97, 105, 110]
def skipP (p : Part) : Bool := decide (p.kids.length > 0) || (p.type != cPlainT) || p.attach
def wordsP (s : List UInt8) (p : Part) : List UInt8 := joinS [32] (fldS (shownS (contP s p)))
def prevL (s : List UInt8) : List Part → List UInt8
  | [] => []
  | p :: r => if skipP p = true then prevL s r else cutU (wordsP s p) 100
def prevS (s : List UInt8) : List UInt8 := prevL s (allP 7 (treeT s))
theorem contP_len (s : List UInt8) (p : Part) : (contP s p).length ≤ 3 * s.length + 2 := by
  have h0 : ((s.take p.til.toNat).drop p.frm.toNat).length ≤ s.length := by simp; omega
  unfold contP
  split
  · simp
  · split
    · have := looseG_len ((s.take p.til.toNat).drop p.frm.toNat) 0 0
      show (looseG 0 0 _).length ≤ _
      omega
    · split
      · have := qdec_len _ ((s.take p.til.toNat).drop p.frm.toNat) (Nat.le_refl _)
        omega
      · omega
theorem shownS_len (s : List UInt8) : (shownS s).length ≤ 4 * s.length := by
  unfold shownS
  split
  · omega
  · exact bytesS_len s
theorem fldF_tot : ∀ (s cur : List UInt8), totL (fldF s cur) ≤ s.length + cur.length
  | [], cur => by
    rw [fldF]; split
    · simp [totL]
    · simp [totL]
  | c :: r, cur => by
    have h0 := fldF_tot r []
    have h1 := fldF_tot r (cur ++ [c])
    rw [fldF]
    split
    · split
      · simp at h0 ⊢; omega
      · rw [totL_cons]; simp at h0 ⊢; omega
    · simp at h1 ⊢; omega
noncomputable def cpreview : Code := bodyOf Tryz.f19

noncomputable def Gpreview : Cfg := ⟨Tryz.prog, mkEnv [(27, sp_joinl), (30, sp_tree), (32, sp_shown), (40, sp_all_ 7), (42, sp_ffun), (43, sp_content), (44, sp_ucut)], mkEnvR [], 38, [], [([0, 1, 0, 1], ⟨[0, 9, 10, 11], []⟩), ([1, 0, 1, 0, 0, 1, 1, 0, 0, 1, 0, 1], ⟨[0, 4, 9, 10, 11, 27], [⟨.slot 4, 4, .cells []⟩]⟩)], []⟩

noncomputable def Bpreview_1 (F f1 : Nat) (s : List UInt8) (vl1 : List Part) (vi2 vi3 : Int) : Option Ans := runR Gpreview cpreview (kP Tryz.prog Tryz.f19.results.toList) F [] [1, 0, 1, 0] f1 [(0, .p (.str s)), (9, .p (.list 8 (.dat .part vl1))), (10, .p (.int .i64 vi2)), (11, .p (.int .i64 vi3))] []

noncomputable def Bpreview_2 (F f1 : Nat) (s : List UInt8) (vl1 : List Part) (vi2 vi3 : Int) (vc4 : Bool) (vs5 : List UInt8) (vl6 : List (List UInt8 × List UInt8)) (vs7 : List UInt8) (vc8 : Bool) (vi9 vi10 vi11 : Int) (vl12 : List Part) : Option Ans := runB Gpreview cpreview (kP Tryz.prog Tryz.f19.results.toList) F [f1] [1, 0, 1, 0, 0, 1, 1, 0, 0, 1, 0, 1] [(0, .p (.str s)), (4, .ref 4 0), (9, .p (.list 8 (.dat .part vl1))), (10, .p (.int .i64 vi2)), (11, .p (.int .i64 vi3)), (27, .p (.bool vc4))] [(4, .cells [.p (.str vs5), .p (.list 2 (.dat (.pair .str .str) vl6)), .p (.str vs7), .p (.bool vc8), .p (.int .i64 vi9), .p (.int .i64 vi10), .p (.int .i64 vi11), .p (.list 8 (.dat .part vl12))])]

noncomputable def Fpreview (F : Nat) (s : List UInt8) : Option Ans := runF Gpreview Tryz.f19 F [.p (.str s)]

theorem Bpreview_1_eq (F f1 : Nat) (s : List UInt8) (vl1 : List Part) (vi2 vi3 : Int) : Bpreview_1 F (f1 + 1) s vl1 vi2 vi3 = cond (decide (vi3 < vi2)) (need (0 ≤ vi3 ∧ vi3 < (vl1.length : Int)) ((((((Bpreview_2 F f1 s vl1 vi2 vi3 (((decide ((((vl1.getD (vi3).toNat (dfl .part)).kids).length : Int) > (0 : Int))) || (((vl1.getD (vi3).toNat (dfl .part)).type) != ([116, 101, 120, 116, 47, 112, 108, 97, 105, 110] : List UInt8))) || ((vl1.getD (vi3).toNat (dfl .part)).attach)) ((vl1.getD (vi3).toNat (dfl .part)).type) ((vl1.getD (vi3).toNat (dfl .part)).params) ((vl1.getD (vi3).toNat (dfl .part)).enc) ((vl1.getD (vi3).toNat (dfl .part)).attach) ((vl1.getD (vi3).toNat (dfl .part)).head) ((vl1.getD (vi3).toNat (dfl .part)).frm) ((vl1.getD (vi3).toNat (dfl .part)).til) ((vl1.getD (vi3).toNat (dfl .part)).kids)))))))) (some (.p (.str ([] : List UInt8)), [])) := by
  have h : Bpreview_1 F (f1 + 1) s vl1 vi2 vi3 = cond (decide (vi3 < vi2)) (need (0 ≤ vi3 ∧ vi3 < (vl1.length : Int)) (need ((!(decide ((((vl1.getD (vi3).toNat (dfl .part)).kids).length : Int) > (0 : Int)))) = true → (!(decide ((((vl1.getD (vi3).toNat (dfl .part)).kids).length : Int) > (0 : Int)))) = true) (need ((!(decide ((((vl1.getD (vi3).toNat (dfl .part)).kids).length : Int) > (0 : Int)))) = true → (!(decide ((((vl1.getD (vi3).toNat (dfl .part)).kids).length : Int) > (0 : Int)))) = true) (need ((decide ((((vl1.getD (vi3).toNat (dfl .part)).kids).length : Int) > (0 : Int))) = false → (!(decide ((((vl1.getD (vi3).toNat (dfl .part)).kids).length : Int) > (0 : Int)))) = true) (need ((!((decide ((((vl1.getD (vi3).toNat (dfl .part)).kids).length : Int) > (0 : Int))) || (((vl1.getD (vi3).toNat (dfl .part)).type) != ([116, 101, 120, 116, 47, 112, 108, 97, 105, 110] : List UInt8)))) = true → (!((decide ((((vl1.getD (vi3).toNat (dfl .part)).kids).length : Int) > (0 : Int))) || (((vl1.getD (vi3).toNat (dfl .part)).type) != ([116, 101, 120, 116, 47, 112, 108, 97, 105, 110] : List UInt8)))) = true) (need (((decide ((((vl1.getD (vi3).toNat (dfl .part)).kids).length : Int) > (0 : Int))) || (((vl1.getD (vi3).toNat (dfl .part)).type) != ([116, 101, 120, 116, 47, 112, 108, 97, 105, 110] : List UInt8))) = false → (!((decide ((((vl1.getD (vi3).toNat (dfl .part)).kids).length : Int) > (0 : Int))) || (((vl1.getD (vi3).toNat (dfl .part)).type) != ([116, 101, 120, 116, 47, 112, 108, 97, 105, 110] : List UInt8)))) = true) (Bpreview_2 F f1 s vl1 vi2 vi3 (((decide ((((vl1.getD (vi3).toNat (dfl .part)).kids).length : Int) > (0 : Int))) || (((vl1.getD (vi3).toNat (dfl .part)).type) != ([116, 101, 120, 116, 47, 112, 108, 97, 105, 110] : List UInt8))) || ((vl1.getD (vi3).toNat (dfl .part)).attach)) ((vl1.getD (vi3).toNat (dfl .part)).type) ((vl1.getD (vi3).toNat (dfl .part)).params) ((vl1.getD (vi3).toNat (dfl .part)).enc) ((vl1.getD (vi3).toNat (dfl .part)).attach) ((vl1.getD (vi3).toNat (dfl .part)).head) ((vl1.getD (vi3).toNat (dfl .part)).frm) ((vl1.getD (vi3).toNat (dfl .part)).til) ((vl1.getD (vi3).toNat (dfl .part)).kids)))))))) (some (.p (.str ([] : List UInt8)), [])) := by kernel_rfl
  rw [h, need_pos (show ((decide ((((vl1.getD (vi3).toNat (dfl .part)).kids).length : Int) > (0 : Int))) || (((vl1.getD (vi3).toNat (dfl .part)).type) != ([116, 101, 120, 116, 47, 112, 108, 97, 105, 110] : List UInt8))) = false → (!((decide ((((vl1.getD (vi3).toNat (dfl .part)).kids).length : Int) > (0 : Int))) || (((vl1.getD (vi3).toNat (dfl .part)).type) != ([116, 101, 120, 116, 47, 112, 108, 97, 105, 110] : List UInt8)))) = true from (fun q0 => (not_mk q0))), need_pos (show (!((decide ((((vl1.getD (vi3).toNat (dfl .part)).kids).length : Int) > (0 : Int))) || (((vl1.getD (vi3).toNat (dfl .part)).type) != ([116, 101, 120, 116, 47, 112, 108, 97, 105, 110] : List UInt8)))) = true → (!((decide ((((vl1.getD (vi3).toNat (dfl .part)).kids).length : Int) > (0 : Int))) || (((vl1.getD (vi3).toNat (dfl .part)).type) != ([116, 101, 120, 116, 47, 112, 108, 97, 105, 110] : List UInt8)))) = true from (fun q0 => q0)), need_pos (show (decide ((((vl1.getD (vi3).toNat (dfl .part)).kids).length : Int) > (0 : Int))) = false → (!(decide ((((vl1.getD (vi3).toNat (dfl .part)).kids).length : Int) > (0 : Int)))) = true from (fun q0 => (not_mk q0))), need_pos (show (!(decide ((((vl1.getD (vi3).toNat (dfl .part)).kids).length : Int) > (0 : Int)))) = true → (!(decide ((((vl1.getD (vi3).toNat (dfl .part)).kids).length : Int) > (0 : Int)))) = true from (fun q0 => q0)), need_pos (show (!(decide ((((vl1.getD (vi3).toNat (dfl .part)).kids).length : Int) > (0 : Int)))) = true → (!(decide ((((vl1.getD (vi3).toNat (dfl .part)).kids).length : Int) > (0 : Int)))) = true from (fun q0 => q0))]

theorem Bpreview_2_eq (F f1 : Nat) (s : List UInt8) (vl1 : List Part) (vi2 vi3 : Int) (vc4 : Bool) (vs5 : List UInt8) (vl6 : List (List UInt8 × List UInt8)) (vs7 : List UInt8) (vc8 : Bool) (vi9 vi10 vi11 : Int) (vl12 : List Part) : Bpreview_2 F f1 s vl1 vi2 vi3 vc4 vs5 vl6 vs7 vc8 vi9 vi10 vi11 vl12 = cond (vc4) (need (i64ok (vi3 + (1 : Int))) (Bpreview_1 F f1 s vl1 vi2 (vi3 + (1 : Int)))) (need (s.length ≤ 1000000) (need ((contP s (Part.mk vs5 vl6 vs7 vc8 vi9 vi10 vi11 vl12)).length ≤ 1000000) (need ((shownS (contP s (Part.mk vs5 vl6 vs7 vc8 vi9 vi10 vi11 vl12))).length ≤ 1000000) (need (joinok (fldS (shownS (contP s (Part.mk vs5 vl6 vs7 vc8 vi9 vi10 vi11 vl12)))) ([32] : List UInt8)) (need ((joinS ([32] : List UInt8) (fldS (shownS (contP s (Part.mk vs5 vl6 vs7 vc8 vi9 vi10 vi11 vl12))))).length ≤ 1000000 ∧ 0 ≤ (100 : Int) ∧ (100 : Int) ≤ 1000000) (some (.p (.str (cutU (joinS ([32] : List UInt8) (fldS (shownS (contP s (Part.mk vs5 vl6 vs7 vc8 vi9 vi10 vi11 vl12))))) ((100 : Int)).toNat)), []))))))) := by kernel_rfl

theorem Fpreview_eq (F : Nat) (s : List UInt8) : Fpreview F s = need (s.length ≤ 1000000) (need (allok 7 (Part.mk ((treeT s).type) ((treeT s).params) ((treeT s).enc) ((treeT s).attach) ((treeT s).head) ((treeT s).frm) ((treeT s).til) ((treeT s).kids))) (Bpreview_1 F F s (allP 7 (Part.mk ((treeT s).type) ((treeT s).params) ((treeT s).enc) ((treeT s).attach) ((treeT s).head) ((treeT s).frm) ((treeT s).til) ((treeT s).kids))) ((allP 7 (Part.mk ((treeT s).type) ((treeT s).params) ((treeT s).enc) ((treeT s).attach) ((treeT s).head) ((treeT s).frm) ((treeT s).til) ((treeT s).kids))).length : Int) (0 : Int))) := by kernel_rfl

theorem fn_preview (F : Nat) (s : List UInt8) (r : AV) (h : (∃ M vs, ARels γ0 M [.p (.str s)] vs) → Fpreview F s = some (r, [])) : FnP Tryz.prog 19 [.p (.str s)] r :=
  FnP_run Gpreview F rfl (EnvOk_mk (l := [(27, sp_joinl), (30, sp_tree), (32, sp_shown), (40, sp_all_ 7), (42, sp_ffun), (43, sp_content), (44, sp_ucut)]) ⟨ok_joinl.any, ok_tree.any, ok_shown.any, (ok_all_ 7).any, ok_ffun.any, ok_content.any, ok_ucut.any, trivial⟩) (EnvROk_mk (l := []) trivial) (Checked.mixed Tryz.checked) (fn := Tryz.f19) (by kernel_rfl) (by kernel_rfl) rfl h
theorem Bpreview_spec (F : Nat) (s : List UInt8) (hs : s.length ≤ 20000) (l : List Part) (hl : l.length ≤ 1000000) : ∀ (r : List Part) (f i : Nat), l.drop i = r → r.length < f → i ≤ l.length →
    Bpreview_1 F f s l (l.length : Int) (i : Int) = some (.p (.str (prevL s r)), []) := by
  intro r
  induction r with
  | nil =>
    intro f i hd hf hi
    have : i = l.length := by have := congrArg List.length hd; simp at this; omega
    cases f with
    | zero => omega
    | succ f => rw [Bpreview_1_eq]; exact cond_f (by simp; omega) rfl
  | cons p r ih =>
    intro f i hd hf hi
    obtain ⟨h1, h2, h3⟩ := dropG hd (dfl .part)
    have l1 := contP_len s p
    have l2 := shownS_len (contP s p)
    have l3 := fldF_len (shownS (contP s p)) []
    have l4 := fldF_tot (shownS (contP s p)) []
    have l5 := joinS_len [32] (fldS (shownS (contP s p)))
    simp only [List.length_nil, Nat.add_zero] at l4
    simp only [List.length_cons, List.length_nil] at l5
    have l3' : (fldS (shownS (contP s p))).length ≤ (shownS (contP s p)).length + 1 := l3.1
    have l4' : totL (fldS (shownS (contP s p))) ≤ (shownS (contP s p)).length := l4
    cases f with
    | zero => omega
    | succ f =>
      rw [Bpreview_1_eq, Int.toNat_natCast, h1]
      refine cond_t (by simp; omega) (need_mk ⟨by omega, by omega⟩ ?_)
      rw [Bpreview_2_eq, part_eta, prevL]
      have hsk : (((decide (((p.kids).length : Int) > (0 : Int))) || ((p.type) != ([116, 101, 120, 116, 47, 112, 108, 97, 105, 110] : List UInt8))) || (p.attach)) = skipP p := by
        unfold skipP
        rw [show decide ((p.kids.length : Int) > 0) = decide (p.kids.length > 0) from decide_eq_decide.2 (by omega)]
      rw [hsk]
      cases hk : skipP p with
      | true =>
        rw [if_pos rfl]
        refine cond_t rfl (need_mk (by unfold i64ok; omega) ?_)
        rw [show (i : Int) + 1 = ((i + 1 : Nat) : Int) by omega]
        exact ih f (i + 1) h2 (by simp at hf; omega) (by omega)
      | false =>
        rw [if_neg (by simp)]
        exact cond_f rfl (need_mk (by omega) (need_mk (by omega) (need_mk (by omega) (need_mk ⟨by simp, by simp, by omega, by omega⟩ (need_mk ⟨by omega, by omega, by omega⟩ rfl)))))
theorem preview_eq (s : List UInt8) (hs : s.length ≤ 20000) : Fpreview ((allP 7 (treeT s)).length + 1) s = some (.p (.str (prevS s)), []) := by
  have ha := all_ok s (by omega)
  rw [Fpreview_eq, part_eta]
  exact need_mk (by omega) (need_mk ha (Bpreview_spec _ s hs _ ha.2 _ _ 0 rfl (by omega) (by omega)))
def sp_preview : List AV → Option (AV × Option Prop)
  | [.p (.str s)] => some (.p (.str (prevS s)), some (s.length ≤ 20000))
  | _ => none
theorem ok_preview : SpecOk Tryz.prog 19 sp_preview := by
  intro zs r ok he hok
  unfold sp_preview at he
  split at he
  · cases he; exact ⟨by kernel_rfl, fn_preview (_) _ _ fun hx => preview_eq _ hok⟩
  · cases he
end Go.Proofs.YtoanepondbagcaaGreatDoor
