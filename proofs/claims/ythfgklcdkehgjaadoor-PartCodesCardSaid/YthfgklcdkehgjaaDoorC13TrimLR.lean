/-
  Lifted functions, and facts about them.
-/
import Derived.Test.YthfgklcdkehgjaaDoorRows
import Derived.Test.YthfgklcdkehgjaaDoorAmC
import Derived.Test.YthfgklcdkehgjaaDoorC13Lits
import Derived.Test.YthfgklcdkehgjaaDoorC13IxAny2
namespace Go.Proofs.YthfgklcdkehgjaaDoor
open Go Go.Am
set_option linter.unusedVariables false
/-! TrimLeft, TrimRight at blanks and tabs; IndexAny at two signs: as contracts. -/
theorem FnP_pure {P : Program} {f : FuncId} {args : List AV} {r : AV} (h : ∀ (M : Mem) (w : World) (vs : List Value), ARels γ0 M args vs → ∃ v, (∀ M', ARel γ0 M' r v) ∧ Calls P f vs.toArray w fun e w' => e = .returned v ∧ RowKit.Below w.heap.size w w') : FnP P f args r := by
  intro M w vs hM hvs
  obtain ⟨v, hr, hc⟩ := h M w vs hvs
  refine hc.mono fun e w' ⟨he, hB⟩ => ⟨v, M, he, MLe.refl M, fun _ _ => rfl, fun b q u hu => ?_, hr M, hB⟩
  have hc := hM b q u hu
  have hb : b < w.heap.size := World.block_lt_of_cell? w ⟨b, q, none⟩ hc
  rw [World.cell?_of_block (w := w) (hB.block b hb)]; exact hc
def trimLB (s : List UInt8) : List UInt8 := s.dropWhile isBl2
def trimRB (s : List UInt8) : List UInt8 := (s.reverse.dropWhile isBl2).reverse
theorem trimLB_len (s : List UInt8) : (trimLB s).length ≤ s.length := dropWhile_le isBl2 s
theorem trimRB_len (s : List UInt8) : (trimRB s).length ≤ s.length := by unfold trimRB; have := dropWhile_le isBl2 s.reverse; simp at this ⊢; exact this
open Go.Shelf Go.Lib in
set_option maxRecDepth 100000 in
theorem fn_triml (s : List UInt8) (hs : s.length ≤ 1000000) : FnP Tryd.prog 42 [.p (.str s), .p (.str [32, 9])] (.p (.str (trimLB s))) := by
  refine FnP_pure fun M w vs hvs => ⟨.string ⟨(trimLB s).toArray⟩, fun M' => .p _ _ (.str _ (by have := trimLB_len s; unfold maxLen; omega)), ?_⟩
  cases hvs with | cons h1 h2 =>
  cases h2 with | cons h2 h3 =>
  cases h3
  cases h1 with | p _ _ h1 =>
  cases h2 with | p _ _ h2 =>
  cases h1 with | str _ _ =>
  cases h2 with | str _ _ =>
  exact Any.strings_TrimLeft_laid lays161 (by kernel_rfl) ⟨s.toArray⟩ ⟨#[32, 9]⟩ w (by decide) (ascii_of_all (by decide))
open Go.Shelf Go.Lib in
set_option maxRecDepth 100000 in
theorem fn_trimr (s : List UInt8) (hs : s.length ≤ 1000000) : FnP Tryd.prog 46 [.p (.str s), .p (.str [32, 9])] (.p (.str (trimRB s))) := by
  refine FnP_pure fun M w vs hvs => ⟨.string ⟨(trimRB s).toArray⟩, fun M' => .p _ _ (.str _ (by have := trimRB_len s; unfold maxLen; omega)), ?_⟩
  cases hvs with | cons h1 h2 =>
  cases h2 with | cons h2 h3 =>
  cases h3
  cases h1 with | p _ _ h1 =>
  cases h2 with | p _ _ h2 =>
  cases h1 with | str _ _ =>
  cases h2 with | str _ _ =>
  exact Any.strings_TrimRight_laid lays162 (by kernel_rfl) ⟨s.toArray⟩ ⟨#[32, 9]⟩ w (by show s.toArray.size ≤ _; simp; omega) (by decide) (ascii_of_all (by decide))
/-- Where one of the two signs stands first; -1. -/
def ixSep (s : List UInt8) : Int := Lib.indexAny s [61, 59]
theorem ixSep_ge (s : List UInt8) : -1 ≤ ixSep s := Lib.indexAny_ge _ _
theorem fn_ixany (s : List UInt8) (hs : s.length ≤ 1000000) : FnP Tryd.prog 43 [.p (.str s), .p (.str [61, 59])] (.p (.int .i64 (ixSep s))) := by
  have hlt : ∀ l : List UInt8, Lib.indexAny l [61, 59] < l.length + 1 := by
    intro l
    induction l with
    | nil => decide
    | cons b l ih =>
      unfold Lib.indexAny
      split
      · simp; omega
      · split
        · simp; omega
        · simp; omega
  refine FnP_pure fun M w vs hvs => ⟨.int .i64 (ixSep s), fun M' => .p _ _ (.int _ _ ?_), ?_⟩
  · have h1 := ixSep_ge s
    have h2 := hlt s
    unfold ixSep at h1 ⊢
    have h3 := hlt s
    show IntKind.i64.min ≤ _ ∧ _ ≤ IntKind.i64.max
    rw [show IntKind.i64.min = -9223372036854775808 from rfl, show IntKind.i64.max = 9223372036854775807 from rfl]
    omega
  cases hvs with | cons h1 h2 =>
  cases h2 with | cons h2 h3 =>
  cases h3
  cases h1 with | p _ _ h1 =>
  cases h2 with | p _ _ h2 =>
  cases h1 with | str _ _ =>
  cases h2 with | str _ _ =>
  exact ia_all ⟨s.toArray⟩ w (by show s.toArray.size < _; simp; omega)
def sp_triml : List AV → Option (AV × Option Prop)
  | [.p (.str s), .p (.str [32, 9])] => some (.p (.str (trimLB s)), some (s.length ≤ 1000000))
  | _ => none
theorem ok_triml : SpecOk Tryd.prog 42 sp_triml := by
  intro zs r ok he hok
  unfold sp_triml at he
  split at he
  · cases he; exact ⟨by kernel_rfl, fn_triml _ hok⟩
  · cases he
def sp_trimr : List AV → Option (AV × Option Prop)
  | [.p (.str s), .p (.str [32, 9])] => some (.p (.str (trimRB s)), some (s.length ≤ 1000000))
  | _ => none
theorem ok_trimr : SpecOk Tryd.prog 46 sp_trimr := by
  intro zs r ok he hok
  unfold sp_trimr at he
  split at he
  · cases he; exact ⟨by kernel_rfl, fn_trimr _ hok⟩
  · cases he
def sp_ixany : List AV → Option (AV × Option Prop)
  | [.p (.str s), .p (.str [61, 59])] => some (.p (.int .i64 (ixSep s)), some (s.length ≤ 1000000))
  | _ => none
theorem ok_ixany : SpecOk Tryd.prog 43 sp_ixany := by
  intro zs r ok he hok
  unfold sp_ixany at he
  split at he
  · cases he; exact ⟨by kernel_rfl, fn_ixany _ hok⟩
  · cases he
end Go.Proofs.YthfgklcdkehgjaaDoor
