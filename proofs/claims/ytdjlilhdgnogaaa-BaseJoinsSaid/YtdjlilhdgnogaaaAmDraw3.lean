/-
  The abstract machine of these proofs.
-/
import Derived.Test.YtdjlilhdgnogaaaAmDraw2
set_option linter.unusedVariables false
/-! More pairs of operations of which neither sees the other. -/
namespace Go.Am
open Go Go.RowKit
variable {P : Program} {γ γ' : Nat → Option G} {M M' : Mem} {C : Ctx} {s s' : S} {a a' : Act} {w w' : World}

theorem aBase_monoR {ob ob' : Nat → Option AObj} {x : AV} (h : ∀ i, (x = .arr i) → ∀ o, ob i = some o → ob' i = some o) {e : TypeId} {r : Option Nat × Option AObj} (he : aBase ob e x = some r) : aBase ob' e x = some r := by
  unfold aBase at he ⊢
  split at he
  · exact he
  · rename_i id
    cases ho : ob id with
    | none => rw [ho] at he; cases he
    | some o => rw [ho] at he; rw [h id rfl o ho]; exact he
  · cases he
theorem aSrcB_monoR {ob ob' : Nat → Option AObj} {x : AV} (h : ∀ i, (x = .arr i) → ∀ o, ob i = some o → ob' i = some o) {t : TypeId} {r : List UInt8} (he : aSrcB P ob t x = some r) : aSrcB P ob' t x = some r := by
  unfold aSrcB at he ⊢
  split at he
  · exact he
  · exact he
  · exact he
  · rename_i id
    cases ho : ob id with
    | none => rw [ho] at he; cases he
    | some o => rw [ho] at he; rw [h id rfl o ho]; exact he
  · cases he
theorem aSrcL_monoR {ob ob' : Nat → Option AObj} {x : AV} (h : ∀ i, (x = .arr i) → ∀ o, ob i = some o → ob' i = some o) {t : TypeId} {k : Nat} {r : Nat × (Nat → Nat → PV)} (he : aSrcL P ob t k x = some r) : aSrcL P ob' t k x = some r := by
  unfold aSrcL at he ⊢
  split at he
  · exact he
  · exact he
  · rename_i id
    cases ho : ob id with
    | none => rw [ho] at he; cases he
    | some o => rw [ho] at he; rw [h id rfl o ho]; exact he
  · cases he

theorem evAppend_monoR {ob ob' : Nat → Option AObj} {t tx : TypeId} {x y : AV} (hx : ∀ i, (x = .arr i) → ∀ o, ob i = some o → ob' i = some o) (hy : ∀ i, (y = .arr i) → ∀ o, ob i = some o → ob' i = some o)
    {r : AObj × Option Nat × Option Prop} (he : evAppend P ob t tx [x, y] = some r) : evAppend P ob' t tx [x, y] = some r := by
  unfold evAppend at he ⊢
  dsimp only at he ⊢
  cases hS : sliceE P t with
  | none => rw [hS] at he; cases he
  | some e =>
    rw [hS] at he
    dsimp only at he ⊢
    cases hb : aBase ob e x with
    | none =>
      rw [hb] at he
      split at he
      · rename_i h4; cases h4
      · cases he
    | some bb =>
      rw [aBase_monoR hx hb]
      rw [hb] at he
      split at he
      · rename_i k' b' z old bo h1 h2 h3 h4
        cases h4
        split at he
        · split at he
          · split at he
            · rename_i hsrc; rw [aSrcB_monoR hy hsrc]; exact he
            · rename_i hsrc; rw [aSrcB_monoR hy hsrc]; exact he
            · cases he
          · split at he
            · rename_i hsrc; rw [aSrcL_monoR hy hsrc]; exact he
            · rename_i hsrc; rw [aSrcL_monoR hy hsrc]; exact he
            · cases he
        · cases he
      · cases he
end Go.Am
