/-
  The abstract machine of these proofs.
-/
import Derived.Test.YtdjlilhdgnogaaaAmDraw6
set_option linter.unusedVariables false
/-! What is known of a state and an operation stays known over operations that it does not see. -/
namespace Go.Am
open Go Go.RowKit
variable {P : Program} {γ γ' : Nat → Option G} {M M' : Mem} {C : Ctx} {s s' : S} {a a' : Act} {w w' : World}

theorem evStore_old {ob : Nat → Option AObj} {t : TypeId} {xs : List AV} {r : Nat × AObj × Option Prop} (h : evStore P ob t xs = some r) : ob r.1 ≠ none := by
  unfold evStore at h
  split at h
  · rename_i id off x
    split at h
    · split at h
      · cases h; simp [*]
      · cases h
    · cases h
  · rename_i id i j x
    split at h
    · split at h
      · cases h; simp [*]
      · cases h
    · split at h
      · split at h
        · split at h
          · cases h; simp [*]
          · cases h
        · cases h
      · cases h
    · cases h
  · cases h

theorem SemX.step {env : Env} {nt : Nat} {ops : Array Oper} {x y : Oper} {s s1 : S} {p1 : List Prop} (hap : Oper.apart ops y x = true) (h1 : astep P env nt ops y s = some (s1, p1)) (hsem : SemX s x) : SemX s1 x := by
  obtain ⟨a1, _, _⟩ := apart_dst hap
  have fin : ∀ s1 : S, (∃ v, s1.sl = pset s.sl y.dst v) → (∀ d, s1.us d = false → s.us d = false) → (∀ d, s1.us d = false → s1.ob d = none) → SemX s1 x := by
    rintro s1 ⟨v, hs⟩ hu ho
    have hargs : argsOf s1 x = argsOf s x := by unfold argsOf; rw [hs]; exact args_pset a1 s.sl v
    refine ⟨ho, ?_⟩
    rw [hargs]
    intro hp
    obtain ⟨γ, M, vs, h1, h2⟩ := hsem.rel hp
    exact ⟨γ, M, vs, h1, fun d hd => h2 d (hu d hd)⟩
  cases ey : effOp y.op with
  | false =>
    rw [astep_val ey] at h1
    obtain ⟨ry, hy, he⟩ := map_some h1
    cases he
    exact fin _ ⟨ry.v, rfl⟩ (fun d hd => hd) (fun d hd => hsem.free d hd)
  | true =>
    rw [astep_eff ey] at h1
    obtain ⟨hv, e1, _, _⟩ := estep_inv h1
    by_cases hm : memOp y.op = true
    · obtain ⟨_, d, hdst, _, hu, hform⟩ := estep_mem hm h1
      have key : ∀ i, (upd s.us d true) i = false → i ≠ d ∧ s.us i = false := by
        intro i hi
        have : i ≠ d := by intro e; rw [e, upd_same] at hi; cases hi
        exact ⟨this, (upd_ne s.us true this).symm.trans hi⟩
      rcases hform with ⟨_, o, ok, _, ho, hs1, _⟩ | ⟨_, _, _, _, _, _, r, _, _, _, _, _, _, hs1, _⟩
      · refine fin _ ⟨hv, e1⟩ (fun i hi => ?_) (fun i hi => ?_)
        · rw [hs1] at hi; exact (key i hi).2
        · rw [hs1] at hi ⊢
          obtain ⟨h2, h3⟩ := key i hi
          exact (upd_ne s.ob _ h2).trans (hsem.free i h3)
      · refine fin _ ⟨hv, e1⟩ (fun i hi => ?_) (fun i hi => ?_)
        · rw [hs1] at hi; exact (key i hi).2
        · rw [hs1] at hi ⊢
          obtain ⟨h2, h3⟩ := key i hi
          refine (upd_ne (delO s.ob r.2.1) _ h2).trans ?_
          cases hq : r.2.1 with
          | none => exact hsem.free i h3
          | some j =>
            unfold delO
            by_cases e : i = j
            · rw [e]; exact upd_same _ _ _
            · exact (upd_ne s.ob _ e).trans (hsem.free i h3)
    · -- a store
      unfold estep at h1
      split at h1
      · obtain ⟨⟨s2, ok⟩, hE, he⟩ := map_some h1
        cases he
        unfold evE at hE
        split at hE
        · rename_i t xx yy hop
          split at hE
          · obtain ⟨r, hr, he⟩ := map_some hE
            cases he
            refine fin _ ⟨hv, e1⟩ (fun i hi => hi) (fun i hi => ?_)
            have hi' : s.us i = false := hi
            have : i ≠ r.1 := by intro e; exact evStore_old hr (e ▸ hsem.free i hi')
            exact (upd_ne s.ob _ this).trans (hsem.free i hi')
          · cases hE
        · rename_i as ts hop
          exact absurd (by rw [hop]; rfl) hm
        · rename_i hn1 hn2
          exfalso
          refine hm ?_
          cases hop : y.op <;> rw [hop] at ey <;> first | rfl | (simp only [effOp, birthOp, reduceCtorEq] at ey)
          · exact absurd hop (hn1 _ _ _)
          · rename_i c
            obtain ⟨callee, args, ts⟩ := c
            cases callee with
            | builtin b =>
              cases b <;> first
                | rfl
                | (simp only [reduceCtorEq] at ey)
            | value f => simp only [reduceCtorEq] at ey
            | invoke r m => simp only [reduceCtorEq] at ey
      · cases h1
end Go.Am
