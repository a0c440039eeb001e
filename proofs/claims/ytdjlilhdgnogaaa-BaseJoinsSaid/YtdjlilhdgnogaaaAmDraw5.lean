/-
  The abstract machine of these proofs.
-/
import Derived.Test.YtdjlilhdgnogaaaAmDraw4
set_option linter.unusedVariables false
/-! Births among births and appends. -/
namespace Go.Am
open Go Go.RowKit
variable {P : Program} {γ γ' : Nat → Option G} {M M' : Mem} {C : Ctx} {s s' : S} {a a' : Act} {w w' : World}

theorem birth_eff {op : Op} (h : birthOp op = true) : memOp op = true := by unfold memOp; rw [h]; rfl

theorem delO_upd {ob : Nat → Option AObj} {old : Option Nat} {d : Nat} {o : Option AObj} (h : old ≠ some d) : delO (upd ob d o) old = upd (delO ob old) d o := by
  cases old with
  | none => rfl
  | some i =>
    have : i ≠ d := fun e => h (by rw [e])
    unfold delO
    dsimp only
    exact upd_comm ob _ _ (fun e => this e.symm)
theorem delO_ne {ob : Nat → Option AObj} {old : Option Nat} {i : Nat} (h : old ≠ some i) : delO ob old i = ob i := by
  cases old with
  | none => rfl
  | some j => exact upd_ne _ _ (fun e => h (by rw [e]))

theorem aBase_old {ob : Nat → Option AObj} {e : TypeId} {x : AV} {i : Nat} {bo : Option AObj} (h : aBase ob e x = some (some i, bo)) : x = .arr i ∧ ob i ≠ none := by
  unfold aBase at h
  split at h
  · cases h
  · rename_i id
    cases ho : ob id with
    | none => rw [ho] at h; cases h
    | some o =>
      rw [ho] at h
      dsimp only at h
      unfold bool? at h
      split at h
      · cases h; exact ⟨rfl, by rw [ho]; simp⟩
      · cases h
  · cases h
theorem evAppend_old {ob : Nat → Option AObj} {t tx : TypeId} {x y : AV} {r : AObj × Option Nat × Option Prop} (h : evAppend P ob t tx [x, y] = some r) {i : Nat} (hi : r.2.1 = some i) : x = .arr i ∧ ob i ≠ none := by
  unfold evAppend at h
  dsimp only at h
  split at h
  · rename_i e hS
    split at h
    · rename_i k' b' z old bo h1 h2 h3 h4
      have : r.2.1 = old := by
        split at h
        · split at h
          · split at h
            · cases h; rfl
            · cases h; rfl
            · cases h
          · split at h
            · cases h; rfl
            · split at h
              · cases h; rfl
              · cases h
            · cases h
        · cases h
      rw [this] at hi
      rw [hi] at h4
      exact aBase_old h4
    · cases h
  · cases h
theorem birth_append {op : Op} {as : Array Operand} {ts : Array TypeId} (h : birthOp op = true) (e : op = .call ⟨.builtin .append, as, ts⟩) : False := by rw [e] at h; cases h

/-- A birth may go ahead of an operation that makes memory. -/
theorem swap_mb {env : Env} {nt : Nat} {ops : Array Oper} {x y : Oper} {s s1 s2 : S} {p1 p2 : List Prop} (hap : Oper.apart ops y x = true) (hy : memOp y.op = true) (hx : birthOp x.op = true) (hsem : SemX s x)
    (h1 : astep P env nt ops y s = some (s1, p1)) (h2 : astep P env nt ops x s1 = some (s2, p2)) :
    ∃ s1', astep P env nt ops x s = some (s1', p2) ∧ astep P env nt ops y s1' = some (s2, p1) := by
  obtain ⟨a1, a2, a3⟩ := apart_dst hap
  rw [astep_eff (mem_eff hy)] at h1
  rw [astep_eff (mem_eff (birth_eff hx))] at h2
  obtain ⟨hv, e1, _, _⟩ := estep_inv h1
  obtain ⟨hg, d, hdst, hdk, hu, hform⟩ := estep_mem hy h1
  obtain ⟨hgx, dx, hdstx, hdkx, hux, hformx⟩ := estep_mem (birth_eff hx) h2
  have hne : dx ≠ d := fun e => a2 d hdst (by rw [hdstx, e])
  have hargs : argsOf s1 x = argsOf s x := by unfold argsOf; rw [e1]; exact args_pset a1 s.sl hv
  have hgx' : guardOf ops s.sl x = some none := by rw [← hgx, e1]; exact (guard_pset a1 s.sl hv).symm
  rcases hformx with ⟨_, ox, okx, hB, hox, hs2, hp2⟩ | ⟨_, _, _, _, _, _, _, hop, _⟩
  · rw [hargs] at hB hp2
    have hus : s.us dx = false := by
      rcases hform with ⟨_, o, ok, _, ho, hs1, _⟩ | ⟨_, _, _, _, _, _, r, _, _, _, _, _, _, hs1, _⟩ <;>
        (rw [hs1] at hux; exact (upd_ne s.us true hne).symm.trans hux)
    have hob : s.ob dx = none := hsem.free dx hus
    refine ⟨sbirth s dx ox, ?_, ?_⟩
    · rw [astep_eff (mem_eff (birth_eff hx)), estep_birth hgx' hdstx hdkx hus hx hB hob, hp2]
    · rw [astep_eff (mem_eff hy)]
      have a3' : ∀ d, some dx = some d → d ∉ Oper.looksAt ops y := fun d hd => a3 d (by rw [hdstx]; exact hd)
      have hgy : guardOf ops (sbirth s dx ox).sl y = some none := (guard_pset (dst := some dx) a3' s.sl _).trans hg
      have hargy : argsOf (sbirth s dx ox) y = argsOf s y := args_pset (dst := some dx) a3' s.sl _
      have huy : (sbirth s dx ox).us d = false := (upd_ne s.us true (fun e => hne e.symm)).trans hu
      rcases hform with ⟨hb, o, ok, hBy, ho, hs1, hp1⟩ | ⟨as, ts, t, tx, x', y', r, hop, ht, htx, hsz, hxs, hr, hs1, hp1⟩
      · rw [estep_birth hgy hdst hdk huy hb (by rw [hargy]; exact hBy) ((upd_ne s.ob _ (fun e => hne e.symm)).trans ho), hargy, hs2, hs1, hp1]
        unfold sbirth
        dsimp only
        rw [upd_comm s.sl _ _ hne, upd_comm s.ob _ _ hne, upd_comm s.us _ _ hne]
      · have hr' : evAppend P (sbirth s dx ox).ob t tx [x', y'] = some r := by
          have k : ∀ i o, s.ob i = some o → (sbirth s dx ox).ob i = some o := by
            intro i o hi
            have : i ≠ dx := by intro e; rw [e, hob] at hi; cases hi
            exact (upd_ne s.ob _ this).trans hi
          exact evAppend_monoR (fun i _ => k i) (fun i _ => k i) hr
        have hold : r.2.1 ≠ some dx := fun e => (evAppend_old hr e).2 hob
        rw [estep_append hgy hdst hdk huy hop ht htx hsz (by rw [hargy]; exact hxs) hr', hargy, hs2, hs1, hp1]
        unfold sbirth sappend
        dsimp only
        rw [upd_comm s.sl _ _ hne, delO_upd hold, upd_comm (delO s.ob r.2.1) _ _ hne, upd_comm s.us _ _ hne]
  · exact (birth_append hx hop).elim
end Go.Am
