/-
  The abstract machine of these proofs.
-/
import Derived.Test.YtdjlilhdgnogaaaAmDraw5
import Derived.Test.YtdjlilhdgnogaaaAmDrawRR
set_option linter.unusedVariables false
/-! An append ahead of a birth; the rule for drawn regions with the wider independence. -/
namespace Go.Am
open Go Go.RowKit
variable {P : Program} {γ γ' : Nat → Option G} {M M' : Mem} {C : Ctx} {s s' : S} {a a' : Act} {w w' : World}

theorem append_mem {op : Op} (h : appendOp op = true) : memOp op = true := by unfold memOp; rw [h]; exact Bool.or_true _

theorem swap_ba {env : Env} {nt : Nat} {ops : Array Oper} {x y : Oper} {s s1 s2 : S} {p1 p2 : List Prop} (hap : Oper.apart ops y x = true) (hy : birthOp y.op = true) (hx : appendOp x.op = true) (hsem : SemX s x)
    (h1 : astep P env nt ops y s = some (s1, p1)) (h2 : astep P env nt ops x s1 = some (s2, p2)) (hp : All p2) :
    ∃ s1', astep P env nt ops x s = some (s1', p2) ∧ astep P env nt ops y s1' = some (s2, p1) := by
  obtain ⟨a1, a2, a3⟩ := apart_dst hap
  rw [astep_eff (mem_eff (birth_eff hy))] at h1
  rw [astep_eff (mem_eff (append_mem hx))] at h2
  obtain ⟨hv, e1, _, _⟩ := estep_inv h1
  obtain ⟨hg, d, hdst, hdk, hu, hform⟩ := estep_mem (birth_eff hy) h1
  obtain ⟨hgx, dx, hdstx, hdkx, hux, hformx⟩ := estep_mem (append_mem hx) h2
  have hne : dx ≠ d := fun e => a2 d hdst (by rw [hdstx, e])
  have hargs : argsOf s1 x = argsOf s x := by unfold argsOf; rw [e1]; exact args_pset a1 s.sl hv
  have hgx' : guardOf ops s.sl x = some none := by rw [← hgx, e1]; exact (guard_pset a1 s.sl hv).symm
  rcases hform with ⟨hb, o, ok, hBy, ho, hs1, hp1⟩ | ⟨_, _, _, _, _, _, _, hop, _⟩
  · rcases hformx with ⟨hbx, _⟩ | ⟨as, ts, t, tx, x', y', r, hop, ht, htx, hsz, hxs, hr, hs2, hp2⟩
    · exfalso
      unfold appendOp at hx
      split at hx
      · rename_i hop; rw [hop] at hbx; cases hbx
      · cases hx
    · rw [hargs] at hxs hp2
      have hus : s.us dx = false := by rw [hs1] at hux; exact (upd_ne s.us true hne).symm.trans hux
      have hob : s.ob dx = none := hsem.free dx hus
      rw [hp2] at hp
      obtain ⟨γ, M, vs, hrel, hfree⟩ := hsem.rel (All.append hp).1
      rw [hxs] at hrel
      have hγ := hfree d hu
      have kx : ∀ i, x' = .arr i → i ≠ d := by
        intro i e ei
        obtain ⟨v, hv⟩ := hrel.head
        rw [e] at hv
        exact named_arr hv (by rw [ei]; exact hγ)
      have ky : ∀ i, y' = .arr i → i ≠ d := by
        intro i e ei
        obtain ⟨vs', ht⟩ := hrel.tail
        obtain ⟨v, hv⟩ := ht.head
        rw [e] at hv
        exact named_arr hv (by rw [ei]; exact hγ)
      have back : ∀ i, i ≠ d → ∀ o', s1.ob i = some o' → s.ob i = some o' := by
        intro i hi o' h
        rw [hs1] at h
        exact (upd_ne s.ob _ hi).symm.trans h
      have hr' : evAppend P s.ob t tx [x', y'] = some r := evAppend_monoR (fun i e => back i (kx i e)) (fun i e => back i (ky i e)) hr
      have hold : r.2.1 ≠ some d := fun e => kx d (evAppend_old hr e).1 rfl
      refine ⟨sappend s dx r.2.1 r.1, ?_, ?_⟩
      · rw [astep_eff (mem_eff (append_mem hx)), estep_append hgx' hdstx hdkx hus hop ht htx hsz hxs hr', hp2]
      · rw [astep_eff (mem_eff (birth_eff hy))]
        have a3' : ∀ d, some dx = some d → d ∉ Oper.looksAt ops y := fun d hd => a3 d (by rw [hdstx]; exact hd)
        have hgy : guardOf ops (sappend s dx r.2.1 r.1).sl y = some none := (guard_pset (dst := some dx) a3' s.sl _).trans hg
        have hargy : argsOf (sappend s dx r.2.1 r.1) y = argsOf s y := args_pset (dst := some dx) a3' s.sl _
        have huy : (sappend s dx r.2.1 r.1).us d = false := (upd_ne s.us true (fun e => hne e.symm)).trans hu
        have hoy : (sappend s dx r.2.1 r.1).ob d = none := by
          refine (upd_ne (delO s.ob r.2.1) _ (fun e => hne e.symm)).trans ?_
          rw [delO_ne hold]; exact ho
        rw [estep_birth hgy hdst hdk huy hb (by rw [hargy]; exact hBy) hoy, hargy, hs2, hs1, hp1]
        unfold sbirth sappend
        dsimp only
        rw [upd_comm s.sl _ _ hne, delO_upd hold, upd_comm (delO s.ob r.2.1) _ _ hne, upd_comm s.us _ _ hne]
  · exact (birth_append hy hop).elim
end Go.Am
