/-
  The abstract machine of these proofs.
-/
import Derived.Test.YtdjlilhdgnogaaaAmDraw3
set_option linter.unusedVariables false
/-! The wider independence: births and appends among operations that yield values, and among births. -/
namespace Go.Am
open Go Go.RowKit
variable {P : Program} {γ γ' : Nat → Option G} {M M' : Mem} {C : Ctx} {s s' : S} {a a' : Act} {w w' : World}

def appendOp : Op → Bool
  | .call ⟨.builtin .append, _, _⟩ => true
  | _ => false
def memOp (op : Op) : Bool := birthOp op || appendOp op

def argsOf (s : S) (o : Oper) : List AV := o.op.operands.toList.map (aev s.sl)

/-- What is known of the state, and of an operation's arguments in it, by what they stand for. -/
structure SemX (s : S) (o : Oper) : Prop where
  free : ∀ d, s.us d = false → s.ob d = none
  rel : All (stripOp none o.op (argsOf s o)).2 → ∃ γ M vs, ARels γ M (stripOp none o.op (argsOf s o)).1 vs ∧ ∀ d, s.us d = false → γ d = none

theorem St.sem (h : St C s a w) (o : Oper) : SemX s o := by
  obtain ⟨γ, M, h⟩ := h
  refine ⟨fun d hd => ?_, fun hp => ⟨γ, M, _, stripOp_rel (g := none) trivial (ARels.map (aev_rel h.sl) _) hp, fun d hd => h.us d hd⟩⟩
  cases ho : s.ob d with
  | none => rfl
  | some o' =>
    obtain ⟨g, hg⟩ := (h.ob d o' ho).ghost
    rw [h.us d hd] at hg; cases hg

/-- What an operation that makes memory does. -/
theorem estep_mem {nt : Nat} {ops : Array Oper} {o : Oper} {p : List Prop} (hm : memOp o.op = true) (h : estep P nt ops o s = some (s', p)) :
    guardOf ops s.sl o = some none ∧ ∃ d, o.dst = some d ∧ dstOk nt (some d) = true ∧ s.us d = false ∧
      ((birthOp o.op = true ∧ ∃ ob ok, evB P o.op (stripOp none o.op (argsOf s o)).1 = some (ob, ok) ∧ s.ob d = none ∧ s' = sbirth s d ob ∧ p = (stripOp none o.op (argsOf s o)).2 ++ oks none ok) ∨
       (∃ as ts t tx x y r, o.op = .call ⟨.builtin .append, as, ts⟩ ∧ ts[0]? = some t ∧ ts[1]? = some tx ∧ ts.size = 2 ∧ (stripOp none o.op (argsOf s o)).1 = [x, y] ∧ evAppend P s.ob t tx [x, y] = some r ∧
          s' = sappend s d r.2.1 r.1 ∧ p = (stripOp none o.op (argsOf s o)).2 ++ oks none r.2.2)) := by
  unfold estep at h
  split at h
  · rename_i hg hd
    obtain ⟨⟨s2, ok⟩, hE, he⟩ := map_some h
    cases he
    refine ⟨hg, ?_⟩
    unfold evE at hE
    split at hE
    · rename_i hop; rw [hop] at hm; cases hm
    · rename_i as ts hop
      split at hE
      · rename_i t tx d x y ht htx hdst hxs
        split at hE
        · rename_i hu hsz
          obtain ⟨r, hr, he⟩ := map_some hE
          cases he
          exact ⟨d, hdst, by rw [← hdst]; exact hd, hu, .inr ⟨as, ts, t, tx, x, y, r, hop, ht, htx, hsz, hxs, hr, rfl, rfl⟩⟩
        · cases hE
      · cases hE
    · rename_i hn1 hn2
      split at hE
      · rename_i ob ok' d hB hdst
        split at hE
        · rename_i hu ho
          cases hE
          refine ⟨d, hdst, by rw [← hdst]; exact hd, hu, .inl ⟨?_, ob, ok, hB, ho, rfl, rfl⟩⟩
          unfold memOp at hm
          rw [Bool.or_eq_true] at hm
          rcases hm with hm | hm
          · exact hm
          · exfalso
            unfold appendOp at hm
            split at hm
            · rename_i as ts hop; exact hn2 as ts hop
            · cases hm
        · cases hE
      · cases hE
  · cases h
theorem estep_birth {nt : Nat} {ops : Array Oper} {o : Oper} {d : Nat} {ob : AObj} {ok : Option Prop} (hg : guardOf ops s.sl o = some none) (hd : o.dst = some d) (hdk : dstOk nt (some d) = true) (hu : s.us d = false)
    (hb : birthOp o.op = true) (hB : evB P o.op (stripOp none o.op (argsOf s o)).1 = some (ob, ok)) (ho : s.ob d = none) :
    estep P nt ops o s = some (sbirth s d ob, (stripOp none o.op (argsOf s o)).2 ++ oks none ok) := by
  unfold estep
  rw [hg, hd, hdk]
  show (evE P s o (stripOp none o.op (argsOf s o)).1).map _ = _
  unfold evE
  split
  · rename_i hop; rw [hop] at hb; cases hb
  · rename_i hop; rw [hop] at hb; cases hb
  · rw [hB, hd]
    dsimp only
    rw [hu, ho]
    rfl
theorem estep_append {nt : Nat} {ops : Array Oper} {o : Oper} {d : Nat} {as : Array Operand} {ts : Array TypeId} {t tx : TypeId} {x y : AV} {r : AObj × Option Nat × Option Prop} (hg : guardOf ops s.sl o = some none) (hd : o.dst = some d)
    (hdk : dstOk nt (some d) = true) (hu : s.us d = false) (hop : o.op = .call ⟨.builtin .append, as, ts⟩) (h1 : ts[0]? = some t) (h2 : ts[1]? = some tx) (h3 : ts.size = 2)
    (hxs : (stripOp none o.op (argsOf s o)).1 = [x, y]) (hr : evAppend P s.ob t tx [x, y] = some r) :
    estep P nt ops o s = some (sappend s d r.2.1 r.1, (stripOp none o.op (argsOf s o)).2 ++ oks none r.2.2) := by
  unfold estep
  rw [hg, hd, hdk]
  show (evE P s o (stripOp none o.op (argsOf s o)).1).map _ = _
  rw [hxs]
  unfold evE
  rw [hop]
  simp only
  rw [h1, h2, hd]
  simp only [hu, h3, hr]
  unfold argsOf
  rw [hop]
  rfl
theorem mem_eff {op : Op} (h : memOp op = true) : effOp op = true := by
  unfold memOp at h
  rw [Bool.or_eq_true] at h
  rcases h with h | h
  · cases op <;> first | rfl | (simp only [birthOp, reduceCtorEq] at h)
  · unfold appendOp at h
    split at h
    · rfl
    · cases h
theorem guardOf_none {ops : Array Oper} {o : Oper} (h : o.guard = none) (σ : Nat → AV) : guardOf ops σ o = some none := by unfold guardOf; rw [h]

/-- What was there before memory was made is known still, but for what the new name stands for. -/
theorem mem_back {d : Nat} {old : Option Nat} {o : AObj} {ob : Nat → Option AObj} (hd : γ d = none) : RLe γ (upd (delO ob old) d (some o)) ob := by
  intro i hi o' ho
  have hne : i ≠ d := by intro e; subst e; exact hi hd
  rw [upd_ne _ _ hne] at ho
  cases old with
  | none => exact ho
  | some id =>
    unfold delO at ho
    by_cases e : i = id
    · subst e; dsimp only at ho; rw [upd_same] at ho; cases ho
    · dsimp only at ho; rw [upd_ne _ _ e] at ho; exact ho

/-- An operation that yields a value may go ahead of one that makes memory. -/
theorem swap_mv {env : Env} {nt : Nat} {ops : Array Oper} {x y : Oper} {s s1 s2 : S} {p1 p2 : List Prop} (hap : Oper.apart ops y x = true) (hy : memOp y.op = true) (ex : effOp x.op = false) (hxg : x.guard = none) (hsem : SemX s x)
    (h1 : astep P env nt ops y s = some (s1, p1)) (h2 : astep P env nt ops x s1 = some (s2, p2)) (hp : All p2) :
    ∃ s1', astep P env nt ops x s = some (s1', p2) ∧ astep P env nt ops y s1' = some (s2, p1) := by
  obtain ⟨a1, a2, a3⟩ := apart_dst hap
  rw [astep_eff (mem_eff hy)] at h1
  rw [astep_val ex] at h2
  obtain ⟨rx, hx, he⟩ := map_some h2
  cases he
  obtain ⟨hv, e1, e2, _⟩ := estep_inv h1
  obtain ⟨hg, d, hdst, hdk, hu, hform⟩ := estep_mem hy h1
  have hargs : argsOf s1 x = argsOf s x := by unfold argsOf; rw [e1]; exact args_pset a1 s.sl hv
  have hback : ∀ γ : Nat → Option G, γ d = none → RLe γ s1.ob s.ob := by
    intro γ hγ
    rcases hform with ⟨_, o, ok, _, ho, hs1, _⟩ | ⟨_, _, _, _, _, _, r, _, _, _, _, _, _, hs1, _⟩
    · rw [hs1]; exact mem_back (old := none) hγ
    · rw [hs1]; exact mem_back hγ
  have hx' : vstep P env nt ops x s.sl s.ob = some rx := by
    unfold vstep at hx ⊢
    rw [guardOf_none hxg] at hx ⊢
    have ea : x.op.operands.toList.map (aev s1.sl) = x.op.operands.toList.map (aev s.sl) := hargs
    rw [ea] at hx
    split at hx
    · rename_i g hg1 hd1
      cases hg1
      cases hev : evV P env s1.ob x.op (stripOp none x.op (x.op.operands.toList.map (aev s.sl))).1 with
      | none => rw [hev] at hx; cases hx
      | some q =>
        rw [hev] at hx
        obtain ⟨v, ok⟩ := q
        cases hx
        obtain ⟨γ, M, vs, hrel, hfree⟩ := hsem.rel (All.append hp).1
        have hrel' : ARels γ M (stripOp none x.op (x.op.operands.toList.map (aev s.sl))).1 vs := hrel
        rw [evV_monoR (hback γ (hfree d hu)) hrel' hev]
    · cases hx
  refine ⟨aset s x.dst rx.v, by rw [astep_val ex, hx']; rfl, ?_⟩
  rw [astep_eff (mem_eff hy)]
  have := e2 (pset s.sl x.dst rx.v) (guard_pset a3 s.sl rx.v) (args_pset a3 s.sl rx.v)
  refine this.trans ?_
  simp only [aset]
  rw [e1, pset_comm rx.v hv (fun d hd e => a2 d e hd)]
end Go.Am
