/-
  Lifted functions, and facts about them.
-/
import Derived.Test.YthfgklcdkehgjaaDoorRows
import Derived.Test.YthfgklcdkehgjaaDoorAmC
import Derived.Test.YthfgklcdkehgjaaDoorC13SplitA
import Derived.Test.YthfgklcdkehgjaaDoorAmIter2
namespace Go.Proofs.YthfgklcdkehgjaaDoor
open Go Go.Am
set_option linter.unusedVariables false
/-! field.Split: what a round does; what the loop's pieces compute. -/
noncomputable def mkRec (fn : FuncId) (tm : Array Value) (D : Nat) (st : LoopState) (pe : Option Code) : Loop := { state := st, pending := pe, fn := fn, tmps := tm, params := #[35, 36], assign := rfA, body := rfB, defers := D }
def stp (t : List UInt8) (nx body : Int) (g : List (List UInt8)) : Option Code × Int × List (List UInt8) :=
  if t = [] then (some (.exit 0), nx, g) else if g ≠ [] ∧ isBlank1 t = true then (none, body, g.set (g.length - 1) (g.getD (g.length - 1) [] ++ t)) else (none, body, g ++ [t])
def tgJ (j : Option Code) : AV := match j with | none => .p (.int .i64 (-1)) | some _ => .p (.int .i64 0)
theorem blank_eq (c : UInt8) : (((c.toNat : Int) == (32 : Int)) || ((c.toNat : Int) == (9 : Int))) = (c == 32 || c == 9) := by
  have h : ∀ k : Nat, k < 256 → (((c.toNat : Int) == ((k : Nat) : Int)) = (c == UInt8.ofNat k)) := by
    intro k hk
    rw [Bool.eq_iff_iff, beq_iff_eq, beq_iff_eq]
    constructor
    · intro e
      have e : c.toNat = k := by omega
      rw [← e]; simp
    · intro e; rw [e]; simp; omega
  rw [show (32 : Int) = ((32 : Nat) : Int) from rfl, show (9 : Int) = ((9 : Nat) : Int) from rfl, h 32 (by decide), h 9 (by decide)]; rfl
theorem isBlank_eq {t : List UInt8} (h0 : t ≠ []) : (((((t.getD ((0 : Int)).toNat 0).toNat : Int) == (32 : Int))) || (((t.getD ((0 : Int)).toNat 0).toNat : Int) == (9 : Int))) = isBlank1 t := by
  cases t with
  | nil => exact absurd rfl h0
  | cons c r => exact blank_eq c
theorem getD_mem {α : Type} {l : List α} {i : Nat} (h : i < l.length) (d : α) : l.getD i d ∈ l := by
  rw [List.getD_eq_getElem?_getD, List.getElem?_eq_getElem h]; exact List.getElem_mem h
theorem rnd_val (s t : List UInt8) (body i b nx : Int) (g : List (List UInt8)) (rec : Loop) (hg : g.length ≤ 1000000) (hx : ∀ x ∈ g, x.length ≤ 1000000) (ht : t.length ≤ 1000000) :
    runC GR agNone [] rfB (mkS [(7, .ref 7 0), (8, .ref 8 0), (9, .p (.str t)), (10, .p (.int .i64 nx))] (oI body g i b s rec)) (kTag keepI cutB) = some (.tup [tgJ (stp t nx body g).1], oI (stp t nx body g).2.1 (stp t nx body g).2.2 i b s rec) := by
  rw [rnd_eq]
  unfold stp
  by_cases h0 : t = []
  · rw [if_pos h0]; exact cond_t (by simpa using h0) rfl
  · rw [if_neg h0]
    refine cond_f (by simpa using h0) ?_
    have hl := List.length_pos_iff.2 h0
    refine need_mk (fun _ => ⟨by omega, by omega⟩) (need_mk (fun _ => ⟨by omega, by omega⟩) ?_)
    rw [isBlank_eq h0]
    by_cases h1 : g ≠ [] ∧ isBlank1 t = true
    · rw [if_pos h1]
      have hgl := List.length_pos_iff.2 h1.1
      refine cond_t (by rw [h1.2, Bool.and_true]; simpa using hgl) ?_
      have e : ((g.length : Int) - 1).toNat = g.length - 1 := by omega
      have hlast := hx _ (getD_mem (show g.length - 1 < g.length by omega) [])
      rw [e]
      refine need_mk (by unfold i64ok; omega) (need_mk ⟨by omega, by omega⟩ (need_mk (by omega) (need_mk (by unfold lenok; omega) (need_mk ⟨by omega, by omega⟩ (need_mk (by omega) rfl)))))
    · rw [if_neg h1]
      refine cond_f ?_ (need_mk (by simp; omega) rfl)
      cases hb : isBlank1 t with
      | false => rw [Bool.and_false]
      | true =>
        have : g = [] := Classical.byContradiction fun q => h1 ⟨q, hb⟩
        rw [this]; rfl

/-! ### A round -/
abbrev Kept (γ γ' : Nat → Option G) : Prop := ∀ k ∈ keepI, ∀ x, γ k = some x → γ' k = some x
theorem Kept.trans {γ γ1 γ2 : Nat → Option G} (h : Kept γ γ1) (k : Kept γ1 γ2) : Kept γ γ2 := fun i hi x hx => k i hi x (h i hi x hx)
theorem oI_rec {γ : Nat → Option G} {M : Mem} {w : World} {body i b : Int} {g : List (List UInt8)} {s : List UInt8} {l : Nat} {r : Loop} (r' : Loop) (h : Hold γ M w (oI body g i b s r)) (hl : γ 1005 = some (.cell l)) :
    Hold γ M (w.putObj l (.loop r')) (oI body g i b s r') ∧ Chg γ (oI body g i b s r) M w γ (oI body g i b s r') M (w.putObj l (.loop r')) :=
  h.setraw (id := 1005) (x := .loop r) (y := .loop r') lookO_hd hl lookO_hd lookO_ne
theorem round_ok {γ : Nat → Option G} {M : Mem} {w : World} {s t : List UInt8} {body i b nx : Int} {g : List (List UInt8)} {fn : FuncId} {tm : Array Value} {D l : Nat} {vt vn : Value}
    (hH : Hold γ M w (oI body g i b s (mkRec fn tm D .ready none))) (hl : γ 1005 = some (.cell l)) (h7 : ARel γ M (.ref 7 0) (tm.getD 7 undef)) (h8 : ARel γ M (.ref 8 0) (tm.getD 8 undef))
    (ht : ARel γ M (.p (.str t)) vt) (hn : ARel γ M (.p (.int .i64 nx)) vn) (hsz : tm.size = 98) (hg : g.length ≤ 1000000) (hx : ∀ x ∈ g, x.length ≤ 1000000) (htl : t.length ≤ 1000000) :
    RoundIn (FW none) 0 Tryd.prog l fn ((tm.setIfInBounds 35 vt).setIfInBounds 36 vn) rfA rfB w fun e W' => ∃ (jump : Option Code) (γ' : Nat → Option G) (M' : Mem), e = .returned (.bool jump.isNone) ∧ (stp t nx body g).1 = jump ∧
      Hold γ' M' W' (oI (stp t nx body g).2.1 (stp t nx body g).2.2 i b s (mkRec fn tm D (if jump.isNone then .ready else .done) jump)) ∧
      Chg γ (oI body g i b s (mkRec fn tm D .ready none)) M w γ' (oI (stp t nx body g).2.1 (stp t nx body g).2.2 i b s (mkRec fn tm D (if jump.isNone then .ready else .done) jump)) M' W' ∧ Kept γ γ' := by
  refine RoundIn.mono (round_st (r := mkRec fn tm D .ready none) (R := fun jump W3 => ∃ (γ' : Nat → Option G) (M' : Mem), (stp t nx body g).1 = jump ∧ Hold γ' M' W3 (oI (stp t nx body g).2.1 (stp t nx body g).2.2 i b s (mkRec fn tm D .busy none)) ∧
      Chg γ (oI body g i b s (mkRec fn tm D .ready none)) M w γ' (oI (stp t nx body g).2.1 (stp t nx body g).2.2 i b s (mkRec fn tm D .busy none)) M' W3 ∧ Kept γ γ') rfl ?_) ?_
  · have hG : CfgOk GR Tryd.prog (ctxOf w M γ (oI body g i b s (mkRec fn tm D .ready none)) keepI 98 (some l) []) := ⟨rfl, GR_env, GR_envR, ctxOf_ok, Checked.mixed Tryd.checked⟩
    have hs0 : St (ctxOf w M γ (oI body g i b s (mkRec fn tm D .ready none)) keepI 98 (some l) []) (mkS [(7, .ref 7 0), (8, .ref 8 0), (35, .p (.str t)), (36, .p (.int .i64 nx))] (oI body g i b s (mkRec fn tm D .ready none))) { tmps := (tm.setIfInBounds 35 vt).setIfInBounds 36 vn, defers := [] } w := by
      refine ⟨γ, M, hH.lend (sl_cons ?_ (sl_cons ?_ (sl_cons ?_ (sl_cons ?_ sl_nil)))) rfl (by simp [hsz])⟩
      · rw [gset (by simp [hsz]), if_neg (by decide), gset (by simp [hsz]), if_neg (by decide)]; exact h7
      · rw [gset (by simp [hsz]), if_neg (by decide), gset (by simp [hsz]), if_neg (by decide)]; exact h8
      · rw [gset (by simp [hsz]), if_neg (by decide), gset (by simp [hsz]), if_pos rfl]; exact ht
      · rw [gset (by simp [hsz]), if_pos rfl]; exact hn
    refine wpIn_piece hG (asg_eq s t body i b nx g _) hs0 fun e s1 a1 w1 hk1 hs1 => ?_
    obtain ⟨htag, hsub⟩ := kTag_get (ctxOf_ok (w := w)) hk1
    have := tagOf_normal htag
    subst this
    obtain ⟨γ1, M1, hs1⟩ := hsub _ _ hs1
    obtain ⟨hH1, hC1, hK1, hsl1, hdf1, hnt1⟩ := Hold.back hs1
    have hl1 := hK1 1005 (by decide) _ hl
    refine ⟨(hH1.raw_at lookO_hd hl1).1, ?_⟩
    obtain ⟨hH2, hC2⟩ := oI_rec (mkRec fn tm D .busy none) hH1 hl1
    have hG2 : CfgOk GR Tryd.prog (ctxOf (w1.putObj l (.loop (mkRec fn tm D .busy none))) M1 γ1 (oI body g i b s (mkRec fn tm D .busy none)) keepI 98 (some l) []) := ⟨rfl, GR_env, GR_envR, ctxOf_ok, Checked.mixed Tryd.checked⟩
    refine wpIn_piece hG2 (rnd_val s t body i b nx g (mkRec fn tm D .busy none) hg hx htl) ⟨γ1, M1, hH2.lend hsl1 hdf1 hnt1⟩ fun e s2 a2 w2 hk2 hs2 => ?_
    obtain ⟨htag2, hsub2⟩ := kTag_get (ctxOf_ok (w := w1.putObj l (.loop (mkRec fn tm D .busy none)))) hk2
    obtain ⟨γ2, M2, hs2⟩ := hsub2 _ _ hs2
    obtain ⟨hH3, hC3, hK3, _, _, _⟩ := Hold.back hs2
    have hl3 := hK3 1005 (by decide) _ hl1
    have hb := (hH3.raw_at lookO_hd hl3).1
    have hKK : Kept γ γ2 := fun k hk x hx => hK3 k hk x (hK1 k hk x hx)
    cases hj : (stp t nx body g).1 with
    | none =>
      rw [hj] at htag2
      have := tagOf_normal htag2
      subst this
      exact ⟨hb, γ2, M2, rfl, hH3, (hC1.trans hC2).trans hC3, hKK⟩
    | some c =>
      have hc : c = .exit 0 := by
        unfold stp at hj
        split at hj
        · exact (Option.some.inj hj).symm
        · split at hj <;> cases hj
      rw [hj] at htag2
      have := tagOf_exit (i := 0) htag2
      subst this
      exact ⟨hb, γ2, M2, by rw [hc], hH3, (hC1.trans hC2).trans hC3, hKK⟩
  · rintro e W' ⟨jump, W3, he, hW, γ', M', hj, hH, hC, hK⟩
    obtain ⟨hH4, hC4⟩ := oI_rec (mkRec fn tm D (if jump.isNone then .ready else .done) jump) hH (hK 1005 (by decide) _ hl)
    exact ⟨jump, γ', M', he, hj, by rw [hW]; exact hH4, by rw [hW]; exact hC.trans hC4, hK⟩

/-! ### The iterator's pieces -/
def nextL (s : List UInt8) (i b : Nat) : List UInt8 × Nat :=
  if ixS ((s.take b).drop i) 10 ≥ 0 then (trimSuf (((s.take b).drop i).take (ixS ((s.take b).drop i) 10).toNat) [13], i + (ixS ((s.take b).drop i) 10).toNat + 1) else ((s.take b).drop i, b)
theorem nextL_spec {s : List UInt8} {i b : Nat} (hi : i < b) (hb : b ≤ s.length) : linesN s i b = (i, (nextL s i b).1, (nextL s i b).2) :: linesN s (nextL s i b).2 b ∧ i < (nextL s i b).2 ∧ (nextL s i b).2 ≤ b ∧ (nextL s i b).1.length ≤ (nextL s i b).2 - i := by
  have hlen : ((s.take b).drop i).length = b - i := by simp; omega
  have hix : ixS ((s.take b).drop i) 10 = Lib.indexByte ((s.take b).drop i) 10 := ixS_u8 _ 10
  unfold nextL linesN
  rw [hix]
  rcases ixb_split 10 ((s.take b).drop i) with ⟨p, q, e, hp, hk⟩ | ⟨hn, hk⟩
  · have hl2 : p.length + 1 + q.length = b - i := by rw [← hlen, e]; simp; omega
    rw [hk, if_pos (by omega), Int.toNat_natCast]
    have hq : (s.take b).drop (i + p.length + 1) = q := by
      rw [Nat.add_assoc, ← List.drop_drop, e, show p.length + 1 = (p ++ [(10 : UInt8)]).length by simp, show p ++ 10 :: q = (p ++ [10]) ++ q by simp, List.drop_left]
    have hp2 : ((s.take b).drop i).take p.length = p := by rw [e, List.take_left]
    refine ⟨?_, by omega, by dsimp only; omega, ?_⟩
    · dsimp only
      rw [hq, hp2, e, lnF_nl [] i hp, List.nil_append]
    · dsimp only
      have := trimSuf_len (((s.take b).drop i).take p.length) [13]
      rw [hp2] at this ⊢
      omega
  · rw [hk, if_neg (by decide)]
    refine ⟨?_, hi, Nat.le_refl _, by dsimp only; omega⟩
    have h0 : (s.take b).drop i ≠ [] := by intro h; rw [h] at hlen; simp at hlen; omega
    rw [lnF_end [] i hn, List.nil_append, if_neg h0, hlen]
    have : (s.take b).drop b = [] := by rw [List.drop_eq_nil_iff]; simp; omega
    dsimp only
    rw [this, lnF, if_pos rfl, show i + (b - i) = b by omega]
theorem linesN_nil {s : List UInt8} {i b : Nat} (h : b ≤ i) : linesN s i b = [] := by
  have : (s.take b).drop i = [] := by rw [List.drop_eq_nil_iff]; simp; omega
  unfold linesN; rw [this, lnF, if_pos rfl]
theorem it_val {l : Nat} {s : List UInt8} {i b : Nat} {body : Int} {g : List (List UInt8)} {rec : Loop} (hi : i < b) (hb : b ≤ s.length) (hs : s.length ≤ 1000000) :
    runC GI agNone [] (at_ cI [0, 0, 0]) (mkS [(0, .clo (.yield l) [] []), (1, .ref 1001 0), (2, .ref 1002 0), (3, .ref 1003 0)] (oI body g i b s rec)) (kNext GI (at_ cI [0, 0, 1, 0, 0]) (kNext GI (at_ cI [0, 0, 1, 0, 1, 0]) (kTag keepI cutI))) =
      some (.tup [.p (.int .i64 (-1)), .clo (.yield l) [] [], .ref 1001 0, .ref 1002 0, .ref 1003 0, .p (.str (nextL s i b).1), .p (.int .i64 ((nextL s i b).2 : Nat))], oI body g i b s rec) := by
  rw [it_eq]
  have hlen : ((s.take b).drop i).length = b - i := by simp; omega
  refine cond_t (by simpa using hi) (need_mk ⟨by omega, by omega, by omega⟩ ?_)
  rw [Int.toNat_natCast, Int.toNat_natCast]
  unfold nextL
  have h := ixS_lt ((s.take b).drop i) 10
  by_cases hc : ixS ((s.take b).drop i) 10 ≥ 0
  · rw [if_pos hc]
    have e : (i : Int) + ixS ((s.take b).drop i) 10 + 1 = ((i + (ixS ((s.take b).drop i) 10).toNat + 1 : Nat) : Int) := by omega
    refine cond_t (by simpa using hc) (need_mk ⟨by omega, by omega⟩ (need_mk (by simp; omega) (need_mk (by unfold i64ok; omega) (need_mk (by unfold i64ok; omega) ?_))))
    rw [e]
  · rw [if_neg hc]
    exact cond_f (by simpa using hc) rfl
theorem it_end {l : Nat} {s : List UInt8} {i b : Nat} {body : Int} {g : List (List UInt8)} {rec : Loop} (hi : ¬ i < b) :
    runC GI agNone [] (at_ cI [0, 0, 0]) (mkS [(0, .clo (.yield l) [] []), (1, .ref 1001 0), (2, .ref 1002 0), (3, .ref 1003 0)] (oI body g i b s rec)) (kNext GI (at_ cI [0, 0, 1, 0, 0]) (kNext GI (at_ cI [0, 0, 1, 0, 1, 0]) (kTag keepI cutI))) =
      some (.tup [.p (.int .i64 0), .clo (.yield l) [] [], .ref 1001 0, .ref 1002 0, .ref 1003 0, .any, .any], oI body g i b s rec) := by
  rw [it_eq]
  exact cond_f (by simp; omega) rfl
end Go.Proofs.YthfgklcdkehgjaaDoor
