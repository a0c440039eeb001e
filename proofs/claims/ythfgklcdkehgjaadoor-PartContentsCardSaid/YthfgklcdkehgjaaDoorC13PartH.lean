/-
  Lifted functions, and facts about them.
-/
import Derived.Test.YthfgklcdkehgjaaDoorRows
import Derived.Test.YthfgklcdkehgjaaDoorAmC
import Derived.Test.YthfgklcdkehgjaaDoorC13Lits
import Derived.Test.YthfgklcdkehgjaaDoorC13PartG
namespace Go.Proofs.YthfgklcdkehgjaaDoor
open Go Go.Am
set_option linter.unusedVariables false
/-! The tree of parts, as the document has it: the loop over the lines. -/
theorem Bcpart_10_spec (k F f1 b : Nat) (dp : Int) (mk : List UInt8) (L : List (Int × List UInt8 × Int)) (o i : Nat) (en : Bool) (y : Nat)
    (z1 z2 : List UInt8) (z3 : Bool) (z4 z5 z6 : Int) (ty : List UInt8) (ps : List (List UInt8 × List UInt8)) (ec : List UInt8) (at_ : Bool) (h f t : Int) (z7 : List (List UInt8 × List UInt8)) (z8 acc : List Part) (s : List UInt8) (n : Int)
    (D : Nat) (hD : (6 - (dp + 1)).toNat = D) (hD5 : D ≤ 5) (hk : ∀ n : Int, 0 ≤ n → n ≤ 30 → ofok k s (dp + 1) o y n) (hdp : 0 ≤ dp ∧ dp ≤ 6) (ha : acc.length ≤ 1000001) (hn : 0 ≤ n) (hn1 : n ≤ 40) (l : List (Int × Int))
    (nxt : ∀ (acc' : List Part) (n' : Int), acc'.length ≤ acc.length + 1 → 0 ≤ n' → n' ≤ 40 → Bcpart_11 k F f1 (b : Int) dp mk L (i : Int) en z1 z2 z3 z4 z5 z6 ty ps ec at_ h f t z7 z8 acc' s n' = cpR ty ps ec at_ h f t s acc' (kidsP 0 (treeP 0 s D) l n')) :
    Bcpart_10 k F f1 (b : Int) dp mk L (o : Int) (i : Int) en (y : Int) z1 z2 z3 z4 z5 z6 ty ps ec at_ h f t z7 z8 acc s n = cpR ty ps ec at_ h f t s acc (kidsP 0 (treeP 0 s D) (((o : Int), (y : Int)) :: l) n) := by
  rw [Bcpart_10_eq, hD, part_eta, cpR_cons]
  by_cases hr : n + 1 ≤ 30
  · rw [if_pos hr]
    have hc := tree_cnt (e := 0) (by decide) (by decide) s D o y (n + 1) (by omega) hr
    refine cond_t (by simp; omega) (need_mk (by unfold i64ok; omega) (need_mk (hk (n + 1) (by omega) hr) (need_mk (by simp; omega) (need_mk (by unfold i64ok; omega) (need_mk (hk (n + 1) (by omega) hr) (need_mk (by simp; omega) ?_))))))
    exact nxt _ _ (by simp) (by omega) (by omega)
  · rw [if_neg hr]
    exact cond_f (by simp; omega) (nxt _ _ (by omega) hn hn1)
theorem Bcpart_spec (k F b : Nat) (dp : Int) (mk s : List UInt8) (hs : s.length ≤ 1000000) (hb : b ≤ s.length) (hmk : mk.length ≤ 1000000)
    (z1 z2 : List UInt8) (z3 : Bool) (z4 z5 z6 : Int) (ty : List UInt8) (ps : List (List UInt8 × List UInt8)) (ec : List UInt8) (at_ : Bool) (h f t : Int) (z7 : List (List UInt8 × List UInt8)) (z8 : List Part)
    (D : Nat) (hD : (6 - (dp + 1)).toNat = D) (hD5 : D ≤ 5) (hk : ∀ x y n : Int, 0 ≤ x → x ≤ y → y ≤ b → 0 ≤ n → n ≤ 30 → ofok k s (dp + 1) x y n) (hdp : 0 ≤ dp ∧ dp ≤ 6) (L : List (Nat × List UInt8 × Nat)) (hL : L.length ≤ 1000000) : ∀ (r : List (Nat × List UInt8 × Nat)) (fu i p : Nat) (op : Option Nat) (acc : List Part) (n : Int), L.drop i = r → r = linesN s p b → r.length < fu → i ≤ L.length → p ≤ b → (∀ o, op = some o → o ≤ p) → acc.length ≤ i → 0 ≤ n → n ≤ 40 →
    Bcpart_6 k F fu (b : Int) dp mk (L.map castL) (opI op) (i : Int) z1 z2 z3 z4 z5 z6 ty ps ec at_ h f t z7 z8 acc s n = cpR ty ps ec at_ h f t s acc (kidsP 0 (treeP 0 s D) ((spF s ([45, 45] ++ mk) b r op []).map spanI) n) := by
  intro r
  induction r with
  | nil =>
    intro fu i p op acc n hd hr hf hi hp ho ha hn hn1
    have hiL : i = L.length := by have := congrArg List.length hd; simp at this; omega
    cases fu with
    | zero => omega
    | succ fu =>
      rw [Bcpart_6_eq, List.length_map]
      refine cond_t (by simp; omega) (cond_f (by simp; omega) ?_)
      have h11 : ∀ (acc' : List Part) (n' : Int), acc'.length ≤ acc.length + 1 → 0 ≤ n' → n' ≤ 40 → Bcpart_11 k F fu (b : Int) dp mk (L.map castL) (i : Int) false z1 z2 z3 z4 z5 z6 ty ps ec at_ h f t z7 z8 acc' s n' = cpR ty ps ec at_ h f t s acc' (kidsP 0 (treeP 0 s D) [] n') := by
        intro acc' n' h1 h2 h3
        rw [Bcpart_11_eq, List.length_map]
        refine cond_t (by simp; omega) ?_
        rw [Bcpart_12_eq, kidsP]
        unfold cpR
        rw [List.append_nil]
      rw [Bcpart_9_eq, List.length_map]
      cases op with
      | none => exact cond_f rfl (h11 acc n (by omega) hn hn1)
      | some o =>
        have h1 := ho o rfl
        refine cond_t (by simp [opI]) (cond_f (by simp; omega) ?_)
        exact Bcpart_10_spec k F fu b dp mk (L.map castL) o i false b z1 z2 z3 z4 z5 z6 ty ps ec at_ h f t z7 z8 acc s n D hD hD5 (fun m h2 h3 => hk _ _ _ (by omega) (by omega) (by omega) h2 h3) hdp (by omega) hn hn1 [] h11
  | cons c r ih =>
    intro fu i p op acc n hd hr hf hi hp ho ha hn hn1
    have hpb : p < b := by
      refine Classical.byContradiction fun q => ?_
      rw [linesN_nil (by omega)] at hr; cases hr
    obtain ⟨y1, y2, y3, y4⟩ := nextL_spec hpb hb
    rw [y1] at hr
    obtain ⟨tx, ht⟩ : ∃ t, (nextL s p b).1 = t := ⟨_, rfl⟩
    obtain ⟨nx, hx⟩ : ∃ nx, (nextL s p b).2 = nx := ⟨_, rfl⟩
    rw [ht, hx] at hr
    rw [hx] at y2 y3
    rw [ht, hx] at y4
    obtain ⟨rfl, rfl⟩ := List.cons.inj hr
    have hdm : (L.map castL).drop i = castL (p, tx, nx) :: (linesN s nx b).map castL := by rw [← List.map_drop, hd]; rfl
    obtain ⟨k1, _, k3⟩ := dropG hdm ((0 : Int), ([], (0 : Int)))
    obtain ⟨_, g2, g3⟩ := dropG hd (0, [], 0)
    rw [List.length_map] at k3
    cases fu with
    | zero => omega
    | succ fu =>
      have h8 : ∀ (op' : Option Nat) (acc' : List Part) (n' : Int), (∀ o, op' = some o → o ≤ nx) → acc'.length ≤ i + 1 → 0 ≤ n' → n' ≤ 40 → Bcpart_8 k F fu (b : Int) dp mk (L.map castL) (opI op') (i : Int) z1 z2 z3 z4 z5 z6 ty ps ec at_ h f t z7 z8 acc' s n' = cpR ty ps ec at_ h f t s acc' (kidsP 0 (treeP 0 s D) ((spF s ([45, 45] ++ mk) b (linesN s nx b) op' []).map spanI) n') := by
        intro op' acc' n' h1 h2 h3 h4
        rw [Bcpart_8_eq]
        refine need_mk (by unfold i64ok; omega) ?_
        rw [show (i : Int) + 1 = ((i + 1 : Nat) : Int) by omega]
        exact ih fu (i + 1) nx op' acc' n' g2 rfl (by simp at hf; omega) (by omega) y3 h1 h2 h3 h4
      -- a mark
      have h9 : ∀ (en : Bool) (l : List (Int × Int)), (∀ (acc' : List Part) (n' : Int), acc'.length ≤ acc.length + 1 → 0 ≤ n' → n' ≤ 40 → Bcpart_11 k F fu (b : Int) dp mk (L.map castL) (i : Int) en z1 z2 z3 z4 z5 z6 ty ps ec at_ h f t z7 z8 acc' s n' = cpR ty ps ec at_ h f t s acc' (kidsP 0 (treeP 0 s D) l n')) →
          Bcpart_9 k F fu (b : Int) dp mk (L.map castL) (opI op) (i : Int) en z1 z2 z3 z4 z5 z6 ty ps ec at_ h f t z7 z8 acc s n = cpR ty ps ec at_ h f t s acc (kidsP 0 (treeP 0 s D) ((addS s op p []).map spanI ++ l) n) := by
        intro en l h11
        rw [Bcpart_9_eq, List.length_map, Int.toNat_natCast, k1]
        cases op with
        | none => exact cond_f rfl (h11 acc n (by omega) hn hn1)
        | some o =>
          have h1 := ho o rfl
          refine cond_t (by simp [opI]) (cond_t (by simp; omega) (need_mk ⟨by omega, by omega⟩ (need_mk ⟨by show (0 : Int) ≤ (o : Int); omega, by show (o : Int) ≤ (p : Int); omega, by show (p : Int) ≤ _; omega, hs⟩ ?_)))
          have hmx : (if ((backN s ((castL (p, tx, nx)).1).toNat (opI (some o)).toNat : Nat) : Int) > opI (some o) then ((backN s ((castL (p, tx, nx)).1).toNat (opI (some o)).toNat : Nat) : Int) else opI (some o)) = ((maxN o (aheadN s p) : Nat) : Int) := by
            show (if ((backN s ((p : Int)).toNat ((o : Int)).toNat : Nat) : Int) > (o : Int) then ((backN s ((p : Int)).toNat ((o : Int)).toNat : Nat) : Int) else (o : Int)) = _
            rw [Int.toNat_natCast, Int.toNat_natCast, maxI, back_ahead s h1]
          rw [hmx]
          have hle := (aheadN_le s p).1
          have hm1 : o ≤ maxN o (aheadN s p) ∧ maxN o (aheadN s p) ≤ p := by unfold maxN; split <;> omega
          exact Bcpart_10_spec k F fu b dp mk (L.map castL) o i en (maxN o (aheadN s p)) z1 z2 z3 z4 z5 z6 ty ps ec at_ h f t z7 z8 acc s n D hD hD5 (fun m h2 h3 => hk _ _ _ (by omega) (by omega) (by omega) h2 h3) hdp (by omega) hn hn1 l h11
      rw [Bcpart_6_eq, List.length_map, Int.toNat_natCast, k1]
      refine cond_t (by simp; omega) (cond_t (by simp; omega) (need_mk ⟨by omega, by omega⟩ (need_mk (by show tx.length ≤ _; omega) (need_mk (by unfold lenok; simp; omega) (need_mk (by unfold lenok; simp; omega) ?_)))))
      rw [Bcpart_7_eq]
      refine need_mk (fun _ => by unfold lenok; simp; omega) ?_
      show cond (!(trimRB tx == ([45, 45] ++ mk) ++ [45, 45]) && (trimRB tx != ([45, 45] ++ mk))) _ (Bcpart_9 k F fu (b : Int) dp mk (L.map castL) (opI op) (i : Int) (trimRB tx == ([45, 45] ++ mk) ++ [45, 45]) z1 z2 z3 z4 z5 z6 ty ps ec at_ h f t z7 z8 acc s n) = _
      rw [spF]
      by_cases he : trimRB tx = ([45, 45] ++ mk) ++ [45, 45]
      · rw [if_pos he, he]
        refine cond_f (by simp) ?_
        have := h9 true [] fun acc' n' h1 h2 h3 => by
          rw [Bcpart_11_eq, List.length_map]
          refine cond_t rfl ?_
          rw [Bcpart_12_eq, kidsP]
          unfold cpR
          rw [List.append_nil]
        rw [List.append_nil] at this
        rw [beq_self_eq_true]; exact this
      · have heb : (trimRB tx == ([45, 45] ++ mk) ++ [45, 45]) = false := by rw [beq_eq_false_iff_ne]; exact he
        rw [if_neg he, heb]
        by_cases hm : trimRB tx = [45, 45] ++ mk
        · rw [if_pos hm]
          refine cond_f (by rw [hm]; simp) ?_
          rw [spF_out, List.map_append]
          refine h9 false _ fun acc' n' h1 h2 h3 => ?_
          rw [Bcpart_11_eq, List.length_map, Int.toNat_natCast, k1]
          refine cond_f (by simp; omega) (need_mk ⟨by omega, by omega⟩ ?_)
          exact h8 (some nx) acc' n' (fun o h => by cases h; omega) (by omega) h2 h3
        · rw [if_neg hm]
          refine cond_t (by simp only [Bool.not_false, Bool.true_and, bne_iff_ne]; exact hm) ?_
          exact h8 op acc n (fun o h => by have := ho o h; omega) (by omega) hn hn1
theorem paramP_nlen (s : List UInt8) : (paramP s).1.1.length ≤ s.length := by
  have hl := trimLB_len s
  have h1 := nameP_len (trimLB s)
  have h2 := nameP_len ((trimLB s).takeWhile nsep)
  have h3 : ((trimLB s).takeWhile nsep).length ≤ (trimLB s).length := (List.takeWhile_prefix _).length_le
  unfold paramP
  split
  · dsimp only; omega
  · split
    · dsimp only; omega
    · split
      · dsimp only; omega
      · split <;> (dsimp only; omega)
theorem valsP_nlen (N : Nat) : ∀ (n : Nat) (r : List UInt8) (m : Bool) (l : List (List UInt8 × List UInt8)), r.length ≤ N → (∀ x ∈ l, x.1.length ≤ N) → ∀ x ∈ valsP n r m l, x.1.length ≤ N
  | 0, r, m, l, hr, hl => hl
  | n + 1, r, m, l, hr, hl => by
    rw [valsP]
    split
    · have h1 := (paramP_le r).1
      have h2 := paramP_nlen r
      refine valsP_nlen N n _ _ _ (by omega) ?_
      split
      · intro x hx
        rcases List.mem_append.1 hx with hx | hx
        · exact hl x hx
        · rw [List.mem_singleton.1 hx]; omega
      · exact hl
    · exact hl
theorem one_names (s : List UInt8) (a b : Int) (hs : s.length ≤ 1000000) : ∀ x ∈ (oneP s a b).params, x.1.length ≤ 140737488355328 := by
  have hel := splitS_elem s a b
  have hv := firstS_len (l := (splitS s a b).1) (n := cType) (k := s.length) fun x hx => (hel x hx).2
  show ∀ x ∈ (typeF (splitS s a b).1).2, _
  obtain ⟨l, hl⟩ : ∃ l, (splitS s a b).1 = l := ⟨_, rfl⟩
  rw [hl] at hv ⊢
  unfold typeF
  split
  · split
    · have hc := cutS_len (firstS l cType).1 59
      have := valsP_nlen (firstS l cType).1.length ((firstS l cType).1.length + 1) (cutS (firstS l cType).1 59).2.1 (cutS (firstS l cType).1 59).2.2 [] (by omega) (by simp)
      exact fun x hx => by have := this x hx; omega
    · simp [plainT]
  · simp [plainT]
theorem hasP_ten (ty : List UInt8) : ((decide ((ty.length : Int) < (10 : Int))) || ((ty.take ((10 : Int)).toNat) != ([109, 117, 108, 116, 105, 112, 97, 114, 116, 47] : List UInt8))) = !(hasP ty [109, 117, 108, 116, 105, 112, 97, 114, 116, 47]) := by
  unfold hasP
  show _ = (ty.take 10 != ([109, 117, 108, 116, 105, 112, 97, 114, 116, 47] : List UInt8))
  rw [show ((10 : Int)).toNat = 10 from rfl]
  cases hc : (ty.take 10 != ([109, 117, 108, 116, 105, 112, 97, 114, 116, 47] : List UInt8)) with
  | true => rw [Bool.or_true]
  | false =>
    rw [Bool.or_false, decide_eq_false_iff_not]
    have := congrArg List.length (bne_eq_false_iff_eq.1 hc)
    simp at this; omega
theorem bnd_cond (ty : List UInt8) (ps : List (List UInt8 × List UInt8)) (hn : ∀ x ∈ ps, foldS x.1 = x.1) (dp : Int) :
    (((((decide (dp ≥ (6 : Int))) || (decide ((ty.length : Int) < (10 : Int)))) || ((ty.take ((10 : Int)).toNat) != ([109, 117, 108, 116, 105, 112, 97, 114, 116, 47] : List UInt8))) || (!((firstS ps bndL).2))) || (((firstS ps bndL).1) == ([] : List UInt8))) = ((decide (dp ≥ 6)) || (boundP ty ps == [])) := by
  rw [Bool.or_assoc (decide (dp ≥ 6)), hasP_ten, Bool.or_assoc, Bool.or_assoc]
  congr 1
  have hf : ((!((firstS ps bndL).2)) || (((firstS ps bndL).1) == ([] : List UInt8))) = ((firstS ps bndL).1 == []) := by
    cases h : (firstS ps bndL).2 with
    | true => rw [Bool.not_true, Bool.false_or]
    | false => rw [firstS_none ps h]; rfl
  rw [hf, bnd_find ps hn]
  unfold boundP
  cases hc : hasP ty [109, 117, 108, 116, 105, 112, 97, 114, 116, 47] with
  | true =>
    rw [if_pos rfl, Bool.not_true, Bool.false_or]
    cases List.find? (fun x => x.1 == [98, 111, 117, 110, 100, 97, 114, 121]) ps <;> rfl
  | false => rw [if_neg (by simp)]; rfl
theorem bnd_mark (ty : List UInt8) (ps : List (List UInt8 × List UInt8)) (hn : ∀ x ∈ ps, foldS x.1 = x.1) (h : boundP ty ps ≠ []) : (firstS ps bndL).1 = boundP ty ps := by
  rw [bnd_find ps hn]
  unfold boundP at h ⊢
  cases hc : hasP ty [109, 117, 108, 116, 105, 112, 97, 114, 116, 47] with
  | true =>
    rw [if_pos rfl]
    cases List.find? (fun x => x.1 == [98, 111, 117, 110, 100, 97, 114, 121]) ps <;> rfl
  | false => rw [hc, if_neg (by simp)] at h; exact absurd rfl h
theorem cpart_eq (k : Nat) (a b dp : Int) (s : List UInt8) (n : Int) (h : ofok (k + 1) s dp a b (n + 1)) : Fcpart k (s.length + 2) a b dp s n = cpR (treeP 0 s (6 - dp).toNat a b (n + 1)).1.type (treeP 0 s (6 - dp).toNat a b (n + 1)).1.params (treeP 0 s (6 - dp).toNat a b (n + 1)).1.enc (treeP 0 s (6 - dp).toNat a b (n + 1)).1.attach (treeP 0 s (6 - dp).toNat a b (n + 1)).1.head (treeP 0 s (6 - dp).toNat a b (n + 1)).1.frm (treeP 0 s (6 - dp).toNat a b (n + 1)).1.til s [] ((treeP 0 s (6 - dp).toNat a b (n + 1)).1.kids, (treeP 0 s (6 - dp).toNat a b (n + 1)).2) := by
  obtain ⟨d0, d1, d2, a0, a1, a2, hs, n0, n1⟩ := h
  obtain ⟨w1, w2⟩ := one_params s a b
  obtain ⟨g1, g2⟩ := body_ok a0 a1 a2
  have hel := splitS_elem s a b
  have hll := splitS_len s a b
  have hk : ∀ n : List UInt8, n.length ≤ 100 → firstok (splitS s a b).1 n := fun n hn => ⟨by omega, fun x hx => by have := (hel x hx).1; omega, by omega⟩
  have hv : ∀ n : List UInt8, (firstS (splitS s a b).1 n).1.length ≤ 1000000 := fun n => firstS_len fun x hx => by have := (hel x hx).2; omega
  have e1 : ∀ l : List (List UInt8 × List UInt8), firstS l [67, 111, 110, 116, 101, 110, 116, 45, 84, 121, 112, 101] = firstS l cType := firstS_fold (by decide)
  have e2 : ∀ l : List (List UInt8 × List UInt8), firstS l LB_70cef6b0 = firstS l LB_7e72d125 := firstS_fold (by decide)
  have e3 : ∀ l : List (List UInt8 × List UInt8), firstS l LB_6066e367 = firstS l LB_476f38ec := firstS_fold (by decide)
  have hbl : ∀ v : List UInt8, (trimBl v).length ≤ v.length := trimBl_len
  rw [Fcpart_eq]
  refine need_mk (by unfold i64ok; omega) (need_mk hs (need_mk (hk _ (by decide)) ?_))
  have key : ∀ D, (6 - dp).toNat = D → ∀ (ty : List UInt8) (ps : List (List UInt8 × List UInt8)) (enc : List UInt8) (att : Bool), ty = (oneP s a b).type → ps = (oneP s a b).params → enc = (oneP s a b).enc → att = (oneP s a b).attach →
      Bcpart_4 k (s.length + 2) b dp (oneP s a b).frm [] [] false 0 0 0 ty ps enc att a (oneP s a b).frm b [] [] [] s (n + 1) = cpR (treeP 0 s D a b (n + 1)).1.type (treeP 0 s D a b (n + 1)).1.params (treeP 0 s D a b (n + 1)).1.enc (treeP 0 s D a b (n + 1)).1.attach (treeP 0 s D a b (n + 1)).1.head (treeP 0 s D a b (n + 1)).1.frm (treeP 0 s D a b (n + 1)).1.til s [] ((treeP 0 s D a b (n + 1)).1.kids, (treeP 0 s D a b (n + 1)).2) := by
    rintro D hD _ _ _ _ rfl rfl rfl rfl
    have hnm : ∀ x ∈ (oneP s a b).params, foldS x.1 = x.1 := typeF_names _
    have hnl : ∀ x ∈ (oneP s a b).params, x.1.length ≤ 140737488355328 := one_names s a b hs
    rw [Bcpart_4_eq]
    refine need_mk ⟨by simp, hnl, by omega⟩ (need_mk (fun hx => ⟨by omega, ?_⟩) ?_)
    · simp only [Bool.not_eq_true', Bool.or_eq_false_iff, decide_eq_false_iff_not] at hx; omega
    · rw [Bcpart_5_eq]
      have hcnd := bnd_cond (oneP s a b).type (oneP s a b).params hnm dp
      unfold bndL at hcnd
      rw [hcnd]
      show cond (decide (dp ≥ 6) || (markP s a b == [])) _ _ = _
      cases D with
      | zero => exact cond_t (by simp; omega) (by rw [treeP]; rfl)
      | succ D =>
        rw [treeP]
        by_cases hm : markP s a b = []
        · rw [if_pos hm]
          exact cond_t (by rw [hm]; simp) rfl
        · rw [if_neg hm]
          have hml := mark_len s a b
          have hmk := bnd_mark (oneP s a b).type (oneP s a b).params hnm hm
          unfold bndL at hmk
          refine cond_f (by simp [hm]; omega) (need_mk ⟨by omega, by omega, by omega, hs⟩ ?_)
          rw [hmk]
          show Bcpart_6 k (s.length + 2) (s.length + 2) b dp (markP s a b) (linesS s (oneP s a b).frm b) (-1 : Int) (0 : Int) [] [] false 0 0 0 (oneP s a b).type (oneP s a b).params (oneP s a b).enc (oneP s a b).attach a (oneP s a b).frm b [] [] [] s (n + 1) = _
          unfold linesS
          obtain ⟨f', hf'⟩ : ∃ x, (oneP s a b).frm = x := ⟨_, rfl⟩
          have hsp : spansP s a b = (spansN s f'.toNat b.toNat ([45, 45] ++ markP s a b)).map spanI := by unfold spansP spansI; rw [hf']; rfl
          rw [hf'] at g1 g2 ⊢
          obtain ⟨nf, rfl⟩ := Int.eq_ofNat_of_zero_le (Int.le_trans a0 g1)
          obtain ⟨nb, rfl⟩ := Int.eq_ofNat_of_zero_le (Int.le_trans a0 a1)
          rw [Int.toNat_natCast, Int.toNat_natCast] at hsp
          rw [Int.toNat_natCast, Int.toNat_natCast]
          have hlo := (linesN_ok (s := s) (b := nb) (by omega) (nb - nf) nf rfl (by omega)).2
          have := Bcpart_spec k (s.length + 2) nb dp (markP s a (nb : Int)) s hs (by omega) (by omega) [] [] false 0 0 0 (oneP s a (nb : Int)).type (oneP s a (nb : Int)).params (oneP s a (nb : Int)).enc (oneP s a (nb : Int)).attach a (nf : Int) (nb : Int) [] [] D (by omega) (by omega) (fun x y m q1 q2 q3 q4 q5 => ⟨by omega, by omega, by omega, q1, q2, by omega, hs, q4, q5⟩) ⟨d0, d1⟩ (linesN s nf nb) (by omega) (linesN s nf nb) (s.length + 2) 0 nf none [] (n + 1) rfl rfl (by omega) (by omega) (by omega) (fun o h => by cases h) (by simp) (by omega) (by omega)
          refine this.trans ?_
          have hfr : (withKids (oneP s a (nb : Int)) (kidsP 0 (treeP 0 s D) (spansP s a (nb : Int)) (n + 1)).1).frm = (nf : Int) := hf'
          rw [hfr, hsp]
          rfl
  generalize hDD : (6 - dp).toNat = D
  have key := key D hDD
  obtain ⟨RES, hR⟩ : ∃ z, z = cpR (treeP 0 s D a b (n + 1)).1.type (treeP 0 s D a b (n + 1)).1.params (treeP 0 s D a b (n + 1)).1.enc (treeP 0 s D a b (n + 1)).1.attach (treeP 0 s D a b (n + 1)).1.head (treeP 0 s D a b (n + 1)).1.frm (treeP 0 s D a b (n + 1)).1.til s [] ((treeP 0 s D a b (n + 1)).1.kids, (treeP 0 s D a b (n + 1)).2) := ⟨_, rfl⟩
  rw [← hR] at key ⊢
  have hfrm : (oneP s a b).frm = (splitS s a b).2 := rfl
  rw [hfrm] at key
  have kt : (oneP s a b).type = (typeF (splitS s a b).1).1 := rfl
  have kp : (oneP s a b).params = (typeF (splitS s a b).1).2 := rfl
  have ke : (oneP s a b).enc = encF (splitS s a b).1 := rfl
  have ka : (oneP s a b).attach = attF (splitS s a b).1 := rfl
  rw [kt, kp, ke, ka] at key
  obtain ⟨l, hl⟩ : ∃ l, (splitS s a b).1 = l := ⟨_, rfl⟩
  obtain ⟨body, hb⟩ : ∃ x, (splitS s a b).2 = x := ⟨_, rfl⟩
  rw [hl] at hk hv key ⊢
  rw [hb] at key ⊢
  rw [e1]
  have k3 : ∀ (ty : List UInt8 × List (List UInt8 × List UInt8)) (enc : List UInt8), ty = typeF l → enc = encF l → Bcpart_3 k (s.length + 2) b dp l body [] [] false 0 0 0 ty.1 ty.2 enc false a body b [] [] [] s (n + 1) = RES := by
    rintro _ _ rfl rfl
    rw [Bcpart_3_eq, e3]
    refine need_mk (hk _ (by decide)) (need_mk (hv _) ?_)
    refine key _ _ _ _ rfl rfl rfl ?_
    unfold attF
    cases hc : (firstS l LB_476f38ec).2 with
    | true => rw [if_pos rfl]
    | false => rw [firstS_none l hc, if_neg (by simp)]; decide +kernel
  have k2 : ∀ (ty : List UInt8 × List (List UInt8 × List UInt8)), ty = typeF l → Bcpart_2 k (s.length + 2) b dp l body [] [] false 0 0 0 ty.1 ty.2 ([55, 98, 105, 116] : List UInt8) false a body b [] [] [] s (n + 1) = RES := by
    rintro _ rfl
    rw [Bcpart_2_eq, e2]
    refine need_mk (hk _ (by decide)) ?_
    have k3 := k3 (typeF l)
    unfold encF at k3
    cases hc : (firstS l LB_7e72d125).2 with
    | true =>
      rw [hc, if_pos rfl] at k3
      refine cond_t rfl (need_mk (hv _) (need_mk ?_ (k3 _ rfl rfl)))
      have h1 := hbl (firstS l LB_7e72d125).1
      have h2 := hv LB_7e72d125
      omega
    | false => rw [hc, if_neg (by simp)] at k3; exact cond_f rfl (k3 _ rfl rfl)
  rw [Bcpart_1_eq]
  refine need_mk (hv _) (need_mk (fun _ => ?_) ?_)
  · have hcl := cutS_len (firstS l cType).1 59
    have hnl := nameP_len (cutS (firstS l cType).1 59).1
    have hv1 := hv cType
    show (nameP (cutS (firstS l cType).1 59).1).length ≤ _
    omega
  · cases hc : (firstS l cType).2 with
    | false => exact cond_f rfl (k2 plainT (by unfold typeF; rw [hc, if_neg (by simp)]))
    | true =>
      cases ht : typedP (valuesP (firstS l cType).1).1 with
      | true => exact cond_t rfl (k2 (valuesP (firstS l cType).1) (by unfold typeF; rw [hc, if_pos rfl, ht, if_pos rfl]))
      | false => exact cond_f rfl (k2 plainT (by unfold typeF; rw [hc, if_pos rfl, ht, if_neg (by simp)]))
end Go.Proofs.YthfgklcdkehgjaaDoor
