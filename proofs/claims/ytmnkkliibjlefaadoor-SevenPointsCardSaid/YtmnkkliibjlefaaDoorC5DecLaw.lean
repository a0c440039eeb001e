/-
  Lifted functions, and facts about them.
-/
import Derived.Test.YtmnkkliibjlefaaDoorRows
import Derived.Test.YtmnkkliibjlefaaDoorAmC
import Derived.Test.YtmnkkliibjlefaaDoorC5Dec7
namespace Go.Proofs.YtmnkkliibjlefaaDoor
open Go Go.Am
set_option linter.unusedVariables false
/-! Decoding what was encoded. -/
def unitsL (ps : List Nat) : List UInt8 := ps.flatMap fun r : Nat => unitsS (r : Int)
theorem two_bv (n : Nat) (h : n < 65536) : ∃ a b, twoS (n : Int) = [a, b] ∧ bv a b = n := by
  refine ⟨_, _, rfl, ?_⟩
  unfold bv
  rw [UInt8.toNat_ofNat', UInt8.toNat_ofNat', Int.toNat_natCast]
  omega
theorem units_lo {r : Nat} (h : r < 65536) : ∃ a b, unitsS (r : Int) = [a, b] ∧ bv a b = r := by
  rw [unitsS, if_pos (by omega)]; exact two_bv r h
theorem units_hi {r : Nat} (h : 65536 ≤ r) (h2 : r ≤ 1114111) : ∃ a b c d, unitsS (r : Int) = [a, b, c, d] ∧ bv a b = 55296 + (r - 65536) / 1024 ∧ bv c d = 56320 + (r - 65536) % 1024 := by
  obtain ⟨k, rfl⟩ : ∃ k, r = 65536 + k := ⟨r - 65536, by omega⟩
  have ek : ((65536 + k : Nat) : Int) - 65536 = (k : Int) := by omega
  have eu : unitsS ((65536 + k : Nat) : Int) = twoS ((55296 + k / 1024 : Nat) : Int) ++ twoS ((56320 + k % 1024 : Nat) : Int) := by
    rw [unitsS, if_neg (by omega), ek]; rfl
  obtain ⟨a, b, e1, h1⟩ := two_bv (55296 + k / 1024) (by omega)
  obtain ⟨c, d, e2, h3⟩ := two_bv (56320 + k % 1024) (by omega)
  exact ⟨a, b, c, d, by rw [eu, e1, e2]; rfl, by rw [h1, Nat.add_sub_cancel_left], by rw [h3, Nat.add_sub_cancel_left]⟩
theorem unitsL_shape {ps : List Nat} (hs : ∀ r ∈ ps, scal r) : unitsL ps = [] ∨ ∃ c d q, unitsL ps = c :: d :: q := by
  cases ps with
  | nil => exact .inl rfl
  | cons r ps =>
    right
    have h := hs r (by simp)
    unfold scal at h
    rw [unitsL, List.flatMap_cons]
    rcases Nat.lt_or_ge r 65536 with h1 | h1
    · obtain ⟨a, b, e, _⟩ := units_lo h1
      rw [e]; exact ⟨_, _, _, rfl⟩
    · obtain ⟨a, b, c, d, e, _⟩ := units_hi h1 h.1
      rw [e]; exact ⟨_, _, _, rfl⟩
theorem points_units : ∀ {ps : List Nat}, (∀ r ∈ ps, scal r) → pointsS (unitsL ps) = ps.flatMap putN
  | [], _ => rfl
  | r :: ps, hs => by
    have h := hs r (by simp)
    have hs' : ∀ x ∈ ps, scal x := fun x hx => hs x (List.mem_cons_of_mem _ hx)
    have ih := points_units hs'
    rw [List.flatMap_cons, ← ih, ← putS_nat h]
    unfold scal at h
    rw [show unitsL (r :: ps) = unitsS (r : Int) ++ unitsL ps from rfl]
    rcases Nat.lt_or_ge r 65536 with h1 | h1
    · obtain ⟨a, b, e, hb⟩ := units_lo h1
      rw [e]
      rcases unitsL_shape hs' with h0 | ⟨c, d, q, h0⟩
      · rw [h0, show ([a, b] : List UInt8) ++ [] = [a, b] from rfl, pointsS, hb]; simp [pointsS]
      · rw [h0, show ([a, b] : List UInt8) ++ c :: d :: q = a :: b :: c :: d :: q from rfl, pointsS, hb, if_neg (by omega)]
    · obtain ⟨a, b, c, d, e, hb, hd⟩ := units_hi h1 h.1
      rw [e, show ([a, b, c, d] : List UInt8) ++ unitsL ps = a :: b :: c :: d :: unitsL ps from rfl, pointsS, hb, hd, if_pos (by omega)]
      have e : 65536 + (55296 + (r - 65536) / 1024) % 1024 * 1024 + (56320 + (r - 65536) % 1024) % 1024 = r := by omega
      rw [e]
theorem rrowP_units : ∀ {ps : List Nat}, (∀ r ∈ ps, scal r) → rrowP (unitsL ps) = ps.flatMap putN
  | [], _ => rfl
  | r :: ps, hs => by
    have h := hs r (by simp)
    have hs' : ∀ x ∈ ps, scal x := fun x hx => hs x (List.mem_cons_of_mem _ hx)
    have ih := rrowP_units hs'
    rw [List.flatMap_cons, ← ih, ← putS_nat h]
    unfold scal at h
    rw [show unitsL (r :: ps) = unitsS (r : Int) ++ unitsL ps from rfl]
    rcases Nat.lt_or_ge r 65536 with h1 | h1
    · obtain ⟨a, b, e, hb⟩ := units_lo h1
      rw [e]
      rcases unitsL_shape hs' with h0 | ⟨c, d, q, h0⟩
      · rw [h0, show ([a, b] : List UInt8) ++ [] = [a, b] from rfl, rrowP, hb]; simp [rrowP]
      · rw [h0, show ([a, b] : List UInt8) ++ c :: d :: q = a :: b :: c :: d :: q from rfl, rrowP, hb, if_neg (by omega)]
    · obtain ⟨a, b, c, d, e, hb, hd⟩ := units_hi h1 h.1
      rw [e, show ([a, b, c, d] : List UInt8) ++ unitsL ps = a :: b :: c :: d :: unitsL ps from rfl, rrowP, hb, hd, if_pos (by omega)]
      have e : 65536 + (55296 + (r - 65536) / 1024 - 55296) * 1024 + (56320 + (r - 65536) % 1024 - 56320) = r := by omega
      rw [e]
theorem looseG_eqs (k : Nat) : ∀ (L : List UInt8) (bits n : Nat), looseG bits n (L ++ List.replicate k 61) = looseG bits n L
  | [], bits, n => by
    cases k with
    | zero => rfl
    | succ k => rw [List.nil_append, List.replicate_succ, looseG, looseG, if_pos rfl]
  | c :: L, bits, n => by
    rw [List.cons_append, looseG, looseG]
    simp only [looseG_eqs k L]
theorem loose_encL (o : List UInt8) : looseB (encL64 o) = o := by
  have h := looseB_enc o
  rw [encL64_pad _ o (Nat.le_refl _)] at h
  unfold looseB at *
  rw [looseG_eqs] at h
  exact h
theorem row_body (o : List UInt8) : repS (repS (encL64 o) 47 44) 44 47 = encL64 o := by
  have h := al_encL _ o (Nat.le_refl _)
  unfold repS
  rw [List.map_map]
  refine (List.map_congr_left fun c hc => ?_).trans (List.map_id _)
  have hc := h c hc
  simp only [Function.comp, id]
  by_cases h1 : c = 47
  · subst h1; rfl
  · rw [if_neg h1, if_neg]
    intro h2
    subst h2
    exact absurd hc (by decide)
theorem row_no (o : List UInt8) : ∀ x ∈ repS (encL64 o) 47 44, x ≠ 45 := by
  intro x hx e
  subst e
  unfold repS at hx
  obtain ⟨c, hc, h⟩ := List.mem_map.1 hx
  have hc := al_encL _ o (Nat.le_refl _) c hc
  split at h
  · cases h
  · subst h; exact absurd hc (by decide)
theorem row_ne {o : List UInt8} (h : o ≠ []) : repS (encL64 o) 47 44 ≠ [] := by
  intro e
  have h1 := congrArg List.length e
  have h2 := encL_len _ o (Nat.le_refl _)
  have h3 := List.length_pos_iff.2 h
  rw [repl_len] at h1
  simp at h1
  rw [h1] at h2
  simp at h2; omega
theorem unitsL_nil {ps : List Nat} (hs : ∀ r ∈ ps, scal r) (h : unitsL ps = []) : ps = [] := by
  cases ps with
  | nil => rfl
  | cons r ps =>
    have := points_units hs
    rw [h, show pointsS [] = [] from rfl, List.flatMap_cons] at this
    have h1 := putN_l r
    have h2 := putL_pos r
    have := congrArg List.length this
    simp at this; omega
theorem rawM_flush {ps : List Nat} (hs : ∀ r ∈ ps, scal r) (q : List UInt8) : rawM none (flushP (unitsL ps) ++ q) = ps.flatMap putN ++ rawM none q := by
  unfold flushP
  by_cases h : unitsL ps = []
  · rw [if_pos h, unitsL_nil hs h]; rfl
  · rw [if_neg h, rowS_eq, List.cons_append, rawM_amp, List.append_assoc, show [45] ++ q = 45 :: q from rfl, rawM_row _ (row_no _), List.nil_append, sayP, if_neg (row_ne h), row_body, loose_encL, points_units hs]
theorem refM_flush {ps : List Nat} (hs : ∀ r ∈ ps, scal r) (q : List UInt8) : refM none (flushP (unitsL ps) ++ q) = (refM none q).map (ps.flatMap putN ++ ·) := by
  unfold flushP
  by_cases h : unitsL ps = []
  · rw [if_pos h, unitsL_nil hs h, List.nil_append, List.flatMap_nil]; cases refM none q <;> rfl
  · rw [if_neg h, rowS_eq, List.cons_append, refM_amp, List.append_assoc, show [45] ++ q = 45 :: q from rfl, refM_row _ (row_no _), List.nil_append, sayR, if_neg (row_ne h), rrowS, row_body, loose_encL, rrowP_units hs]
theorem unitsL_snoc (ps : List Nat) (r : Nat) : unitsL ps ++ unitsS (r : Int) = unitsL (ps ++ [r]) := by simp [unitsL]
theorem ofNat_ne {r : Nat} (h : r ≤ 126) (h2 : r ≠ 38) : UInt8.ofNat r ≠ 38 := by
  intro e
  have := congrArg UInt8.toNat e
  rw [UInt8.toNat_ofNat'] at this
  have e38 : (38 : UInt8).toNat = 38 := rfl
  omega
theorem rawM_enc : ∀ (t ps : List Nat), (∀ r ∈ ps, scal r) → (∀ r ∈ t, scal r) → rawM none (encP (unitsL ps) t) = ps.flatMap putN ++ t.flatMap putN
  | [], ps, hp, _ => by rw [encP]; have := rawM_flush hp []; rw [List.append_nil] at this; rw [this]; rfl
  | r :: t, ps, hp, ht => by
    have hr := ht r (by simp)
    have ht' : ∀ x ∈ t, scal x := fun x hx => ht x (List.mem_cons_of_mem _ hx)
    rw [encP, List.flatMap_cons]
    by_cases hc : r < 32 ∨ r > 126
    · rw [if_pos hc, unitsL_snoc, rawM_enc t (ps ++ [r]) (fun x hx => by
        rcases List.mem_append.1 hx with h | h
        · exact hp x h
        · rw [List.mem_singleton.1 h]; exact hr) ht']
      simp
    · have e1 : putN r = [UInt8.ofNat r] := by rw [putN, if_pos (by omega)]
      have ih := rawM_enc t [] (by simp) ht'
      rw [show unitsL [] = [] from rfl, show ([] : List Nat).flatMap putN = [] from rfl, List.nil_append] at ih
      rw [if_neg hc, rawM_flush hp, e1]
      by_cases h38 : r = 38
      · subst h38
        rw [if_pos rfl, show UInt8.ofNat 38 = 38 from rfl, rawM_amp, rawM, if_pos rfl, ih]
        rfl
      · rw [if_neg h38, rawM, if_neg (ofNat_ne (by omega) h38), ih]
        rfl
theorem refM_enc : ∀ (t ps : List Nat), (∀ r ∈ ps, scal r) → (∀ r ∈ t, scal r) → refM none (encP (unitsL ps) t) = some (ps.flatMap putN ++ t.flatMap putN)
  | [], ps, hp, _ => by rw [encP]; have := refM_flush hp []; rw [List.append_nil] at this; rw [this]; rfl
  | r :: t, ps, hp, ht => by
    have hr := ht r (by simp)
    have ht' : ∀ x ∈ t, scal x := fun x hx => ht x (List.mem_cons_of_mem _ hx)
    rw [encP, List.flatMap_cons]
    by_cases hc : r < 32 ∨ r > 126
    · rw [if_pos hc, unitsL_snoc, refM_enc t (ps ++ [r]) (fun x hx => by
        rcases List.mem_append.1 hx with h | h
        · exact hp x h
        · rw [List.mem_singleton.1 h]; exact hr) ht']
      simp
    · have e1 : putN r = [UInt8.ofNat r] := by rw [putN, if_pos (by omega)]
      have ih := refM_enc t [] (by simp) ht'
      rw [show unitsL [] = [] from rfl, show ([] : List Nat).flatMap putN = [] from rfl, List.nil_append] at ih
      rw [if_neg hc, refM_flush hp, e1]
      by_cases h38 : r = 38
      · subst h38
        rw [if_pos rfl, show UInt8.ofNat 38 = 38 from rfl, refM_amp, refM, if_pos rfl, ih]
        rfl
      · rw [if_neg h38, refM_cons (ofNat_ne (by omega) h38), ih]
        rfl
/-- What a valid text's name says. -/
theorem raw_back {u : List UInt8} (h : validS u = true) : rawM none (encP [] (pts u)) = u ∧ refM none (encP [] (pts u)) = some u := by
  have hs := ptsAt_scal (pts_at h)
  have h1 := rawM_enc (pts u) [] (by simp) hs
  have h2 := refM_enc (pts u) [] (by simp) hs
  rw [show unitsL [] = [] from rfl, pts_flat h] at h1 h2
  exact ⟨h1, h2⟩
theorem enc7_ok {u s : List UInt8} (h : enc7S u = (s, 0)) : validS u = true ∧ s = encP [] (pts u) := by
  unfold enc7S at h
  split at h
  · rename_i hv; exact ⟨hv, (congrArg Prod.fst h).symm⟩
  · have := congrArg Prod.snd h; simp at this
theorem dec_enc {u s : List UInt8} (h : enc7S u = (s, 0)) : dec7S s = (u, 0) := by
  obtain ⟨hv, rfl⟩ := enc7_ok h
  rw [dec7S, fin7, (raw_back hv).1, if_pos h]
theorem dec_bad {s : List UInt8} (h : ∀ u, enc7S u ≠ (s, 0)) : dec7S s = ([], 3) := by rw [dec7S, fin7, if_neg (h _)]
theorem dec_ref (s : List UInt8) : (match refM none s with | some o => fin7 s o | none => ([], 3)) = dec7S s := by
  by_cases h : ∃ u, enc7S u = (s, 0)
  · obtain ⟨u, hu⟩ := h
    obtain ⟨hv, rfl⟩ := enc7_ok hu
    rw [dec_enc hu, (raw_back hv).2]
    dsimp only
    rw [fin7, if_pos hu]
  · have hn : ∀ u, enc7S u ≠ (s, 0) := fun u hu => h ⟨u, hu⟩
    rw [dec_bad hn]
    cases refM none s with
    | none => rfl
    | some o => dsimp only; rw [fin7, if_neg (hn _)]
noncomputable def crfrom7 : Code := bodyOf Tryd.f15

noncomputable def Grfrom7 : Cfg := ⟨Tryd.prog, mkEnv [(13, sp_rutf7), (31, sp_Index), (32, sp_rrow)], mkEnvR [], 62, [], [([0, 1, 0, 1, 1], ⟨[0, 4, 5], [⟨.slot 4, 4, (.barr 5 false [])⟩]⟩), ([1, 1, 1, 1, 0, 1, 0, 0, 1, 0, 1, 1], ⟨[0, 4, 6], [⟨.slot 4, 4, (.barr 5 false [])⟩]⟩)], []⟩

noncomputable def Brfrom7_1 (F f1 : Nat) (s : List UInt8) (vi1 : Int) (vb2 : List UInt8) : Option Ans := runR Grfrom7 crfrom7 (kP Tryd.prog Tryd.f15.results.toList) F [] [1, 1, 0, 1, 0] f1 [(0, .p (.str s)), (4, .arr 4), (5, .p (.int .i64 vi1))] [(4, .barr 5 false vb2)]

noncomputable def Brfrom7_2 (F f1 : Nat) (s : List UInt8) (vi3 : Int) (vb4 : List UInt8) : Option Ans := runB Grfrom7 crfrom7 (kP Tryd.prog Tryd.f15.results.toList) F [f1] [1, 1, 0, 1, 0, 0, 1, 0, 1, 1, 1, 1] [(0, .p (.str s)), (4, .arr 4), (6, .p (.int .i64 vi3))] [(4, .barr 5 false vb4)]

noncomputable def Frfrom7 (F : Nat) (s : List UInt8) : Option Ans := runF Grfrom7 Tryd.f15 F [.p (.str s)]

theorem Brfrom7_1_eq (F f1 : Nat) (s : List UInt8) (vi1 : Int) (vb2 : List UInt8) : Brfrom7_1 F (f1 + 1) s vi1 vb2 = cond (decide (vi1 < (s.length : Int))) (need (0 ≤ vi1 ∧ vi1 < (s.length : Int)) (cond (((s.getD (vi1).toNat 0).toNat : Int) != (38 : Int)) (need (0 ≤ vi1 ∧ vi1 < (s.length : Int)) (need ((vb2.length + [UInt8.ofNat (((s.getD (vi1).toNat 0).toNat : Int)).toNat].length) * 1 ≤ 140737488355328) (need (i64ok (vi1 + (1 : Int))) (Brfrom7_1 F f1 s (vi1 + (1 : Int)) (vb2 ++ [UInt8.ofNat (((s.getD (vi1).toNat 0).toNat : Int)).toNat]))))) (need (indexok s ([45] : List UInt8) vi1) (cond (decide ((indexS s ([45] : List UInt8) vi1) < (0 : Int))) (some (.tup [.p (.str ([] : List UInt8)), .p (.int .i64 (3 : Int))], [])) (need (i64ok (vi1 + (1 : Int))) (cond ((indexS s ([45] : List UInt8) vi1) == (vi1 + (1 : Int))) (need ((vb2.length + [UInt8.ofNat ((38 : Int)).toNat].length) * 1 ≤ 140737488355328) (Brfrom7_2 F f1 s (indexS s ([45] : List UInt8) vi1) (vb2 ++ [UInt8.ofNat ((38 : Int)).toNat]))) (need (i64ok (vi1 + (1 : Int))) (need (0 ≤ (vi1 + (1 : Int)) ∧ (vi1 + (1 : Int)) ≤ (indexS s ([45] : List UInt8) vi1) ∧ (indexS s ([45] : List UInt8) vi1) ≤ (s.length : Int)) (need (((s.take (indexS s ([45] : List UInt8) vi1).toNat).drop (vi1 + (1 : Int)).toNat).length ≤ 1000000) (need ((vb2.length + (rrowS ((s.take (indexS s ([45] : List UInt8) vi1).toNat).drop (vi1 + (1 : Int)).toNat)).length) * 1 ≤ 140737488355328) (Brfrom7_2 F f1 s (indexS s ([45] : List UInt8) vi1) (vb2 ++ (rrowS ((s.take (indexS s ([45] : List UInt8) vi1).toNat).drop (vi1 + (1 : Int)).toNat)))))))))))))) (need (vb2.length ≤ 140000) ((((cond ((((enc7S vb2).2) != (0 : Int)) || (((enc7S vb2).1) != s)) (some (.tup [.p (.str ([] : List UInt8)), .p (.int .i64 (3 : Int))], [])) (some (.tup [.p (.str vb2), .p (.int .i64 (0 : Int))], []))))))) := by
  have h : Brfrom7_1 F (f1 + 1) s vi1 vb2 = cond (decide (vi1 < (s.length : Int))) (need (0 ≤ vi1 ∧ vi1 < (s.length : Int)) (cond (((s.getD (vi1).toNat 0).toNat : Int) != (38 : Int)) (need (0 ≤ vi1 ∧ vi1 < (s.length : Int)) (need ((vb2.length + [UInt8.ofNat (((s.getD (vi1).toNat 0).toNat : Int)).toNat].length) * 1 ≤ 140737488355328) (need (i64ok (vi1 + (1 : Int))) (Brfrom7_1 F f1 s (vi1 + (1 : Int)) (vb2 ++ [UInt8.ofNat (((s.getD (vi1).toNat 0).toNat : Int)).toNat]))))) (need (indexok s ([45] : List UInt8) vi1) (cond (decide ((indexS s ([45] : List UInt8) vi1) < (0 : Int))) (some (.tup [.p (.str ([] : List UInt8)), .p (.int .i64 (3 : Int))], [])) (need (i64ok (vi1 + (1 : Int))) (cond ((indexS s ([45] : List UInt8) vi1) == (vi1 + (1 : Int))) (need ((vb2.length + [UInt8.ofNat ((38 : Int)).toNat].length) * 1 ≤ 140737488355328) (Brfrom7_2 F f1 s (indexS s ([45] : List UInt8) vi1) (vb2 ++ [UInt8.ofNat ((38 : Int)).toNat]))) (need (i64ok (vi1 + (1 : Int))) (need (0 ≤ (vi1 + (1 : Int)) ∧ (vi1 + (1 : Int)) ≤ (indexS s ([45] : List UInt8) vi1) ∧ (indexS s ([45] : List UInt8) vi1) ≤ (s.length : Int)) (need (((s.take (indexS s ([45] : List UInt8) vi1).toNat).drop (vi1 + (1 : Int)).toNat).length ≤ 1000000) (need ((vb2.length + (rrowS ((s.take (indexS s ([45] : List UInt8) vi1).toNat).drop (vi1 + (1 : Int)).toNat)).length) * 1 ≤ 140737488355328) (Brfrom7_2 F f1 s (indexS s ([45] : List UInt8) vi1) (vb2 ++ (rrowS ((s.take (indexS s ([45] : List UInt8) vi1).toNat).drop (vi1 + (1 : Int)).toNat)))))))))))))) (need (vb2.length ≤ 140000) (need ((!(((enc7S vb2).2) != (0 : Int))) = true → (!(((enc7S vb2).2) != (0 : Int))) = true) (need ((!(((enc7S vb2).2) != (0 : Int))) = true → (!(((enc7S vb2).2) != (0 : Int))) = true) (need ((((enc7S vb2).2) != (0 : Int)) = false → (!(((enc7S vb2).2) != (0 : Int))) = true) (cond ((((enc7S vb2).2) != (0 : Int)) || (((enc7S vb2).1) != s)) (some (.tup [.p (.str ([] : List UInt8)), .p (.int .i64 (3 : Int))], [])) (some (.tup [.p (.str vb2), .p (.int .i64 (0 : Int))], []))))))) := by kernel_rfl
  rw [h, need_pos (show (((enc7S vb2).2) != (0 : Int)) = false → (!(((enc7S vb2).2) != (0 : Int))) = true from (fun q0 => (not_mk q0))), need_pos (show (!(((enc7S vb2).2) != (0 : Int))) = true → (!(((enc7S vb2).2) != (0 : Int))) = true from (fun q0 => q0)), need_pos (show (!(((enc7S vb2).2) != (0 : Int))) = true → (!(((enc7S vb2).2) != (0 : Int))) = true from (fun q0 => q0))]

theorem Brfrom7_2_eq (F f1 : Nat) (s : List UInt8) (vi3 : Int) (vb4 : List UInt8) : Brfrom7_2 F f1 s vi3 vb4 = need (i64ok (vi3 + (1 : Int))) (Brfrom7_1 F f1 s (vi3 + (1 : Int)) vb4) := by kernel_rfl

theorem Frfrom7_eq (F : Nat) (s : List UInt8) : Frfrom7 F s = Brfrom7_1 F F s (0 : Int) [] := by kernel_rfl

theorem fn_rfrom7 (F : Nat) (s : List UInt8) (r : AV) (h : (∃ M vs, ARels γ0 M [.p (.str s)] vs) → Frfrom7 F s = some (r, [])) : FnP Tryd.prog 15 [.p (.str s)] r :=
  FnP_run Grfrom7 F rfl (EnvOk_mk (l := [(13, sp_rutf7), (31, sp_Index), (32, sp_rrow)]) ⟨ok_rutf7.any, ok_Index.any, ok_rrow.any, trivial⟩) (EnvROk_mk (l := []) trivial) (Checked.mixed Tryd.checked) (fn := Tryd.f15) (by kernel_rfl) (by kernel_rfl) rfl h
theorem index_from {s : List UInt8} {i : Nat} {r : List UInt8} (hd : s.drop i = 38 :: r) : (∀ p q, r = p ++ 45 :: q → (∀ x ∈ p, x ≠ 45) → indexS s [45] (i : Int) = ((i + 1 + p.length : Nat) : Int)) ∧ ((∀ x ∈ r, x ≠ 45) → indexS s [45] (i : Int) = -1) := by
  have e : ((i : Int)).toNat = i := rfl
  rw [indexS, e, hd, idx_one]
  have hsp := ixb_split 45 (38 :: r)
  refine ⟨fun p q hr hp => ?_, fun hn => ?_⟩
  · have h38 : ∀ x ∈ (38 :: p : List UInt8), x ≠ 45 := by
      intro x hx
      rcases List.mem_cons.1 hx with rfl | hx
      · decide
      · exact hp x hx
    rcases hsp with ⟨p', q', e', hp', hi⟩ | ⟨hn, _⟩
    · have : p' = 38 :: p := by
        have h2 : p' ++ 45 :: q' = (38 :: p) ++ 45 :: q := by rw [← e', hr]; rfl
        clear e' hi
        generalize (38 :: p : List UInt8) = P at h2 h38
        induction p' generalizing P with
        | nil =>
          cases P with
          | nil => rfl
          | cons x P => exact absurd (List.cons.inj h2).1.symm (h38 x (by simp))
        | cons x p' ih =>
          cases P with
          | nil => exact absurd (List.cons.inj h2).1 (hp' x (by simp))
          | cons y P =>
            obtain ⟨h3, h4⟩ := List.cons.inj h2
            rw [h3, ih (fun z hz => hp' z (List.mem_cons_of_mem _ hz)) P h4 (fun z hz => h38 z (List.mem_cons_of_mem _ hz))]
      rw [hi, this, if_neg (by simp; omega)]
      simp; omega
    · exact absurd rfl (hn 45 (by rw [hr]; simp))
  · rcases hsp with ⟨p', q', e', hp', hi⟩ | ⟨_, hi⟩
    · have hm : (45 : UInt8) ∈ (38 :: r : List UInt8) := by rw [e']; simp
      rcases List.mem_cons.1 hm with h | h
      · cases h
      · exact absurd rfl (hn 45 h)
    · rw [hi, if_pos rfl]
theorem Brfrom7_spec (F : Nat) (s : List UInt8) (hs : s.length ≤ 20000) : ∀ (n : Nat) (r : List UInt8) (f i : Nat) (acc : List UInt8), s.drop i = r → r.length ≤ n → n < f → i ≤ s.length → acc.length + 6 * r.length ≤ 130000 →
    Brfrom7_1 F f s (i : Int) acc = some (match refM none r with | some o => .tup [.p (.str (fin7 s (acc ++ o)).1), .p (.int .i64 (fin7 s (acc ++ o)).2)] | none => .tup [.p (.str []), .p (.int .i64 3)], []) := by
  intro n
  induction n with
  | zero =>
    intro r f i acc hd h hf hi ha
    have : r = [] := List.eq_nil_of_length_eq_zero (by omega)
    subst this
    have hl : s.length ≤ i := by simpa using hd
    cases f with
    | zero => omega
    | succ f =>
      rw [Brfrom7_1_eq]
      refine cond_f (by simp; omega) (need_mk (by omega) ?_)
      rw [fin7_no, refM]
      dsimp only
      rw [List.append_nil, fin7]
      by_cases he : enc7S acc = (s, 0)
      · rw [if_pos he]; exact cond_f (by rw [decide_eq_true he]; rfl) rfl
      · rw [if_neg he]; exact cond_t (by rw [decide_eq_false he]; rfl) rfl
  | succ n ih =>
    intro r f i acc hd h hf hi ha
    cases r with
    | nil =>
      have hl : s.length ≤ i := by simpa using hd
      cases f with
      | zero => omega
      | succ f =>
        rw [Brfrom7_1_eq]
        refine cond_f (by simp; omega) (need_mk (by simp at ha; omega) ?_)
        rw [fin7_no, refM]
        dsimp only
        rw [List.append_nil, fin7]
        by_cases he : enc7S acc = (s, 0)
        · rw [if_pos he]; exact cond_f (by rw [decide_eq_true he]; rfl) rfl
        · rw [if_neg he]; exact cond_t (by rw [decide_eq_false he]; rfl) rfl
    | cons c r =>
      obtain ⟨h1, h2, h3⟩ := drop_cons hd
      simp only [List.length_cons] at h ha
      cases f with
      | zero => omega
      | succ f =>
        rw [Brfrom7_1_eq]
        refine cond_t (by simp; omega) (need_mk ⟨by omega, by omega⟩ ?_)
        rw [Int.toNat_natCast, h1]
        have e : (i : Int) + 1 = ((i + 1 : Nat) : Int) := by omega
        by_cases hc : c = 38
        · subst hc
          obtain ⟨ix1, ix2⟩ := index_from hd
          refine cond_f rfl (need_mk ⟨by omega, by omega, by simp; omega⟩ ?_)
          rw [refM_amp]
          rcases cut_split 45 r with ⟨l, t, e2, hl2, _⟩ | ⟨hn2, _⟩
          · have hll := congrArg List.length e2
            simp only [List.length_append, List.length_cons] at hll
            have hix := ix1 l t e2 hl2
            have hsl := sayR_len l
            have hdt : s.drop (i + 1 + l.length + 1) = t := by
              rw [show i + 1 + l.length + 1 = (i + 1) + (l.length + 1) by omega, ← List.drop_drop, h2, e2]; simp
            have go := ih t f (i + 1 + l.length + 1) (acc ++ sayR l) hdt (by omega) (by omega) (by omega) (by rw [List.length_append]; omega)
            rw [hix, e2, refM_row _ hl2, List.nil_append]
            have fin : Brfrom7_2 F f s ((i + 1 + l.length : Nat) : Int) (acc ++ sayR l) = some (match (refM none t).map (sayR l ++ ·) with | some o => .tup [.p (.str (fin7 s (acc ++ o)).1), .p (.int .i64 (fin7 s (acc ++ o)).2)] | none => .tup [.p (.str []), .p (.int .i64 3)], []) := by
              rw [Brfrom7_2_eq]
              refine need_mk (by unfold i64ok; omega) ?_
              rw [show ((i + 1 + l.length : Nat) : Int) + 1 = ((i + 1 + l.length + 1 : Nat) : Int) by omega, go]
              cases refM none t with
              | none => rfl
              | some o => simp only [Option.map_some, List.append_assoc]
            refine cond_f (by simp; omega) (need_mk (by unfold i64ok; omega) ?_)
            by_cases h0 : l = []
            · subst h0
              refine cond_t (by simp) (need_mk (by simp; omega) ?_)
              exact fin
            · have hpos := List.length_pos_iff.2 h0
              have hsl2 : (s.take ((i + 1 + l.length : Nat) : Int).toNat).drop ((i : Int) + 1).toNat = l := by
                rw [e, Int.toNat_natCast, Int.toNat_natCast, List.drop_take, h2, e2, Nat.add_sub_cancel_left]; simp
              have es : sayR l = rrowS l := by rw [sayR, if_neg h0]
              refine cond_f (by rw [beq_eq_false_iff_ne]; omega) (need_mk (by unfold i64ok; omega) (need_mk ⟨by omega, by omega, by omega⟩ ?_))
              rw [hsl2]
              refine need_mk (by omega) (need_mk (by rw [← es]; omega) ?_)
              rw [← es]
              exact fin
          · rw [ix2 hn2, refM_open _ hn2]
            exact cond_t rfl rfl
        · refine cond_t ?_ (need_mk ⟨by omega, by omega⟩ (need_mk (by simp; omega) (need_mk (by unfold i64ok; omega) ?_)))
          · rw [bne_iff_ne]
            intro h
            exact hc (u8_eq.1 h)
          · rw [e, ofint, refM_cons hc, ih r f (i + 1) (acc ++ [c]) h2 (by omega) (by omega) (by omega) (by simp; omega)]
            cases refM none r with
            | none => rfl
            | some o => simp
theorem rfrom7_eq (s : List UInt8) (hs : s.length ≤ 20000) : Frfrom7 (s.length + 1) s = some (.tup [.p (.str (dec7S s).1), .p (.int .i64 (dec7S s).2)], []) := by
  rw [Frfrom7_eq, ← dec_ref s]
  refine (Brfrom7_spec _ s hs s.length s (s.length + 1) 0 [] rfl (Nat.le_refl _) (by omega) (by omega) (by simp; omega)).trans ?_
  cases refM none s <;> rfl
def sp_rfrom7 : List AV → Option (AV × Option Prop)
  | [.p (.str s)] => some (.tup [.p (.str ((dec7S s).1)), .p (.int .i64 ((dec7S s).2))], some (s.length ≤ 20000))
  | _ => none
theorem ok_rfrom7 : SpecOk Tryd.prog 15 sp_rfrom7 := by
  intro zs r ok he hok
  unfold sp_rfrom7 at he
  split at he
  · cases he; exact ⟨by kernel_rfl, fn_rfrom7 (_) _ _ fun hx => rfrom7_eq _ hok⟩
  · cases he
end Go.Proofs.YtmnkkliibjlefaaDoor
