/-
  Lifted functions, and facts about them.
-/
import Derived.Test.YtoanepondbagcaaGreatDoorRows
import Derived.Test.YtoanepondbagcaaGreatDoorAmC
import Derived.Test.YtoanepondbagcaaGreatDoorC19
namespace Go.Proofs.YtoanepondbagcaaGreatDoor
open Go Go.Am
set_option linter.unusedVariables false
/-! A section of a message, both ways. -/
def placeO : List (List UInt8) → Part → Bool → Option Part
  | [], p, _ => some p
  | w :: r, p, once => if (numS w).2 = false ∨ (numS w).1 < 1 then none
    else if p.kids.length = 0 then (if (numS w).1 ≠ 1 ∨ once = true then none else placeO r p true)
    else if (numS w).1 > (p.kids.length : Int) then none
    else placeO r (p.kids.getD ((numS w).1 - 1).toNat (dfl .part)) once
def zeroP : Part := .mk [] [] [] false 0 0 0 []
def orZ : Option Part → Part
  | none => zeroP
  | some q => q
def placeP (p : Part) (l : List (List UInt8)) (o : Bool) : Part × Bool := (orZ (placeO l p o), (placeO l p o).isSome)
def placeT : Option Part → AV
  | none => .tup [.agg [.p (.str []), .p .nil, .p (.str []), .p (.bool false), .p (.int .i64 0), .p (.int .i64 0), .p (.int .i64 0), .p .nil], .p (.bool false)]
  | some q => .tup [.agg [.p (.str q.type), .p (.list 2 (.dat (.pair .str .str) q.params)), .p (.str q.enc), .p (.bool q.attach), .p (.int .i64 q.head), .p (.int .i64 q.frm), .p (.int .i64 q.til), .p (.list 8 (.dat .part q.kids))], .p (.bool true)]
theorem numS_le (w : List UInt8) : 0 ≤ (numS w).1 ∧ (numS w).1 ≤ 4294967295 := by
  unfold numS
  split
  · simp
  · cases numL w 0 with
    | none => simp [numE]
    | some n => simp only [numE]; split <;> simp; omega
theorem isZero (n : Nat) : ((n : Int) == (0 : Int)) = decide (n = 0) := by
  rw [Bool.eq_iff_iff]; simp
noncomputable def cplace : Code := bodyOf Tryz.f35

noncomputable def Gplace : Cfg := ⟨Tryz.prog, mkEnv [(68, sp_number)], mkEnvR [], 54, [], [([0, 1, 0, 1, 1], ⟨[2, 4, 6, 11, 12, 13], [⟨.slot 2, 2, .cells []⟩, ⟨.slot 4, 4, .cells []⟩, ⟨.cell 4 1, 5001, (.larr 76 false 2 (.dat (.pair .str .str) ([] : List (List UInt8 × List UInt8))))⟩, ⟨.cell 4 7, 5007, (.larr 46 false 8 (.dat .part ([] : List Part)))⟩]⟩), ([1, 0, 1, 1, 0, 0, 1, 1, 0, 0, 1, 0, 1, 1], ⟨[2, 4, 6, 9, 11, 12, 13, 28], [⟨.slot 2, 2, .cells []⟩, ⟨.slot 4, 4, .cells []⟩, ⟨.cell 4 1, 5001, (.larr 76 false 2 (.dat (.pair .str .str) ([] : List (List UInt8 × List UInt8))))⟩, ⟨.cell 4 7, 5007, (.larr 46 false 8 (.dat .part ([] : List Part)))⟩]⟩), ([1, 1, 1, 0, 0, 1, 0, 1, 1], ⟨[2, 4, 6, 11, 12, 13], [⟨.slot 2, 2, .cells []⟩, ⟨.slot 4, 4, .cells []⟩, ⟨.cell 4 1, 5001, (.larr 76 false 2 (.dat (.pair .str .str) ([] : List (List UInt8 × List UInt8))))⟩, ⟨.cell 4 7, 5007, (.larr 46 false 8 (.dat .part ([] : List Part)))⟩]⟩)], []⟩

noncomputable def Bplace_1 (F f1 : Nat) (vc1 : Bool) (l : List (List UInt8)) (vi2 vi3 : Int) (vs4 : List UInt8) (vl5 : List (List UInt8 × List UInt8)) (vs6 : List UInt8) (vc7 : Bool) (vi8 vi9 vi10 : Int) (vl11 : List Part) (vs12 vs13 : List UInt8) (vc14 : Bool) (vi15 vi16 vi17 : Int) (vl18 : List (List UInt8 × List UInt8)) (vl19 : List Part) : Option Ans := runR Gplace cplace (kP Tryz.prog Tryz.f35.results.toList) F [] [1, 1, 0, 1, 0] f1 [(2, .ref 2 0), (4, .ref 4 0), (6, .p (.bool vc1)), (11, .p (.list 1 (.dat .str l))), (12, .p (.int .i64 vi2)), (13, .p (.int .i64 vi3))] [(2, .cells [.p (.str vs4), .p (.list 2 (.dat (.pair .str .str) vl5)), .p (.str vs6), .p (.bool vc7), .p (.int .i64 vi8), .p (.int .i64 vi9), .p (.int .i64 vi10), .p (.list 8 (.dat .part vl11))]), (4, .cells [.p (.str vs12), .arr 5001, .p (.str vs13), .p (.bool vc14), .p (.int .i64 vi15), .p (.int .i64 vi16), .p (.int .i64 vi17), .arr 5007]), (5001, .larr 76 false 2 (.dat (.pair .str .str) vl18)), (5007, .larr 46 false 8 (.dat .part vl19))]

noncomputable def Bplace_2 (F f1 : Nat) (vc1 : Bool) (vi20 : Int) (l : List (List UInt8)) (vi2 vi3 : Int) (vc21 : Bool) (vs4 : List UInt8) (vl5 : List (List UInt8 × List UInt8)) (vs6 : List UInt8) (vc7 : Bool) (vi8 vi9 vi10 : Int) (vl11 : List Part) (vs12 vs13 : List UInt8) (vc14 : Bool) (vi15 vi16 vi17 : Int) (vl18 : List (List UInt8 × List UInt8)) (vl19 : List Part) : Option Ans := runB Gplace cplace (kP Tryz.prog Tryz.f35.results.toList) F [f1] [1, 1, 0, 1, 0, 0, 1, 1, 0, 0, 1, 1, 0, 1] [(2, .ref 2 0), (4, .ref 4 0), (6, .p (.bool vc1)), (9, .p (.int .i64 vi20)), (11, .p (.list 1 (.dat .str l))), (12, .p (.int .i64 vi2)), (13, .p (.int .i64 vi3)), (28, .p (.bool vc21))] [(2, .cells [.p (.str vs4), .p (.list 2 (.dat (.pair .str .str) vl5)), .p (.str vs6), .p (.bool vc7), .p (.int .i64 vi8), .p (.int .i64 vi9), .p (.int .i64 vi10), .p (.list 8 (.dat .part vl11))]), (4, .cells [.p (.str vs12), .arr 5001, .p (.str vs13), .p (.bool vc14), .p (.int .i64 vi15), .p (.int .i64 vi16), .p (.int .i64 vi17), .arr 5007]), (5001, .larr 76 false 2 (.dat (.pair .str .str) vl18)), (5007, .larr 46 false 8 (.dat .part vl19))]

noncomputable def Bplace_3 (F f1 : Nat) (vc22 : Bool) (l : List (List UInt8)) (vi2 vi3 : Int) (vs23 : List UInt8) (vl24 : List (List UInt8 × List UInt8)) (vs25 : List UInt8) (vc26 : Bool) (vi27 vi28 vi29 : Int) (vl30 : List Part) (vs31 vs32 : List UInt8) (vc33 : Bool) (vi34 vi35 vi36 : Int) (vl37 : List (List UInt8 × List UInt8)) (vl38 : List Part) : Option Ans := runB Gplace cplace (kP Tryz.prog Tryz.f35.results.toList) F [f1] [1, 1, 0, 1, 0, 0, 1, 1, 1] [(2, .ref 2 0), (4, .ref 4 0), (6, .p (.bool vc22)), (11, .p (.list 1 (.dat .str l))), (12, .p (.int .i64 vi2)), (13, .p (.int .i64 vi3))] [(2, .cells [.p (.str vs23), .p (.list 2 (.dat (.pair .str .str) vl24)), .p (.str vs25), .p (.bool vc26), .p (.int .i64 vi27), .p (.int .i64 vi28), .p (.int .i64 vi29), .p (.list 8 (.dat .part vl30))]), (4, .cells [.p (.str vs31), .arr 5001, .p (.str vs32), .p (.bool vc33), .p (.int .i64 vi34), .p (.int .i64 vi35), .p (.int .i64 vi36), .arr 5007]), (5001, .larr 76 false 2 (.dat (.pair .str .str) vl37)), (5007, .larr 46 false 8 (.dat .part vl38))]

noncomputable def Fplace (F : Nat) (ty : List UInt8) (ps : List (List UInt8 × List UInt8)) (en : List UInt8) (at_ : Bool) (h_ f_ t_ : Int) (ks : List Part) (l : List (List UInt8)) : Option Ans := runF Gplace Tryz.f35 F [.agg [.p (.str ty), .p (.list 2 (.dat (.pair .str .str) ps)), .p (.str en), .p (.bool at_), .p (.int .i64 h_), .p (.int .i64 f_), .p (.int .i64 t_), .p (.list 8 (.dat .part ks))], .p (.list 1 (.dat .str l))]

theorem Bplace_1_eq (F f1 : Nat) (vc1 : Bool) (l : List (List UInt8)) (vi2 vi3 : Int) (vs4 : List UInt8) (vl5 : List (List UInt8 × List UInt8)) (vs6 : List UInt8) (vc7 : Bool) (vi8 vi9 vi10 : Int) (vl11 : List Part) (vs12 vs13 : List UInt8) (vc14 : Bool) (vi15 vi16 vi17 : Int) (vl18 : List (List UInt8 × List UInt8)) (vl19 : List Part) : Bplace_1 F (f1 + 1) vc1 l vi2 vi3 vs4 vl5 vs6 vc7 vi8 vi9 vi10 vl11 vs12 vs13 vc14 vi15 vi16 vi17 vl18 vl19 = cond (decide (vi3 < vi2)) (need (0 ≤ vi3 ∧ vi3 < (l.length : Int)) (cond (!((numS (l.getD (vi3).toNat [])).2)) (Bplace_2 F f1 vc1 ((numS (l.getD (vi3).toNat [])).1) l vi2 vi3 (!((numS (l.getD (vi3).toNat [])).2)) vs4 vl5 vs6 vc7 vi8 vi9 vi10 vl11 vs12 vs13 vc14 vi15 vi16 vi17 vl18 vl19) (Bplace_2 F f1 vc1 ((numS (l.getD (vi3).toNat [])).1) l vi2 vi3 (decide (((numS (l.getD (vi3).toNat [])).1) < (1 : Int))) vs4 vl5 vs6 vc7 vi8 vi9 vi10 vl11 vs12 vs13 vc14 vi15 vi16 vi17 vl18 vl19))) (some (.tup [.agg [.p (.str vs4), .p (.list 2 (.dat (.pair .str .str) vl5)), .p (.str vs6), .p (.bool vc7), .p (.int .i64 vi8), .p (.int .i64 vi9), .p (.int .i64 vi10), .p (.list 8 (.dat .part vl11))], .p (.bool true)], [])) := by kernel_rfl

theorem Bplace_2_eq (F f1 : Nat) (vc1 : Bool) (vi20 : Int) (l : List (List UInt8)) (vi2 vi3 : Int) (vc21 : Bool) (vs4 : List UInt8) (vl5 : List (List UInt8 × List UInt8)) (vs6 : List UInt8) (vc7 : Bool) (vi8 vi9 vi10 : Int) (vl11 : List Part) (vs12 vs13 : List UInt8) (vc14 : Bool) (vi15 vi16 vi17 : Int) (vl18 : List (List UInt8 × List UInt8)) (vl19 : List Part) : Bplace_2 F f1 vc1 vi20 l vi2 vi3 vc21 vs4 vl5 vs6 vc7 vi8 vi9 vi10 vl11 vs12 vs13 vc14 vi15 vi16 vi17 vl18 vl19 = cond (vc21) (some (.tup [.agg [.p (.str ([] : List UInt8)), .p .nil, .p (.str ([] : List UInt8)), .p (.bool false), .p (.int .i64 (0 : Int)), .p (.int .i64 (0 : Int)), .p (.int .i64 (0 : Int)), .p .nil], .p (.bool false)], [])) (cond ((vl11.length : Int) == (0 : Int)) ((cond ((vi20 != (1 : Int)) || vc1) (some (.tup [.agg [.p (.str ([] : List UInt8)), .p .nil, .p (.str ([] : List UInt8)), .p (.bool false), .p (.int .i64 (0 : Int)), .p (.int .i64 (0 : Int)), .p (.int .i64 (0 : Int)), .p .nil], .p (.bool false)], [])) (Bplace_3 F f1 true l vi2 vi3 vs4 vl5 vs6 vc7 vi8 vi9 vi10 vl11 vs12 vs13 vc14 vi15 vi16 vi17 vl18 vl19))) (cond (decide (vi20 > (vl11.length : Int))) (some (.tup [.agg [.p (.str ([] : List UInt8)), .p .nil, .p (.str ([] : List UInt8)), .p (.bool false), .p (.int .i64 (0 : Int)), .p (.int .i64 (0 : Int)), .p (.int .i64 (0 : Int)), .p .nil], .p (.bool false)], [])) (need (i64ok (vi20 - (1 : Int))) (need (0 ≤ (vi20 - (1 : Int)) ∧ (vi20 - (1 : Int)) < (vl11.length : Int)) (Bplace_3 F f1 vc1 l vi2 vi3 ((vl11.getD (vi20 - (1 : Int)).toNat (dfl .part)).type) ((vl11.getD (vi20 - (1 : Int)).toNat (dfl .part)).params) ((vl11.getD (vi20 - (1 : Int)).toNat (dfl .part)).enc) ((vl11.getD (vi20 - (1 : Int)).toNat (dfl .part)).attach) ((vl11.getD (vi20 - (1 : Int)).toNat (dfl .part)).head) ((vl11.getD (vi20 - (1 : Int)).toNat (dfl .part)).frm) ((vl11.getD (vi20 - (1 : Int)).toNat (dfl .part)).til) ((vl11.getD (vi20 - (1 : Int)).toNat (dfl .part)).kids) vs12 vs13 vc14 vi15 vi16 vi17 vl18 vl19))))) := by
  have h : Bplace_2 F f1 vc1 vi20 l vi2 vi3 vc21 vs4 vl5 vs6 vc7 vi8 vi9 vi10 vl11 vs12 vs13 vc14 vi15 vi16 vi17 vl18 vl19 = cond (vc21) (some (.tup [.agg [.p (.str ([] : List UInt8)), .p .nil, .p (.str ([] : List UInt8)), .p (.bool false), .p (.int .i64 (0 : Int)), .p (.int .i64 (0 : Int)), .p (.int .i64 (0 : Int)), .p .nil], .p (.bool false)], [])) (cond ((vl11.length : Int) == (0 : Int)) (need ((vi20 != (1 : Int)) = false → (!(vi20 != (1 : Int))) = true) (cond ((vi20 != (1 : Int)) || vc1) (some (.tup [.agg [.p (.str ([] : List UInt8)), .p .nil, .p (.str ([] : List UInt8)), .p (.bool false), .p (.int .i64 (0 : Int)), .p (.int .i64 (0 : Int)), .p (.int .i64 (0 : Int)), .p .nil], .p (.bool false)], [])) (Bplace_3 F f1 true l vi2 vi3 vs4 vl5 vs6 vc7 vi8 vi9 vi10 vl11 vs12 vs13 vc14 vi15 vi16 vi17 vl18 vl19))) (cond (decide (vi20 > (vl11.length : Int))) (some (.tup [.agg [.p (.str ([] : List UInt8)), .p .nil, .p (.str ([] : List UInt8)), .p (.bool false), .p (.int .i64 (0 : Int)), .p (.int .i64 (0 : Int)), .p (.int .i64 (0 : Int)), .p .nil], .p (.bool false)], [])) (need (i64ok (vi20 - (1 : Int))) (need (0 ≤ (vi20 - (1 : Int)) ∧ (vi20 - (1 : Int)) < (vl11.length : Int)) (Bplace_3 F f1 vc1 l vi2 vi3 ((vl11.getD (vi20 - (1 : Int)).toNat (dfl .part)).type) ((vl11.getD (vi20 - (1 : Int)).toNat (dfl .part)).params) ((vl11.getD (vi20 - (1 : Int)).toNat (dfl .part)).enc) ((vl11.getD (vi20 - (1 : Int)).toNat (dfl .part)).attach) ((vl11.getD (vi20 - (1 : Int)).toNat (dfl .part)).head) ((vl11.getD (vi20 - (1 : Int)).toNat (dfl .part)).frm) ((vl11.getD (vi20 - (1 : Int)).toNat (dfl .part)).til) ((vl11.getD (vi20 - (1 : Int)).toNat (dfl .part)).kids) vs12 vs13 vc14 vi15 vi16 vi17 vl18 vl19))))) := by kernel_rfl
  rw [h, need_pos (show (vi20 != (1 : Int)) = false → (!(vi20 != (1 : Int))) = true from (fun q0 => (not_mk q0)))]

theorem Bplace_3_eq (F f1 : Nat) (vc22 : Bool) (l : List (List UInt8)) (vi2 vi3 : Int) (vs23 : List UInt8) (vl24 : List (List UInt8 × List UInt8)) (vs25 : List UInt8) (vc26 : Bool) (vi27 vi28 vi29 : Int) (vl30 : List Part) (vs31 vs32 : List UInt8) (vc33 : Bool) (vi34 vi35 vi36 : Int) (vl37 : List (List UInt8 × List UInt8)) (vl38 : List Part) : Bplace_3 F f1 vc22 l vi2 vi3 vs23 vl24 vs25 vc26 vi27 vi28 vi29 vl30 vs31 vs32 vc33 vi34 vi35 vi36 vl37 vl38 = need (i64ok (vi3 + (1 : Int))) (Bplace_1 F f1 vc22 l vi2 (vi3 + (1 : Int)) vs23 vl24 vs25 vc26 vi27 vi28 vi29 vl30 vs31 vs32 vc33 vi34 vi35 vi36 vl37 vl38) := by kernel_rfl

theorem Fplace_eq (F : Nat) (ty : List UInt8) (ps : List (List UInt8 × List UInt8)) (en : List UInt8) (at_ : Bool) (h_ f_ t_ : Int) (ks : List Part) (l : List (List UInt8)) : Fplace F ty ps en at_ h_ f_ t_ ks l = Bplace_1 F F false l (l.length : Int) (0 : Int) ty ps en at_ h_ f_ t_ ks ([] : List UInt8) ([] : List UInt8) false (0 : Int) (0 : Int) (0 : Int) ([] : List (List UInt8 × List UInt8)) ([] : List Part) := by kernel_rfl

theorem fn_place (F : Nat) (ty : List UInt8) (ps : List (List UInt8 × List UInt8)) (en : List UInt8) (at_ : Bool) (h_ f_ t_ : Int) (ks : List Part) (l : List (List UInt8)) (r : AV) (h : (∃ M vs, ARels γ0 M [.agg [.p (.str ty), .p (.list 2 (.dat (.pair .str .str) ps)), .p (.str en), .p (.bool at_), .p (.int .i64 h_), .p (.int .i64 f_), .p (.int .i64 t_), .p (.list 8 (.dat .part ks))], .p (.list 1 (.dat .str l))] vs) → Fplace F ty ps en at_ h_ f_ t_ ks l = some (r, [])) : FnP Tryz.prog 35 [.agg [.p (.str ty), .p (.list 2 (.dat (.pair .str .str) ps)), .p (.str en), .p (.bool at_), .p (.int .i64 h_), .p (.int .i64 f_), .p (.int .i64 t_), .p (.list 8 (.dat .part ks))], .p (.list 1 (.dat .str l))] r :=
  FnP_run Gplace F rfl (EnvOk_mk (l := [(68, sp_number)]) ⟨ok_number.any, trivial⟩) (EnvROk_mk (l := []) trivial) (Checked.mixed Tryz.checked) (fn := Tryz.f35) (by kernel_rfl) (by kernel_rfl) rfl h
theorem Bplace_spec (F : Nat) (l : List (List UInt8)) (hl : l.length ≤ 1000000) (e1 e2 : List UInt8) (e3 : Bool) (e4 e5 e6 : Int) (e7 : List (List UInt8 × List UInt8)) (e8 : List Part) : ∀ (r : List (List UInt8)) (f i : Nat) (once : Bool) (p : Part), l.drop i = r → r.length < f → i ≤ l.length →
    Bplace_1 F f once l (l.length : Int) (i : Int) p.type p.params p.enc p.attach p.head p.frm p.til p.kids e1 e2 e3 e4 e5 e6 e7 e8 = some (placeT (placeO r p once), []) := by
  intro r
  induction r with
  | nil =>
    intro f i once p hd hf hi
    have : i = l.length := by have := congrArg List.length hd; simp at this; omega
    cases f with
    | zero => omega
    | succ f => rw [Bplace_1_eq]; exact cond_f (by simp; omega) rfl
  | cons w r ih =>
    intro f i once p hd hf hi
    obtain ⟨h1, h2, h3⟩ := dropG hd []
    have hw := numS_le w
    cases f with
    | zero => omega
    | succ f =>
      have go : ∀ (o2 : Bool) (q : Part), Bplace_3 F f o2 l (l.length : Int) (i : Int) q.type q.params q.enc q.attach q.head q.frm q.til q.kids e1 e2 e3 e4 e5 e6 e7 e8 = some (placeT (placeO r q o2), []) := by
        intro o2 q
        rw [Bplace_3_eq, show (i : Int) + 1 = ((i + 1 : Nat) : Int) by omega]
        exact need_mk (by unfold i64ok; omega) (ih f (i + 1) o2 q h2 (by simp at hf; omega) (by omega))
      rw [Bplace_1_eq, Int.toNat_natCast, h1, placeO]
      refine cond_t (by simp; omega) (need_mk ⟨by omega, by omega⟩ ?_)
      by_cases hok : (numS w).2 = false
      · rw [if_pos (.inl hok)]
        refine cond_t (by rw [hok]; rfl) ?_
        rw [Bplace_2_eq]
        exact cond_t (by rw [hok]; rfl) rfl
      · refine cond_f (by simpa using hok) ?_
        rw [Bplace_2_eq]
        by_cases hlt : (numS w).1 < 1
        · rw [if_pos (.inr hlt)]
          exact cond_t (by simpa using hlt) rfl
        · rw [if_neg (fun h => h.elim hok hlt)]
          refine cond_f (by simpa using hlt) ?_
          by_cases hk : p.kids.length = 0
          · rw [if_pos hk]
            refine cond_t (by rw [isZero]; simpa using hk) ?_
            by_cases h4 : (numS w).1 ≠ 1 ∨ once = true
            · rw [if_pos h4]
              exact cond_t (by rcases h4 with h4 | h4 <;> simp [h4]) rfl
            · rw [if_neg h4]
              have h5 : (numS w).1 = 1 := by
                rcases Classical.em ((numS w).1 = 1) with h | h
                · exact h
                · exact absurd (.inl h) h4
              have h6 : once = false := by
                cases once with
                | false => rfl
                | true => exact absurd (.inr rfl) h4
              exact cond_f (by rw [h5, h6]; rfl) (go true p)
          · rw [if_neg hk]
            refine cond_f (by rw [isZero]; simpa using hk) ?_
            by_cases h4 : (numS w).1 > (p.kids.length : Int)
            · rw [if_pos h4]
              exact cond_t (by simpa using h4) rfl
            · rw [if_neg h4]
              exact cond_f (by simpa using h4) (need_mk (by unfold i64ok; omega) (need_mk ⟨by omega, by omega⟩ (go once _)))
theorem place_eq (p : Part) (l : List (List UInt8)) (hl : l.length ≤ 1000000) : Fplace (l.length + 1) p.type p.params p.enc p.attach p.head p.frm p.til p.kids l = some (placeT (placeO l p false), []) := by
  rw [Fplace_eq]
  exact Bplace_spec _ l hl _ _ _ _ _ _ _ _ l _ 0 false p rfl (by omega) (by omega)
theorem FnP_res {P : Program} {f : FuncId} {args : List AV} {r r' : AV} (h : ∀ (M : Mem) (v : Value), ARel γ0 M r v → ARel γ0 M r' v) (k : FnP P f args r) : FnP P f args r' := by
  intro M w vs hM hvs
  refine (k M w vs hM hvs).mono fun e w' ⟨v, M', h1, h2, h3, h4, h5, h6⟩ => ⟨v, M', h1, h2, h3, h4, h _ _ h5, h6⟩
theorem nil_list {M : Mem} {v : Value} {k : Nat} {R : Go.Am.Rows} (h : ARel γ0 M (.p .nil) v) (h0 : R.n = 0) : ARel γ0 M (.p (.list k R)) v := by
  have := h.p_inv
  cases this with
  | nil => exact .p _ _ (.listNil k R h0)
theorem placeT_res (o : Option Part) : ∀ (M : Mem) (v : Value), ARel γ0 M (placeT o) v → ARel γ0 M (.tup [.agg [.p (.str (orZ o).type), .p (.list 2 (.dat (.pair .str .str) (orZ o).params)), .p (.str (orZ o).enc), .p (.bool (orZ o).attach), .p (.int .i64 (orZ o).head), .p (.int .i64 (orZ o).frm), .p (.int .i64 (orZ o).til), .p (.list 8 (.dat .part (orZ o).kids))], .p (.bool o.isSome)]) v := by
  cases o with
  | some q => exact fun M v h => h
  | none =>
    intro M v h
    obtain ⟨vs, rfl, hs, ht⟩ := h.tup_inv
    refine .tup _ _ (by simpa using hs) fun i hi => ?_
    match i, hi with
    | 1, _ => exact ht 1 (by simp)
    | 0, _ =>
      obtain ⟨us, e, hs2, ha⟩ := (ht 0 (by simp)).agg_inv
      show ARel γ0 M (.agg _) (vs.getD 0 undef)
      rw [e]
      refine .agg _ _ (by simpa using hs2) fun j hj => ?_
      match j, hj with
      | 0, _ => exact ha 0 (by simp)
      | 1, _ => exact nil_list (ha 1 (by simp)) rfl
      | 2, _ => exact ha 2 (by simp)
      | 3, _ => exact ha 3 (by simp)
      | 4, _ => exact ha 4 (by simp)
      | 5, _ => exact ha 5 (by simp)
      | 6, _ => exact ha 6 (by simp)
      | 7, _ => exact nil_list (ha 7 (by simp)) rfl
def sp_place : List AV → Option (AV × Option Prop)
  | [.agg [.p (.str ty), .p (.list 2 (.dat (.pair .str .str) ps)), .p (.str en), .p (.bool at_), .p (.int .i64 h), .p (.int .i64 f), .p (.int .i64 t), .p (.list 8 (.dat .part ks))], .p (.list 1 (.dat .str l))] =>
    some (.tup [.agg [.p (.str (placeP (Part.mk ty ps en at_ h f t ks) l false).1.type), .p (.list 2 (.dat (.pair .str .str) (placeP (Part.mk ty ps en at_ h f t ks) l false).1.params)), .p (.str (placeP (Part.mk ty ps en at_ h f t ks) l false).1.enc), .p (.bool (placeP (Part.mk ty ps en at_ h f t ks) l false).1.attach), .p (.int .i64 (placeP (Part.mk ty ps en at_ h f t ks) l false).1.head), .p (.int .i64 (placeP (Part.mk ty ps en at_ h f t ks) l false).1.frm), .p (.int .i64 (placeP (Part.mk ty ps en at_ h f t ks) l false).1.til), .p (.list 8 (.dat .part (placeP (Part.mk ty ps en at_ h f t ks) l false).1.kids))], .p (.bool (placeP (Part.mk ty ps en at_ h f t ks) l false).2)], some (l.length ≤ 1000000))
  | _ => none
theorem ok_place : SpecOk Tryz.prog 35 sp_place := by
  intro zs r ok he hok
  unfold sp_place at he
  split at he
  · rename_i ty ps en at_ h f t ks l
    cases he
    exact ⟨by kernel_rfl, FnP_res (placeT_res _) (fn_place _ ty ps en at_ h f t ks l _ fun _ => place_eq (Part.mk ty ps en at_ h f t ks) l hok)⟩
  · cases he
/-! ### Where parts lie -/
theorem ins_bounds {k : Nat} {p : Part} {x y : Int} (h : insideP k p x y = true) : x ≤ p.head ∧ p.head ≤ p.frm ∧ p.frm ≤ p.til ∧ p.til ≤ y := by
  cases k with
  | zero => cases h
  | succ k =>
    rw [insideP] at h
    split at h
    · cases h
    · rename_i hc
      simp at hc
      omega
theorem ins_mono {k : Nat} {p : Part} {x y x' y' : Int} (h : insideP k p x y = true) (hx : x' ≤ x) (hy : y ≤ y') : insideP k p x' y' = true := by
  have hb := ins_bounds h
  cases k with
  | zero => cases h
  | succ k =>
    rw [insideP] at h ⊢
    split at h
    · cases h
    · rw [if_neg (by simp; omega)]; exact h
theorem insL_kid {k : Nat} {t x y : Int} (ht : t ≤ y) : ∀ (l : List Part) (z : Int), insL (insideP k) t l z = true → x ≤ z → ∀ q ∈ l, insideP k q x y = true
  | [], z, h, hz, q, hq => by cases hq
  | a :: r, z, h, hz, q, hq => by
    rw [insL, Bool.and_eq_true] at h
    have hb := ins_bounds h.1
    rcases List.mem_cons.1 hq with rfl | hq
    · exact ins_mono h.1 hz ht
    · exact insL_kid ht r a.til h.2 (by omega) q hq
theorem ins_kid {k : Nat} {p : Part} {x y : Int} (h : insideP (k + 1) p x y = true) : ∀ q ∈ p.kids, insideP k q x y = true := by
  have hb := ins_bounds h
  rw [insideP] at h
  split at h
  · cases h
  · exact insL_kid (by omega) p.kids p.frm h (by omega)
def okP (L : Int) (p : Part) : Prop := ∃ k, insideP k p 0 L = true
theorem okP_kid {L : Int} {p q : Part} (h : okP L p) (hq : q ∈ p.kids) : okP L q := by
  obtain ⟨k, hk⟩ := h
  cases k with
  | zero => cases hk
  | succ k => exact ⟨k, ins_kid hk q hq⟩
theorem okP_b {L : Int} {p : Part} (h : okP L p) : 0 ≤ p.head ∧ p.head ≤ p.frm ∧ p.frm ≤ p.til ∧ p.til ≤ L := by
  obtain ⟨k, hk⟩ := h
  exact ins_bounds hk
theorem placeO_ok {L : Int} : ∀ (l : List (List UInt8)) {p q : Part} {o : Bool}, okP L p → placeO l p o = some q → okP L q
  | [], p, q, o, h, e => by cases e; exact h
  | w :: r, p, q, o, h, e => by
    rw [placeO] at e
    split at e
    · cases e
    · rename_i h1
      split at e
      · split at e
        · cases e
        · exact placeO_ok r h e
      · split at e
        · cases e
        · rename_i h3 h4
          exact placeO_ok r (okP_kid h (getD_mem (by omega) _)) e
theorem treeT_ok (s : List UInt8) : okP (s.length : Int) (treeT s) := ⟨7, tree_ins 6 _ _ _ (by omega) (by omega) (by omega) _ _ (by omega) (by omega)⟩
theorem splB_len (c : UInt8) : ∀ s : List UInt8, (splB c s).length ≤ s.length + 1
  | [] => by simp [splB]
  | x :: r => by
    have := splB_len c r
    rw [splB]
    split
    · simp; omega
    · split
      · rename_i h; rw [h] at this; simp at this ⊢; omega
      · simp
abbrev cHEAD : List UInt8 := [72, 69, 65, 68, 69, 82]
abbrev cTEXT : List UInt8 := [84, 69, 88, 84]
abbrev cMIME : List UInt8 := [46, 77, 73, 77, 69]
def secO (s : List UInt8) (mime : Bool) : Option Part → List UInt8 × Bool
  | none => ([], false)
  | some q => if mime = true then ((s.take q.frm.toNat).drop q.head.toNat, true) else ((s.take q.til.toNat).drop q.frm.toNat, true)
def sectS (s p : List UInt8) : List UInt8 × Bool :=
  if p = [] then (s, true) else if p = cHEAD then (s.take (splitS s 0 (s.length : Int)).2.toNat, true)
  else if p = cTEXT then (s.drop (splitS s 0 (s.length : Int)).2.toNat, true)
  else secO s (sufS p cMIME).2 (placeO (splB 46 (sufS p cMIME).1) (treeT s) false)
def secT (p : List UInt8 × Bool) : AV := .tup [.p (.str p.1), .p (.bool p.2)]
theorem body_all (s : List UInt8) : 0 ≤ (splitS s 0 (s.length : Int)).2 ∧ (splitS s 0 (s.length : Int)).2 ≤ (s.length : Int) := body_ok (s := s) (a := 0) (b := (s.length : Int)) (by omega) (by omega) (by omega)
theorem sufS_len (s p : List UInt8) : (sufS s p).1.length ≤ s.length := by
  unfold sufS
  split <;> simp
noncomputable def csection : Code := bodyOf Tryz.f15

noncomputable def Gsection : Cfg := ⟨Tryz.prog, mkEnv [(24, sp_fields), (30, sp_tree), (34, sp_csf), (35, sp_place), (36, sp_spl)], mkEnvR [], 61, [], [([1, 1, 1, 1, 1], ⟨[0, 9, 10, 11], [⟨.slot 10, 10, .cells []⟩]⟩)], []⟩

noncomputable def Bsection_1 (F : Nat) (s : List UInt8) (vc1 vc2 : Bool) (vs3 : List UInt8) (vl4 : List (List UInt8 × List UInt8)) (vs5 : List UInt8) (vc6 : Bool) (vi7 vi8 vi9 : Int) (vl10 : List Part) : Option Ans := runB Gsection csection (kP Tryz.prog Tryz.f15.results.toList) F [] [1, 1, 1, 1, 1] [(0, .p (.str s)), (9, .p (.bool vc1)), (10, .ref 10 0), (11, .p (.bool vc2))] [(10, .cells [.p (.str vs3), .p (.list 2 (.dat (.pair .str .str) vl4)), .p (.str vs5), .p (.bool vc6), .p (.int .i64 vi7), .p (.int .i64 vi8), .p (.int .i64 vi9), .p (.list 8 (.dat .part vl10))])]

noncomputable def Fsection (F : Nat) (s p : List UInt8) : Option Ans := runF Gsection Tryz.f15 F [.p (.str s), .p (.str p)]

theorem Bsection_1_eq (F : Nat) (s : List UInt8) (vc1 vc2 : Bool) (vs3 : List UInt8) (vl4 : List (List UInt8 × List UInt8)) (vs5 : List UInt8) (vc6 : Bool) (vi7 vi8 vi9 : Int) (vl10 : List Part) : Bsection_1 F s vc1 vc2 vs3 vl4 vs5 vc6 vi7 vi8 vi9 vl10 = cond (!vc2) (some (.tup [.p (.str ([] : List UInt8)), .p (.bool false)], [])) (cond (vc1) (need (0 ≤ vi7 ∧ vi7 ≤ vi8 ∧ vi8 ≤ (s.length : Int)) (some (.tup [.p (.str ((s.take (vi8).toNat).drop (vi7).toNat)), .p (.bool true)], []))) (need (0 ≤ vi8 ∧ vi8 ≤ vi9 ∧ vi9 ≤ (s.length : Int)) (some (.tup [.p (.str ((s.take (vi9).toNat).drop (vi8).toNat)), .p (.bool true)], [])))) := by kernel_rfl

theorem Fsection_eq (F : Nat) (s p : List UInt8) : Fsection F s p = need (s.length ≤ 1000000) (cond (p == ([] : List UInt8)) (some (.tup [.p (.str s), .p (.bool true)], [])) (cond (p == ([72, 69, 65, 68, 69, 82] : List UInt8)) (need (0 ≤ ((splitS s 0 (s.length : Int)).2) ∧ ((splitS s 0 (s.length : Int)).2) ≤ (s.length : Int)) (some (.tup [.p (.str (s.take ((splitS s 0 (s.length : Int)).2).toNat)), .p (.bool true)], []))) (cond (p == ([84, 69, 88, 84] : List UInt8)) (need (0 ≤ ((splitS s 0 (s.length : Int)).2) ∧ ((splitS s 0 (s.length : Int)).2) ≤ (s.length : Int)) (some (.tup [.p (.str (s.drop ((splitS s 0 (s.length : Int)).2).toNat)), .p (.bool true)], []))) (need (p.length ≤ 1000000) (need (s.length ≤ 1000000) (need (((sufS p ([46, 77, 73, 77, 69] : List UInt8)).1).length ≤ 1000000) (need ((splB 46 ((sufS p ([46, 77, 73, 77, 69] : List UInt8)).1)).length ≤ 1000000) (Bsection_1 F s ((sufS p ([46, 77, 73, 77, 69] : List UInt8)).2) ((placeP (Part.mk ((treeT s).type) ((treeT s).params) ((treeT s).enc) ((treeT s).attach) ((treeT s).head) ((treeT s).frm) ((treeT s).til) ((treeT s).kids)) (splB 46 ((sufS p ([46, 77, 73, 77, 69] : List UInt8)).1)) false).2) (((placeP (Part.mk ((treeT s).type) ((treeT s).params) ((treeT s).enc) ((treeT s).attach) ((treeT s).head) ((treeT s).frm) ((treeT s).til) ((treeT s).kids)) (splB 46 ((sufS p ([46, 77, 73, 77, 69] : List UInt8)).1)) false).1).type) (((placeP (Part.mk ((treeT s).type) ((treeT s).params) ((treeT s).enc) ((treeT s).attach) ((treeT s).head) ((treeT s).frm) ((treeT s).til) ((treeT s).kids)) (splB 46 ((sufS p ([46, 77, 73, 77, 69] : List UInt8)).1)) false).1).params) (((placeP (Part.mk ((treeT s).type) ((treeT s).params) ((treeT s).enc) ((treeT s).attach) ((treeT s).head) ((treeT s).frm) ((treeT s).til) ((treeT s).kids)) (splB 46 ((sufS p ([46, 77, 73, 77, 69] : List UInt8)).1)) false).1).enc) (((placeP (Part.mk ((treeT s).type) ((treeT s).params) ((treeT s).enc) ((treeT s).attach) ((treeT s).head) ((treeT s).frm) ((treeT s).til) ((treeT s).kids)) (splB 46 ((sufS p ([46, 77, 73, 77, 69] : List UInt8)).1)) false).1).attach) (((placeP (Part.mk ((treeT s).type) ((treeT s).params) ((treeT s).enc) ((treeT s).attach) ((treeT s).head) ((treeT s).frm) ((treeT s).til) ((treeT s).kids)) (splB 46 ((sufS p ([46, 77, 73, 77, 69] : List UInt8)).1)) false).1).head) (((placeP (Part.mk ((treeT s).type) ((treeT s).params) ((treeT s).enc) ((treeT s).attach) ((treeT s).head) ((treeT s).frm) ((treeT s).til) ((treeT s).kids)) (splB 46 ((sufS p ([46, 77, 73, 77, 69] : List UInt8)).1)) false).1).frm) (((placeP (Part.mk ((treeT s).type) ((treeT s).params) ((treeT s).enc) ((treeT s).attach) ((treeT s).head) ((treeT s).frm) ((treeT s).til) ((treeT s).kids)) (splB 46 ((sufS p ([46, 77, 73, 77, 69] : List UInt8)).1)) false).1).til) (((placeP (Part.mk ((treeT s).type) ((treeT s).params) ((treeT s).enc) ((treeT s).attach) ((treeT s).head) ((treeT s).frm) ((treeT s).til) ((treeT s).kids)) (splB 46 ((sufS p ([46, 77, 73, 77, 69] : List UInt8)).1)) false).1).kids))))))))) := by kernel_rfl

theorem fn_section (F : Nat) (s p : List UInt8) (r : AV) (h : (∃ M vs, ARels γ0 M [.p (.str s), .p (.str p)] vs) → Fsection F s p = some (r, [])) : FnP Tryz.prog 15 [.p (.str s), .p (.str p)] r :=
  FnP_run Gsection F rfl (EnvOk_mk (l := [(24, sp_fields), (30, sp_tree), (34, sp_csf), (35, sp_place), (36, sp_spl)]) ⟨ok_fields.any, ok_tree.any, ok_csf.any, ok_place.any, ok_spl.any, trivial⟩) (EnvROk_mk (l := []) trivial) (Checked.mixed Tryz.checked) (fn := Tryz.f15) (by kernel_rfl) (by kernel_rfl) rfl h
theorem section_eq (s p : List UInt8) (h : s.length ≤ 1000000 ∧ p.length ≤ 100000) : Fsection 0 s p = some (secT (sectS s p), []) := by
  have hb := body_all s
  have hl : (sufS p ([46, 77, 73, 77, 69] : List UInt8)).1.length ≤ p.length := sufS_len p _
  have hl2 := splB_len 46 (sufS p ([46, 77, 73, 77, 69] : List UInt8)).1
  rw [Fsection_eq, sectS]
  refine need_mk h.1 ?_
  by_cases h1 : p = []
  · rw [if_pos h1]; exact cond_t (by rw [h1]; rfl) rfl
  rw [if_neg h1]
  refine cond_f (by simpa using h1) ?_
  by_cases h2 : p = cHEAD
  · rw [if_pos h2]; exact cond_t (by rw [h2]; rfl) (need_mk hb rfl)
  rw [if_neg h2]
  refine cond_f (by simpa using h2) ?_
  by_cases h3 : p = cTEXT
  · rw [if_pos h3]; exact cond_t (by rw [h3]; rfl) (need_mk hb rfl)
  rw [if_neg h3]
  refine cond_f (by simpa using h3) (need_mk (by omega) (need_mk (by omega) (need_mk (by omega) (need_mk (by omega) ?_))))
  rw [Bsection_1_eq, part_eta]
  unfold placeP
  cases ho : placeO (splB 46 (sufS p cMIME).1) (treeT s) false with
  | none => exact cond_t rfl rfl
  | some q =>
    have hq := okP_b (placeO_ok _ (treeT_ok s) ho)
    refine cond_f rfl ?_
    cases hm : (sufS p cMIME).2 with
    | true => exact cond_t rfl (need_mk ⟨hq.1, hq.2.1, by show q.frm ≤ _; omega⟩ rfl)
    | false => exact cond_f rfl (need_mk ⟨by show 0 ≤ q.frm; omega, hq.2.2.1, hq.2.2.2⟩ rfl)
def sp_section : List AV → Option (AV × Option Prop)
  | [.p (.str s), .p (.str p)] => some (.tup [.p (.str ((sectS s p).1)), .p (.bool ((sectS s p).2))], some (s.length ≤ 1000000 ∧ p.length ≤ 100000))
  | _ => none
theorem ok_section : SpecOk Tryz.prog 15 sp_section := by
  intro zs r ok he hok
  unfold sp_section at he
  split at he
  · cases he; exact ⟨by kernel_rfl, fn_section 0 _ _ _ fun hx => section_eq _ _ hok⟩
  · cases he














end Go.Proofs.YtoanepondbagcaaGreatDoor
