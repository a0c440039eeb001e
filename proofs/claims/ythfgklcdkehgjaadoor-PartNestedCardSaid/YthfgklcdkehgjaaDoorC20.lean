/-
  Lifted functions, and facts about them.
-/
import Derived.Test.YthfgklcdkehgjaaDoorRows
import Derived.Test.YthfgklcdkehgjaaDoorAmC
import Derived.Test.YthfgklcdkehgjaaDoorC19
import Derived.Test.YthfgklcdkehgjaaDoorC01
namespace Go.Proofs.YthfgklcdkehgjaaDoor
open Go Go.Am
set_option linter.unusedVariables false
/-! PartNested: a part of parts in a part of parts. -/
def hMix : List UInt8 := [67, 111, 110, 116, 101, 110, 116, 45, 84, 121, 112, 101, 58, 32, 109, 117, 108, 116, 105, 112, 97, 114, 116, 47, 109, 105, 120, 101, 100, 59, 32, 98, 111, 117, 110, 100, 97, 114, 121, 61, 111, 117, 116]
def hAlt : List UInt8 := [67, 111, 110, 116, 101, 110, 116, 45, 84, 121, 112, 101, 58, 32, 109, 117, 108, 116, 105, 112, 97, 114, 116, 47, 97, 108, 116, 101, 114, 110, 97, 116, 105, 118, 101, 59, 32, 98, 111, 117, 110, 100, 97, 114, 121, 61, 105, 110]
def hHtml : List UInt8 := [67, 111, 110, 116, 101, 110, 116, 45, 84, 121, 112, 101, 58, 32, 116, 101, 120, 116, 47, 104, 116, 109, 108]
def mOut : List UInt8 := [45, 45, 111, 117, 116]
def mIn : List UInt8 := [45, 45, 105, 110]
def mOutE : List UInt8 := [45, 45, 111, 117, 116, 45, 45]
def mInE : List UInt8 := [45, 45, 105, 110, 45, 45]
def bOut : List UInt8 := [111, 117, 116]
def bIn : List UInt8 := [105, 110]
def tMix : List UInt8 := [109, 117, 108, 116, 105, 112, 97, 114, 116, 47, 109, 105, 120, 101, 100]
def tAlt : List UInt8 := [109, 117, 108, 116, 105, 112, 97, 114, 116, 47, 97, 108, 116, 101, 114, 110, 97, 116, 105, 118, 101]
def tHtml : List UInt8 := [116, 101, 120, 116, 47, 104, 116, 109, 108]
def bnd : List UInt8 := [98, 111, 117, 110, 100, 97, 114, 121]
def seven : List UInt8 := [55, 98, 105, 116]
def crlf : List UInt8 := [13, 10]
theorem crlf_nl : isNl crlf := .inr rfl
theorem crlf_len : crlf.length = 2 := rfl
def lns : List (List UInt8) → List UInt8 → List UInt8
  | [], q => q
  | l :: r, q => l ++ (crlf ++ lns r q)
def lnsL : List (List UInt8) → Nat
  | [] => 0
  | l :: r => l.length + 2 + lnsL r
theorem lns_len : ∀ (L : List (List UInt8)) (q : List UInt8), (lns L q).length = lnsL L + q.length
  | [], q => by simp [lns, lnsL]
  | l :: r, q => by rw [lns, lnsL, List.length_append, List.length_append, lns_len r q, crlf_len]; omega
def notM (m l : List UInt8) : Prop := trimRB l ≠ ([45, 45] ++ m) ++ [45, 45] ∧ trimRB l ≠ [45, 45] ++ m
theorem skip_lns {s m : List UInt8} {n : Nat} {op : Option Nat} {out : List (Nat × Nat)} : ∀ (L : List (List UInt8)) (p : Nat) (q : List UInt8), (∀ l ∈ L, isLn l ∧ notM m l) → spF s ([45, 45] ++ m) n (lnF [] p (lns L q)) op out = spF s ([45, 45] ++ m) n (lnF [] (p + lnsL L) q) op out
  | [], p, q, h => rfl
  | l :: r, p, q, h => by
    obtain ⟨h1, h2, h3⟩ := h l (by simp)
    rw [lns, line_step crlf_nl h1, spF, if_neg h2, if_neg h3, skip_lns r _ q fun x hx => h x (List.mem_cons_of_mem _ hx), crlf_len, lnsL]
    rw [show p + (l.length + 2) + lnsL r = p + (l.length + 2 + lnsL r) by omega]
theorem mark_ln {s m l : List UInt8} {n : Nat} {op : Option Nat} {out : List (Nat × Nat)} (p x : Nat) (q : List UInt8) (hl : isLn l) (h1 : trimRB l = [45, 45] ++ m) (hm : m ≠ []) (ho : ∀ o, op = some o → o ≤ x ∧ aheadN s p = x) : spF s ([45, 45] ++ m) n (lnF [] p (l ++ (crlf ++ q))) op out = spF s ([45, 45] ++ m) n (lnF [] (p + (l.length + 2)) q) (some (p + (l.length + 2))) (out ++ clo op x) := by
  rw [line_step crlf_nl hl, spF, if_neg, if_pos h1, addS_clo ho, crlf_len]
  rw [h1]; intro h
  have := congrArg List.length h
  simp at this
theorem end_ln {s m l : List UInt8} {n : Nat} {op : Option Nat} {out : List (Nat × Nat)} (p x : Nat) (q : List UInt8) (hl : isLn l) (h1 : trimRB l = ([45, 45] ++ m) ++ [45, 45]) (ho : ∀ o, op = some o → o ≤ x ∧ aheadN s p = x) : spF s ([45, 45] ++ m) n (lnF [] p (l ++ (crlf ++ q))) op out = out ++ clo op x := by
  rw [line_step crlf_nl hl, spF, if_pos h1, addS_clo ho]
theorem ahead_crlf {s Q T : List UInt8} {p : Nat} (h : s = Q ++ (crlf ++ T)) (hp : p = Q.length + 2) : aheadN s p = Q.length := by
  rw [h, hp]; exact ahead_end crlf_nl (fun h => by cases h)
/-! The heads of parts. -/
theorem gath_one {l : List UInt8} (hl : l ≠ []) (a1 a2 a3 a4 : Nat) (L : List (Nat × List UInt8 × Nat)) (y : Int) : gathS ((a1, l, a2) :: (a3, [], a4) :: L) y [] = ([l], (a4 : Int)) := by
  rw [gathS, if_neg hl, if_neg (fun h => h.1 rfl), List.nil_append, gathS, if_pos rfl]
/-- a part with a header of one line -/
theorem one_head {l M Q T : List UInt8} (hl : isLn l) (hne : l ≠ []) {x y : Int} (hx : x = (Q.length : Nat)) (hy : y = ((Q.length + (l ++ (crlf ++ ([] ++ (crlf ++ M)))).length : Nat) : Int)) : splitS (Q ++ ((l ++ (crlf ++ ([] ++ (crlf ++ M)))) ++ T)) x y = (fieldsS [l], ((Q.length + l.length + 4 : Nat) : Int)) := by
  rw [mid_split hx hy, line_step crlf_nl hl, line_step crlf_nl (isLn_of (by decide)), gath_one hne, crlf_len, List.length_nil]
  rw [show Q.length + (l.length + 2) + (0 + 2) = Q.length + l.length + 4 by omega]
/-- a part with no header -/
theorem one_none {M Q T : List UInt8} {x y : Int} (hx : x = (Q.length : Nat)) (hy : y = ((Q.length + ([] ++ (crlf ++ M)).length : Nat) : Int)) : splitS (Q ++ (([] ++ (crlf ++ M)) ++ T)) x y = ([], ((Q.length + 2 : Nat) : Int)) := by
  rw [mid_split hx hy, line_step crlf_nl (isLn_of (by decide)), gathS, if_pos rfl, crlf_len, List.length_nil]
  rw [show Q.length + (0 + 2) = Q.length + 2 by omega]; rfl
theorem part_none {s M Q T : List UInt8} (hs : s = Q ++ (([] ++ (crlf ++ M)) ++ T)) {e : Int} {d : Nat} {n : Int} {x y : Int} (hx : x = (Q.length : Nat)) (hy : y = ((Q.length + 2 + M.length : Nat) : Int)) : treeP e s (d + 1) x y n = (Part.mk textP [] seven false x ((Q.length + 2 : Nat) : Int) y [], n) := by
  have h := one_none (M := M) (Q := Q) (T := T) (y := y) hx (by rw [hy]; simp [crlf_len]; omega)
  rw [← hs] at h
  refine kid_tree ?_
  unfold oneP
  rw [h]
  have h1 : typeF [] = (textP, []) := by kernel_rfl
  have h2 : encF [] = seven := by kernel_rfl
  have h3 : attF [] = false := by kernel_rfl
  dsimp only
  rw [h1, h2, h3]
theorem html_none {s M Q T : List UInt8} (hs : s = Q ++ ((hHtml ++ (crlf ++ ([] ++ (crlf ++ M)))) ++ T)) {e : Int} {d : Nat} {n : Int} {x y : Int} (hx : x = (Q.length : Nat)) (hy : y = ((Q.length + 27 + M.length : Nat) : Int)) : treeP e s (d + 1) x y n = (Part.mk tHtml [] seven false x ((Q.length + 27 : Nat) : Int) y [], n) := by
  have hh : hHtml.length = 23 := rfl
  have h := one_head (l := hHtml) (M := M) (Q := Q) (T := T) (isLn_of (by decide)) (by decide) (y := y) hx (by rw [hy]; simp [crlf_len, hh]; omega)
  rw [← hs] at h
  have h1 : oneP s x y = Part.mk tHtml [] seven false x ((Q.length + 27 : Nat) : Int) y [] := by
    unfold oneP
    rw [h]
    have h1 : typeF (fieldsS [hHtml]) = (tHtml, []) := by kernel_rfl
    have h2 : encF (fieldsS [hHtml]) = seven := by kernel_rfl
    have h3 : attF (fieldsS [hHtml]) = false := by kernel_rfl
    dsimp only
    rw [h1, h2, h3, hh]
  rw [treeP, if_pos (by unfold markP; rw [h1]; rfl), h1]
/-- What stands in a part that is not encoded. -/
theorem cont_mid {s Q M T : List UInt8} {ty : List UInt8} {ps : List (List UInt8 × List UInt8)} {at_ : Bool} {x f t : Int} {ks : List Part} (hs : s = Q ++ (M ++ T)) (hf : f = (Q.length : Nat)) (ht : t = ((Q.length + M.length : Nat) : Int)) : contP s (Part.mk ty ps seven at_ x f t ks) = M := by
  unfold contP
  show (if ((decide (f < 0) || decide (t > (s.length : Int))) || decide (f > t)) = true then _ else if seven = [98, 97, 115, 101, 54, 52] then looseB ((s.take t.toNat).drop f.toNat) else if seven = [113, 117, 111, 116, 101, 100, 45, 112, 114, 105, 110, 116, 97, 98, 108, 101] then qdec ((s.take t.toNat).drop f.toNat) else (s.take t.toNat).drop f.toNat) = _
  rw [if_neg (by rw [hs]; simp; omega), if_neg (by decide), if_neg (by decide), hf, ht, Int.toNat_natCast, Int.toNat_natCast, hs, mid_take]
theorem kids_two {rec : Int → Int → Int → Part × Int} (x1 y1 x2 y2 n m k : Int) (p q : Part) (h1 : rec x1 y1 (n + 1) = (p, m)) (h2 : rec x2 y2 (m + 1) = (q, k)) (hn : n + 1 ≤ 30) (hm : m + 1 ≤ 30) : kidsP 1 rec [(x1, y1), (x2, y2)] n = ([p, q], k) := by
  rw [kidsP, if_pos hn]
  dsimp only
  rw [h1, kidsP, if_pos hm]
  dsimp only
  rw [h2, kidsP]
/-! The text. -/
def tailIn (o : Bool) : List UInt8 := if o = true then [] else crlf ++ mInE
def innerT (a b : List UInt8) (o : Bool) : List UInt8 := hAlt ++ (crlf ++ ([] ++ (crlf ++ (mIn ++ (crlf ++ ([] ++ (crlf ++ (a ++ (crlf ++ (mIn ++ (crlf ++ (hHtml ++ (crlf ++ ([] ++ (crlf ++ (b ++ tailIn o))))))))))))))))
def innerL (a b : List UInt8) (o : Bool) : List (List UInt8) := [hAlt, [], mIn, [], a, mIn, hHtml, [], b] ++ (if o = true then [] else [mInE])
theorem inner_lns (a b : List UInt8) (o : Bool) (q : List UInt8) : innerT a b o ++ (crlf ++ q) = lns (innerL a b o) q := by
  cases o <;> simp [innerT, innerL, tailIn, lns]
def headO : List UInt8 := hMix ++ (crlf ++ crlf)
def nestT (a b c : List UInt8) (o : Bool) : List UInt8 := headO ++ (mOut ++ (crlf ++ (innerT a b o ++ (crlf ++ (mOut ++ (crlf ++ (([] ++ (crlf ++ c)) ++ (crlf ++ (mOutE ++ crlf)))))))))
theorem innerT_len (a b : List UInt8) (o : Bool) : (innerT a b o).length = 95 + a.length + b.length + (tailIn o).length := by
  have h1 : hAlt.length = 48 := rfl
  have h2 : mIn.length = 4 := rfl
  have h3 : hHtml.length = 23 := rfl
  unfold innerT
  simp only [List.length_append, List.length_nil, crlf_len, h1, h2, h3]
  clear h1 h2 h3
  generalize (tailIn o).length = t
  omega
theorem headO_len : headO.length = 47 := rfl
theorem okB_notM {m l : List UInt8} (hm : m ≠ []) (h : okB l) : isLn l ∧ notM m l := ⟨h.1, not_mark hm h.2⟩
/-! ### The outer part -/
theorem outer_spans {a b c s : List UInt8} {o : Bool} (ha : okB a) (hb : okB b) (hc : okB c) (hs : s = nestT a b c o) :
    spF s ([45, 45] ++ bOut) s.length (linesN s 47 s.length) none [] = [(54, 54 + (innerT a b o).length), (54 + (innerT a b o).length + 9, 54 + (innerT a b o).length + 11 + c.length)] := by
  have hmo : mOut.length = 5 := rfl
  have hme : mOutE.length = 7 := rfl
  have hs1 : s = headO ++ ((mOut ++ (crlf ++ lns (innerL a b o) (mOut ++ (crlf ++ lns [[], c] (mOutE ++ (crlf ++ [])))))) ++ []) := by
    rw [hs, ← inner_lns]; unfold nestT; simp [lns]
  have hm := mid_lines (Q := headO) (M := mOut ++ (crlf ++ lns (innerL a b o) (mOut ++ (crlf ++ lns [[], c] (mOutE ++ (crlf ++ [])))))) (T := [])
  have hsl := congrArg List.length hs1
  rw [List.append_nil, List.length_append] at hsl
  rw [← hs1, ← hsl, headO_len] at hm
  have hL : lnsL (innerL a b o) = (innerT a b o).length + 2 := by
    have := congrArg List.length (inner_lns a b o [])
    rw [lns_len, List.append_nil, List.length_append, crlf_len, List.length_nil] at this
    omega
  have hA1 : aheadN s (54 + (innerT a b o).length + 2) = 54 + (innerT a b o).length := by
    have h2 : s = (headO ++ (mOut ++ (crlf ++ innerT a b o))) ++ (crlf ++ (mOut ++ (crlf ++ (([] ++ (crlf ++ c)) ++ (crlf ++ (mOutE ++ crlf)))))) := by rw [hs]; unfold nestT; simp only [List.append_assoc]
    have hq : (headO ++ (mOut ++ (crlf ++ innerT a b o))).length = 54 + (innerT a b o).length := by simp only [List.length_append, headO_len, hmo, crlf_len]; omega
    have := ahead_crlf h2 (p := 54 + (innerT a b o).length + 2) (by rw [hq])
    rw [this, hq]
  have hA2 : aheadN s (54 + (innerT a b o).length + 13 + c.length) = 54 + (innerT a b o).length + 11 + c.length := by
    have h2 : s = (headO ++ (mOut ++ (crlf ++ (innerT a b o ++ (crlf ++ (mOut ++ (crlf ++ (crlf ++ c)))))))) ++ (crlf ++ (mOutE ++ crlf)) := by rw [hs]; unfold nestT; simp only [List.append_assoc, List.nil_append]
    have hq : (headO ++ (mOut ++ (crlf ++ (innerT a b o ++ (crlf ++ (mOut ++ (crlf ++ (crlf ++ c)))))))).length = 54 + (innerT a b o).length + 11 + c.length := by simp only [List.length_append, headO_len, hmo, crlf_len]; omega
    have := ahead_crlf h2 (p := 54 + (innerT a b o).length + 13 + c.length) (by omega)
    rw [this, hq]
  rw [hm, mark_ln 47 0 _ (isLn_of (by decide)) (by decide +kernel) (by decide) (fun o h => by cases h)]
  rw [skip_lns (innerL a b o) _ _ (by
    intro l hl
    have hcon : ∀ l : List UInt8, (l.all (fun c => c != 10 && c != 13)) = true → trimRB l ≠ ([45, 45] ++ bOut) ++ [45, 45] → trimRB l ≠ [45, 45] ++ bOut → isLn l ∧ notM bOut l := fun l h1 h2 h3 => ⟨isLn_of h1, h2, h3⟩
    have e1 := hcon hAlt (by decide +kernel) (by decide +kernel) (by decide +kernel)
    have e2 := hcon [] (by decide +kernel) (by decide +kernel) (by decide +kernel)
    have e3 := hcon mIn (by decide +kernel) (by decide +kernel) (by decide +kernel)
    have e4 := hcon hHtml (by decide +kernel) (by decide +kernel) (by decide +kernel)
    have e5 := hcon mInE (by decide +kernel) (by decide +kernel) (by decide +kernel)
    have e6 := okB_notM (m := bOut) (by decide) ha
    have e7 := okB_notM (m := bOut) (by decide) hb
    unfold innerL at hl
    rcases List.mem_append.1 hl with hl | hl
    · simp only [List.mem_cons, List.not_mem_nil, or_false] at hl
      rcases hl with rfl | rfl | rfl | rfl | rfl | rfl | rfl | rfl | rfl <;> assumption
    · cases o with
      | true => rw [if_pos rfl] at hl; cases hl
      | false => rw [if_neg (by simp)] at hl; rw [List.mem_singleton.1 hl]; exact e5)]
  rw [hmo, hL, show 47 + (5 + 2) + ((innerT a b o).length + 2) = 54 + (innerT a b o).length + 2 by omega]
  rw [mark_ln (54 + (innerT a b o).length + 2) (54 + (innerT a b o).length) _ (isLn_of (by decide)) (by decide +kernel) (by decide) (fun o h => by cases h; exact ⟨by omega, hA1⟩)]
  rw [skip_lns [[], c] _ _ (by
    intro l hl
    simp only [List.mem_cons, List.not_mem_nil, or_false] at hl
    rcases hl with rfl | rfl
    · exact ⟨isLn_of (by decide), by decide +kernel, by decide +kernel⟩
    · exact okB_notM (by decide) hc)]
  rw [hmo, show 54 + (innerT a b o).length + 2 + (5 + 2) + lnsL [[], c] = 54 + (innerT a b o).length + 13 + c.length by simp [lnsL]; omega]
  rw [end_ln (54 + (innerT a b o).length + 13 + c.length) (54 + (innerT a b o).length + 11 + c.length) _ (isLn_of (by decide)) (by decide +kernel) (fun o h => by cases h; exact ⟨by omega, hA2⟩)]
  unfold clo
  rw [List.nil_append, List.nil_append, List.singleton_append]
/-! ### The inner part -/
def restI (a b : List UInt8) (o : Bool) : List UInt8 := mIn ++ (crlf ++ lns [[], a] (mIn ++ (crlf ++ lns [hHtml, []] (b ++ tailIn o))))
def QA : List UInt8 := headO ++ (mOut ++ (crlf ++ (hAlt ++ (crlf ++ (crlf ++ (mIn ++ crlf))))))
def TT (c : List UInt8) : List UInt8 := crlf ++ (mOut ++ (crlf ++ (crlf ++ (c ++ (crlf ++ (mOutE ++ crlf))))))
theorem QA_len : QA.length = 112 := rfl
theorem mIn_len : mIn.length = 4 := rfl
theorem mOut_len : mOut.length = 5 := rfl
theorem hAlt_len : hAlt.length = 48 := rfl
theorem hHtml_len : hHtml.length = 23 := rfl
theorem nest_A (a b c : List UInt8) (o : Bool) : nestT a b c o = QA ++ (([] ++ (crlf ++ a)) ++ (crlf ++ (mIn ++ (crlf ++ (hHtml ++ (crlf ++ (crlf ++ (b ++ (tailIn o ++ TT c))))))))) := by simp only [nestT, innerT, QA, TT, List.append_assoc, List.nil_append]
theorem nest_B (a b c : List UInt8) (o : Bool) : nestT a b c o = (QA ++ (crlf ++ (a ++ (crlf ++ (mIn ++ crlf))))) ++ ((hHtml ++ (crlf ++ ([] ++ (crlf ++ b)))) ++ (tailIn o ++ TT c)) := by simp only [nestT, innerT, QA, TT, List.append_assoc, List.nil_append]
theorem nest_C (a b c : List UInt8) (o : Bool) : nestT a b c o = (headO ++ (mOut ++ (crlf ++ (innerT a b o ++ (crlf ++ (mOut ++ crlf)))))) ++ (([] ++ (crlf ++ c)) ++ (crlf ++ (mOutE ++ crlf))) := by simp only [nestT, List.append_assoc, List.nil_append]
theorem nest_I (a b c : List UInt8) (o : Bool) : nestT a b c o = (headO ++ (mOut ++ crlf)) ++ ((hAlt ++ (crlf ++ ([] ++ (crlf ++ restI a b o)))) ++ TT c) := by simp only [nestT, innerT, restI, lns, TT, List.append_assoc, List.nil_append]
theorem nest_R (a b c : List UInt8) (o : Bool) : nestT a b c o = (headO ++ (mOut ++ (crlf ++ (hAlt ++ (crlf ++ crlf))))) ++ (restI a b o ++ TT c) := by simp only [nestT, innerT, restI, lns, TT, List.append_assoc, List.nil_append]
theorem restI_len (a b : List UInt8) (o : Bool) : (restI a b o).length = 43 + a.length + b.length + (tailIn o).length := by
  unfold restI
  simp only [List.length_append, lns_len, lnsL, List.length_nil, crlf_len, mIn_len, hHtml_len]; omega
theorem inner_spans {a b c s : List UInt8} {o : Bool} (ha : okB a) (hb : okB b) (hs : s = nestT a b c o) :
    spF s ([45, 45] ++ bIn) (54 + (innerT a b o).length) (linesN s 106 (54 + (innerT a b o).length)) none [] = [(112, 114 + a.length), (122 + a.length, 149 + a.length + b.length)] := by
  have hIl := innerT_len a b o
  have hRl := restI_len a b o
  have hq : (headO ++ (mOut ++ (crlf ++ (hAlt ++ (crlf ++ crlf))))).length = 106 := by simp only [List.length_append, headO_len, mOut_len, hAlt_len, crlf_len]
  have hm := mid_lines (Q := headO ++ (mOut ++ (crlf ++ (hAlt ++ (crlf ++ crlf))))) (M := restI a b o) (T := TT c)
  rw [← nest_R, ← hs, hq, show 106 + (restI a b o).length = 54 + (innerT a b o).length by omega] at hm
  have hA1 : aheadN s (116 + a.length) = 114 + a.length := by
    have h2 : s = (QA ++ (crlf ++ a)) ++ (crlf ++ (mIn ++ (crlf ++ (hHtml ++ (crlf ++ (crlf ++ (b ++ (tailIn o ++ TT c)))))))) := by rw [hs, nest_A]; simp only [List.append_assoc, List.nil_append]
    have hq : (QA ++ (crlf ++ a)).length = 114 + a.length := by simp only [List.length_append, QA_len, crlf_len]; omega
    have := ahead_crlf h2 (p := 116 + a.length) (by omega)
    rw [this, hq]
  rw [hm]
  unfold restI
  rw [mark_ln 106 0 _ (isLn_of (by decide)) (by decide +kernel) (by decide) (fun o h => by cases h)]
  rw [skip_lns [[], a] _ _ (by
    intro l hl
    simp only [List.mem_cons, List.not_mem_nil, or_false] at hl
    rcases hl with rfl | rfl
    · exact ⟨isLn_of (by decide), by decide +kernel, by decide +kernel⟩
    · exact okB_notM (by decide) ha)]
  rw [mIn_len, show 106 + (4 + 2) + lnsL [[], a] = 116 + a.length by simp [lnsL]; omega]
  rw [mark_ln (116 + a.length) (114 + a.length) _ (isLn_of (by decide)) (by decide +kernel) (by decide) (fun o h => by cases h; exact ⟨by omega, hA1⟩)]
  rw [skip_lns [hHtml, []] _ _ (by
    intro l hl
    simp only [List.mem_cons, List.not_mem_nil, or_false] at hl
    rcases hl with rfl | rfl
    · exact ⟨isLn_of (by decide +kernel), by decide +kernel, by decide +kernel⟩
    · exact ⟨isLn_of (by decide), by decide +kernel, by decide +kernel⟩)]
  rw [mIn_len, show 116 + a.length + (4 + 2) + lnsL [hHtml, []] = 149 + a.length by simp only [lnsL, hHtml_len, List.length_nil]; omega]
  obtain ⟨b1, b2⟩ := not_mark (m := bIn) (by decide) hb.2
  have hout : ∀ x y, ([] ++ clo none 0 : List (Nat × Nat)) ++ clo (some (106 + (4 + 2))) x ++ [(116 + a.length + (4 + 2), y)] = [(112, x), (122 + a.length, y)] := by
    intro x y
    show [(106 + (4 + 2), x), (116 + a.length + (4 + 2), y)] = _
    rw [show 116 + a.length + (4 + 2) = 122 + a.length by omega]
  unfold tailIn
  cases o with
  | true =>
    have hy : 54 + (innerT a b true).length = 149 + a.length + b.length := by rw [hIl]; simp [tailIn]; omega
    rw [if_pos rfl, List.append_nil, line_last hb.1, hy]
    split
    · rw [spF]; exact hout _ _
    · rw [spF, if_neg b1, if_neg b2, spF]; exact hout _ _
  | false =>
    rw [if_neg (by simp), line_step crlf_nl hb.1, spF, if_neg b1, if_neg b2, line_last (isLn_of (by decide)), if_neg (by decide), spF, if_pos (by decide +kernel), crlf_len]
    rw [addS_clo (x := 149 + a.length + b.length) (fun o h => by
      cases h
      refine ⟨by omega, ?_⟩
      have h2 : s = ((QA ++ (crlf ++ (a ++ (crlf ++ (mIn ++ crlf))))) ++ (hHtml ++ (crlf ++ (crlf ++ b)))) ++ (crlf ++ (mInE ++ TT c)) := by rw [hs, nest_B]; unfold tailIn; simp [List.append_assoc]
      have hq : ((QA ++ (crlf ++ (a ++ (crlf ++ (mIn ++ crlf))))) ++ (hHtml ++ (crlf ++ (crlf ++ b)))).length = 149 + a.length + b.length := by simp only [List.length_append, QA_len, crlf_len, mIn_len, hHtml_len]; omega
      have := ahead_crlf h2 (p := 149 + a.length + (b.length + 2)) (by omega)
      rw [this, hq])]
    exact hout _ _
theorem part_A {a b c s : List UInt8} {o : Bool} (hs : s = nestT a b c o) (d : Nat) (n : Int) : treeP 1 s (d + 1) ((112 : Nat) : Int) ((114 + a.length : Nat) : Int) n = (Part.mk textP [] seven false ((112 : Nat) : Int) ((114 : Nat) : Int) ((114 + a.length : Nat) : Int) [], n) := by
  have := part_none (s := s) (M := a) (Q := QA) (hs.trans (nest_A a b c o)) (e := 1) (d := d) (n := n) (x := ((112 : Nat) : Int)) (y := ((114 + a.length : Nat) : Int)) (by rw [QA_len]) (by rw [QA_len])
  rw [this, QA_len]
theorem part_B {a b c s : List UInt8} {o : Bool} (hs : s = nestT a b c o) (d : Nat) (n : Int) : treeP 1 s (d + 1) ((122 + a.length : Nat) : Int) ((149 + a.length + b.length : Nat) : Int) n = (Part.mk tHtml [] seven false ((122 + a.length : Nat) : Int) ((149 + a.length : Nat) : Int) ((149 + a.length + b.length : Nat) : Int) [], n) := by
  have hq : (QA ++ (crlf ++ (a ++ (crlf ++ (mIn ++ crlf))))).length = 122 + a.length := by simp only [List.length_append, QA_len, crlf_len, mIn_len]; omega
  have := html_none (s := s) (M := b) (hs.trans (nest_B a b c o)) (e := 1) (d := d) (n := n) (x := ((122 + a.length : Nat) : Int)) (y := ((149 + a.length + b.length : Nat) : Int)) (by rw [hq]) (by rw [hq]; omega)
  rw [this, hq, show 122 + a.length + 27 = 149 + a.length by omega]
theorem part_C {a b c s : List UInt8} {o : Bool} (hs : s = nestT a b c o) (d : Nat) (n : Int) : treeP 1 s (d + 1) ((54 + (innerT a b o).length + 9 : Nat) : Int) ((54 + (innerT a b o).length + 11 + c.length : Nat) : Int) n = (Part.mk textP [] seven false ((54 + (innerT a b o).length + 9 : Nat) : Int) ((54 + (innerT a b o).length + 11 : Nat) : Int) ((54 + (innerT a b o).length + 11 + c.length : Nat) : Int) [], n) := by
  have hq : (headO ++ (mOut ++ (crlf ++ (innerT a b o ++ (crlf ++ (mOut ++ crlf)))))).length = 54 + (innerT a b o).length + 9 := by simp only [List.length_append, headO_len, crlf_len, mOut_len]; omega
  have := part_none (s := s) (M := c) (hs.trans (nest_C a b c o)) (e := 1) (d := d) (n := n) (x := ((54 + (innerT a b o).length + 9 : Nat) : Int)) (y := ((54 + (innerT a b o).length + 11 + c.length : Nat) : Int)) (by rw [hq]) (by rw [hq])
  rw [this, hq]
theorem part_I {a b c s : List UInt8} {o : Bool} (ha : okB a) (hb : okB b) (hs : s = nestT a b c o) (d : Nat) : treeP 1 s (d + 2) ((54 : Nat) : Int) ((54 + (innerT a b o).length : Nat) : Int) 2 = (Part.mk tAlt [(bnd, bIn)] seven false ((54 : Nat) : Int) ((106 : Nat) : Int) ((54 + (innerT a b o).length : Nat) : Int) [Part.mk textP [] seven false ((112 : Nat) : Int) ((114 : Nat) : Int) ((114 + a.length : Nat) : Int) [], Part.mk tHtml [] seven false ((122 + a.length : Nat) : Int) ((149 + a.length : Nat) : Int) ((149 + a.length + b.length : Nat) : Int) []], 4) := by
  have hIl := innerT_len a b o
  have hRl := restI_len a b o
  have hq : (headO ++ (mOut ++ crlf)).length = 54 := by simp only [List.length_append, headO_len, mOut_len, crlf_len]
  have h := one_head (l := hAlt) (M := restI a b o) (Q := headO ++ (mOut ++ crlf)) (T := TT c) (isLn_of (by decide +kernel)) (by decide) (x := ((54 : Nat) : Int)) (y := ((54 + (innerT a b o).length : Nat) : Int)) (by rw [hq]) (by rw [hq]; simp only [List.length_append, List.length_nil, crlf_len, hAlt_len]; omega)
  rw [← nest_I, ← hs, hq, hAlt_len] at h
  have h1 : oneP s ((54 : Nat) : Int) ((54 + (innerT a b o).length : Nat) : Int) = Part.mk tAlt [(bnd, bIn)] seven false ((54 : Nat) : Int) ((106 : Nat) : Int) ((54 + (innerT a b o).length : Nat) : Int) [] := by
    unfold oneP
    rw [h]
    have h1 : typeF (fieldsS [hAlt]) = (tAlt, [(bnd, bIn)]) := by kernel_rfl
    have h2 : encF (fieldsS [hAlt]) = seven := by kernel_rfl
    have h3 : attF (fieldsS [hAlt]) = false := by kernel_rfl
    dsimp only
    rw [h1, h2, h3]
  have h2 : markP s ((54 : Nat) : Int) ((54 + (innerT a b o).length : Nat) : Int) = bIn := by unfold markP; rw [h1]; kernel_rfl
  have h3 : spansP s ((54 : Nat) : Int) ((54 + (innerT a b o).length : Nat) : Int) = [(((112 : Nat) : Int), ((114 + a.length : Nat) : Int)), (((122 + a.length : Nat) : Int), ((149 + a.length + b.length : Nat) : Int))] := by
    unfold spansP spansI spansN
    rw [h2, h1]
    show (spF s ([45, 45] ++ bIn) (((54 + (innerT a b o).length : Nat) : Int)).toNat (linesN s (((106 : Nat) : Int)).toNat (((54 + (innerT a b o).length : Nat) : Int)).toNat) none []).map spanI = _
    rw [Int.toNat_natCast, Int.toNat_natCast, inner_spans ha hb hs]
    rfl
  rw [treeP, if_neg (by rw [h2]; decide), h3, h1]
  have hk := kids_two (rec := treeP 1 s (d + 1)) ((112 : Nat) : Int) ((114 + a.length : Nat) : Int) ((122 + a.length : Nat) : Int) ((149 + a.length + b.length : Nat) : Int) 2 3 4 _ _ (part_A hs d 3) (part_B hs d 4) (by omega) (by omega)
  rw [hk]
  rfl
theorem nest_tree {a b c s : List UInt8} {o : Bool} (ha : okB a) (hb : okB b) (hc : okB c) (hs : s = nestT a b c o) : (treeT s).kids = [Part.mk tAlt [(bnd, bIn)] seven false ((54 : Nat) : Int) ((106 : Nat) : Int) ((54 + (innerT a b o).length : Nat) : Int) [Part.mk textP [] seven false ((112 : Nat) : Int) ((114 : Nat) : Int) ((114 + a.length : Nat) : Int) [], Part.mk tHtml [] seven false ((122 + a.length : Nat) : Int) ((149 + a.length : Nat) : Int) ((149 + a.length + b.length : Nat) : Int) []], Part.mk textP [] seven false ((54 + (innerT a b o).length + 9 : Nat) : Int) ((54 + (innerT a b o).length + 11 : Nat) : Int) ((54 + (innerT a b o).length + 11 + c.length : Nat) : Int) []] := by
  have hsp : splitS s 0 s.length = (fieldsS [hMix], ((47 : Nat) : Int)) := by
    have h2 : s = [] ++ ((hMix ++ (crlf ++ ([] ++ (crlf ++ (mOut ++ (crlf ++ (innerT a b o ++ (crlf ++ (mOut ++ (crlf ++ (([] ++ (crlf ++ c)) ++ (crlf ++ (mOutE ++ crlf))))))))))))) ++ []) := by rw [hs]; unfold nestT headO; simp only [List.append_assoc, List.nil_append, List.append_nil]
    have hl := congrArg List.length h2
    rw [List.nil_append, List.append_nil] at hl
    have h := one_head (l := hMix) (Q := []) (T := []) (M := mOut ++ (crlf ++ (innerT a b o ++ (crlf ++ (mOut ++ (crlf ++ (([] ++ (crlf ++ c)) ++ (crlf ++ (mOutE ++ crlf))))))))) (isLn_of (by decide +kernel)) (by decide) (x := 0) (y := s.length) rfl (by rw [hl]; simp only [List.length_nil]; omega)
    rw [← h2] at h
    rw [h]; rfl
  have h1 : oneP s 0 s.length = Part.mk tMix [(bnd, bOut)] seven false 0 ((47 : Nat) : Int) s.length [] := by
    unfold oneP
    rw [hsp]
    have h1 : typeF (fieldsS [hMix]) = (tMix, [(bnd, bOut)]) := by kernel_rfl
    have h2 : encF (fieldsS [hMix]) = seven := by kernel_rfl
    have h3 : attF (fieldsS [hMix]) = false := by kernel_rfl
    dsimp only
    rw [h1, h2, h3]
  have h2 : markP s 0 s.length = bOut := by unfold markP; rw [h1]; kernel_rfl
  have h3 : spansP s 0 s.length = [(((54 : Nat) : Int), ((54 + (innerT a b o).length : Nat) : Int)), (((54 + (innerT a b o).length + 9 : Nat) : Int), ((54 + (innerT a b o).length + 11 + c.length : Nat) : Int))] := by
    unfold spansP spansI spansN
    rw [h2, h1]
    show (spF s ([45, 45] ++ bOut) ((s.length : Int)).toNat (linesN s (((47 : Nat) : Int)).toNat ((s.length : Int)).toNat) none []).map spanI = _
    rw [Int.toNat_natCast, Int.toNat_natCast, outer_spans ha hb hc hs]
    rfl
  unfold treeT
  rw [show (6 - (0 : Int)).toNat = 5 + 1 from rfl, treeP, if_neg (by rw [h2]; decide), h3]
  have hI := part_I ha hb hs 3
  have hC := part_C (c := c) hs 4 5
  rw [show 3 + 2 = 5 from rfl] at hI
  rw [show 4 + 1 = 5 from rfl] at hC
  have hk := kids_two (rec := treeP 1 s 5) ((54 : Nat) : Int) ((54 + (innerT a b o).length : Nat) : Int) ((54 + (innerT a b o).length + 9 : Nat) : Int) ((54 + (innerT a b o).length + 11 + c.length : Nat) : Int) 1 4 5 _ _ (by rw [show (1 : Int) + 1 = 2 from rfl]; exact hI) (by rw [show (4 : Int) + 1 = 5 from rfl]; exact hC) (by omega) (by omega)
  rw [show (0 : Int) + 1 = 1 from rfl]
  rw [hk]
  rfl
theorem nest_conts {a b c s : List UInt8} {o : Bool} (hs : s = nestT a b c o) :
    contP s (Part.mk textP [] seven false ((112 : Nat) : Int) ((114 : Nat) : Int) ((114 + a.length : Nat) : Int) []) = a ∧
    contP s (Part.mk tHtml [] seven false ((122 + a.length : Nat) : Int) ((149 + a.length : Nat) : Int) ((149 + a.length + b.length : Nat) : Int) []) = b ∧
    contP s (Part.mk textP [] seven false ((54 + (innerT a b o).length + 9 : Nat) : Int) ((54 + (innerT a b o).length + 11 : Nat) : Int) ((54 + (innerT a b o).length + 11 + c.length : Nat) : Int) []) = c := by
  refine ⟨cont_mid (Q := QA ++ crlf) (T := crlf ++ (mIn ++ (crlf ++ (hHtml ++ (crlf ++ (crlf ++ (b ++ (tailIn o ++ TT c)))))))) ?_ ?_ ?_, cont_mid (Q := (QA ++ (crlf ++ (a ++ (crlf ++ (mIn ++ crlf))))) ++ (hHtml ++ (crlf ++ crlf))) (T := tailIn o ++ TT c) ?_ ?_ ?_, cont_mid (Q := (headO ++ (mOut ++ (crlf ++ (innerT a b o ++ (crlf ++ (mOut ++ crlf)))))) ++ crlf) (T := crlf ++ (mOutE ++ crlf)) ?_ ?_ ?_⟩
  · rw [hs, nest_A]; simp only [List.append_assoc, List.nil_append]
  · simp only [List.length_append, QA_len, crlf_len]
  · simp only [List.length_append, QA_len, crlf_len]
  · rw [hs, nest_B]; simp only [List.append_assoc, List.nil_append]
  · simp only [List.length_append, QA_len, crlf_len, mIn_len, hHtml_len]; omega
  · simp only [List.length_append, QA_len, crlf_len, mIn_len, hHtml_len]; omega
  · rw [hs, nest_C]; simp only [List.append_assoc, List.nil_append]
  · simp only [List.length_append, headO_len, crlf_len, mOut_len]; omega
  · simp only [List.length_append, headO_len, crlf_len, mOut_len]; omega
end Go.Proofs.YthfgklcdkehgjaaDoor
namespace Go.Proofs.YthfgklcdkehgjaaDoor
open Go Go.Am
set_option linter.unusedVariables false
noncomputable def cPartNested : Code := bodyOf Tryd.f9

noncomputable def GPartNested : Cfg := ⟨Tryd.prog, mkEnv [(11, sp_awake), (16, sp_tree), (18, sp_clean), (21, sp_content)], mkEnvR [], 119, [], [([1, 0, 1], ⟨[0, 1, 2, 3, 28], []⟩), ([1, 1, 1, 1, 1, 1, 1], ⟨[0, 1, 2, 9], []⟩), ([1, 1, 1, 1, 1, 1, 1, 1, 1], ⟨[0, 1, 2, 11], []⟩), ([1, 0, 1, 1, 1, 1, 1, 1, 1, 1, 1, 1], ⟨[0, 1, 2, 11, 12, 73], [⟨.slot 12, 12, .cells []⟩]⟩), ([1, 1, 1, 1, 1, 1, 1, 1, 1, 1, 1, 1], ⟨[0, 1, 2, 11, 13, 14, 15], [⟨.slot 13, 13, .cells []⟩, ⟨.slot 14, 14, .cells []⟩, ⟨.slot 15, 15, .cells []⟩]⟩)], []⟩

noncomputable def BPartNested_1 (F : Nat) (a b c : List UInt8) (o vc1 : Bool) : Option Ans := runB GPartNested cPartNested (kP Tryd.prog Tryd.f9.results.toList) F [] [1, 0, 1] [(0, .p (.str a)), (1, .p (.str b)), (2, .p (.str c)), (3, .p (.bool o)), (28, .p (.bool vc1))] []

noncomputable def BPartNested_2 (F : Nat) (vs2 vs3 vs4 vs5 : List UInt8) : Option Ans := runB GPartNested cPartNested (kP Tryd.prog Tryd.f9.results.toList) F [] [1, 1, 1, 1, 1, 1, 1] [(0, .p (.str vs2)), (1, .p (.str vs3)), (2, .p (.str vs4)), (9, .p (.str vs5))] []

noncomputable def BPartNested_3 (F : Nat) (vs2 vs3 vs4 vs6 : List UInt8) : Option Ans := runB GPartNested cPartNested (kP Tryd.prog Tryd.f9.results.toList) F [] [1, 1, 1, 1, 1, 1, 1, 1, 1] [(0, .p (.str vs2)), (1, .p (.str vs3)), (2, .p (.str vs4)), (11, .p (.str vs6))] []

noncomputable def BPartNested_4 (F : Nat) (vs2 vs3 vs4 vs6 : List UInt8) (vc7 : Bool) (vs8 : List UInt8) (vl9 : List (List UInt8 × List UInt8)) (vs10 : List UInt8) (vc11 : Bool) (vi12 vi13 vi14 : Int) (vl15 : List Part) : Option Ans := runB GPartNested cPartNested (kP Tryd.prog Tryd.f9.results.toList) F [] [1, 1, 1, 1, 1, 1, 1, 1, 1, 1, 0, 1] [(0, .p (.str vs2)), (1, .p (.str vs3)), (2, .p (.str vs4)), (11, .p (.str vs6)), (12, .ref 12 0), (73, .p (.bool vc7))] [(12, .cells [.p (.str vs8), .p (.list 2 (.dat (.pair .str .str) vl9)), .p (.str vs10), .p (.bool vc11), .p (.int .i64 vi12), .p (.int .i64 vi13), .p (.int .i64 vi14), .p (.list 8 (.dat .part vl15))])]

noncomputable def BPartNested_5 (F : Nat) (vs2 vs3 vs4 vs6 vs16 : List UInt8) (vl17 : List (List UInt8 × List UInt8)) (vs18 : List UInt8) (vc19 : Bool) (vi20 vi21 vi22 : Int) (vl23 : List Part) (vs24 : List UInt8) (vl25 : List (List UInt8 × List UInt8)) (vs26 : List UInt8) (vc27 : Bool) (vi28 vi29 vi30 : Int) (vl31 : List Part) (vs32 : List UInt8) (vl33 : List (List UInt8 × List UInt8)) (vs34 : List UInt8) (vc35 : Bool) (vi36 vi37 vi38 : Int) (vl39 : List Part) : Option Ans := runB GPartNested cPartNested (kP Tryd.prog Tryd.f9.results.toList) F [] [1, 1, 1, 1, 1, 1, 1, 1, 1, 1, 1, 1] [(0, .p (.str vs2)), (1, .p (.str vs3)), (2, .p (.str vs4)), (11, .p (.str vs6)), (13, .ref 13 0), (14, .ref 14 0), (15, .ref 15 0)] [(13, .cells [.p (.str vs16), .p (.list 2 (.dat (.pair .str .str) vl17)), .p (.str vs18), .p (.bool vc19), .p (.int .i64 vi20), .p (.int .i64 vi21), .p (.int .i64 vi22), .p (.list 8 (.dat .part vl23))]), (14, .cells [.p (.str vs24), .p (.list 2 (.dat (.pair .str .str) vl25)), .p (.str vs26), .p (.bool vc27), .p (.int .i64 vi28), .p (.int .i64 vi29), .p (.int .i64 vi30), .p (.list 8 (.dat .part vl31))]), (15, .cells [.p (.str vs32), .p (.list 2 (.dat (.pair .str .str) vl33)), .p (.str vs34), .p (.bool vc35), .p (.int .i64 vi36), .p (.int .i64 vi37), .p (.int .i64 vi38), .p (.list 8 (.dat .part vl39))])]

noncomputable def FPartNested (F : Nat) (a b c : List UInt8) (o : Bool) : Option Ans := runF GPartNested Tryd.f9 F [.p (.str a), .p (.str b), .p (.str c), .p (.bool o)]

theorem BPartNested_1_eq (F : Nat) (a b c : List UInt8) (o vc1 : Bool) : BPartNested_1 F a b c o vc1 = cond (vc1) (some (.p (.bool true), [])) (need (a.length ≤ 1000000) (need (b.length ≤ 1000000) (need (c.length ≤ 1000000) (cond (o) (BPartNested_2 F (cleanS a) (cleanS b) (cleanS c) ([] : List UInt8)) (BPartNested_2 F (cleanS a) (cleanS b) (cleanS c) ([45, 45, 105, 110, 45, 45, 13, 10] : List UInt8)))))) := by kernel_rfl

theorem BPartNested_2_eq (F : Nat) (vs2 vs3 vs4 vs5 : List UInt8) : BPartNested_2 F vs2 vs3 vs4 vs5 = need (lenok (LB_0f549e2b.length + vs2.length)) (need (lenok ((LB_0f549e2b ++ vs2).length + LB_72bcdf0b.length)) (need (lenok (((LB_0f549e2b ++ vs2) ++ LB_72bcdf0b).length + vs3.length)) (need (lenok ((((LB_0f549e2b ++ vs2) ++ LB_72bcdf0b) ++ vs3).length + ([13, 10] : List UInt8).length)) (need (lenok (((((LB_0f549e2b ++ vs2) ++ LB_72bcdf0b) ++ vs3) ++ ([13, 10] : List UInt8)).length + vs5.length)) (need (lenok (LB_8d318e03.length + (((((LB_0f549e2b ++ vs2) ++ LB_72bcdf0b) ++ vs3) ++ ([13, 10] : List UInt8)) ++ vs5).length)) (need (lenok ((LB_8d318e03 ++ (((((LB_0f549e2b ++ vs2) ++ LB_72bcdf0b) ++ vs3) ++ ([13, 10] : List UInt8)) ++ vs5)).length + ([45, 45, 111, 117, 116, 13, 10, 13, 10] : List UInt8).length)) (need (lenok (((LB_8d318e03 ++ (((((LB_0f549e2b ++ vs2) ++ LB_72bcdf0b) ++ vs3) ++ ([13, 10] : List UInt8)) ++ vs5)) ++ ([45, 45, 111, 117, 116, 13, 10, 13, 10] : List UInt8)).length + vs4.length)) (need (lenok ((((LB_8d318e03 ++ (((((LB_0f549e2b ++ vs2) ++ LB_72bcdf0b) ++ vs3) ++ ([13, 10] : List UInt8)) ++ vs5)) ++ ([45, 45, 111, 117, 116, 13, 10, 13, 10] : List UInt8)) ++ vs4).length + ([13, 10, 45, 45, 111, 117, 116, 45, 45, 13, 10] : List UInt8).length)) (BPartNested_3 F vs2 vs3 vs4 ((((LB_8d318e03 ++ (((((LB_0f549e2b ++ vs2) ++ LB_72bcdf0b) ++ vs3) ++ ([13, 10] : List UInt8)) ++ vs5)) ++ ([45, 45, 111, 117, 116, 13, 10, 13, 10] : List UInt8)) ++ vs4) ++ ([13, 10, 45, 45, 111, 117, 116, 45, 45, 13, 10] : List UInt8))))))))))) := by kernel_rfl

theorem BPartNested_3_eq (F : Nat) (vs2 vs3 vs4 vs6 : List UInt8) : BPartNested_3 F vs2 vs3 vs4 vs6 = need (vs6.length ≤ 1000000) (need ((!((((treeT vs6).kids).length : Int) != (2 : Int))) = true → 0 ≤ (0 : Int) ∧ (0 : Int) < (((treeT vs6).kids).length : Int)) (need ((!(((((treeT vs6).kids).length : Int) != (2 : Int)) || ((((((treeT vs6).kids).getD ((0 : Int)).toNat (dfl .part)).kids).length : Int) != (2 : Int)))) = true → 0 ≤ (0 : Int) ∧ (0 : Int) < (((treeT vs6).kids).length : Int)) (BPartNested_4 F vs2 vs3 vs4 vs6 ((((((treeT vs6).kids).length : Int) != (2 : Int)) || ((((((treeT vs6).kids).getD ((0 : Int)).toNat (dfl .part)).kids).length : Int) != (2 : Int))) || (((((treeT vs6).kids).getD ((0 : Int)).toNat (dfl .part)).type) != LB_6cd5733e)) ((treeT vs6).type) ((treeT vs6).params) ((treeT vs6).enc) ((treeT vs6).attach) ((treeT vs6).head) ((treeT vs6).frm) ((treeT vs6).til) ((treeT vs6).kids)))) :=
  Eq.trans (show BPartNested_3 F vs2 vs3 vs4 vs6 = need (vs6.length ≤ 1000000) (need ((!((((treeT vs6).kids).length : Int) != (2 : Int))) = true → (!((((treeT vs6).kids).length : Int) != (2 : Int))) = true) (need ((!((((treeT vs6).kids).length : Int) != (2 : Int))) = true → (!((((treeT vs6).kids).length : Int) != (2 : Int))) = true) (need ((!((((treeT vs6).kids).length : Int) != (2 : Int))) = true → 0 ≤ (0 : Int) ∧ (0 : Int) < (((treeT vs6).kids).length : Int)) (need ((!((((treeT vs6).kids).length : Int) != (2 : Int))) = true → (!((((treeT vs6).kids).length : Int) != (2 : Int))) = true) (need ((!((((treeT vs6).kids).length : Int) != (2 : Int))) = true → (!((((treeT vs6).kids).length : Int) != (2 : Int))) = true) (need ((!((((treeT vs6).kids).length : Int) != (2 : Int))) = true → (!((((treeT vs6).kids).length : Int) != (2 : Int))) = true) (need ((!((((treeT vs6).kids).length : Int) != (2 : Int))) = true → (!((((treeT vs6).kids).length : Int) != (2 : Int))) = true) (need (((((treeT vs6).kids).length : Int) != (2 : Int)) = false → (!((((treeT vs6).kids).length : Int) != (2 : Int))) = true) (need ((!(((((treeT vs6).kids).length : Int) != (2 : Int)) || ((((((treeT vs6).kids).getD ((0 : Int)).toNat (dfl .part)).kids).length : Int) != (2 : Int)))) = true → (!(((((treeT vs6).kids).length : Int) != (2 : Int)) || ((((((treeT vs6).kids).getD ((0 : Int)).toNat (dfl .part)).kids).length : Int) != (2 : Int)))) = true) (need ((!(((((treeT vs6).kids).length : Int) != (2 : Int)) || ((((((treeT vs6).kids).getD ((0 : Int)).toNat (dfl .part)).kids).length : Int) != (2 : Int)))) = true → (!(((((treeT vs6).kids).length : Int) != (2 : Int)) || ((((((treeT vs6).kids).getD ((0 : Int)).toNat (dfl .part)).kids).length : Int) != (2 : Int)))) = true) (need ((!(((((treeT vs6).kids).length : Int) != (2 : Int)) || ((((((treeT vs6).kids).getD ((0 : Int)).toNat (dfl .part)).kids).length : Int) != (2 : Int)))) = true → 0 ≤ (0 : Int) ∧ (0 : Int) < (((treeT vs6).kids).length : Int)) (need ((!(((((treeT vs6).kids).length : Int) != (2 : Int)) || ((((((treeT vs6).kids).getD ((0 : Int)).toNat (dfl .part)).kids).length : Int) != (2 : Int)))) = true → (!(((((treeT vs6).kids).length : Int) != (2 : Int)) || ((((((treeT vs6).kids).getD ((0 : Int)).toNat (dfl .part)).kids).length : Int) != (2 : Int)))) = true) (need ((!(((((treeT vs6).kids).length : Int) != (2 : Int)) || ((((((treeT vs6).kids).getD ((0 : Int)).toNat (dfl .part)).kids).length : Int) != (2 : Int)))) = true → (!(((((treeT vs6).kids).length : Int) != (2 : Int)) || ((((((treeT vs6).kids).getD ((0 : Int)).toNat (dfl .part)).kids).length : Int) != (2 : Int)))) = true) (need ((!(((((treeT vs6).kids).length : Int) != (2 : Int)) || ((((((treeT vs6).kids).getD ((0 : Int)).toNat (dfl .part)).kids).length : Int) != (2 : Int)))) = true → (!(((((treeT vs6).kids).length : Int) != (2 : Int)) || ((((((treeT vs6).kids).getD ((0 : Int)).toNat (dfl .part)).kids).length : Int) != (2 : Int)))) = true) (need ((((((treeT vs6).kids).length : Int) != (2 : Int)) || ((((((treeT vs6).kids).getD ((0 : Int)).toNat (dfl .part)).kids).length : Int) != (2 : Int))) = false → (!(((((treeT vs6).kids).length : Int) != (2 : Int)) || ((((((treeT vs6).kids).getD ((0 : Int)).toNat (dfl .part)).kids).length : Int) != (2 : Int)))) = true) (BPartNested_4 F vs2 vs3 vs4 vs6 ((((((treeT vs6).kids).length : Int) != (2 : Int)) || ((((((treeT vs6).kids).getD ((0 : Int)).toNat (dfl .part)).kids).length : Int) != (2 : Int))) || (((((treeT vs6).kids).getD ((0 : Int)).toNat (dfl .part)).type) != LB_6cd5733e)) ((treeT vs6).type) ((treeT vs6).params) ((treeT vs6).enc) ((treeT vs6).attach) ((treeT vs6).head) ((treeT vs6).frm) ((treeT vs6).til) ((treeT vs6).kids))))))))))))))))) by kernel_rfl) (need_congr (need_strike (show (!((((treeT vs6).kids).length : Int) != (2 : Int))) = true → (!((((treeT vs6).kids).length : Int) != (2 : Int))) = true from (fun q0 => q0)) (need_strike (show (!((((treeT vs6).kids).length : Int) != (2 : Int))) = true → (!((((treeT vs6).kids).length : Int) != (2 : Int))) = true from (fun q0 => q0)) (need_congr (need_strike (show (!((((treeT vs6).kids).length : Int) != (2 : Int))) = true → (!((((treeT vs6).kids).length : Int) != (2 : Int))) = true from (fun q0 => q0)) (need_strike (show (!((((treeT vs6).kids).length : Int) != (2 : Int))) = true → (!((((treeT vs6).kids).length : Int) != (2 : Int))) = true from (fun q0 => q0)) (need_strike (show (!((((treeT vs6).kids).length : Int) != (2 : Int))) = true → (!((((treeT vs6).kids).length : Int) != (2 : Int))) = true from (fun q0 => q0)) (need_strike (show (!((((treeT vs6).kids).length : Int) != (2 : Int))) = true → (!((((treeT vs6).kids).length : Int) != (2 : Int))) = true from (fun q0 => q0)) (need_strike (show ((((treeT vs6).kids).length : Int) != (2 : Int)) = false → (!((((treeT vs6).kids).length : Int) != (2 : Int))) = true from (fun q0 => (not_mk q0))) (need_strike (show (!(((((treeT vs6).kids).length : Int) != (2 : Int)) || ((((((treeT vs6).kids).getD ((0 : Int)).toNat (dfl .part)).kids).length : Int) != (2 : Int)))) = true → (!(((((treeT vs6).kids).length : Int) != (2 : Int)) || ((((((treeT vs6).kids).getD ((0 : Int)).toNat (dfl .part)).kids).length : Int) != (2 : Int)))) = true from (fun q0 => q0)) (need_strike (show (!(((((treeT vs6).kids).length : Int) != (2 : Int)) || ((((((treeT vs6).kids).getD ((0 : Int)).toNat (dfl .part)).kids).length : Int) != (2 : Int)))) = true → (!(((((treeT vs6).kids).length : Int) != (2 : Int)) || ((((((treeT vs6).kids).getD ((0 : Int)).toNat (dfl .part)).kids).length : Int) != (2 : Int)))) = true from (fun q0 => q0)) (need_congr (need_strike (show (!(((((treeT vs6).kids).length : Int) != (2 : Int)) || ((((((treeT vs6).kids).getD ((0 : Int)).toNat (dfl .part)).kids).length : Int) != (2 : Int)))) = true → (!(((((treeT vs6).kids).length : Int) != (2 : Int)) || ((((((treeT vs6).kids).getD ((0 : Int)).toNat (dfl .part)).kids).length : Int) != (2 : Int)))) = true from (fun q0 => q0)) (need_strike (show (!(((((treeT vs6).kids).length : Int) != (2 : Int)) || ((((((treeT vs6).kids).getD ((0 : Int)).toNat (dfl .part)).kids).length : Int) != (2 : Int)))) = true → (!(((((treeT vs6).kids).length : Int) != (2 : Int)) || ((((((treeT vs6).kids).getD ((0 : Int)).toNat (dfl .part)).kids).length : Int) != (2 : Int)))) = true from (fun q0 => q0)) (need_strike (show (!(((((treeT vs6).kids).length : Int) != (2 : Int)) || ((((((treeT vs6).kids).getD ((0 : Int)).toNat (dfl .part)).kids).length : Int) != (2 : Int)))) = true → (!(((((treeT vs6).kids).length : Int) != (2 : Int)) || ((((((treeT vs6).kids).getD ((0 : Int)).toNat (dfl .part)).kids).length : Int) != (2 : Int)))) = true from (fun q0 => q0)) (need_strike (show (((((treeT vs6).kids).length : Int) != (2 : Int)) || ((((((treeT vs6).kids).getD ((0 : Int)).toNat (dfl .part)).kids).length : Int) != (2 : Int))) = false → (!(((((treeT vs6).kids).length : Int) != (2 : Int)) || ((((((treeT vs6).kids).getD ((0 : Int)).toNat (dfl .part)).kids).length : Int) != (2 : Int)))) = true from (fun q0 => (not_mk q0))) (rfl)))))))))))))))))

theorem BPartNested_4_eq (F : Nat) (vs2 vs3 vs4 vs6 : List UInt8) (vc7 : Bool) (vs8 : List UInt8) (vl9 : List (List UInt8 × List UInt8)) (vs10 : List UInt8) (vc11 : Bool) (vi12 vi13 vi14 : Int) (vl15 : List Part) : BPartNested_4 F vs2 vs3 vs4 vs6 vc7 vs8 vl9 vs10 vc11 vi12 vi13 vi14 vl15 = cond (vc7) (some (.p (.bool false), [])) (need (0 ≤ (0 : Int) ∧ (0 : Int) < (vl15.length : Int)) (need (0 ≤ (0 : Int) ∧ (0 : Int) < (((vl15.getD ((0 : Int)).toNat (dfl .part)).kids).length : Int)) (need (0 ≤ (0 : Int) ∧ (0 : Int) < (vl15.length : Int)) (need (0 ≤ (1 : Int) ∧ (1 : Int) < (((vl15.getD ((0 : Int)).toNat (dfl .part)).kids).length : Int)) (need (0 ≤ (1 : Int) ∧ (1 : Int) < (vl15.length : Int)) (BPartNested_5 F vs2 vs3 vs4 vs6 ((((vl15.getD ((0 : Int)).toNat (dfl .part)).kids).getD ((0 : Int)).toNat (dfl .part)).type) ((((vl15.getD ((0 : Int)).toNat (dfl .part)).kids).getD ((0 : Int)).toNat (dfl .part)).params) ((((vl15.getD ((0 : Int)).toNat (dfl .part)).kids).getD ((0 : Int)).toNat (dfl .part)).enc) ((((vl15.getD ((0 : Int)).toNat (dfl .part)).kids).getD ((0 : Int)).toNat (dfl .part)).attach) ((((vl15.getD ((0 : Int)).toNat (dfl .part)).kids).getD ((0 : Int)).toNat (dfl .part)).head) ((((vl15.getD ((0 : Int)).toNat (dfl .part)).kids).getD ((0 : Int)).toNat (dfl .part)).frm) ((((vl15.getD ((0 : Int)).toNat (dfl .part)).kids).getD ((0 : Int)).toNat (dfl .part)).til) ((((vl15.getD ((0 : Int)).toNat (dfl .part)).kids).getD ((0 : Int)).toNat (dfl .part)).kids) ((((vl15.getD ((0 : Int)).toNat (dfl .part)).kids).getD ((1 : Int)).toNat (dfl .part)).type) ((((vl15.getD ((0 : Int)).toNat (dfl .part)).kids).getD ((1 : Int)).toNat (dfl .part)).params) ((((vl15.getD ((0 : Int)).toNat (dfl .part)).kids).getD ((1 : Int)).toNat (dfl .part)).enc) ((((vl15.getD ((0 : Int)).toNat (dfl .part)).kids).getD ((1 : Int)).toNat (dfl .part)).attach) ((((vl15.getD ((0 : Int)).toNat (dfl .part)).kids).getD ((1 : Int)).toNat (dfl .part)).head) ((((vl15.getD ((0 : Int)).toNat (dfl .part)).kids).getD ((1 : Int)).toNat (dfl .part)).frm) ((((vl15.getD ((0 : Int)).toNat (dfl .part)).kids).getD ((1 : Int)).toNat (dfl .part)).til) ((((vl15.getD ((0 : Int)).toNat (dfl .part)).kids).getD ((1 : Int)).toNat (dfl .part)).kids) ((vl15.getD ((1 : Int)).toNat (dfl .part)).type) ((vl15.getD ((1 : Int)).toNat (dfl .part)).params) ((vl15.getD ((1 : Int)).toNat (dfl .part)).enc) ((vl15.getD ((1 : Int)).toNat (dfl .part)).attach) ((vl15.getD ((1 : Int)).toNat (dfl .part)).head) ((vl15.getD ((1 : Int)).toNat (dfl .part)).frm) ((vl15.getD ((1 : Int)).toNat (dfl .part)).til) ((vl15.getD ((1 : Int)).toNat (dfl .part)).kids))))))) := by kernel_rfl

theorem BPartNested_5_eq (F : Nat) (vs2 vs3 vs4 vs6 vs16 : List UInt8) (vl17 : List (List UInt8 × List UInt8)) (vs18 : List UInt8) (vc19 : Bool) (vi20 vi21 vi22 : Int) (vl23 : List Part) (vs24 : List UInt8) (vl25 : List (List UInt8 × List UInt8)) (vs26 : List UInt8) (vc27 : Bool) (vi28 vi29 vi30 : Int) (vl31 : List Part) (vs32 : List UInt8) (vl33 : List (List UInt8 × List UInt8)) (vs34 : List UInt8) (vc35 : Bool) (vi36 vi37 vi38 : Int) (vl39 : List Part) : BPartNested_5 F vs2 vs3 vs4 vs6 vs16 vl17 vs18 vc19 vi20 vi21 vi22 vl23 vs24 vl25 vs26 vc27 vi28 vi29 vi30 vl31 vs32 vl33 vs34 vc35 vi36 vi37 vi38 vl39 = need (vs6.length ≤ 1000000) (need (((contP vs6 (Part.mk vs16 vl17 vs18 vc19 vi20 vi21 vi22 vl23)) == vs2) = true → vs6.length ≤ 1000000) (need ((((contP vs6 (Part.mk vs16 vl17 vs18 vc19 vi20 vi21 vi22 vl23)) == vs2) && ((contP vs6 (Part.mk vs24 vl25 vs26 vc27 vi28 vi29 vi30 vl31)) == vs3)) = true → vs6.length ≤ 1000000) (some (.p (.bool ((((((contP vs6 (Part.mk vs16 vl17 vs18 vc19 vi20 vi21 vi22 vl23)) == vs2) && ((contP vs6 (Part.mk vs24 vl25 vs26 vc27 vi28 vi29 vi30 vl31)) == vs3)) && ((contP vs6 (Part.mk vs32 vl33 vs34 vc35 vi36 vi37 vi38 vl39)) == vs4)) && (vs24 == ([116, 101, 120, 116, 47, 104, 116, 109, 108] : List UInt8))) && true)), [])))) :=
  Eq.trans (show BPartNested_5 F vs2 vs3 vs4 vs6 vs16 vl17 vs18 vc19 vi20 vi21 vi22 vl23 vs24 vl25 vs26 vc27 vi28 vi29 vi30 vl31 vs32 vl33 vs34 vc35 vi36 vi37 vi38 vl39 = need (vs6.length ≤ 1000000) (need (((contP vs6 (Part.mk vs16 vl17 vs18 vc19 vi20 vi21 vi22 vl23)) == vs2) = true → ((contP vs6 (Part.mk vs16 vl17 vs18 vc19 vi20 vi21 vi22 vl23)) == vs2) = true) (need (((contP vs6 (Part.mk vs16 vl17 vs18 vc19 vi20 vi21 vi22 vl23)) == vs2) = true → ((contP vs6 (Part.mk vs16 vl17 vs18 vc19 vi20 vi21 vi22 vl23)) == vs2) = true) (need (((contP vs6 (Part.mk vs16 vl17 vs18 vc19 vi20 vi21 vi22 vl23)) == vs2) = true → vs6.length ≤ 1000000) (need (((contP vs6 (Part.mk vs16 vl17 vs18 vc19 vi20 vi21 vi22 vl23)) == vs2) = true → ((contP vs6 (Part.mk vs16 vl17 vs18 vc19 vi20 vi21 vi22 vl23)) == vs2) = true) (need (((contP vs6 (Part.mk vs16 vl17 vs18 vc19 vi20 vi21 vi22 vl23)) == vs2) = true → ((contP vs6 (Part.mk vs16 vl17 vs18 vc19 vi20 vi21 vi22 vl23)) == vs2) = true) (need (((contP vs6 (Part.mk vs16 vl17 vs18 vc19 vi20 vi21 vi22 vl23)) == vs2) = true → ((contP vs6 (Part.mk vs16 vl17 vs18 vc19 vi20 vi21 vi22 vl23)) == vs2) = true) (need ((((contP vs6 (Part.mk vs16 vl17 vs18 vc19 vi20 vi21 vi22 vl23)) == vs2) && ((contP vs6 (Part.mk vs24 vl25 vs26 vc27 vi28 vi29 vi30 vl31)) == vs3)) = true → (((contP vs6 (Part.mk vs16 vl17 vs18 vc19 vi20 vi21 vi22 vl23)) == vs2) && ((contP vs6 (Part.mk vs24 vl25 vs26 vc27 vi28 vi29 vi30 vl31)) == vs3)) = true) (need ((((contP vs6 (Part.mk vs16 vl17 vs18 vc19 vi20 vi21 vi22 vl23)) == vs2) && ((contP vs6 (Part.mk vs24 vl25 vs26 vc27 vi28 vi29 vi30 vl31)) == vs3)) = true → (((contP vs6 (Part.mk vs16 vl17 vs18 vc19 vi20 vi21 vi22 vl23)) == vs2) && ((contP vs6 (Part.mk vs24 vl25 vs26 vc27 vi28 vi29 vi30 vl31)) == vs3)) = true) (need ((((contP vs6 (Part.mk vs16 vl17 vs18 vc19 vi20 vi21 vi22 vl23)) == vs2) && ((contP vs6 (Part.mk vs24 vl25 vs26 vc27 vi28 vi29 vi30 vl31)) == vs3)) = true → vs6.length ≤ 1000000) (need ((((contP vs6 (Part.mk vs16 vl17 vs18 vc19 vi20 vi21 vi22 vl23)) == vs2) && ((contP vs6 (Part.mk vs24 vl25 vs26 vc27 vi28 vi29 vi30 vl31)) == vs3)) = true → (((contP vs6 (Part.mk vs16 vl17 vs18 vc19 vi20 vi21 vi22 vl23)) == vs2) && ((contP vs6 (Part.mk vs24 vl25 vs26 vc27 vi28 vi29 vi30 vl31)) == vs3)) = true) (need ((((contP vs6 (Part.mk vs16 vl17 vs18 vc19 vi20 vi21 vi22 vl23)) == vs2) && ((contP vs6 (Part.mk vs24 vl25 vs26 vc27 vi28 vi29 vi30 vl31)) == vs3)) = true → (((contP vs6 (Part.mk vs16 vl17 vs18 vc19 vi20 vi21 vi22 vl23)) == vs2) && ((contP vs6 (Part.mk vs24 vl25 vs26 vc27 vi28 vi29 vi30 vl31)) == vs3)) = true) (need ((((contP vs6 (Part.mk vs16 vl17 vs18 vc19 vi20 vi21 vi22 vl23)) == vs2) && ((contP vs6 (Part.mk vs24 vl25 vs26 vc27 vi28 vi29 vi30 vl31)) == vs3)) = true → (((contP vs6 (Part.mk vs16 vl17 vs18 vc19 vi20 vi21 vi22 vl23)) == vs2) && ((contP vs6 (Part.mk vs24 vl25 vs26 vc27 vi28 vi29 vi30 vl31)) == vs3)) = true) (need (((((contP vs6 (Part.mk vs16 vl17 vs18 vc19 vi20 vi21 vi22 vl23)) == vs2) && ((contP vs6 (Part.mk vs24 vl25 vs26 vc27 vi28 vi29 vi30 vl31)) == vs3)) && ((contP vs6 (Part.mk vs32 vl33 vs34 vc35 vi36 vi37 vi38 vl39)) == vs4)) = true → ((((contP vs6 (Part.mk vs16 vl17 vs18 vc19 vi20 vi21 vi22 vl23)) == vs2) && ((contP vs6 (Part.mk vs24 vl25 vs26 vc27 vi28 vi29 vi30 vl31)) == vs3)) && ((contP vs6 (Part.mk vs32 vl33 vs34 vc35 vi36 vi37 vi38 vl39)) == vs4)) = true) (need (((((contP vs6 (Part.mk vs16 vl17 vs18 vc19 vi20 vi21 vi22 vl23)) == vs2) && ((contP vs6 (Part.mk vs24 vl25 vs26 vc27 vi28 vi29 vi30 vl31)) == vs3)) && ((contP vs6 (Part.mk vs32 vl33 vs34 vc35 vi36 vi37 vi38 vl39)) == vs4)) = true → ((((contP vs6 (Part.mk vs16 vl17 vs18 vc19 vi20 vi21 vi22 vl23)) == vs2) && ((contP vs6 (Part.mk vs24 vl25 vs26 vc27 vi28 vi29 vi30 vl31)) == vs3)) && ((contP vs6 (Part.mk vs32 vl33 vs34 vc35 vi36 vi37 vi38 vl39)) == vs4)) = true) (need (((((contP vs6 (Part.mk vs16 vl17 vs18 vc19 vi20 vi21 vi22 vl23)) == vs2) && ((contP vs6 (Part.mk vs24 vl25 vs26 vc27 vi28 vi29 vi30 vl31)) == vs3)) && ((contP vs6 (Part.mk vs32 vl33 vs34 vc35 vi36 vi37 vi38 vl39)) == vs4)) = true → ((((contP vs6 (Part.mk vs16 vl17 vs18 vc19 vi20 vi21 vi22 vl23)) == vs2) && ((contP vs6 (Part.mk vs24 vl25 vs26 vc27 vi28 vi29 vi30 vl31)) == vs3)) && ((contP vs6 (Part.mk vs32 vl33 vs34 vc35 vi36 vi37 vi38 vl39)) == vs4)) = true) (need ((((((contP vs6 (Part.mk vs16 vl17 vs18 vc19 vi20 vi21 vi22 vl23)) == vs2) && ((contP vs6 (Part.mk vs24 vl25 vs26 vc27 vi28 vi29 vi30 vl31)) == vs3)) && ((contP vs6 (Part.mk vs32 vl33 vs34 vc35 vi36 vi37 vi38 vl39)) == vs4)) && (vs24 == ([116, 101, 120, 116, 47, 104, 116, 109, 108] : List UInt8))) = true → (((((contP vs6 (Part.mk vs16 vl17 vs18 vc19 vi20 vi21 vi22 vl23)) == vs2) && ((contP vs6 (Part.mk vs24 vl25 vs26 vc27 vi28 vi29 vi30 vl31)) == vs3)) && ((contP vs6 (Part.mk vs32 vl33 vs34 vc35 vi36 vi37 vi38 vl39)) == vs4)) && (vs24 == ([116, 101, 120, 116, 47, 104, 116, 109, 108] : List UInt8))) = true) (some (.p (.bool ((((((contP vs6 (Part.mk vs16 vl17 vs18 vc19 vi20 vi21 vi22 vl23)) == vs2) && ((contP vs6 (Part.mk vs24 vl25 vs26 vc27 vi28 vi29 vi30 vl31)) == vs3)) && ((contP vs6 (Part.mk vs32 vl33 vs34 vc35 vi36 vi37 vi38 vl39)) == vs4)) && (vs24 == ([116, 101, 120, 116, 47, 104, 116, 109, 108] : List UInt8))) && true)), [])))))))))))))))))) by kernel_rfl) (need_congr (need_strike (show ((contP vs6 (Part.mk vs16 vl17 vs18 vc19 vi20 vi21 vi22 vl23)) == vs2) = true → ((contP vs6 (Part.mk vs16 vl17 vs18 vc19 vi20 vi21 vi22 vl23)) == vs2) = true from (fun q0 => q0)) (need_strike (show ((contP vs6 (Part.mk vs16 vl17 vs18 vc19 vi20 vi21 vi22 vl23)) == vs2) = true → ((contP vs6 (Part.mk vs16 vl17 vs18 vc19 vi20 vi21 vi22 vl23)) == vs2) = true from (fun q0 => q0)) (need_congr (need_strike (show ((contP vs6 (Part.mk vs16 vl17 vs18 vc19 vi20 vi21 vi22 vl23)) == vs2) = true → ((contP vs6 (Part.mk vs16 vl17 vs18 vc19 vi20 vi21 vi22 vl23)) == vs2) = true from (fun q0 => q0)) (need_strike (show ((contP vs6 (Part.mk vs16 vl17 vs18 vc19 vi20 vi21 vi22 vl23)) == vs2) = true → ((contP vs6 (Part.mk vs16 vl17 vs18 vc19 vi20 vi21 vi22 vl23)) == vs2) = true from (fun q0 => q0)) (need_strike (show ((contP vs6 (Part.mk vs16 vl17 vs18 vc19 vi20 vi21 vi22 vl23)) == vs2) = true → ((contP vs6 (Part.mk vs16 vl17 vs18 vc19 vi20 vi21 vi22 vl23)) == vs2) = true from (fun q0 => q0)) (need_strike (show (((contP vs6 (Part.mk vs16 vl17 vs18 vc19 vi20 vi21 vi22 vl23)) == vs2) && ((contP vs6 (Part.mk vs24 vl25 vs26 vc27 vi28 vi29 vi30 vl31)) == vs3)) = true → (((contP vs6 (Part.mk vs16 vl17 vs18 vc19 vi20 vi21 vi22 vl23)) == vs2) && ((contP vs6 (Part.mk vs24 vl25 vs26 vc27 vi28 vi29 vi30 vl31)) == vs3)) = true from (fun q0 => q0)) (need_strike (show (((contP vs6 (Part.mk vs16 vl17 vs18 vc19 vi20 vi21 vi22 vl23)) == vs2) && ((contP vs6 (Part.mk vs24 vl25 vs26 vc27 vi28 vi29 vi30 vl31)) == vs3)) = true → (((contP vs6 (Part.mk vs16 vl17 vs18 vc19 vi20 vi21 vi22 vl23)) == vs2) && ((contP vs6 (Part.mk vs24 vl25 vs26 vc27 vi28 vi29 vi30 vl31)) == vs3)) = true from (fun q0 => q0)) (need_congr (need_strike (show (((contP vs6 (Part.mk vs16 vl17 vs18 vc19 vi20 vi21 vi22 vl23)) == vs2) && ((contP vs6 (Part.mk vs24 vl25 vs26 vc27 vi28 vi29 vi30 vl31)) == vs3)) = true → (((contP vs6 (Part.mk vs16 vl17 vs18 vc19 vi20 vi21 vi22 vl23)) == vs2) && ((contP vs6 (Part.mk vs24 vl25 vs26 vc27 vi28 vi29 vi30 vl31)) == vs3)) = true from (fun q0 => q0)) (need_strike (show (((contP vs6 (Part.mk vs16 vl17 vs18 vc19 vi20 vi21 vi22 vl23)) == vs2) && ((contP vs6 (Part.mk vs24 vl25 vs26 vc27 vi28 vi29 vi30 vl31)) == vs3)) = true → (((contP vs6 (Part.mk vs16 vl17 vs18 vc19 vi20 vi21 vi22 vl23)) == vs2) && ((contP vs6 (Part.mk vs24 vl25 vs26 vc27 vi28 vi29 vi30 vl31)) == vs3)) = true from (fun q0 => q0)) (need_strike (show (((contP vs6 (Part.mk vs16 vl17 vs18 vc19 vi20 vi21 vi22 vl23)) == vs2) && ((contP vs6 (Part.mk vs24 vl25 vs26 vc27 vi28 vi29 vi30 vl31)) == vs3)) = true → (((contP vs6 (Part.mk vs16 vl17 vs18 vc19 vi20 vi21 vi22 vl23)) == vs2) && ((contP vs6 (Part.mk vs24 vl25 vs26 vc27 vi28 vi29 vi30 vl31)) == vs3)) = true from (fun q0 => q0)) (need_strike (show ((((contP vs6 (Part.mk vs16 vl17 vs18 vc19 vi20 vi21 vi22 vl23)) == vs2) && ((contP vs6 (Part.mk vs24 vl25 vs26 vc27 vi28 vi29 vi30 vl31)) == vs3)) && ((contP vs6 (Part.mk vs32 vl33 vs34 vc35 vi36 vi37 vi38 vl39)) == vs4)) = true → ((((contP vs6 (Part.mk vs16 vl17 vs18 vc19 vi20 vi21 vi22 vl23)) == vs2) && ((contP vs6 (Part.mk vs24 vl25 vs26 vc27 vi28 vi29 vi30 vl31)) == vs3)) && ((contP vs6 (Part.mk vs32 vl33 vs34 vc35 vi36 vi37 vi38 vl39)) == vs4)) = true from (fun q0 => q0)) (need_strike (show ((((contP vs6 (Part.mk vs16 vl17 vs18 vc19 vi20 vi21 vi22 vl23)) == vs2) && ((contP vs6 (Part.mk vs24 vl25 vs26 vc27 vi28 vi29 vi30 vl31)) == vs3)) && ((contP vs6 (Part.mk vs32 vl33 vs34 vc35 vi36 vi37 vi38 vl39)) == vs4)) = true → ((((contP vs6 (Part.mk vs16 vl17 vs18 vc19 vi20 vi21 vi22 vl23)) == vs2) && ((contP vs6 (Part.mk vs24 vl25 vs26 vc27 vi28 vi29 vi30 vl31)) == vs3)) && ((contP vs6 (Part.mk vs32 vl33 vs34 vc35 vi36 vi37 vi38 vl39)) == vs4)) = true from (fun q0 => q0)) (need_strike (show ((((contP vs6 (Part.mk vs16 vl17 vs18 vc19 vi20 vi21 vi22 vl23)) == vs2) && ((contP vs6 (Part.mk vs24 vl25 vs26 vc27 vi28 vi29 vi30 vl31)) == vs3)) && ((contP vs6 (Part.mk vs32 vl33 vs34 vc35 vi36 vi37 vi38 vl39)) == vs4)) = true → ((((contP vs6 (Part.mk vs16 vl17 vs18 vc19 vi20 vi21 vi22 vl23)) == vs2) && ((contP vs6 (Part.mk vs24 vl25 vs26 vc27 vi28 vi29 vi30 vl31)) == vs3)) && ((contP vs6 (Part.mk vs32 vl33 vs34 vc35 vi36 vi37 vi38 vl39)) == vs4)) = true from (fun q0 => q0)) (need_strike (show (((((contP vs6 (Part.mk vs16 vl17 vs18 vc19 vi20 vi21 vi22 vl23)) == vs2) && ((contP vs6 (Part.mk vs24 vl25 vs26 vc27 vi28 vi29 vi30 vl31)) == vs3)) && ((contP vs6 (Part.mk vs32 vl33 vs34 vc35 vi36 vi37 vi38 vl39)) == vs4)) && (vs24 == ([116, 101, 120, 116, 47, 104, 116, 109, 108] : List UInt8))) = true → (((((contP vs6 (Part.mk vs16 vl17 vs18 vc19 vi20 vi21 vi22 vl23)) == vs2) && ((contP vs6 (Part.mk vs24 vl25 vs26 vc27 vi28 vi29 vi30 vl31)) == vs3)) && ((contP vs6 (Part.mk vs32 vl33 vs34 vc35 vi36 vi37 vi38 vl39)) == vs4)) && (vs24 == ([116, 101, 120, 116, 47, 104, 116, 109, 108] : List UInt8))) = true from (fun q0 => q0)) (rfl))))))))))))))))))

theorem FPartNested_eq (F : Nat) (a b c : List UInt8) (o : Bool) : FPartNested F a b c o = ((((((BPartNested_1 F a b c o (((decide ((a.length : Int) > (200 : Int))) || (decide ((b.length : Int) > (200 : Int)))) || (decide ((c.length : Int) > (200 : Int)))))))))) := by
  have h : FPartNested F a b c o = need ((!(decide ((a.length : Int) > (200 : Int)))) = true → (!(decide ((a.length : Int) > (200 : Int)))) = true) (need ((!(decide ((a.length : Int) > (200 : Int)))) = true → (!(decide ((a.length : Int) > (200 : Int)))) = true) (need ((decide ((a.length : Int) > (200 : Int))) = false → (!(decide ((a.length : Int) > (200 : Int)))) = true) (need ((!((decide ((a.length : Int) > (200 : Int))) || (decide ((b.length : Int) > (200 : Int))))) = true → (!((decide ((a.length : Int) > (200 : Int))) || (decide ((b.length : Int) > (200 : Int))))) = true) (need ((!((decide ((a.length : Int) > (200 : Int))) || (decide ((b.length : Int) > (200 : Int))))) = true → (!((decide ((a.length : Int) > (200 : Int))) || (decide ((b.length : Int) > (200 : Int))))) = true) (need (((decide ((a.length : Int) > (200 : Int))) || (decide ((b.length : Int) > (200 : Int)))) = false → (!((decide ((a.length : Int) > (200 : Int))) || (decide ((b.length : Int) > (200 : Int))))) = true) (BPartNested_1 F a b c o (((decide ((a.length : Int) > (200 : Int))) || (decide ((b.length : Int) > (200 : Int)))) || (decide ((c.length : Int) > (200 : Int)))))))))) := by kernel_rfl
  rw [h, need_pos (show ((decide ((a.length : Int) > (200 : Int))) || (decide ((b.length : Int) > (200 : Int)))) = false → (!((decide ((a.length : Int) > (200 : Int))) || (decide ((b.length : Int) > (200 : Int))))) = true from (fun q0 => (not_mk q0))), need_pos (show (!((decide ((a.length : Int) > (200 : Int))) || (decide ((b.length : Int) > (200 : Int))))) = true → (!((decide ((a.length : Int) > (200 : Int))) || (decide ((b.length : Int) > (200 : Int))))) = true from (fun q0 => q0)), need_pos (show (!((decide ((a.length : Int) > (200 : Int))) || (decide ((b.length : Int) > (200 : Int))))) = true → (!((decide ((a.length : Int) > (200 : Int))) || (decide ((b.length : Int) > (200 : Int))))) = true from (fun q0 => q0)), need_pos (show (decide ((a.length : Int) > (200 : Int))) = false → (!(decide ((a.length : Int) > (200 : Int)))) = true from (fun q0 => (not_mk q0))), need_pos (show (!(decide ((a.length : Int) > (200 : Int)))) = true → (!(decide ((a.length : Int) > (200 : Int)))) = true from (fun q0 => q0)), need_pos (show (!(decide ((a.length : Int) > (200 : Int)))) = true → (!(decide ((a.length : Int) > (200 : Int)))) = true from (fun q0 => q0))]

theorem fn_PartNested (F : Nat) (a b c : List UInt8) (o : Bool) (r : AV) (h : (∃ M vs, ARels γ0 M [.p (.str a), .p (.str b), .p (.str c), .p (.bool o)] vs) → FPartNested F a b c o = some (r, [])) : FnP Tryd.prog 9 [.p (.str a), .p (.str b), .p (.str c), .p (.bool o)] r :=
  FnP_run GPartNested F rfl (EnvOk_mk (l := [(11, sp_awake), (16, sp_tree), (18, sp_clean), (21, sp_content)]) ⟨ok_awake.any, ok_tree.any, ok_clean.any, ok_content.any, trivial⟩) (EnvROk_mk (l := []) trivial) (Checked.mixed Tryd.checked) (fn := Tryd.f9) (by kernel_rfl) (by kernel_rfl) rfl h
/-! PartNested. -/
theorem nestB_clean (s : List UInt8) : okB (cleanS s) := ⟨isLn_clean s, fun c h => (cleanS_ok s c h).1⟩
theorem nest_text (a b c : List UInt8) (o : Bool) : (((((LB_8d318e03 ++ ((((((LB_0f549e2b ++ a) ++ LB_72bcdf0b) ++ b) ++ ([13, 10] : List UInt8)) ++ (if o = true then [] else ([45, 45, 105, 110, 45, 45, 13, 10] : List UInt8))))) ++ ([45, 45, 111, 117, 116, 13, 10, 13, 10] : List UInt8)) ++ c) ++ ([13, 10, 45, 45, 111, 117, 116, 45, 45, 13, 10] : List UInt8))) = nestT a b c o := by
  have e1 : LB_8d318e03 = headO ++ (mOut ++ crlf) := rfl
  have e2 : LB_0f549e2b = hAlt ++ (crlf ++ (crlf ++ (mIn ++ (crlf ++ crlf)))) := rfl
  have e3 : LB_72bcdf0b = crlf ++ (mIn ++ (crlf ++ (hHtml ++ (crlf ++ crlf)))) := rfl
  have e4 : ([45, 45, 111, 117, 116, 13, 10, 13, 10] : List UInt8) = mOut ++ (crlf ++ crlf) := rfl
  have e5 : ([13, 10, 45, 45, 111, 117, 116, 45, 45, 13, 10] : List UInt8) = crlf ++ (mOutE ++ crlf) := rfl
  have e6 : (if o = true then [] else ([45, 45, 105, 110, 45, 45, 13, 10] : List UInt8)) = (if o = true then [] else mInE ++ crlf) := rfl
  have e7 : ([13, 10] : List UInt8) = crlf := rfl
  rw [e1, e2, e3, e4, e5, e6, e7]
  unfold nestT innerT tailIn
  cases o
  · rw [if_neg (by simp), if_neg (by simp)]
    simp only [List.append_assoc, List.nil_append]
  · rw [if_pos rfl, if_pos rfl]
    simp only [List.append_assoc, List.nil_append, List.append_nil]
theorem PartNested_true (a b c : List UInt8) (o : Bool) : FPartNested 0 a b c o = some (.p (.bool true), []) := by
  rw [FPartNested_eq, BPartNested_1_eq]
  by_cases h : ((a.length : Int) > 200 ∨ (b.length : Int) > 200) ∨ (c.length : Int) > 200
  · exact cond_t (by simp only [Bool.or_eq_true, decide_eq_true_eq]; exact h) rfl
  · refine cond_f (by simp only [Bool.or_eq_false_iff, decide_eq_false_iff_not]; omega) (need_mk (by omega) (need_mk (by omega) (need_mk (by omega) ?_)))
    have hal := cleanS_len a
    have hbl := cleanS_len b
    have hcl := cleanS_len c
    have key : BPartNested_2 0 (cleanS a) (cleanS b) (cleanS c) (if o = true then [] else ([45, 45, 105, 110, 45, 45, 13, 10] : List UInt8)) = some (.p (.bool true), []) := by
      have ha := nestB_clean a
      have hb := nestB_clean b
      have hc := nestB_clean c
      generalize cleanS a = A at *
      generalize cleanS b = B at *
      generalize cleanS c = K at *
      obtain ⟨E, hE⟩ : ∃ E, (if o = true then [] else ([45, 45, 105, 110, 45, 45, 13, 10] : List UInt8)) = E := ⟨_, rfl⟩
      have hEl : E.length ≤ 8 := by rw [← hE]; split <;> simp
      have ht := nest_text A B K o
      rw [hE] at ht ⊢
      have l1 : LB_8d318e03.length = 54 := rfl
      have l2 : LB_0f549e2b.length = 60 := rfl
      have l3 : LB_72bcdf0b.length = 35 := rfl
      have ok : ∀ x : Nat, x ≤ 10000 → lenok x := fun x hx => by unfold lenok; omega
      rw [BPartNested_2_eq]
      refine need_mk (ok _ ?_) (need_mk (ok _ ?_) (need_mk (ok _ ?_) (need_mk (ok _ ?_) (need_mk (ok _ ?_) (need_mk (ok _ ?_) (need_mk (ok _ ?_) (need_mk (ok _ ?_) (need_mk (ok _ ?_) ?_))))))))
      · simp only [l2]; omega
      · simp only [l2, l3, List.length_append]; omega
      · simp only [l2, l3, List.length_append]; omega
      · simp only [l2, l3, List.length_append, List.length_cons, List.length_nil]; omega
      · simp only [l2, l3, List.length_append, List.length_cons, List.length_nil]; omega
      · simp only [l1, l2, l3, List.length_append, List.length_cons, List.length_nil]; omega
      · simp only [l1, l2, l3, List.length_append, List.length_cons, List.length_nil]; omega
      · simp only [l1, l2, l3, List.length_append, List.length_cons, List.length_nil]; omega
      · simp only [l1, l2, l3, List.length_append, List.length_cons, List.length_nil]; omega
      · rw [ht]
        have hsl : (nestT A B K o).length ≤ 10000 := by
          rw [← ht]; simp only [l1, l2, l3, List.length_append, List.length_cons, List.length_nil]; omega
        obtain ⟨s, hs⟩ : ∃ s, s = nestT A B K o := ⟨_, rfl⟩
        rw [← hs] at hsl ⊢
        have hk := nest_tree ha hb hc hs
        obtain ⟨c1, c2, c3⟩ := nest_conts (c := K) (a := A) (b := B) hs
        have hA : LB_6cd5733e = tAlt := rfl
        rw [BPartNested_3_eq, hk]
        have z0 : (0 : Int) ≤ 0 ∧ (0 : Int) < ((2 : Nat) : Int) := by decide
        have z1 : (0 : Int) ≤ 1 ∧ (1 : Int) < ((2 : Nat) : Int) := by decide
        refine need_mk (by omega) (need_mk (fun _ => z0) (need_mk (fun _ => z0) ?_))
        rw [BPartNested_4_eq]
        refine cond_f (show (((((2 : Nat) : Int) != 2) || (((2 : Nat) : Int) != 2)) || (tAlt != tAlt)) = false from by decide) (need_mk z0 (need_mk z0 (need_mk z0 (need_mk z1 (need_mk z1 ?_)))))
        rw [BPartNested_5_eq]
        refine need_mk (by omega) (need_mk (fun _ => by omega) (need_mk (fun _ => by omega) ?_))
        show some (AV.p (.bool (((((contP s (Part.mk textP [] seven false ((112 : Nat) : Int) ((114 : Nat) : Int) ((114 + A.length : Nat) : Int) []) == A) && (contP s (Part.mk tHtml [] seven false ((122 + A.length : Nat) : Int) ((149 + A.length : Nat) : Int) ((149 + A.length + B.length : Nat) : Int) []) == B)) && (contP s (Part.mk textP [] seven false ((54 + (innerT A B o).length + 9 : Nat) : Int) ((54 + (innerT A B o).length + 11 : Nat) : Int) ((54 + (innerT A B o).length + 11 + K.length : Nat) : Int) []) == K)) && (tHtml == tHtml)) && true)), []) = _
        rw [c1, c2, c3]
        simp
    cases o with
    | true => exact cond_t rfl key
    | false => exact cond_f rfl key
end Go.Proofs.YthfgklcdkehgjaaDoor
