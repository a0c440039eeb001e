/-
  Lifted functions, and facts about them.
-/
import Derived.Test.YtoanepondbagcaaGreatDoorRows
import Derived.Test.YtoanepondbagcaaGreatDoorAmC
import Derived.Test.YtoanepondbagcaaGreatDoorC01
import Derived.Test.YtoanepondbagcaaGreatDoorC24
namespace Go.Proofs.YtoanepondbagcaaGreatDoor
open Go Go.Am
set_option linter.unusedVariables false
/-! The sections of parts that are put together. -/
def digK : Nat → Int → List UInt8
  | 0, _ => []
  | k + 1, n => if n < 10 then [UInt8.ofNat (48 + n.toNat)] else digK k (n.tdiv 10) ++ [UInt8.ofNat (48 + (n.tmod 10).toNat)]
def okD : Nat → Int → Prop
  | 0, _ => False
  | k + 1, n => k ≤ 1000 ∧ 0 ≤ n ∧ n ≤ 1000000 ∧ (n < 10 ∨ okD k (n.tdiv 10))
theorem digK_len : ∀ (k : Nat) (n : Int), (digK k n).length ≤ k
  | 0, n => by simp [digK]
  | k + 1, n => by
    have := digK_len k (n.tdiv 10)
    rw [digK]
    split
    · simp
    · simp; omega
def sp_rdig (k : Nat) : List AV → Option (AV × Option Prop)
  | [.p (.int .i64 n)] => some (.p (.str (digK k n)), some (okD k n))
  | _ => none

noncomputable def Grdig (k : Nat) : Cfg := ⟨Tryz.prog, mkEnv [(17, sp_rdig k)], mkEnvR [], 21, [], [], []⟩

noncomputable def Frdig (k F : Nat) (n : Int) : Option Ans := runF (Grdig k) Tryz.f17 F [.p (.int .i64 n)]

theorem Frdig_eq (k F : Nat) (n : Int) : Frdig k F n = cond (decide (n < (10 : Int))) (need (i64ok ((48 : Int) + (if (0 : Int) > n then (0 : Int) else n))) (some (.p (.str [UInt8.ofNat (IntKind.u8.wrap ((48 : Int) + (if (0 : Int) > n then (0 : Int) else n))).toNat]), []))) (need ((10 : Int) ≠ 0 ∧ i64ok (n.tdiv (10 : Int))) (need (okD k (n.tdiv (10 : Int))) ((need (i64ok ((48 : Int) + (n.tmod (10 : Int)))) (need (lenok ((digK k (n.tdiv (10 : Int))).length + [UInt8.ofNat (IntKind.u8.wrap ((48 : Int) + (n.tmod (10 : Int)))).toNat].length)) (some (.p (.str ((digK k (n.tdiv (10 : Int))) ++ [UInt8.ofNat (IntKind.u8.wrap ((48 : Int) + (n.tmod (10 : Int)))).toNat])), []))))))) := by
  have h : Frdig k F n = cond (decide (n < (10 : Int))) (need (i64ok ((48 : Int) + (if (0 : Int) > n then (0 : Int) else n))) (some (.p (.str [UInt8.ofNat (IntKind.u8.wrap ((48 : Int) + (if (0 : Int) > n then (0 : Int) else n))).toNat]), []))) (need ((10 : Int) ≠ 0 ∧ i64ok (n.tdiv (10 : Int))) (need (okD k (n.tdiv (10 : Int))) (need ((10 : Int) ≠ 0) (need (i64ok ((48 : Int) + (n.tmod (10 : Int)))) (need (lenok ((digK k (n.tdiv (10 : Int))).length + [UInt8.ofNat (IntKind.u8.wrap ((48 : Int) + (n.tmod (10 : Int)))).toNat].length)) (some (.p (.str ((digK k (n.tdiv (10 : Int))) ++ [UInt8.ofNat (IntKind.u8.wrap ((48 : Int) + (n.tmod (10 : Int)))).toNat])), []))))))) := by kernel_rfl
  rw [h, need_pos (show (10 : Int) ≠ 0 from (by decide))]

theorem fn_rdig (k : Nat) (hrec : SpecOk Tryz.prog 17 (sp_rdig k)) (F : Nat) (n : Int) (r : AV) (h : (∃ M vs, ARels γ0 M [.p (.int .i64 n)] vs) → Frdig k F n = some (r, [])) : FnP Tryz.prog 17 [.p (.int .i64 n)] r :=
  FnP_run (Grdig k) F rfl (EnvOk_mk (l := [(17, sp_rdig k)]) ⟨hrec.any, trivial⟩) (EnvROk_mk (l := []) trivial) (Checked.mixed Tryz.checked) (fn := Tryz.f17) (by kernel_rfl) (by kernel_rfl) rfl h
theorem rdig_eq (k : Nat) (n : Int) (h : okD (k + 1) n) : Frdig k 0 n = some (.p (.str (digK (k + 1) n)), []) := by
  obtain ⟨hk, h0, h1, h2⟩ := h
  rw [Frdig_eq, digK]
  by_cases hn : n < 10
  · rw [if_pos hn, if_neg (by omega), u8_wrap, show ((48 + n) % 256).toNat = 48 + n.toNat by omega]
    exact cond_t (by simpa using hn) (need_mk (by unfold i64ok; omega) rfl)
  · rw [if_neg hn]
    have hd : okD k (n.tdiv 10) := h2.resolve_left hn
    have hl := digK_len k (n.tdiv 10)
    obtain ⟨m, rfl⟩ := Int.eq_ofNat_of_zero_le h0
    have e1 : ((m : Int).tdiv 10) = ((m / 10 : Nat) : Int) := rfl
    have e2 : ((m : Int).tmod 10) = ((m % 10 : Nat) : Int) := rfl
    rw [e1] at hd hl ⊢
    have e3 : (IntKind.u8.wrap ((48 : Int) + ((m % 10 : Nat) : Int))).toNat = 48 + (((m % 10 : Nat) : Int)).toNat := by rw [u8_wrap]; omega
    rw [e2, e3]
    exact cond_f (by simpa using hn) (need_mk ⟨by decide, by unfold i64ok; omega⟩ (need_mk hd (need_mk (by unfold i64ok; omega) (need_mk (by unfold lenok; simp only [List.length_cons, List.length_nil]; omega) rfl))))
theorem ok_rdig : ∀ k, SpecOk Tryz.prog 17 (sp_rdig k)
  | 0 => by
    intro zs r ok he hok
    unfold sp_rdig at he
    split at he
    · cases he; exact absurd hok (by simp [okD])
    · cases he
  | k + 1 => by
    intro zs r ok he hok
    unfold sp_rdig at he
    split at he
    · cases he; exact ⟨by kernel_rfl, fn_rdig k (ok_rdig k) 0 _ _ fun _ => rdig_eq k _ hok⟩
    · cases he
def dg (i : Nat) : List UInt8 := digK 3 (i : Int)
theorem okD_at {i : Nat} (h : i ≤ 30) : okD 3 (i : Int) := by
  refine ⟨by decide, by omega, by omega, ?_⟩
  by_cases h1 : i < 10
  · exact .inl (by omega)
  · refine .inr ⟨by decide, ?_, ?_, .inl ?_⟩
    · show (0 : Int) ≤ ((i / 10 : Nat) : Int); omega
    · show ((i / 10 : Nat) : Int) ≤ 1000000; omega
    · show ((i / 10 : Nat) : Int) < 10; omega
def hdN (i : Nat) : List UInt8 := [88, 45, 78, 58, 32] ++ dg i
def dgB (i : Nat) : Bool :=
  (dg i != [] && dg i != cHEAD && dg i != cTEXT && (dg i ++ cMIME) != [] && (dg i ++ cMIME) != cHEAD && (dg i ++ cMIME) != cTEXT && (dg i ++ [46, 49]) != [] && (dg i ++ [46, 49]) != cHEAD && (dg i ++ [46, 49]) != cTEXT) &&
  (sufS (dg i) cMIME == (dg i, false) && sufS (dg i ++ cMIME) cMIME == (dg i, true) && sufS (dg i ++ [46, 49]) cMIME == (dg i ++ [46, 49], false)) &&
  (splB 46 (dg i) == [dg i] && splB 46 (dg i ++ [46, 49]) == [dg i, [49]] && numS (dg i) == ((i : Int), true))
theorem dgB_all : ((List.range 30).all dgB) = true := by kernel_rfl
def hdB (i : Nat) : Bool :=
  (hdN i).all (fun c => c != 10 && c != 13) && hdN i != [] && trimRB (hdN i) != ([45, 45] ++ bM) ++ [45, 45] && trimRB (hdN i) != [45, 45] ++ bM && typeF (fieldsS [hdN i]) == (textP, []) && encF (fieldsS [hdN i]) == seven7 && !attF (fieldsS [hdN i])
theorem hdB_all : ((List.range 30).all hdB) = true := by kernel_rfl
theorem okH_hd {i : Nat} (h : i < 30) : okH (hdN i) := by
  have := List.all_eq_true.1 hdB_all i (List.mem_range.2 h)
  unfold hdB at this
  simp only [Bool.and_eq_true, bne_iff_ne, beq_iff_eq, Bool.not_eq_true'] at this
  obtain ⟨⟨⟨⟨⟨⟨h1, h2⟩, h3⟩, h4⟩, h5⟩, h6⟩, h7⟩ := this
  exact ⟨isLn_of h1, h2, h3, h4, h5, h6, h7⟩
structure Dg (i : Nat) : Prop where
  a : dg i ≠ [] ∧ dg i ≠ cHEAD ∧ dg i ≠ cTEXT
  b : dg i ++ cMIME ≠ [] ∧ dg i ++ cMIME ≠ cHEAD ∧ dg i ++ cMIME ≠ cTEXT
  c : dg i ++ [46, 49] ≠ [] ∧ dg i ++ [46, 49] ≠ cHEAD ∧ dg i ++ [46, 49] ≠ cTEXT
  d : sufS (dg i) cMIME = (dg i, false) ∧ sufS (dg i ++ cMIME) cMIME = (dg i, true) ∧ sufS (dg i ++ [46, 49]) cMIME = (dg i ++ [46, 49], false)
  e : splB 46 (dg i) = [dg i] ∧ splB 46 (dg i ++ [46, 49]) = [dg i, [49]] ∧ numS (dg i) = ((i : Int), true)
theorem Dg_at {i : Nat} (h : i < 30) : Dg i := by
  have := List.all_eq_true.1 dgB_all i (List.mem_range.2 h)
  unfold dgB at this
  simp only [Bool.and_eq_true, bne_iff_ne, beq_iff_eq] at this
  obtain ⟨⟨⟨⟨⟨⟨⟨⟨⟨⟨h1, h2⟩, h3⟩, h4⟩, h5⟩, h6⟩, h7⟩, h8⟩, h9⟩, ⟨h10, h11⟩, h12⟩, ⟨h13, h14⟩, h15⟩ := this
  exact ⟨⟨h1, h2, h3⟩, ⟨h4, h5, h6⟩, ⟨h7, h8, h9⟩, ⟨h10, h11, h12⟩, ⟨h13, h14, h15⟩⟩
theorem sect_num {s p : List UInt8} (h : p ≠ [] ∧ p ≠ cHEAD ∧ p ≠ cTEXT) : sectS s p = secO s (sufS p cMIME).2 (placeO (splB 46 (sufS p cMIME).1) (treeT s) false) := by
  unfold sectS
  rw [if_neg h.1, if_neg h.2.1, if_neg h.2.2]
theorem place_num {p : Part} {w : List UInt8} {r : List (List UInt8)} {n : Nat} (hw : numS w = (((n + 1 : Nat) : Int), true)) (hn : n < p.kids.length) : placeO (w :: r) p false = placeO r (p.kids.getD n (dfl .part)) false := by
  rw [placeO, hw]
  dsimp only
  rw [if_neg (by simp; omega), if_neg (by omega), if_neg (by omega), show (((n + 1 : Nat) : Int) - 1).toNat = n by omega]
theorem place_leaf {p : Part} (h : p.kids = []) : placeO [[49]] p false = some p := by
  rw [placeO, show numS [49] = ((1 : Int), true) by decide]
  dsimp only
  rw [if_neg (by decide), if_pos (by rw [h]; rfl), if_neg (by decide), placeO]
theorem place_over {p : Part} {w : List UInt8} {r : List (List UInt8)} {n : Nat} (hw : numS w = ((n : Int), true)) (hn : p.kids.length < n) (h0 : p.kids.length ≠ 0) : placeO (w :: r) p false = none := by
  rw [placeO, hw]
  dsimp only
  rw [if_neg (by simp; omega), if_neg h0, if_pos (by omega)]
theorem kid_sects {s : List UInt8} {i : Nat} (hi : i + 1 < 30) {x : List UInt8 × List UInt8} (hn : i < (treeT s).kids.length) (hk : kidH s x ((treeT s).kids.getD i (dfl .part))) :
    sectS s (dg (i + 1)) = (x.2, true) ∧ sectS s (dg (i + 1) ++ cMIME) = (x.1 ++ (crlf ++ crlf), true) ∧ sectS s (dg (i + 1) ++ [46, 49]) = (x.2, true) := by
  have D := Dg_at hi
  refine ⟨?_, ?_, ?_⟩
  · rw [sect_num D.a, D.d.1, D.e.1, place_num D.e.2.2 hn, placeO, secO, if_neg (by simp), hk.b]
  · rw [sect_num D.b, D.d.2.1, D.e.1, place_num D.e.2.2 hn, placeO, secO, if_pos rfl, hk.h]
  · rw [sect_num D.c, D.d.2.2, D.e.2.1, place_num D.e.2.2 hn, place_leaf hk.k, secO, if_neg (by simp), hk.b]
theorem kid_over {s : List UInt8} {n : Nat} (hn : n + 1 < 30) (hk : (treeT s).kids.length = n) (h0 : n ≠ 0) : (sectS s (dg (n + 1))).2 = false := by
  have D := Dg_at hn
  rw [sect_num D.a, D.d.1, D.e.1, place_over D.e.2.2 (by omega) (by omega)]; rfl
theorem sect_zero (s : List UInt8) : (sectS s [48]).2 = false := by
  rw [sect_num (by decide), show sufS [48] cMIME = ([48], false) by decide, show splB 46 [48] = [[48]] by decide, placeO, show numS [48] = ((0 : Int), true) by decide, if_pos (.inr (by decide))]; rfl
/-! ### The message -/
def prs : Nat → List (List UInt8) → List (List UInt8 × List UInt8)
  | _, [] => []
  | i, b :: r => (hdN i, cleanS b) :: prs (i + 1) r
theorem prs_snoc (b : List UInt8) : ∀ (l : List (List UInt8)) (j : Nat), prs j (l ++ [b]) = prs j l ++ [(hdN (j + l.length), cleanS b)]
  | [], j => rfl
  | x :: r, j => by rw [List.cons_append, prs, prs, prs_snoc b r (j + 1), List.length_cons, show j + 1 + r.length = j + (r.length + 1) by omega]; rfl
theorem prs_len : ∀ (l : List (List UInt8)) (j : Nat), (prs j l).length = l.length
  | [], _ => rfl
  | _ :: r, j => by rw [prs, List.length_cons, List.length_cons, prs_len r (j + 1)]
theorem prs_at : ∀ (l : List (List UInt8)) (j i : Nat) (b : List UInt8), l[i]? = some b → (prs j l)[i]? = some (hdN (j + i), cleanS b)
  | [], j, i, b, h => by simp at h
  | x :: r, j, 0, b, h => by
    have : x = b := by simpa using h
    subst this; rfl
  | x :: r, j, i + 1, b, h => by
    have := prs_at r (j + 1) i b (by simpa using h)
    rw [show j + 1 + i = j + (i + 1) by omega] at this
    rw [prs]; simpa using this
theorem prs_ok : ∀ (l : List (List UInt8)) (j : Nat), j + l.length ≤ 30 → ∀ x ∈ prs j l, okH x.1 ∧ okB x.2
  | [], _, _, x, hx => by cases hx
  | b :: r, j, hj, x, hx => by
    rw [List.length_cons] at hj
    rw [prs] at hx
    rcases List.mem_cons.1 hx with rfl | hx
    · exact ⟨okH_hd (by omega), isLn_clean b, fun c h => (cleanS_ok b c h).1⟩
    · exact prs_ok r (j + 1) (by omega) x hx
def msgN (l : List (List UInt8 × List UInt8)) : List UInt8 := hdL ++ (crlf ++ ([] ++ (crlf ++ blkH l [])))
theorem msgN_snoc (l : List (List UInt8 × List UInt8)) (i : Nat) (b : List UInt8) : msgN (l ++ [(hdN i, b)]) = ((((msgN l ++ [45, 45, 98, 13, 10, 88, 45, 78, 58, 32]) ++ dg i) ++ [13, 10, 13, 10]) ++ b) ++ [13, 10] := by
  unfold msgN
  rw [blkH_cat, blkH_app l (blkH [(hdN i, b)] []), blkH, blkH]
  unfold hdN mkB
  simp only [List.append_assoc, List.append_nil, List.nil_append, List.cons_append]
theorem msgN_end (l : List (List UInt8 × List UInt8)) : msgN l ++ [45, 45, 98, 45, 45, 13, 10] = hdL ++ (crlf ++ ([] ++ (crlf ++ blkH l (enB ++ (crlf ++ []))))) := by
  unfold msgN
  rw [blkH_app l (enB ++ (crlf ++ []))]
  unfold enB
  simp only [List.append_assoc, List.append_nil, List.nil_append, List.cons_append]
theorem blkH_len : ∀ l : List (List UInt8 × List UInt8), (∀ x ∈ l, x.1.length ≤ 8 ∧ x.2.length ≤ 200) → (blkH l []).length ≤ 219 * l.length
  | [], _ => by simp [blkH]
  | x :: r, h => by
    have h1 := h x (by simp)
    have h2 := blkH_len r fun y hy => h y (List.mem_cons_of_mem _ hy)
    rw [blkH]
    simp [mkB]; omega
theorem prs_lens : ∀ (l : List (List UInt8)) (j : Nat), (∀ b ∈ l, b.length ≤ 200) → ∀ x ∈ prs j l, x.1.length ≤ 8 ∧ x.2.length ≤ 200
  | [], _, _, x, hx => by cases hx
  | b :: r, j, h, x, hx => by
    rw [prs] at hx
    rcases List.mem_cons.1 hx with rfl | hx
    · have h1 := h b (by simp)
      have h2 := digK_len 3 (j : Int)
      refine ⟨?_, by rw [cleanS_len]; exact h1⟩
      show ([88, 45, 78, 58, 32] ++ digK 3 (j : Int)).length ≤ 8
      simp; omega
    · exact prs_lens r (j + 1) (fun y hy => h y (List.mem_cons_of_mem _ hy)) x hx
theorem msgN_len {l : List (List UInt8)} (hl : l.length ≤ 20) (h : ∀ b ∈ l, b.length ≤ 200) (j : Nat) : (msgN (prs j l)).length ≤ 5000 := by
  have h1 := blkH_len (prs j l) (prs_lens l j h)
  have h2 : hdL.length = 41 := rfl
  rw [prs_len] at h1
  unfold msgN
  simp only [List.length_append, List.length_nil, h2, List.length_cons]; omega
noncomputable def cLookParts : Code := bodyOf Tryz.f7

noncomputable def GLookParts : Cfg := ⟨Tryz.prog, mkEnv [(10, sp_awake), (15, sp_section), (17, sp_rdig 3), (18, sp_clean)], mkEnvR [], 138, [], [([0, 1, 0, 1, 1, 1], ⟨[0, 3, 4], []⟩), ([1, 1, 0, 0, 1, 0, 1, 1, 1], ⟨[0, 3, 4], []⟩), ([0, 1, 0, 1, 1, 1, 1, 1], ⟨[0, 3, 5], []⟩), ([1, 1, 1, 1, 1, 0, 0, 1, 0, 0, 1, 0, 1, 1, 1, 1, 1], ⟨[0, 3, 5, 114], []⟩)], []⟩

noncomputable def BLookParts_1 (F f1 : Nat) (bs : List (List UInt8)) (vs1 : List UInt8) (vi2 : Int) : Option Ans := runR GLookParts cLookParts (kP Tryz.prog Tryz.f7.results.toList) F [] [1, 1, 1, 0, 1, 0] f1 [(0, .p (.list 1 (.dat .str bs))), (3, .p (.str vs1)), (4, .p (.int .i64 vi2))] []

noncomputable def BLookParts_2 (F f1 : Nat) (bs : List (List UInt8)) (vs3 : List UInt8) (vi2 : Int) : Option Ans := runB GLookParts cLookParts (kP Tryz.prog Tryz.f7.results.toList) F [f1] [1, 1, 1, 0, 1, 0, 0, 1, 1] [(0, .p (.list 1 (.dat .str bs))), (3, .p (.str vs3)), (4, .p (.int .i64 vi2))] []

noncomputable def BLookParts_3 (F f2 : Nat) (bs : List (List UInt8)) (vs4 : List UInt8) (vi5 : Int) : Option Ans := runR GLookParts cLookParts (kP Tryz.prog Tryz.f7.results.toList) F [] [1, 1, 1, 1, 1, 0, 1, 0] f2 [(0, .p (.list 1 (.dat .str bs))), (3, .p (.str vs4)), (5, .p (.int .i64 vi5))] []

noncomputable def BLookParts_4 (F f2 : Nat) (bs : List (List UInt8)) (vs4 : List UInt8) (vi5 : Int) (vc6 : Bool) : Option Ans := runB GLookParts cLookParts (kP Tryz.prog Tryz.f7.results.toList) F [f2] [1, 1, 1, 1, 1, 0, 1, 0, 0, 1, 0, 0, 1, 1, 1, 1, 1] [(0, .p (.list 1 (.dat .str bs))), (3, .p (.str vs4)), (5, .p (.int .i64 vi5)), (114, .p (.bool vc6))] []

noncomputable def FLookParts (F : Nat) (bs : List (List UInt8)) : Option Ans := runF GLookParts Tryz.f7 F [.p (.list 1 (.dat .str bs))]

theorem BLookParts_1_eq (F f1 : Nat) (bs : List (List UInt8)) (vs1 : List UInt8) (vi2 : Int) : BLookParts_1 F (f1 + 1) bs vs1 vi2 = cond (decide (vi2 < (bs.length : Int))) (need (0 ≤ vi2 ∧ vi2 < (bs.length : Int)) (cond (decide (((bs.getD (vi2).toNat []).length : Int) > (200 : Int))) (some (.p (.bool true), [])) (need (lenok (vs1.length + ([45, 45, 98, 13, 10, 88, 45, 78, 58, 32] : List UInt8).length)) (need (okD 3 vi2) (need (lenok ((vs1 ++ ([45, 45, 98, 13, 10, 88, 45, 78, 58, 32] : List UInt8)).length + (digK 3 vi2).length)) (need (lenok (((vs1 ++ ([45, 45, 98, 13, 10, 88, 45, 78, 58, 32] : List UInt8)) ++ (digK 3 vi2)).length + ([13, 10, 13, 10] : List UInt8).length)) (need (0 ≤ vi2 ∧ vi2 < (bs.length : Int)) (need ((bs.getD (vi2).toNat []).length ≤ 1000000) (need (lenok ((((vs1 ++ ([45, 45, 98, 13, 10, 88, 45, 78, 58, 32] : List UInt8)) ++ (digK 3 vi2)) ++ ([13, 10, 13, 10] : List UInt8)).length + (cleanS (bs.getD (vi2).toNat [])).length)) (need (lenok (((((vs1 ++ ([45, 45, 98, 13, 10, 88, 45, 78, 58, 32] : List UInt8)) ++ (digK 3 vi2)) ++ ([13, 10, 13, 10] : List UInt8)) ++ (cleanS (bs.getD (vi2).toNat []))).length + ([13, 10] : List UInt8).length)) (BLookParts_2 F f1 bs (((((vs1 ++ ([45, 45, 98, 13, 10, 88, 45, 78, 58, 32] : List UInt8)) ++ (digK 3 vi2)) ++ ([13, 10, 13, 10] : List UInt8)) ++ (cleanS (bs.getD (vi2).toNat []))) ++ ([13, 10] : List UInt8)) vi2))))))))))) (need (lenok (vs1.length + ([45, 45, 98, 45, 45, 13, 10] : List UInt8).length)) (BLookParts_3 F F bs (vs1 ++ ([45, 45, 98, 45, 45, 13, 10] : List UInt8)) (0 : Int))) := by kernel_rfl

theorem BLookParts_2_eq (F f1 : Nat) (bs : List (List UInt8)) (vs3 : List UInt8) (vi2 : Int) : BLookParts_2 F f1 bs vs3 vi2 = need (i64ok (vi2 + (1 : Int))) (BLookParts_1 F f1 bs vs3 (vi2 + (1 : Int))) := by kernel_rfl

theorem BLookParts_3_eq (F f2 : Nat) (bs : List (List UInt8)) (vs4 : List UInt8) (vi5 : Int) : BLookParts_3 F (f2 + 1) bs vs4 vi5 = cond (decide (vi5 < (bs.length : Int))) (need (i64ok (vi5 + (1 : Int))) (need (okD 3 (vi5 + (1 : Int))) (need (vs4.length ≤ 1000000 ∧ (digK 3 (vi5 + (1 : Int))).length ≤ 100000) (need (lenok ((digK 3 (vi5 + (1 : Int))).length + ([46, 77, 73, 77, 69] : List UInt8).length)) (need (vs4.length ≤ 1000000 ∧ ((digK 3 (vi5 + (1 : Int))) ++ ([46, 77, 73, 77, 69] : List UInt8)).length ≤ 100000) (need (lenok ((digK 3 (vi5 + (1 : Int))).length + ([46, 49] : List UInt8).length)) (need (vs4.length ≤ 1000000 ∧ ((digK 3 (vi5 + (1 : Int))) ++ ([46, 49] : List UInt8)).length ≤ 100000) (need ((!(((!((sectS vs4 (digK 3 (vi5 + (1 : Int)))).2)) || (!((sectS vs4 ((digK 3 (vi5 + (1 : Int))) ++ ([46, 77, 73, 77, 69] : List UInt8))).2))) || (!((sectS vs4 ((digK 3 (vi5 + (1 : Int))) ++ ([46, 49] : List UInt8))).2)))) = true → 0 ≤ vi5 ∧ vi5 < (bs.length : Int)) (need ((!(((!((sectS vs4 (digK 3 (vi5 + (1 : Int)))).2)) || (!((sectS vs4 ((digK 3 (vi5 + (1 : Int))) ++ ([46, 77, 73, 77, 69] : List UInt8))).2))) || (!((sectS vs4 ((digK 3 (vi5 + (1 : Int))) ++ ([46, 49] : List UInt8))).2)))) = true → (bs.getD (vi5).toNat []).length ≤ 1000000) (need ((!(((((!((sectS vs4 (digK 3 (vi5 + (1 : Int)))).2)) || (!((sectS vs4 ((digK 3 (vi5 + (1 : Int))) ++ ([46, 77, 73, 77, 69] : List UInt8))).2))) || (!((sectS vs4 ((digK 3 (vi5 + (1 : Int))) ++ ([46, 49] : List UInt8))).2))) || (((sectS vs4 (digK 3 (vi5 + (1 : Int)))).1) != (cleanS (bs.getD (vi5).toNat [])))) || (((sectS vs4 ((digK 3 (vi5 + (1 : Int))) ++ ([46, 49] : List UInt8))).1) != ((sectS vs4 (digK 3 (vi5 + (1 : Int)))).1)))) = true → okD 3 vi5) (need ((!(((((!((sectS vs4 (digK 3 (vi5 + (1 : Int)))).2)) || (!((sectS vs4 ((digK 3 (vi5 + (1 : Int))) ++ ([46, 77, 73, 77, 69] : List UInt8))).2))) || (!((sectS vs4 ((digK 3 (vi5 + (1 : Int))) ++ ([46, 49] : List UInt8))).2))) || (((sectS vs4 (digK 3 (vi5 + (1 : Int)))).1) != (cleanS (bs.getD (vi5).toNat [])))) || (((sectS vs4 ((digK 3 (vi5 + (1 : Int))) ++ ([46, 49] : List UInt8))).1) != ((sectS vs4 (digK 3 (vi5 + (1 : Int)))).1)))) = true → lenok (([88, 45, 78, 58, 32] : List UInt8).length + (digK 3 vi5).length)) (need ((!(((((!((sectS vs4 (digK 3 (vi5 + (1 : Int)))).2)) || (!((sectS vs4 ((digK 3 (vi5 + (1 : Int))) ++ ([46, 77, 73, 77, 69] : List UInt8))).2))) || (!((sectS vs4 ((digK 3 (vi5 + (1 : Int))) ++ ([46, 49] : List UInt8))).2))) || (((sectS vs4 (digK 3 (vi5 + (1 : Int)))).1) != (cleanS (bs.getD (vi5).toNat [])))) || (((sectS vs4 ((digK 3 (vi5 + (1 : Int))) ++ ([46, 49] : List UInt8))).1) != ((sectS vs4 (digK 3 (vi5 + (1 : Int)))).1)))) = true → lenok ((([88, 45, 78, 58, 32] : List UInt8) ++ (digK 3 vi5)).length + ([13, 10, 13, 10] : List UInt8).length)) (BLookParts_4 F f2 bs vs4 vi5 ((((((!((sectS vs4 (digK 3 (vi5 + (1 : Int)))).2)) || (!((sectS vs4 ((digK 3 (vi5 + (1 : Int))) ++ ([46, 77, 73, 77, 69] : List UInt8))).2))) || (!((sectS vs4 ((digK 3 (vi5 + (1 : Int))) ++ ([46, 49] : List UInt8))).2))) || (((sectS vs4 (digK 3 (vi5 + (1 : Int)))).1) != (cleanS (bs.getD (vi5).toNat [])))) || (((sectS vs4 ((digK 3 (vi5 + (1 : Int))) ++ ([46, 49] : List UInt8))).1) != ((sectS vs4 (digK 3 (vi5 + (1 : Int)))).1))) || (((sectS vs4 ((digK 3 (vi5 + (1 : Int))) ++ ([46, 77, 73, 77, 69] : List UInt8))).1) != ((([88, 45, 78, 58, 32] : List UInt8) ++ (digK 3 vi5)) ++ ([13, 10, 13, 10] : List UInt8))))))))))))))))) (need (i64ok ((bs.length : Int) + (1 : Int))) (need (okD 3 ((bs.length : Int) + (1 : Int))) (need (vs4.length ≤ 1000000 ∧ (digK 3 ((bs.length : Int) + (1 : Int))).length ≤ 100000) (need (vs4.length ≤ 1000000 ∧ ([48] : List UInt8).length ≤ 100000) (some (.p (.bool (((!((sectS vs4 (digK 3 ((bs.length : Int) + (1 : Int)))).2)) && (!((sectS vs4 ([48] : List UInt8)).2))) && true)), [])))))) :=
  Eq.trans (show BLookParts_3 F (f2 + 1) bs vs4 vi5 = cond (decide (vi5 < (bs.length : Int))) (need (i64ok (vi5 + (1 : Int))) (need (okD 3 (vi5 + (1 : Int))) (need (vs4.length ≤ 1000000 ∧ (digK 3 (vi5 + (1 : Int))).length ≤ 100000) (need (lenok ((digK 3 (vi5 + (1 : Int))).length + ([46, 77, 73, 77, 69] : List UInt8).length)) (need (vs4.length ≤ 1000000 ∧ ((digK 3 (vi5 + (1 : Int))) ++ ([46, 77, 73, 77, 69] : List UInt8)).length ≤ 100000) (need (lenok ((digK 3 (vi5 + (1 : Int))).length + ([46, 49] : List UInt8).length)) (need (vs4.length ≤ 1000000 ∧ ((digK 3 (vi5 + (1 : Int))) ++ ([46, 49] : List UInt8)).length ≤ 100000) (need ((!(!((sectS vs4 (digK 3 (vi5 + (1 : Int)))).2))) = true → (!(!((sectS vs4 (digK 3 (vi5 + (1 : Int)))).2))) = true) (need ((!((sectS vs4 (digK 3 (vi5 + (1 : Int)))).2)) = false → (!(!((sectS vs4 (digK 3 (vi5 + (1 : Int)))).2))) = true) (need ((!((!((sectS vs4 (digK 3 (vi5 + (1 : Int)))).2)) || (!((sectS vs4 ((digK 3 (vi5 + (1 : Int))) ++ ([46, 77, 73, 77, 69] : List UInt8))).2)))) = true → (!((!((sectS vs4 (digK 3 (vi5 + (1 : Int)))).2)) || (!((sectS vs4 ((digK 3 (vi5 + (1 : Int))) ++ ([46, 77, 73, 77, 69] : List UInt8))).2)))) = true) (need (((!((sectS vs4 (digK 3 (vi5 + (1 : Int)))).2)) || (!((sectS vs4 ((digK 3 (vi5 + (1 : Int))) ++ ([46, 77, 73, 77, 69] : List UInt8))).2))) = false → (!((!((sectS vs4 (digK 3 (vi5 + (1 : Int)))).2)) || (!((sectS vs4 ((digK 3 (vi5 + (1 : Int))) ++ ([46, 77, 73, 77, 69] : List UInt8))).2)))) = true) (need ((!(((!((sectS vs4 (digK 3 (vi5 + (1 : Int)))).2)) || (!((sectS vs4 ((digK 3 (vi5 + (1 : Int))) ++ ([46, 77, 73, 77, 69] : List UInt8))).2))) || (!((sectS vs4 ((digK 3 (vi5 + (1 : Int))) ++ ([46, 49] : List UInt8))).2)))) = true → (!(((!((sectS vs4 (digK 3 (vi5 + (1 : Int)))).2)) || (!((sectS vs4 ((digK 3 (vi5 + (1 : Int))) ++ ([46, 77, 73, 77, 69] : List UInt8))).2))) || (!((sectS vs4 ((digK 3 (vi5 + (1 : Int))) ++ ([46, 49] : List UInt8))).2)))) = true) (need ((!(((!((sectS vs4 (digK 3 (vi5 + (1 : Int)))).2)) || (!((sectS vs4 ((digK 3 (vi5 + (1 : Int))) ++ ([46, 77, 73, 77, 69] : List UInt8))).2))) || (!((sectS vs4 ((digK 3 (vi5 + (1 : Int))) ++ ([46, 49] : List UInt8))).2)))) = true → (!(((!((sectS vs4 (digK 3 (vi5 + (1 : Int)))).2)) || (!((sectS vs4 ((digK 3 (vi5 + (1 : Int))) ++ ([46, 77, 73, 77, 69] : List UInt8))).2))) || (!((sectS vs4 ((digK 3 (vi5 + (1 : Int))) ++ ([46, 49] : List UInt8))).2)))) = true) (need ((!(((!((sectS vs4 (digK 3 (vi5 + (1 : Int)))).2)) || (!((sectS vs4 ((digK 3 (vi5 + (1 : Int))) ++ ([46, 77, 73, 77, 69] : List UInt8))).2))) || (!((sectS vs4 ((digK 3 (vi5 + (1 : Int))) ++ ([46, 49] : List UInt8))).2)))) = true → 0 ≤ vi5 ∧ vi5 < (bs.length : Int)) (need ((!(((!((sectS vs4 (digK 3 (vi5 + (1 : Int)))).2)) || (!((sectS vs4 ((digK 3 (vi5 + (1 : Int))) ++ ([46, 77, 73, 77, 69] : List UInt8))).2))) || (!((sectS vs4 ((digK 3 (vi5 + (1 : Int))) ++ ([46, 49] : List UInt8))).2)))) = true → (!(((!((sectS vs4 (digK 3 (vi5 + (1 : Int)))).2)) || (!((sectS vs4 ((digK 3 (vi5 + (1 : Int))) ++ ([46, 77, 73, 77, 69] : List UInt8))).2))) || (!((sectS vs4 ((digK 3 (vi5 + (1 : Int))) ++ ([46, 49] : List UInt8))).2)))) = true) (need ((!(((!((sectS vs4 (digK 3 (vi5 + (1 : Int)))).2)) || (!((sectS vs4 ((digK 3 (vi5 + (1 : Int))) ++ ([46, 77, 73, 77, 69] : List UInt8))).2))) || (!((sectS vs4 ((digK 3 (vi5 + (1 : Int))) ++ ([46, 49] : List UInt8))).2)))) = true → (!(((!((sectS vs4 (digK 3 (vi5 + (1 : Int)))).2)) || (!((sectS vs4 ((digK 3 (vi5 + (1 : Int))) ++ ([46, 77, 73, 77, 69] : List UInt8))).2))) || (!((sectS vs4 ((digK 3 (vi5 + (1 : Int))) ++ ([46, 49] : List UInt8))).2)))) = true) (need ((!(((!((sectS vs4 (digK 3 (vi5 + (1 : Int)))).2)) || (!((sectS vs4 ((digK 3 (vi5 + (1 : Int))) ++ ([46, 77, 73, 77, 69] : List UInt8))).2))) || (!((sectS vs4 ((digK 3 (vi5 + (1 : Int))) ++ ([46, 49] : List UInt8))).2)))) = true → (bs.getD (vi5).toNat []).length ≤ 1000000) (need ((!(((!((sectS vs4 (digK 3 (vi5 + (1 : Int)))).2)) || (!((sectS vs4 ((digK 3 (vi5 + (1 : Int))) ++ ([46, 77, 73, 77, 69] : List UInt8))).2))) || (!((sectS vs4 ((digK 3 (vi5 + (1 : Int))) ++ ([46, 49] : List UInt8))).2)))) = true → (!(((!((sectS vs4 (digK 3 (vi5 + (1 : Int)))).2)) || (!((sectS vs4 ((digK 3 (vi5 + (1 : Int))) ++ ([46, 77, 73, 77, 69] : List UInt8))).2))) || (!((sectS vs4 ((digK 3 (vi5 + (1 : Int))) ++ ([46, 49] : List UInt8))).2)))) = true) (need ((!(((!((sectS vs4 (digK 3 (vi5 + (1 : Int)))).2)) || (!((sectS vs4 ((digK 3 (vi5 + (1 : Int))) ++ ([46, 77, 73, 77, 69] : List UInt8))).2))) || (!((sectS vs4 ((digK 3 (vi5 + (1 : Int))) ++ ([46, 49] : List UInt8))).2)))) = true → (!(((!((sectS vs4 (digK 3 (vi5 + (1 : Int)))).2)) || (!((sectS vs4 ((digK 3 (vi5 + (1 : Int))) ++ ([46, 77, 73, 77, 69] : List UInt8))).2))) || (!((sectS vs4 ((digK 3 (vi5 + (1 : Int))) ++ ([46, 49] : List UInt8))).2)))) = true) (need ((((!((sectS vs4 (digK 3 (vi5 + (1 : Int)))).2)) || (!((sectS vs4 ((digK 3 (vi5 + (1 : Int))) ++ ([46, 77, 73, 77, 69] : List UInt8))).2))) || (!((sectS vs4 ((digK 3 (vi5 + (1 : Int))) ++ ([46, 49] : List UInt8))).2))) = false → (!(((!((sectS vs4 (digK 3 (vi5 + (1 : Int)))).2)) || (!((sectS vs4 ((digK 3 (vi5 + (1 : Int))) ++ ([46, 77, 73, 77, 69] : List UInt8))).2))) || (!((sectS vs4 ((digK 3 (vi5 + (1 : Int))) ++ ([46, 49] : List UInt8))).2)))) = true) (need ((!((((!((sectS vs4 (digK 3 (vi5 + (1 : Int)))).2)) || (!((sectS vs4 ((digK 3 (vi5 + (1 : Int))) ++ ([46, 77, 73, 77, 69] : List UInt8))).2))) || (!((sectS vs4 ((digK 3 (vi5 + (1 : Int))) ++ ([46, 49] : List UInt8))).2))) || (((sectS vs4 (digK 3 (vi5 + (1 : Int)))).1) != (cleanS (bs.getD (vi5).toNat []))))) = true → (!((((!((sectS vs4 (digK 3 (vi5 + (1 : Int)))).2)) || (!((sectS vs4 ((digK 3 (vi5 + (1 : Int))) ++ ([46, 77, 73, 77, 69] : List UInt8))).2))) || (!((sectS vs4 ((digK 3 (vi5 + (1 : Int))) ++ ([46, 49] : List UInt8))).2))) || (((sectS vs4 (digK 3 (vi5 + (1 : Int)))).1) != (cleanS (bs.getD (vi5).toNat []))))) = true) (need ((!((((!((sectS vs4 (digK 3 (vi5 + (1 : Int)))).2)) || (!((sectS vs4 ((digK 3 (vi5 + (1 : Int))) ++ ([46, 77, 73, 77, 69] : List UInt8))).2))) || (!((sectS vs4 ((digK 3 (vi5 + (1 : Int))) ++ ([46, 49] : List UInt8))).2))) || (((sectS vs4 (digK 3 (vi5 + (1 : Int)))).1) != (cleanS (bs.getD (vi5).toNat []))))) = true → (!((((!((sectS vs4 (digK 3 (vi5 + (1 : Int)))).2)) || (!((sectS vs4 ((digK 3 (vi5 + (1 : Int))) ++ ([46, 77, 73, 77, 69] : List UInt8))).2))) || (!((sectS vs4 ((digK 3 (vi5 + (1 : Int))) ++ ([46, 49] : List UInt8))).2))) || (((sectS vs4 (digK 3 (vi5 + (1 : Int)))).1) != (cleanS (bs.getD (vi5).toNat []))))) = true) (need (((((!((sectS vs4 (digK 3 (vi5 + (1 : Int)))).2)) || (!((sectS vs4 ((digK 3 (vi5 + (1 : Int))) ++ ([46, 77, 73, 77, 69] : List UInt8))).2))) || (!((sectS vs4 ((digK 3 (vi5 + (1 : Int))) ++ ([46, 49] : List UInt8))).2))) || (((sectS vs4 (digK 3 (vi5 + (1 : Int)))).1) != (cleanS (bs.getD (vi5).toNat [])))) = false → (!((((!((sectS vs4 (digK 3 (vi5 + (1 : Int)))).2)) || (!((sectS vs4 ((digK 3 (vi5 + (1 : Int))) ++ ([46, 77, 73, 77, 69] : List UInt8))).2))) || (!((sectS vs4 ((digK 3 (vi5 + (1 : Int))) ++ ([46, 49] : List UInt8))).2))) || (((sectS vs4 (digK 3 (vi5 + (1 : Int)))).1) != (cleanS (bs.getD (vi5).toNat []))))) = true) (need ((!(((((!((sectS vs4 (digK 3 (vi5 + (1 : Int)))).2)) || (!((sectS vs4 ((digK 3 (vi5 + (1 : Int))) ++ ([46, 77, 73, 77, 69] : List UInt8))).2))) || (!((sectS vs4 ((digK 3 (vi5 + (1 : Int))) ++ ([46, 49] : List UInt8))).2))) || (((sectS vs4 (digK 3 (vi5 + (1 : Int)))).1) != (cleanS (bs.getD (vi5).toNat [])))) || (((sectS vs4 ((digK 3 (vi5 + (1 : Int))) ++ ([46, 49] : List UInt8))).1) != ((sectS vs4 (digK 3 (vi5 + (1 : Int)))).1)))) = true → (!(((((!((sectS vs4 (digK 3 (vi5 + (1 : Int)))).2)) || (!((sectS vs4 ((digK 3 (vi5 + (1 : Int))) ++ ([46, 77, 73, 77, 69] : List UInt8))).2))) || (!((sectS vs4 ((digK 3 (vi5 + (1 : Int))) ++ ([46, 49] : List UInt8))).2))) || (((sectS vs4 (digK 3 (vi5 + (1 : Int)))).1) != (cleanS (bs.getD (vi5).toNat [])))) || (((sectS vs4 ((digK 3 (vi5 + (1 : Int))) ++ ([46, 49] : List UInt8))).1) != ((sectS vs4 (digK 3 (vi5 + (1 : Int)))).1)))) = true) (need ((!(((((!((sectS vs4 (digK 3 (vi5 + (1 : Int)))).2)) || (!((sectS vs4 ((digK 3 (vi5 + (1 : Int))) ++ ([46, 77, 73, 77, 69] : List UInt8))).2))) || (!((sectS vs4 ((digK 3 (vi5 + (1 : Int))) ++ ([46, 49] : List UInt8))).2))) || (((sectS vs4 (digK 3 (vi5 + (1 : Int)))).1) != (cleanS (bs.getD (vi5).toNat [])))) || (((sectS vs4 ((digK 3 (vi5 + (1 : Int))) ++ ([46, 49] : List UInt8))).1) != ((sectS vs4 (digK 3 (vi5 + (1 : Int)))).1)))) = true → okD 3 vi5) (need ((!(((((!((sectS vs4 (digK 3 (vi5 + (1 : Int)))).2)) || (!((sectS vs4 ((digK 3 (vi5 + (1 : Int))) ++ ([46, 77, 73, 77, 69] : List UInt8))).2))) || (!((sectS vs4 ((digK 3 (vi5 + (1 : Int))) ++ ([46, 49] : List UInt8))).2))) || (((sectS vs4 (digK 3 (vi5 + (1 : Int)))).1) != (cleanS (bs.getD (vi5).toNat [])))) || (((sectS vs4 ((digK 3 (vi5 + (1 : Int))) ++ ([46, 49] : List UInt8))).1) != ((sectS vs4 (digK 3 (vi5 + (1 : Int)))).1)))) = true → (!(((((!((sectS vs4 (digK 3 (vi5 + (1 : Int)))).2)) || (!((sectS vs4 ((digK 3 (vi5 + (1 : Int))) ++ ([46, 77, 73, 77, 69] : List UInt8))).2))) || (!((sectS vs4 ((digK 3 (vi5 + (1 : Int))) ++ ([46, 49] : List UInt8))).2))) || (((sectS vs4 (digK 3 (vi5 + (1 : Int)))).1) != (cleanS (bs.getD (vi5).toNat [])))) || (((sectS vs4 ((digK 3 (vi5 + (1 : Int))) ++ ([46, 49] : List UInt8))).1) != ((sectS vs4 (digK 3 (vi5 + (1 : Int)))).1)))) = true) (need ((!(((((!((sectS vs4 (digK 3 (vi5 + (1 : Int)))).2)) || (!((sectS vs4 ((digK 3 (vi5 + (1 : Int))) ++ ([46, 77, 73, 77, 69] : List UInt8))).2))) || (!((sectS vs4 ((digK 3 (vi5 + (1 : Int))) ++ ([46, 49] : List UInt8))).2))) || (((sectS vs4 (digK 3 (vi5 + (1 : Int)))).1) != (cleanS (bs.getD (vi5).toNat [])))) || (((sectS vs4 ((digK 3 (vi5 + (1 : Int))) ++ ([46, 49] : List UInt8))).1) != ((sectS vs4 (digK 3 (vi5 + (1 : Int)))).1)))) = true → lenok (([88, 45, 78, 58, 32] : List UInt8).length + (digK 3 vi5).length)) (need ((!(((((!((sectS vs4 (digK 3 (vi5 + (1 : Int)))).2)) || (!((sectS vs4 ((digK 3 (vi5 + (1 : Int))) ++ ([46, 77, 73, 77, 69] : List UInt8))).2))) || (!((sectS vs4 ((digK 3 (vi5 + (1 : Int))) ++ ([46, 49] : List UInt8))).2))) || (((sectS vs4 (digK 3 (vi5 + (1 : Int)))).1) != (cleanS (bs.getD (vi5).toNat [])))) || (((sectS vs4 ((digK 3 (vi5 + (1 : Int))) ++ ([46, 49] : List UInt8))).1) != ((sectS vs4 (digK 3 (vi5 + (1 : Int)))).1)))) = true → (!(((((!((sectS vs4 (digK 3 (vi5 + (1 : Int)))).2)) || (!((sectS vs4 ((digK 3 (vi5 + (1 : Int))) ++ ([46, 77, 73, 77, 69] : List UInt8))).2))) || (!((sectS vs4 ((digK 3 (vi5 + (1 : Int))) ++ ([46, 49] : List UInt8))).2))) || (((sectS vs4 (digK 3 (vi5 + (1 : Int)))).1) != (cleanS (bs.getD (vi5).toNat [])))) || (((sectS vs4 ((digK 3 (vi5 + (1 : Int))) ++ ([46, 49] : List UInt8))).1) != ((sectS vs4 (digK 3 (vi5 + (1 : Int)))).1)))) = true) (need ((!(((((!((sectS vs4 (digK 3 (vi5 + (1 : Int)))).2)) || (!((sectS vs4 ((digK 3 (vi5 + (1 : Int))) ++ ([46, 77, 73, 77, 69] : List UInt8))).2))) || (!((sectS vs4 ((digK 3 (vi5 + (1 : Int))) ++ ([46, 49] : List UInt8))).2))) || (((sectS vs4 (digK 3 (vi5 + (1 : Int)))).1) != (cleanS (bs.getD (vi5).toNat [])))) || (((sectS vs4 ((digK 3 (vi5 + (1 : Int))) ++ ([46, 49] : List UInt8))).1) != ((sectS vs4 (digK 3 (vi5 + (1 : Int)))).1)))) = true → lenok ((([88, 45, 78, 58, 32] : List UInt8) ++ (digK 3 vi5)).length + ([13, 10, 13, 10] : List UInt8).length)) (need ((!(((((!((sectS vs4 (digK 3 (vi5 + (1 : Int)))).2)) || (!((sectS vs4 ((digK 3 (vi5 + (1 : Int))) ++ ([46, 77, 73, 77, 69] : List UInt8))).2))) || (!((sectS vs4 ((digK 3 (vi5 + (1 : Int))) ++ ([46, 49] : List UInt8))).2))) || (((sectS vs4 (digK 3 (vi5 + (1 : Int)))).1) != (cleanS (bs.getD (vi5).toNat [])))) || (((sectS vs4 ((digK 3 (vi5 + (1 : Int))) ++ ([46, 49] : List UInt8))).1) != ((sectS vs4 (digK 3 (vi5 + (1 : Int)))).1)))) = true → (!(((((!((sectS vs4 (digK 3 (vi5 + (1 : Int)))).2)) || (!((sectS vs4 ((digK 3 (vi5 + (1 : Int))) ++ ([46, 77, 73, 77, 69] : List UInt8))).2))) || (!((sectS vs4 ((digK 3 (vi5 + (1 : Int))) ++ ([46, 49] : List UInt8))).2))) || (((sectS vs4 (digK 3 (vi5 + (1 : Int)))).1) != (cleanS (bs.getD (vi5).toNat [])))) || (((sectS vs4 ((digK 3 (vi5 + (1 : Int))) ++ ([46, 49] : List UInt8))).1) != ((sectS vs4 (digK 3 (vi5 + (1 : Int)))).1)))) = true) (need ((!(((((!((sectS vs4 (digK 3 (vi5 + (1 : Int)))).2)) || (!((sectS vs4 ((digK 3 (vi5 + (1 : Int))) ++ ([46, 77, 73, 77, 69] : List UInt8))).2))) || (!((sectS vs4 ((digK 3 (vi5 + (1 : Int))) ++ ([46, 49] : List UInt8))).2))) || (((sectS vs4 (digK 3 (vi5 + (1 : Int)))).1) != (cleanS (bs.getD (vi5).toNat [])))) || (((sectS vs4 ((digK 3 (vi5 + (1 : Int))) ++ ([46, 49] : List UInt8))).1) != ((sectS vs4 (digK 3 (vi5 + (1 : Int)))).1)))) = true → (!(((((!((sectS vs4 (digK 3 (vi5 + (1 : Int)))).2)) || (!((sectS vs4 ((digK 3 (vi5 + (1 : Int))) ++ ([46, 77, 73, 77, 69] : List UInt8))).2))) || (!((sectS vs4 ((digK 3 (vi5 + (1 : Int))) ++ ([46, 49] : List UInt8))).2))) || (((sectS vs4 (digK 3 (vi5 + (1 : Int)))).1) != (cleanS (bs.getD (vi5).toNat [])))) || (((sectS vs4 ((digK 3 (vi5 + (1 : Int))) ++ ([46, 49] : List UInt8))).1) != ((sectS vs4 (digK 3 (vi5 + (1 : Int)))).1)))) = true) (need ((((((!((sectS vs4 (digK 3 (vi5 + (1 : Int)))).2)) || (!((sectS vs4 ((digK 3 (vi5 + (1 : Int))) ++ ([46, 77, 73, 77, 69] : List UInt8))).2))) || (!((sectS vs4 ((digK 3 (vi5 + (1 : Int))) ++ ([46, 49] : List UInt8))).2))) || (((sectS vs4 (digK 3 (vi5 + (1 : Int)))).1) != (cleanS (bs.getD (vi5).toNat [])))) || (((sectS vs4 ((digK 3 (vi5 + (1 : Int))) ++ ([46, 49] : List UInt8))).1) != ((sectS vs4 (digK 3 (vi5 + (1 : Int)))).1))) = false → (!(((((!((sectS vs4 (digK 3 (vi5 + (1 : Int)))).2)) || (!((sectS vs4 ((digK 3 (vi5 + (1 : Int))) ++ ([46, 77, 73, 77, 69] : List UInt8))).2))) || (!((sectS vs4 ((digK 3 (vi5 + (1 : Int))) ++ ([46, 49] : List UInt8))).2))) || (((sectS vs4 (digK 3 (vi5 + (1 : Int)))).1) != (cleanS (bs.getD (vi5).toNat [])))) || (((sectS vs4 ((digK 3 (vi5 + (1 : Int))) ++ ([46, 49] : List UInt8))).1) != ((sectS vs4 (digK 3 (vi5 + (1 : Int)))).1)))) = true) (BLookParts_4 F f2 bs vs4 vi5 ((((((!((sectS vs4 (digK 3 (vi5 + (1 : Int)))).2)) || (!((sectS vs4 ((digK 3 (vi5 + (1 : Int))) ++ ([46, 77, 73, 77, 69] : List UInt8))).2))) || (!((sectS vs4 ((digK 3 (vi5 + (1 : Int))) ++ ([46, 49] : List UInt8))).2))) || (((sectS vs4 (digK 3 (vi5 + (1 : Int)))).1) != (cleanS (bs.getD (vi5).toNat [])))) || (((sectS vs4 ((digK 3 (vi5 + (1 : Int))) ++ ([46, 49] : List UInt8))).1) != ((sectS vs4 (digK 3 (vi5 + (1 : Int)))).1))) || (((sectS vs4 ((digK 3 (vi5 + (1 : Int))) ++ ([46, 77, 73, 77, 69] : List UInt8))).1) != ((([88, 45, 78, 58, 32] : List UInt8) ++ (digK 3 vi5)) ++ ([13, 10, 13, 10] : List UInt8))))))))))))))))))))))))))))))))))))) (need (i64ok ((bs.length : Int) + (1 : Int))) (need (okD 3 ((bs.length : Int) + (1 : Int))) (need (vs4.length ≤ 1000000 ∧ (digK 3 ((bs.length : Int) + (1 : Int))).length ≤ 100000) (need (vs4.length ≤ 1000000 ∧ ([48] : List UInt8).length ≤ 100000) (need ((!((sectS vs4 (digK 3 ((bs.length : Int) + (1 : Int)))).2)) = true → (!((sectS vs4 (digK 3 ((bs.length : Int) + (1 : Int)))).2)) = true) (need ((!((sectS vs4 (digK 3 ((bs.length : Int) + (1 : Int)))).2)) = true → (!((sectS vs4 (digK 3 ((bs.length : Int) + (1 : Int)))).2)) = true) (need (((!((sectS vs4 (digK 3 ((bs.length : Int) + (1 : Int)))).2)) && (!((sectS vs4 ([48] : List UInt8)).2))) = true → ((!((sectS vs4 (digK 3 ((bs.length : Int) + (1 : Int)))).2)) && (!((sectS vs4 ([48] : List UInt8)).2))) = true) (some (.p (.bool (((!((sectS vs4 (digK 3 ((bs.length : Int) + (1 : Int)))).2)) && (!((sectS vs4 ([48] : List UInt8)).2))) && true)), []))))))))) by kernel_rfl) (cond_congr (need_congr (need_congr (need_congr (need_congr (need_congr (need_congr (need_congr (need_strike (show (!(!((sectS vs4 (digK 3 (vi5 + (1 : Int)))).2))) = true → (!(!((sectS vs4 (digK 3 (vi5 + (1 : Int)))).2))) = true from (fun q0 => q0)) (need_strike (show (!((sectS vs4 (digK 3 (vi5 + (1 : Int)))).2)) = false → (!(!((sectS vs4 (digK 3 (vi5 + (1 : Int)))).2))) = true from (fun q0 => (not_mk q0))) (need_strike (show (!((!((sectS vs4 (digK 3 (vi5 + (1 : Int)))).2)) || (!((sectS vs4 ((digK 3 (vi5 + (1 : Int))) ++ ([46, 77, 73, 77, 69] : List UInt8))).2)))) = true → (!((!((sectS vs4 (digK 3 (vi5 + (1 : Int)))).2)) || (!((sectS vs4 ((digK 3 (vi5 + (1 : Int))) ++ ([46, 77, 73, 77, 69] : List UInt8))).2)))) = true from (fun q0 => q0)) (need_strike (show ((!((sectS vs4 (digK 3 (vi5 + (1 : Int)))).2)) || (!((sectS vs4 ((digK 3 (vi5 + (1 : Int))) ++ ([46, 77, 73, 77, 69] : List UInt8))).2))) = false → (!((!((sectS vs4 (digK 3 (vi5 + (1 : Int)))).2)) || (!((sectS vs4 ((digK 3 (vi5 + (1 : Int))) ++ ([46, 77, 73, 77, 69] : List UInt8))).2)))) = true from (fun q0 => (not_mk q0))) (need_strike (show (!(((!((sectS vs4 (digK 3 (vi5 + (1 : Int)))).2)) || (!((sectS vs4 ((digK 3 (vi5 + (1 : Int))) ++ ([46, 77, 73, 77, 69] : List UInt8))).2))) || (!((sectS vs4 ((digK 3 (vi5 + (1 : Int))) ++ ([46, 49] : List UInt8))).2)))) = true → (!(((!((sectS vs4 (digK 3 (vi5 + (1 : Int)))).2)) || (!((sectS vs4 ((digK 3 (vi5 + (1 : Int))) ++ ([46, 77, 73, 77, 69] : List UInt8))).2))) || (!((sectS vs4 ((digK 3 (vi5 + (1 : Int))) ++ ([46, 49] : List UInt8))).2)))) = true from (fun q0 => q0)) (need_strike (show (!(((!((sectS vs4 (digK 3 (vi5 + (1 : Int)))).2)) || (!((sectS vs4 ((digK 3 (vi5 + (1 : Int))) ++ ([46, 77, 73, 77, 69] : List UInt8))).2))) || (!((sectS vs4 ((digK 3 (vi5 + (1 : Int))) ++ ([46, 49] : List UInt8))).2)))) = true → (!(((!((sectS vs4 (digK 3 (vi5 + (1 : Int)))).2)) || (!((sectS vs4 ((digK 3 (vi5 + (1 : Int))) ++ ([46, 77, 73, 77, 69] : List UInt8))).2))) || (!((sectS vs4 ((digK 3 (vi5 + (1 : Int))) ++ ([46, 49] : List UInt8))).2)))) = true from (fun q0 => q0)) (need_congr (need_strike (show (!(((!((sectS vs4 (digK 3 (vi5 + (1 : Int)))).2)) || (!((sectS vs4 ((digK 3 (vi5 + (1 : Int))) ++ ([46, 77, 73, 77, 69] : List UInt8))).2))) || (!((sectS vs4 ((digK 3 (vi5 + (1 : Int))) ++ ([46, 49] : List UInt8))).2)))) = true → (!(((!((sectS vs4 (digK 3 (vi5 + (1 : Int)))).2)) || (!((sectS vs4 ((digK 3 (vi5 + (1 : Int))) ++ ([46, 77, 73, 77, 69] : List UInt8))).2))) || (!((sectS vs4 ((digK 3 (vi5 + (1 : Int))) ++ ([46, 49] : List UInt8))).2)))) = true from (fun q0 => q0)) (need_strike (show (!(((!((sectS vs4 (digK 3 (vi5 + (1 : Int)))).2)) || (!((sectS vs4 ((digK 3 (vi5 + (1 : Int))) ++ ([46, 77, 73, 77, 69] : List UInt8))).2))) || (!((sectS vs4 ((digK 3 (vi5 + (1 : Int))) ++ ([46, 49] : List UInt8))).2)))) = true → (!(((!((sectS vs4 (digK 3 (vi5 + (1 : Int)))).2)) || (!((sectS vs4 ((digK 3 (vi5 + (1 : Int))) ++ ([46, 77, 73, 77, 69] : List UInt8))).2))) || (!((sectS vs4 ((digK 3 (vi5 + (1 : Int))) ++ ([46, 49] : List UInt8))).2)))) = true from (fun q0 => q0)) (need_congr (need_strike (show (!(((!((sectS vs4 (digK 3 (vi5 + (1 : Int)))).2)) || (!((sectS vs4 ((digK 3 (vi5 + (1 : Int))) ++ ([46, 77, 73, 77, 69] : List UInt8))).2))) || (!((sectS vs4 ((digK 3 (vi5 + (1 : Int))) ++ ([46, 49] : List UInt8))).2)))) = true → (!(((!((sectS vs4 (digK 3 (vi5 + (1 : Int)))).2)) || (!((sectS vs4 ((digK 3 (vi5 + (1 : Int))) ++ ([46, 77, 73, 77, 69] : List UInt8))).2))) || (!((sectS vs4 ((digK 3 (vi5 + (1 : Int))) ++ ([46, 49] : List UInt8))).2)))) = true from (fun q0 => q0)) (need_strike (show (!(((!((sectS vs4 (digK 3 (vi5 + (1 : Int)))).2)) || (!((sectS vs4 ((digK 3 (vi5 + (1 : Int))) ++ ([46, 77, 73, 77, 69] : List UInt8))).2))) || (!((sectS vs4 ((digK 3 (vi5 + (1 : Int))) ++ ([46, 49] : List UInt8))).2)))) = true → (!(((!((sectS vs4 (digK 3 (vi5 + (1 : Int)))).2)) || (!((sectS vs4 ((digK 3 (vi5 + (1 : Int))) ++ ([46, 77, 73, 77, 69] : List UInt8))).2))) || (!((sectS vs4 ((digK 3 (vi5 + (1 : Int))) ++ ([46, 49] : List UInt8))).2)))) = true from (fun q0 => q0)) (need_strike (show (((!((sectS vs4 (digK 3 (vi5 + (1 : Int)))).2)) || (!((sectS vs4 ((digK 3 (vi5 + (1 : Int))) ++ ([46, 77, 73, 77, 69] : List UInt8))).2))) || (!((sectS vs4 ((digK 3 (vi5 + (1 : Int))) ++ ([46, 49] : List UInt8))).2))) = false → (!(((!((sectS vs4 (digK 3 (vi5 + (1 : Int)))).2)) || (!((sectS vs4 ((digK 3 (vi5 + (1 : Int))) ++ ([46, 77, 73, 77, 69] : List UInt8))).2))) || (!((sectS vs4 ((digK 3 (vi5 + (1 : Int))) ++ ([46, 49] : List UInt8))).2)))) = true from (fun q0 => (not_mk q0))) (need_strike (show (!((((!((sectS vs4 (digK 3 (vi5 + (1 : Int)))).2)) || (!((sectS vs4 ((digK 3 (vi5 + (1 : Int))) ++ ([46, 77, 73, 77, 69] : List UInt8))).2))) || (!((sectS vs4 ((digK 3 (vi5 + (1 : Int))) ++ ([46, 49] : List UInt8))).2))) || (((sectS vs4 (digK 3 (vi5 + (1 : Int)))).1) != (cleanS (bs.getD (vi5).toNat []))))) = true → (!((((!((sectS vs4 (digK 3 (vi5 + (1 : Int)))).2)) || (!((sectS vs4 ((digK 3 (vi5 + (1 : Int))) ++ ([46, 77, 73, 77, 69] : List UInt8))).2))) || (!((sectS vs4 ((digK 3 (vi5 + (1 : Int))) ++ ([46, 49] : List UInt8))).2))) || (((sectS vs4 (digK 3 (vi5 + (1 : Int)))).1) != (cleanS (bs.getD (vi5).toNat []))))) = true from (fun q0 => q0)) (need_strike (show (!((((!((sectS vs4 (digK 3 (vi5 + (1 : Int)))).2)) || (!((sectS vs4 ((digK 3 (vi5 + (1 : Int))) ++ ([46, 77, 73, 77, 69] : List UInt8))).2))) || (!((sectS vs4 ((digK 3 (vi5 + (1 : Int))) ++ ([46, 49] : List UInt8))).2))) || (((sectS vs4 (digK 3 (vi5 + (1 : Int)))).1) != (cleanS (bs.getD (vi5).toNat []))))) = true → (!((((!((sectS vs4 (digK 3 (vi5 + (1 : Int)))).2)) || (!((sectS vs4 ((digK 3 (vi5 + (1 : Int))) ++ ([46, 77, 73, 77, 69] : List UInt8))).2))) || (!((sectS vs4 ((digK 3 (vi5 + (1 : Int))) ++ ([46, 49] : List UInt8))).2))) || (((sectS vs4 (digK 3 (vi5 + (1 : Int)))).1) != (cleanS (bs.getD (vi5).toNat []))))) = true from (fun q0 => q0)) (need_strike (show ((((!((sectS vs4 (digK 3 (vi5 + (1 : Int)))).2)) || (!((sectS vs4 ((digK 3 (vi5 + (1 : Int))) ++ ([46, 77, 73, 77, 69] : List UInt8))).2))) || (!((sectS vs4 ((digK 3 (vi5 + (1 : Int))) ++ ([46, 49] : List UInt8))).2))) || (((sectS vs4 (digK 3 (vi5 + (1 : Int)))).1) != (cleanS (bs.getD (vi5).toNat [])))) = false → (!((((!((sectS vs4 (digK 3 (vi5 + (1 : Int)))).2)) || (!((sectS vs4 ((digK 3 (vi5 + (1 : Int))) ++ ([46, 77, 73, 77, 69] : List UInt8))).2))) || (!((sectS vs4 ((digK 3 (vi5 + (1 : Int))) ++ ([46, 49] : List UInt8))).2))) || (((sectS vs4 (digK 3 (vi5 + (1 : Int)))).1) != (cleanS (bs.getD (vi5).toNat []))))) = true from (fun q0 => (not_mk q0))) (need_strike (show (!(((((!((sectS vs4 (digK 3 (vi5 + (1 : Int)))).2)) || (!((sectS vs4 ((digK 3 (vi5 + (1 : Int))) ++ ([46, 77, 73, 77, 69] : List UInt8))).2))) || (!((sectS vs4 ((digK 3 (vi5 + (1 : Int))) ++ ([46, 49] : List UInt8))).2))) || (((sectS vs4 (digK 3 (vi5 + (1 : Int)))).1) != (cleanS (bs.getD (vi5).toNat [])))) || (((sectS vs4 ((digK 3 (vi5 + (1 : Int))) ++ ([46, 49] : List UInt8))).1) != ((sectS vs4 (digK 3 (vi5 + (1 : Int)))).1)))) = true → (!(((((!((sectS vs4 (digK 3 (vi5 + (1 : Int)))).2)) || (!((sectS vs4 ((digK 3 (vi5 + (1 : Int))) ++ ([46, 77, 73, 77, 69] : List UInt8))).2))) || (!((sectS vs4 ((digK 3 (vi5 + (1 : Int))) ++ ([46, 49] : List UInt8))).2))) || (((sectS vs4 (digK 3 (vi5 + (1 : Int)))).1) != (cleanS (bs.getD (vi5).toNat [])))) || (((sectS vs4 ((digK 3 (vi5 + (1 : Int))) ++ ([46, 49] : List UInt8))).1) != ((sectS vs4 (digK 3 (vi5 + (1 : Int)))).1)))) = true from (fun q0 => q0)) (need_congr (need_strike (show (!(((((!((sectS vs4 (digK 3 (vi5 + (1 : Int)))).2)) || (!((sectS vs4 ((digK 3 (vi5 + (1 : Int))) ++ ([46, 77, 73, 77, 69] : List UInt8))).2))) || (!((sectS vs4 ((digK 3 (vi5 + (1 : Int))) ++ ([46, 49] : List UInt8))).2))) || (((sectS vs4 (digK 3 (vi5 + (1 : Int)))).1) != (cleanS (bs.getD (vi5).toNat [])))) || (((sectS vs4 ((digK 3 (vi5 + (1 : Int))) ++ ([46, 49] : List UInt8))).1) != ((sectS vs4 (digK 3 (vi5 + (1 : Int)))).1)))) = true → (!(((((!((sectS vs4 (digK 3 (vi5 + (1 : Int)))).2)) || (!((sectS vs4 ((digK 3 (vi5 + (1 : Int))) ++ ([46, 77, 73, 77, 69] : List UInt8))).2))) || (!((sectS vs4 ((digK 3 (vi5 + (1 : Int))) ++ ([46, 49] : List UInt8))).2))) || (((sectS vs4 (digK 3 (vi5 + (1 : Int)))).1) != (cleanS (bs.getD (vi5).toNat [])))) || (((sectS vs4 ((digK 3 (vi5 + (1 : Int))) ++ ([46, 49] : List UInt8))).1) != ((sectS vs4 (digK 3 (vi5 + (1 : Int)))).1)))) = true from (fun q0 => q0)) (need_congr (need_strike (show (!(((((!((sectS vs4 (digK 3 (vi5 + (1 : Int)))).2)) || (!((sectS vs4 ((digK 3 (vi5 + (1 : Int))) ++ ([46, 77, 73, 77, 69] : List UInt8))).2))) || (!((sectS vs4 ((digK 3 (vi5 + (1 : Int))) ++ ([46, 49] : List UInt8))).2))) || (((sectS vs4 (digK 3 (vi5 + (1 : Int)))).1) != (cleanS (bs.getD (vi5).toNat [])))) || (((sectS vs4 ((digK 3 (vi5 + (1 : Int))) ++ ([46, 49] : List UInt8))).1) != ((sectS vs4 (digK 3 (vi5 + (1 : Int)))).1)))) = true → (!(((((!((sectS vs4 (digK 3 (vi5 + (1 : Int)))).2)) || (!((sectS vs4 ((digK 3 (vi5 + (1 : Int))) ++ ([46, 77, 73, 77, 69] : List UInt8))).2))) || (!((sectS vs4 ((digK 3 (vi5 + (1 : Int))) ++ ([46, 49] : List UInt8))).2))) || (((sectS vs4 (digK 3 (vi5 + (1 : Int)))).1) != (cleanS (bs.getD (vi5).toNat [])))) || (((sectS vs4 ((digK 3 (vi5 + (1 : Int))) ++ ([46, 49] : List UInt8))).1) != ((sectS vs4 (digK 3 (vi5 + (1 : Int)))).1)))) = true from (fun q0 => q0)) (need_congr (need_strike (show (!(((((!((sectS vs4 (digK 3 (vi5 + (1 : Int)))).2)) || (!((sectS vs4 ((digK 3 (vi5 + (1 : Int))) ++ ([46, 77, 73, 77, 69] : List UInt8))).2))) || (!((sectS vs4 ((digK 3 (vi5 + (1 : Int))) ++ ([46, 49] : List UInt8))).2))) || (((sectS vs4 (digK 3 (vi5 + (1 : Int)))).1) != (cleanS (bs.getD (vi5).toNat [])))) || (((sectS vs4 ((digK 3 (vi5 + (1 : Int))) ++ ([46, 49] : List UInt8))).1) != ((sectS vs4 (digK 3 (vi5 + (1 : Int)))).1)))) = true → (!(((((!((sectS vs4 (digK 3 (vi5 + (1 : Int)))).2)) || (!((sectS vs4 ((digK 3 (vi5 + (1 : Int))) ++ ([46, 77, 73, 77, 69] : List UInt8))).2))) || (!((sectS vs4 ((digK 3 (vi5 + (1 : Int))) ++ ([46, 49] : List UInt8))).2))) || (((sectS vs4 (digK 3 (vi5 + (1 : Int)))).1) != (cleanS (bs.getD (vi5).toNat [])))) || (((sectS vs4 ((digK 3 (vi5 + (1 : Int))) ++ ([46, 49] : List UInt8))).1) != ((sectS vs4 (digK 3 (vi5 + (1 : Int)))).1)))) = true from (fun q0 => q0)) (need_strike (show (!(((((!((sectS vs4 (digK 3 (vi5 + (1 : Int)))).2)) || (!((sectS vs4 ((digK 3 (vi5 + (1 : Int))) ++ ([46, 77, 73, 77, 69] : List UInt8))).2))) || (!((sectS vs4 ((digK 3 (vi5 + (1 : Int))) ++ ([46, 49] : List UInt8))).2))) || (((sectS vs4 (digK 3 (vi5 + (1 : Int)))).1) != (cleanS (bs.getD (vi5).toNat [])))) || (((sectS vs4 ((digK 3 (vi5 + (1 : Int))) ++ ([46, 49] : List UInt8))).1) != ((sectS vs4 (digK 3 (vi5 + (1 : Int)))).1)))) = true → (!(((((!((sectS vs4 (digK 3 (vi5 + (1 : Int)))).2)) || (!((sectS vs4 ((digK 3 (vi5 + (1 : Int))) ++ ([46, 77, 73, 77, 69] : List UInt8))).2))) || (!((sectS vs4 ((digK 3 (vi5 + (1 : Int))) ++ ([46, 49] : List UInt8))).2))) || (((sectS vs4 (digK 3 (vi5 + (1 : Int)))).1) != (cleanS (bs.getD (vi5).toNat [])))) || (((sectS vs4 ((digK 3 (vi5 + (1 : Int))) ++ ([46, 49] : List UInt8))).1) != ((sectS vs4 (digK 3 (vi5 + (1 : Int)))).1)))) = true from (fun q0 => q0)) (need_strike (show (((((!((sectS vs4 (digK 3 (vi5 + (1 : Int)))).2)) || (!((sectS vs4 ((digK 3 (vi5 + (1 : Int))) ++ ([46, 77, 73, 77, 69] : List UInt8))).2))) || (!((sectS vs4 ((digK 3 (vi5 + (1 : Int))) ++ ([46, 49] : List UInt8))).2))) || (((sectS vs4 (digK 3 (vi5 + (1 : Int)))).1) != (cleanS (bs.getD (vi5).toNat [])))) || (((sectS vs4 ((digK 3 (vi5 + (1 : Int))) ++ ([46, 49] : List UInt8))).1) != ((sectS vs4 (digK 3 (vi5 + (1 : Int)))).1))) = false → (!(((((!((sectS vs4 (digK 3 (vi5 + (1 : Int)))).2)) || (!((sectS vs4 ((digK 3 (vi5 + (1 : Int))) ++ ([46, 77, 73, 77, 69] : List UInt8))).2))) || (!((sectS vs4 ((digK 3 (vi5 + (1 : Int))) ++ ([46, 49] : List UInt8))).2))) || (((sectS vs4 (digK 3 (vi5 + (1 : Int)))).1) != (cleanS (bs.getD (vi5).toNat [])))) || (((sectS vs4 ((digK 3 (vi5 + (1 : Int))) ++ ([46, 49] : List UInt8))).1) != ((sectS vs4 (digK 3 (vi5 + (1 : Int)))).1)))) = true from (fun q0 => (not_mk q0))) (rfl))))))))))))))))))))))))))))))))) (need_congr (need_congr (need_congr (need_congr (need_strike (show (!((sectS vs4 (digK 3 ((bs.length : Int) + (1 : Int)))).2)) = true → (!((sectS vs4 (digK 3 ((bs.length : Int) + (1 : Int)))).2)) = true from (fun q0 => q0)) (need_strike (show (!((sectS vs4 (digK 3 ((bs.length : Int) + (1 : Int)))).2)) = true → (!((sectS vs4 (digK 3 ((bs.length : Int) + (1 : Int)))).2)) = true from (fun q0 => q0)) (need_strike (show ((!((sectS vs4 (digK 3 ((bs.length : Int) + (1 : Int)))).2)) && (!((sectS vs4 ([48] : List UInt8)).2))) = true → ((!((sectS vs4 (digK 3 ((bs.length : Int) + (1 : Int)))).2)) && (!((sectS vs4 ([48] : List UInt8)).2))) = true from (fun q0 => q0)) (rfl)))))))))

theorem BLookParts_4_eq (F f2 : Nat) (bs : List (List UInt8)) (vs4 : List UInt8) (vi5 : Int) (vc6 : Bool) : BLookParts_4 F f2 bs vs4 vi5 vc6 = cond (vc6) (some (.p (.bool false), [])) (need (i64ok (vi5 + (1 : Int))) (BLookParts_3 F f2 bs vs4 (vi5 + (1 : Int)))) := by kernel_rfl

theorem FLookParts_eq (F : Nat) (bs : List (List UInt8)) : FLookParts F bs = (((cond (((bs.length : Int) == (0 : Int)) || (decide ((bs.length : Int) > (20 : Int)))) (some (.p (.bool true), [])) (BLookParts_1 F F bs LB_2b684a07 (0 : Int))))) := by
  have h : FLookParts F bs = need ((!((bs.length : Int) == (0 : Int))) = true → (!((bs.length : Int) == (0 : Int))) = true) (need ((!((bs.length : Int) == (0 : Int))) = true → (!((bs.length : Int) == (0 : Int))) = true) (need (((bs.length : Int) == (0 : Int)) = false → (!((bs.length : Int) == (0 : Int))) = true) (cond (((bs.length : Int) == (0 : Int)) || (decide ((bs.length : Int) > (20 : Int)))) (some (.p (.bool true), [])) (BLookParts_1 F F bs LB_2b684a07 (0 : Int))))) := by kernel_rfl
  rw [h, need_pos (show ((bs.length : Int) == (0 : Int)) = false → (!((bs.length : Int) == (0 : Int))) = true from (fun q0 => (not_mk q0))), need_pos (show (!((bs.length : Int) == (0 : Int))) = true → (!((bs.length : Int) == (0 : Int))) = true from (fun q0 => q0)), need_pos (show (!((bs.length : Int) == (0 : Int))) = true → (!((bs.length : Int) == (0 : Int))) = true from (fun q0 => q0))]

theorem fn_LookParts (F : Nat) (bs : List (List UInt8)) (r : AV) (h : (∃ M vs, ARels γ0 M [.p (.list 1 (.dat .str bs))] vs) → FLookParts F bs = some (r, [])) : FnP Tryz.prog 7 [.p (.list 1 (.dat .str bs))] r :=
  FnP_run GLookParts F rfl (EnvOk_mk (l := [(10, sp_awake), (15, sp_section), (17, sp_rdig 3), (18, sp_clean)]) ⟨ok_awake.any, ok_section.any, (ok_rdig 3).any, ok_clean.any, trivial⟩) (EnvROk_mk (l := []) trivial) (Checked.mixed Tryz.checked) (fn := Tryz.f7) (by kernel_rfl) (by kernel_rfl) rfl h
theorem BLookParts_3_spec (F : Nat) (bs : List (List UInt8)) (hl : bs.length ≤ 20) (h0 : bs.length ≠ 0) (hb : ∀ b ∈ bs, b.length ≤ 200) (s : List UInt8) (hs : s.length ≤ 10000) (hk : kidsH s (prs 0 bs) (treeT s).kids) : ∀ (m f i : Nat), i + m = bs.length → m < f →
    BLookParts_3 F f bs s (i : Int) = some (.p (.bool true), []) := by
  have hkl := kidsH_len _ _ hk
  rw [prs_len] at hkl
  intro m
  induction m with
  | zero =>
    intro f i hi hf
    cases f with
    | zero => omega
    | succ f =>
      rw [BLookParts_3_eq]
      have hd := digK_len 3 ((bs.length + 1 : Nat) : Int)
      refine cond_f (by simp; omega) (need_mk (by unfold i64ok; omega) ?_)
      rw [show (bs.length : Int) + 1 = ((bs.length + 1 : Nat) : Int) by omega]
      refine need_mk (okD_at (by omega)) (need_mk ⟨by omega, by omega⟩ (need_mk ⟨by omega, by simp⟩ ?_))
      have h1 : (sectS s (digK 3 ((bs.length + 1 : Nat) : Int))).2 = false := kid_over (by omega) hkl h0
      rw [h1, sect_zero]; rfl
  | succ m ih =>
    intro f i hi hf
    have hlt : i < bs.length := by omega
    cases f with
    | zero => omega
    | succ f =>
      obtain ⟨b, hbi⟩ : ∃ b, bs[i]? = some b := ⟨_, List.getElem?_eq_getElem hlt⟩
      have hg : bs.getD i [] = b := by rw [List.getD_eq_getElem?_getD, hbi]; rfl
      have hbl : b.length ≤ 200 := hb b (List.mem_of_getElem? hbi)
      have hp := prs_at bs 0 i b hbi
      rw [Nat.zero_add] at hp
      obtain ⟨k1, k2, k3⟩ := kid_sects (s := s) (i := i) (by omega) (by omega) (kidsH_at _ _ i _ hk hp)
      have k1 : sectS s (digK 3 ((i + 1 : Nat) : Int)) = (cleanS b, true) := k1
      have k2 : sectS s (digK 3 ((i + 1 : Nat) : Int) ++ ([46, 77, 73, 77, 69] : List UInt8)) = (hdN i ++ (crlf ++ crlf), true) := k2
      have k3 : sectS s (digK 3 ((i + 1 : Nat) : Int) ++ ([46, 49] : List UInt8)) = (cleanS b, true) := k3
      have hd1 := digK_len 3 ((i + 1 : Nat) : Int)
      have hd2 := digK_len 3 (i : Int)
      rw [BLookParts_3_eq, Int.toNat_natCast, hg]
      refine cond_t (by simp; omega) (need_mk (by unfold i64ok; omega) ?_)
      rw [show (i : Int) + 1 = ((i + 1 : Nat) : Int) by omega]
      refine need_mk (okD_at (by omega)) (need_mk ⟨by omega, by omega⟩ (need_mk (by unfold lenok; simp only [List.length_cons, List.length_nil]; omega) (need_mk ⟨by omega, by simp only [List.length_append, List.length_cons, List.length_nil]; omega⟩ (need_mk (by unfold lenok; simp only [List.length_cons, List.length_nil]; omega) (need_mk ⟨by omega, by simp only [List.length_append, List.length_cons, List.length_nil]; omega⟩ (need_mk (fun _ => ⟨by omega, by omega⟩) (need_mk (fun _ => by omega) (need_mk (fun _ => okD_at (by omega)) (need_mk (fun _ => by unfold lenok; simp only [List.length_cons, List.length_nil]; omega) (need_mk (fun _ => by unfold lenok; simp only [List.length_append, List.length_cons, List.length_nil]; omega) ?_))))))))))
      rw [k1, k2, k3, BLookParts_4_eq]
      refine cond_f ?_ (need_mk (by unfold i64ok; omega) ?_)
      · have e : hdN i ++ (crlf ++ crlf) = (([88, 45, 78, 58, 32] : List UInt8) ++ digK 3 (i : Int)) ++ ([13, 10, 13, 10] : List UInt8) := rfl
        rw [e]
        simp
      · rw [show (i : Int) + 1 = ((i + 1 : Nat) : Int) by omega]
        exact ih f (i + 1) (by omega) (by omega)
theorem BLookParts_1_spec (F : Nat) (hF : 30 ≤ F) (bs : List (List UInt8)) (hl : bs.length ≤ 20) (h0 : bs.length ≠ 0) : ∀ (m f i : Nat), i + m = bs.length → m < f → (∀ b ∈ bs.take i, b.length ≤ 200) →
    BLookParts_1 F f bs (msgN (prs 0 (bs.take i))) (i : Int) = some (.p (.bool true), []) := by
  intro m
  induction m with
  | zero =>
    intro f i hi hf hb
    cases f with
    | zero => omega
    | succ f =>
      have hm := msgN_len (l := bs.take i) (by rw [List.length_take]; omega) hb 0
      rw [List.take_of_length_le (by omega)] at hb hm ⊢
      rw [BLookParts_1_eq]
      refine cond_f (by simp; omega) (need_mk (by unfold lenok; simp; omega) ?_)
      have hs : msgN (prs 0 bs) ++ ([45, 45, 98, 45, 45, 13, 10] : List UInt8) = hdL ++ (crlf ++ ([] ++ (crlf ++ blkH (prs 0 bs) (enB ++ (crlf ++ []))))) := msgN_end _
      have hk := parts_tree (prs 0 bs) (prs_ok bs 0 (by omega)) (by rw [prs_len]; omega) hs
      exact BLookParts_3_spec F bs hl h0 hb _ (by simp; omega) hk bs.length F 0 (by omega) (by omega)
  | succ m ih =>
    intro f i hi hf hb
    have hlt : i < bs.length := by omega
    cases f with
    | zero => omega
    | succ f =>
      obtain ⟨b, hbi⟩ : ∃ b, bs[i]? = some b := ⟨_, List.getElem?_eq_getElem hlt⟩
      have hg : bs.getD i [] = b := by rw [List.getD_eq_getElem?_getD, hbi]; rfl
      have ht : bs.take (i + 1) = bs.take i ++ [b] := by rw [List.take_add_one, hbi]; rfl
      have hm := msgN_len (l := bs.take i) (by rw [List.length_take]; omega) hb 0
      have hd2 := digK_len 3 (i : Int)
      rw [BLookParts_1_eq, Int.toNat_natCast, hg]
      refine cond_t (by simp; omega) (need_mk ⟨by omega, by omega⟩ ?_)
      by_cases hbl : b.length > 200
      · exact cond_t (by simp; omega) rfl
      · have hcl := cleanS_len b
        have hlen : (([45, 45, 98, 13, 10, 88, 45, 78, 58, 32] : List UInt8)).length = 10 := rfl
        refine cond_f (by simp; omega) (need_mk (by unfold lenok; simp; omega) (need_mk (okD_at (by omega)) (need_mk (by unfold lenok; simp; omega) (need_mk (by unfold lenok; simp; omega) (need_mk ⟨by omega, by omega⟩ (need_mk (by omega) (need_mk (by unfold lenok; simp; omega) (need_mk (by unfold lenok; simp; omega) ?_))))))))
        have e := msgN_snoc (prs 0 (bs.take i)) i (cleanS b)
        have e2 := prs_snoc b (bs.take i) 0
        rw [List.length_take, show 0 + min i bs.length = i by omega, ← ht] at e2
        rw [← e2] at e
        have e : ((((msgN (prs 0 (bs.take i)) ++ ([45, 45, 98, 13, 10, 88, 45, 78, 58, 32] : List UInt8)) ++ digK 3 (i : Int)) ++ ([13, 10, 13, 10] : List UInt8)) ++ cleanS b) ++ ([13, 10] : List UInt8) = msgN (prs 0 (bs.take (i + 1))) := e.symm
        rw [e, BLookParts_2_eq]
        refine need_mk (by unfold i64ok; omega) ?_
        rw [show (i : Int) + 1 = ((i + 1 : Nat) : Int) by omega]
        refine ih f (i + 1) (by omega) (by omega) fun x hx => ?_
        rw [ht] at hx
        rcases List.mem_append.1 hx with h | h
        · exact hb x h
        · rw [List.mem_singleton.1 h]; omega
theorem LookParts_true (bs : List (List UInt8)) : FLookParts 1000 bs = some (.p (.bool true), []) := by
  rw [FLookParts_eq, isZero]
  by_cases h : bs.length = 0 ∨ bs.length > 20
  · refine cond_t ?_ rfl
    rw [Bool.or_eq_true, decide_eq_true_iff, decide_eq_true_iff]
    omega
  · have h1 : bs.length ≠ 0 := fun e => h (.inl e)
    refine cond_f (by rw [Bool.or_eq_false_iff, decide_eq_false_iff_not, decide_eq_false_iff_not]; omega) ?_
    exact BLookParts_1_spec 1000 (by omega) bs (by omega) h1 bs.length 1000 0 (by omega) (by omega) (by simp)
end Go.Proofs.YtoanepondbagcaaGreatDoor
