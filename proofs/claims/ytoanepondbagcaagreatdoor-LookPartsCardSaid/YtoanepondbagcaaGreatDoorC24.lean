/-
  Lifted functions, and facts about them.
-/
import Derived.Test.YtoanepondbagcaaGreatDoorRows
import Derived.Test.YtoanepondbagcaaGreatDoorAmC
import Derived.Test.YtoanepondbagcaaGreatDoorC23
namespace Go.Proofs.YtoanepondbagcaaGreatDoor
open Go Go.Am
set_option linter.unusedVariables false
/-! Parts that are put together, each with a header of its own. -/
abbrev crlf : List UInt8 := [13, 10]
theorem nlC : isNl crlf := .inr rfl
def mkB : List UInt8 := [45, 45, 98]
def enB : List UInt8 := [45, 45, 98, 45, 45]
def bM : List UInt8 := [98]
def blkH : List (List UInt8 × List UInt8) → List UInt8 → List UInt8
  | [], q => q
  | x :: r, q => mkB ++ (crlf ++ (x.1 ++ (crlf ++ ([] ++ (crlf ++ (x.2 ++ (crlf ++ blkH r q)))))))
def spnH : Nat → List (List UInt8 × List UInt8) → List (Nat × Nat)
  | _, [] => []
  | p, x :: r => (p + 5, p + 9 + x.1.length + x.2.length) :: spnH (p + 11 + x.1.length + x.2.length) r
structure okH (h : List UInt8) : Prop where
  ln : isLn h
  ne : h ≠ []
  m1 : trimRB h ≠ ([45, 45] ++ bM) ++ [45, 45]
  m2 : trimRB h ≠ [45, 45] ++ bM
  ty : typeF (fieldsS [h]) = (textP, [])
  en : encF (fieldsS [h]) = seven7
  at_ : attF (fieldsS [h]) = false
theorem blkH_app : ∀ (l : List (List UInt8 × List UInt8)) (q : List UInt8), blkH l q = blkH l [] ++ q
  | [], q => rfl
  | b :: r, q => by rw [blkH, blkH, blkH_app r q]; simp only [List.append_assoc]
theorem blkH_cat : ∀ (l m : List (List UInt8 × List UInt8)) (q : List UInt8), blkH (l ++ m) q = blkH l (blkH m q)
  | [], m, q => rfl
  | b :: r, m, q => by rw [List.cons_append, blkH, blkH, blkH_cat r m q]
theorem spF_blkH {z s : List UInt8} (n : Nat) : ∀ (bs : List (List UInt8 × List UInt8)) (P : List UInt8) (op : Option Nat) (out : List (Nat × Nat)), (∀ x ∈ bs, okH x.1 ∧ okB x.2) → s = P ++ blkH bs (enB ++ (crlf ++ z)) → (∀ o, op = some o → o ≤ P.length - 2 ∧ aheadN s P.length = P.length - 2) →
    spF s ([45, 45] ++ bM) n (lnF [] P.length (blkH bs (enB ++ (crlf ++ z)))) op out = (out ++ clo op (P.length - 2)) ++ spnH P.length bs
  | [], P, op, out, hb, hs, ho => by
    rw [blkH, line_step nlC (isLn_of (by decide)), spF, if_pos (by decide +kernel), addS_clo ho, spnH, List.append_nil]
  | (h, b) :: r, P, op, out, hb, hs, ho => by
    obtain ⟨hh, hb1, hb2⟩ := hb (h, b) (by simp)
    have hh : okH h := hh
    have hb1 : isLn b := hb1
    have hb2 : ∀ c ∈ b, c ≠ 45 := hb2
    obtain ⟨n1, n2⟩ := not_mark (m := bM) (by decide) hb2
    have ih := spF_blkH (z := z) (s := s) n r (((P ++ (mkB ++ (crlf ++ (h ++ crlf)))) ++ (crlf ++ b)) ++ crlf) (some (P.length + 5)) (out ++ clo op (P.length - 2)) (fun x hx => hb x (List.mem_cons_of_mem _ hx)) (by rw [hs, blkH]; simp only [List.append_assoc, List.nil_append]) (by
      intro o ho
      cases ho
      have hA := ahead_end (e := crlf) (Q := (P ++ (mkB ++ (crlf ++ (h ++ crlf)))) ++ (crlf ++ b)) (T := blkH r (enB ++ (crlf ++ z))) nlC (last_ok hb1)
      have hs2 : s = ((P ++ (mkB ++ (crlf ++ (h ++ crlf)))) ++ (crlf ++ b)) ++ (crlf ++ blkH r (enB ++ (crlf ++ z))) := by rw [hs, blkH]; simp only [List.append_assoc, List.nil_append]
      rw [← hs2] at hA
      have hL : (((P ++ (mkB ++ (crlf ++ (h ++ crlf)))) ++ (crlf ++ b)) ++ crlf).length = ((P ++ (mkB ++ (crlf ++ (h ++ crlf)))) ++ (crlf ++ b)).length + crlf.length := by simp only [List.length_append]
      rw [hL, hA]
      refine ⟨?_, by simp⟩
      simp [mkB])
    have hlen : (((P ++ (mkB ++ (crlf ++ (h ++ crlf)))) ++ (crlf ++ b)) ++ crlf).length = P.length + 11 + h.length + b.length := by simp [mkB]; omega
    rw [hlen] at ih
    have hmk : mkB.length = 3 := rfl
    have hcr : crlf.length = 2 := rfl
    rw [blkH]
    dsimp only
    rw [line_step nlC (isLn_of (by decide)), spF, if_neg (by decide +kernel), if_pos (by decide +kernel), addS_clo ho, line_step nlC hh.ln, spF, if_neg hh.m1, if_neg hh.m2, line_step nlC (isLn_of (by decide)), spF, if_neg (by decide +kernel), if_neg (by decide +kernel), line_step nlC hb1, spF, if_neg n1, if_neg n2]
    rw [hmk, hcr, List.length_nil, show P.length + (3 + 2) + (h.length + 2) + (0 + 2) + (b.length + 2) = P.length + 11 + h.length + b.length by omega, show P.length + (3 + 2) = P.length + 5 by omega, ih, spnH]
    show ((out ++ clo op (P.length - 2)) ++ [(P.length + 5, P.length + 11 + h.length + b.length - 2)]) ++ _ = _
    rw [List.append_assoc _ [_], List.singleton_append, show P.length + 11 + h.length + b.length - 2 = P.length + 9 + h.length + b.length by omega]
theorem kid_oneH {h b Q T : List UInt8} (hh : okH h) (x y : Int) (hx : x = (Q.length : Nat)) (hy : y = ((Q.length + (h ++ (crlf ++ ([] ++ (crlf ++ b)))).length : Nat) : Int)) : oneP (Q ++ ((h ++ (crlf ++ ([] ++ (crlf ++ b)))) ++ T)) x y = Part.mk textP [] seven7 false x ((Q.length + 4 + h.length : Nat) : Int) y [] := by
  unfold oneP
  rw [mid_split hx hy, line_step nlC hh.ln, line_step nlC (isLn_of (by decide))]
  have hg : ∀ (a1 a2 a3 a4 : Nat) (L : List (Nat × List UInt8 × Nat)), gathS ((a1, h, a2) :: (a3, [], a4) :: L) y [] = ([h], (a4 : Int)) := by
    intro a1 a2 a3 a4 L
    rw [gathS, if_neg hh.ne, if_neg (fun h => h.1 rfl), List.nil_append, gathS, if_pos rfl]
  rw [hg]
  dsimp only
  rw [hh.ty, hh.en, hh.at_]
  have : crlf.length = 2 := rfl
  rw [this, List.length_nil, show Q.length + (h.length + 2) + (0 + 2) = Q.length + 4 + h.length by omega]
structure kidH (s : List UInt8) (x : List UInt8 × List UInt8) (k : Part) : Prop where
  b : (s.take k.til.toNat).drop k.frm.toNat = x.2
  h : (s.take k.frm.toNat).drop k.head.toNat = x.1 ++ (crlf ++ crlf)
  k : k.kids = []
def kidsH (s : List UInt8) : List (List UInt8 × List UInt8) → List Part → Prop
  | [], [] => True
  | x :: r, k :: q => kidH s x k ∧ kidsH s r q
  | _, _ => False
theorem kids_blkH {s : List UInt8} (d : Nat) (z : List UInt8) : ∀ (bs : List (List UInt8 × List UInt8)) (P : List UInt8) (n : Int), (∀ x ∈ bs, okH x.1) → s = P ++ blkH bs z → n + bs.length ≤ 30 → kidsH s bs (kidsP 1 (treeP 1 s (d + 1)) ((spnH P.length bs).map spanI) n).1
  | [], P, n, hb, hs, hn => by rw [spnH, List.map_nil, kidsP]; trivial
  | (h, b) :: r, P, n, hb, hs, hn => by
    rw [List.length_cons] at hn
    have hh : okH h := hb (h, b) (by simp)
    have hmk : mkB.length = 3 := rfl
    have hcr : crlf.length = 2 := rfl
    have hs2 : s = (P ++ (mkB ++ crlf)) ++ ((h ++ (crlf ++ ([] ++ (crlf ++ b)))) ++ (crlf ++ blkH r z)) := by rw [hs, blkH]; simp only [List.append_assoc, List.nil_append]
    have h1 := kid_oneH (b := b) (Q := P ++ (mkB ++ crlf)) (T := crlf ++ blkH r z) hh ((P.length + 5 : Nat) : Int) ((P.length + 9 + h.length + b.length : Nat) : Int) (by simp [hmk]) (by simp [hmk]; omega)
    rw [← hs2] at h1
    have h2 := kid_tree (e := 1) (n := n + 1) (d := d) h1
    have hf : (P ++ (mkB ++ crlf)).length + 4 + h.length = P.length + 9 + h.length := by simp [hmk]
    rw [hf] at h2
    have ih := kids_blkH (s := s) d z r (((P ++ (mkB ++ (crlf ++ (h ++ crlf)))) ++ (crlf ++ b)) ++ crlf) (n + 1) (fun x hx => hb x (List.mem_cons_of_mem _ hx)) (by rw [hs, blkH]; simp only [List.append_assoc, List.nil_append]) (by omega)
    have hlen : (((P ++ (mkB ++ (crlf ++ (h ++ crlf)))) ++ (crlf ++ b)) ++ crlf).length = P.length + 11 + h.length + b.length := by simp [mkB]; omega
    rw [hlen] at ih
    have hspan : spanI (P.length + 5, P.length + 9 + h.length + b.length) = (((P.length + 5 : Nat) : Int), ((P.length + 9 + h.length + b.length : Nat) : Int)) := rfl
    rw [spnH]
    dsimp only
    rw [List.map_cons, hspan, kidsP, if_pos (by omega), h2]
    refine ⟨⟨?_, ?_, rfl⟩, ih⟩
    · show (s.take (((P.length + 9 + h.length + b.length : Nat) : Int)).toNat).drop (((P.length + 9 + h.length : Nat) : Int)).toNat = b
      rw [Int.toNat_natCast, Int.toNat_natCast]
      have hs3 : s = (P ++ (mkB ++ (crlf ++ (h ++ (crlf ++ crlf))))) ++ (b ++ (crlf ++ blkH r z)) := by rw [hs, blkH]; simp only [List.append_assoc, List.nil_append]
      have hq : (P ++ (mkB ++ (crlf ++ (h ++ (crlf ++ crlf))))).length = P.length + 9 + h.length := by simp [mkB]; omega
      rw [← hq, hs3]
      exact mid_take
    · show (s.take (((P.length + 9 + h.length : Nat) : Int)).toNat).drop (((P.length + 5 : Nat) : Int)).toNat = h ++ (crlf ++ crlf)
      rw [Int.toNat_natCast, Int.toNat_natCast]
      have hs3 : s = (P ++ (mkB ++ crlf)) ++ ((h ++ (crlf ++ crlf)) ++ (b ++ (crlf ++ blkH r z))) := by rw [hs, blkH]; simp only [List.append_assoc, List.nil_append]
      have hq : (P ++ (mkB ++ crlf)).length = P.length + 5 := by simp [mkB]
      have hq2 : P.length + 9 + h.length = (P ++ (mkB ++ crlf)).length + (h ++ (crlf ++ crlf)).length := by simp [mkB]; omega
      rw [hq2, ← hq, hs3]
      exact mid_take
def hdL : List UInt8 := [67, 111, 110, 116, 101, 110, 116, 45, 84, 121, 112, 101, 58, 32, 109, 117, 108, 116, 105, 112, 97, 114, 116, 47, 109, 105, 120, 101, 100, 59, 32, 98, 111, 117, 110, 100, 97, 114, 121, 61, 98]
def mmTy : List UInt8 := [109, 117, 108, 116, 105, 112, 97, 114, 116, 47, 109, 105, 120, 101, 100]
theorem parts_tree (bs : List (List UInt8 × List UInt8)) (hb : ∀ x ∈ bs, okH x.1 ∧ okB x.2) (hl : bs.length ≤ 20) {z s : List UInt8} (hs : s = hdL ++ (crlf ++ ([] ++ (crlf ++ blkH bs (enB ++ (crlf ++ z)))))) : kidsH s bs (treeT s).kids := by
  have hdl : hdL.length = 41 := rfl
  have hcr : crlf.length = 2 := rfl
  have hsp : splitS s 0 s.length = (fieldsS [hdL], ((45 : Nat) : Int)) := by
    rw [whole_split]
    have hln : lnF [] 0 s = (0, hdL, 0 + (hdL.length + crlf.length)) :: (0 + (hdL.length + crlf.length), [], 0 + (hdL.length + crlf.length) + (([] : List UInt8).length + crlf.length)) :: lnF [] (0 + (hdL.length + crlf.length) + (([] : List UInt8).length + crlf.length)) (blkH bs (enB ++ (crlf ++ z))) := by
      rw [hs, line_step nlC (isLn_of (by decide +kernel)), line_step nlC (isLn_of (by decide))]
    rw [hln]
    have hg : ∀ (a1 a2 a3 a4 : Nat) (L : List (Nat × List UInt8 × Nat)), gathS ((a1, hdL, a2) :: (a3, [], a4) :: L) s.length [] = ([hdL], (a4 : Int)) := by
      intro a1 a2 a3 a4 L
      rw [gathS, if_neg (by decide), if_neg (fun h => h.1 rfl), List.nil_append, gathS, if_pos rfl]
    rw [hg, hdl, hcr, List.length_nil]
  have h1 : oneP s 0 s.length = Part.mk mmTy [([98, 111, 117, 110, 100, 97, 114, 121], bM)] seven7 false 0 ((45 : Nat) : Int) s.length [] := by
    unfold oneP
    rw [hsp]
    have t1 : typeF (fieldsS [hdL]) = (mmTy, [([98, 111, 117, 110, 100, 97, 114, 121], bM)]) := by kernel_rfl
    have t2 : encF (fieldsS [hdL]) = seven7 := by kernel_rfl
    have t3 : attF (fieldsS [hdL]) = false := by kernel_rfl
    dsimp only
    rw [t1, t2, t3]
  have h2 : markP s 0 s.length = bM := by unfold markP; rw [h1]; kernel_rfl
  have hP : (hdL ++ (crlf ++ crlf)).length = 45 := rfl
  have hs2 : s = (hdL ++ (crlf ++ crlf)) ++ blkH bs (enB ++ (crlf ++ z)) := by rw [hs]; simp only [List.append_assoc, List.nil_append]
  have h3 : spansP s 0 s.length = (spnH 45 bs).map spanI := by
    unfold spansP spansI spansN
    rw [h2, h1]
    show (spF s ([45, 45] ++ bM) ((s.length : Int)).toNat (linesN s ((45 : Nat) : Int).toNat ((s.length : Int)).toNat) none []).map spanI = _
    rw [Int.toNat_natCast, Int.toNat_natCast]
    have hs3 : s = (hdL ++ (crlf ++ crlf)) ++ (blkH bs (enB ++ (crlf ++ z)) ++ []) := by rw [hs]; simp only [List.append_assoc, List.nil_append, List.append_nil]
    have hsl : s.length = (hdL ++ (crlf ++ crlf)).length + (blkH bs (enB ++ (crlf ++ z))).length := by
      have := congrArg List.length hs3
      rw [List.append_nil, List.length_append] at this; exact this
    have hm := mid_lines (Q := hdL ++ (crlf ++ crlf)) (M := blkH bs (enB ++ (crlf ++ z))) (T := [])
    rw [← hs3, ← hsl, hP] at hm
    rw [hm]
    have := spF_blkH (z := z) (s := s) s.length bs (hdL ++ (crlf ++ crlf)) none [] hb hs2 (fun o h => by cases h)
    rw [hP] at this
    rw [this]
    rfl
  have h4 : treeT s = withKids (oneP s 0 s.length) (kidsP 1 (treeP 1 s 5) (spansP s 0 s.length) ((0 : Int) + 1)).1 := by
    unfold treeT
    rw [show (6 - (0 : Int)).toNat = 5 + 1 from rfl, treeP, if_neg (by rw [h2]; decide)]
  rw [h4]
  show kidsH s bs (kidsP 1 (treeP 1 s 5) (spansP s 0 s.length) ((0 : Int) + 1)).1
  rw [h3, ← hP]
  exact kids_blkH 4 _ bs _ _ (fun x hx => (hb x hx).1) hs2 (by omega)
theorem kidsH_len {s : List UInt8} : ∀ (l : List (List UInt8 × List UInt8)) (k : List Part), kidsH s l k → k.length = l.length
  | [], [], _ => rfl
  | _ :: r, _ :: q, h => by rw [List.length_cons, List.length_cons, kidsH_len r q h.2]
theorem kidsH_at {s : List UInt8} : ∀ (l : List (List UInt8 × List UInt8)) (k : List Part) (i : Nat) (x : List UInt8 × List UInt8), kidsH s l k → l[i]? = some x → kidH s x (k.getD i (dfl .part))
  | [], [], i, x, _, h => by simp at h
  | y :: r, p :: q, 0, x, h, hx => by
    have : y = x := by simpa using hx
    subst this; exact h.1
  | y :: r, p :: q, i + 1, x, h, hx => by
    have := kidsH_at r q i x h.2 (by simpa using hx)
    simpa using this
end Go.Proofs.YtoanepondbagcaaGreatDoor
