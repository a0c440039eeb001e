/-
  Lifted functions, and facts about them.
-/
import Derived.Test.YthfgklcdkehgjaaDoorRows
import Derived.Test.YthfgklcdkehgjaaDoorAmC
import Derived.Test.YthfgklcdkehgjaaDoorC13Lits
import Derived.Test.YthfgklcdkehgjaaDoorC13PartJ
import Derived.Test.YthfgklcdkehgjaaDoorC13B64Fact0
import Derived.Test.YthfgklcdkehgjaaDoorC13QEnc
import Derived.Test.YthfgklcdkehgjaaDoorC13QFacts
namespace Go.Proofs.YthfgklcdkehgjaaDoor
open Go Go.Am
set_option linter.unusedVariables false
/-! What was encoded is told as it was. -/
noncomputable def cPartCodes : Code := bodyOf Tryd.f10

noncomputable def GPartCodes : Cfg := ⟨Tryd.prog, mkEnv [(11, sp_awake), (16, sp_tree), (21, sp_content), (22, sp_Encode), (23, sp_QEncode)], mkEnvR [], 42, [], [([1, 1, 1], ⟨[0, 1, 5], []⟩), ([1, 1, 1, 1, 1], ⟨[0, 1, 5, 6], []⟩), ([1, 1, 1, 1, 1, 1], ⟨[0, 5, 6], []⟩)], []⟩

noncomputable def BPartCodes_1 (F : Nat) (b : List UInt8) (w : Int) (vs1 : List UInt8) : Option Ans := runB GPartCodes cPartCodes (kP Tryd.prog Tryd.f10.results.toList) F [] [1, 1, 1] [(0, .p (.str b)), (1, .p (.int .u8 w)), (5, .p (.str vs1))] []

noncomputable def BPartCodes_2 (F : Nat) (b : List UInt8) (w : Int) (vs1 vs2 : List UInt8) : Option Ans := runB GPartCodes cPartCodes (kP Tryd.prog Tryd.f10.results.toList) F [] [1, 1, 1, 1, 1] [(0, .p (.str b)), (1, .p (.int .u8 w)), (5, .p (.str vs1)), (6, .p (.str vs2))] []

noncomputable def BPartCodes_3 (F : Nat) (b vs1 vs3 : List UInt8) : Option Ans := runB GPartCodes cPartCodes (kP Tryd.prog Tryd.f10.results.toList) F [] [1, 1, 1, 1, 1, 1] [(0, .p (.str b)), (5, .p (.str vs1)), (6, .p (.str vs3))] []

noncomputable def FPartCodes (F : Nat) (b : List UInt8) (w : Int) : Option Ans := runF GPartCodes Tryd.f10 F [.p (.str b), .p (.int .u8 w)]

theorem BPartCodes_1_eq (F : Nat) (b : List UInt8) (w : Int) (vs1 : List UInt8) : BPartCodes_1 F b w vs1 = (cond ((w.tmod (3 : Int)) == (0 : Int)) (need (b.length ≤ 1000000) (BPartCodes_2 F b w vs1 (encB b))) (BPartCodes_2 F b w vs1 b)) := by
  have h : BPartCodes_1 F b w vs1 = need ((3 : Int) ≠ 0) (cond ((w.tmod (3 : Int)) == (0 : Int)) (need (b.length ≤ 1000000) (BPartCodes_2 F b w vs1 (encB b))) (BPartCodes_2 F b w vs1 b)) := by kernel_rfl
  rw [h, need_pos (show (3 : Int) ≠ 0 from (by decide))]

theorem BPartCodes_2_eq (F : Nat) (b : List UInt8) (w : Int) (vs1 vs2 : List UInt8) : BPartCodes_2 F b w vs1 vs2 = (cond ((w.tmod (3 : Int)) == (1 : Int)) (need (b.length ≤ 1000000) (BPartCodes_3 F b vs1 (encL 0 b))) (BPartCodes_3 F b vs1 vs2)) := by
  have h : BPartCodes_2 F b w vs1 vs2 = need ((3 : Int) ≠ 0) (cond ((w.tmod (3 : Int)) == (1 : Int)) (need (b.length ≤ 1000000) (BPartCodes_3 F b vs1 (encL 0 b))) (BPartCodes_3 F b vs1 vs2)) := by kernel_rfl
  rw [h, need_pos (show (3 : Int) ≠ 0 from (by decide))]

theorem BPartCodes_3_eq (F : Nat) (b vs1 vs3 : List UInt8) : BPartCodes_3 F b vs1 vs3 = need (lenok (LB_cb1e02d5.length + vs1.length)) (need (lenok ((LB_cb1e02d5 ++ vs1).length + ([32, 13, 10, 13, 10] : List UInt8).length)) (need (lenok (((LB_cb1e02d5 ++ vs1) ++ ([32, 13, 10, 13, 10] : List UInt8)).length + vs3.length)) (need ((((LB_cb1e02d5 ++ vs1) ++ ([32, 13, 10, 13, 10] : List UInt8)) ++ vs3).length ≤ 1000000) (need ((((LB_cb1e02d5 ++ vs1) ++ ([32, 13, 10, 13, 10] : List UInt8)) ++ vs3).length ≤ 1000000) ((some (.p (.bool (((contP (((LB_cb1e02d5 ++ vs1) ++ ([32, 13, 10, 13, 10] : List UInt8)) ++ vs3) (Part.mk ((treeT (((LB_cb1e02d5 ++ vs1) ++ ([32, 13, 10, 13, 10] : List UInt8)) ++ vs3)).type) ((treeT (((LB_cb1e02d5 ++ vs1) ++ ([32, 13, 10, 13, 10] : List UInt8)) ++ vs3)).params) ((treeT (((LB_cb1e02d5 ++ vs1) ++ ([32, 13, 10, 13, 10] : List UInt8)) ++ vs3)).enc) ((treeT (((LB_cb1e02d5 ++ vs1) ++ ([32, 13, 10, 13, 10] : List UInt8)) ++ vs3)).attach) ((treeT (((LB_cb1e02d5 ++ vs1) ++ ([32, 13, 10, 13, 10] : List UInt8)) ++ vs3)).head) ((treeT (((LB_cb1e02d5 ++ vs1) ++ ([32, 13, 10, 13, 10] : List UInt8)) ++ vs3)).frm) ((treeT (((LB_cb1e02d5 ++ vs1) ++ ([32, 13, 10, 13, 10] : List UInt8)) ++ vs3)).til) ((treeT (((LB_cb1e02d5 ++ vs1) ++ ([32, 13, 10, 13, 10] : List UInt8)) ++ vs3)).kids))) == b) && true)), []))))))) := by
  have h : BPartCodes_3 F b vs1 vs3 = need (lenok (LB_cb1e02d5.length + vs1.length)) (need (lenok ((LB_cb1e02d5 ++ vs1).length + ([32, 13, 10, 13, 10] : List UInt8).length)) (need (lenok (((LB_cb1e02d5 ++ vs1) ++ ([32, 13, 10, 13, 10] : List UInt8)).length + vs3.length)) (need ((((LB_cb1e02d5 ++ vs1) ++ ([32, 13, 10, 13, 10] : List UInt8)) ++ vs3).length ≤ 1000000) (need ((((LB_cb1e02d5 ++ vs1) ++ ([32, 13, 10, 13, 10] : List UInt8)) ++ vs3).length ≤ 1000000) (need (((contP (((LB_cb1e02d5 ++ vs1) ++ ([32, 13, 10, 13, 10] : List UInt8)) ++ vs3) (Part.mk ((treeT (((LB_cb1e02d5 ++ vs1) ++ ([32, 13, 10, 13, 10] : List UInt8)) ++ vs3)).type) ((treeT (((LB_cb1e02d5 ++ vs1) ++ ([32, 13, 10, 13, 10] : List UInt8)) ++ vs3)).params) ((treeT (((LB_cb1e02d5 ++ vs1) ++ ([32, 13, 10, 13, 10] : List UInt8)) ++ vs3)).enc) ((treeT (((LB_cb1e02d5 ++ vs1) ++ ([32, 13, 10, 13, 10] : List UInt8)) ++ vs3)).attach) ((treeT (((LB_cb1e02d5 ++ vs1) ++ ([32, 13, 10, 13, 10] : List UInt8)) ++ vs3)).head) ((treeT (((LB_cb1e02d5 ++ vs1) ++ ([32, 13, 10, 13, 10] : List UInt8)) ++ vs3)).frm) ((treeT (((LB_cb1e02d5 ++ vs1) ++ ([32, 13, 10, 13, 10] : List UInt8)) ++ vs3)).til) ((treeT (((LB_cb1e02d5 ++ vs1) ++ ([32, 13, 10, 13, 10] : List UInt8)) ++ vs3)).kids))) == b) = true → ((contP (((LB_cb1e02d5 ++ vs1) ++ ([32, 13, 10, 13, 10] : List UInt8)) ++ vs3) (Part.mk ((treeT (((LB_cb1e02d5 ++ vs1) ++ ([32, 13, 10, 13, 10] : List UInt8)) ++ vs3)).type) ((treeT (((LB_cb1e02d5 ++ vs1) ++ ([32, 13, 10, 13, 10] : List UInt8)) ++ vs3)).params) ((treeT (((LB_cb1e02d5 ++ vs1) ++ ([32, 13, 10, 13, 10] : List UInt8)) ++ vs3)).enc) ((treeT (((LB_cb1e02d5 ++ vs1) ++ ([32, 13, 10, 13, 10] : List UInt8)) ++ vs3)).attach) ((treeT (((LB_cb1e02d5 ++ vs1) ++ ([32, 13, 10, 13, 10] : List UInt8)) ++ vs3)).head) ((treeT (((LB_cb1e02d5 ++ vs1) ++ ([32, 13, 10, 13, 10] : List UInt8)) ++ vs3)).frm) ((treeT (((LB_cb1e02d5 ++ vs1) ++ ([32, 13, 10, 13, 10] : List UInt8)) ++ vs3)).til) ((treeT (((LB_cb1e02d5 ++ vs1) ++ ([32, 13, 10, 13, 10] : List UInt8)) ++ vs3)).kids))) == b) = true) (some (.p (.bool (((contP (((LB_cb1e02d5 ++ vs1) ++ ([32, 13, 10, 13, 10] : List UInt8)) ++ vs3) (Part.mk ((treeT (((LB_cb1e02d5 ++ vs1) ++ ([32, 13, 10, 13, 10] : List UInt8)) ++ vs3)).type) ((treeT (((LB_cb1e02d5 ++ vs1) ++ ([32, 13, 10, 13, 10] : List UInt8)) ++ vs3)).params) ((treeT (((LB_cb1e02d5 ++ vs1) ++ ([32, 13, 10, 13, 10] : List UInt8)) ++ vs3)).enc) ((treeT (((LB_cb1e02d5 ++ vs1) ++ ([32, 13, 10, 13, 10] : List UInt8)) ++ vs3)).attach) ((treeT (((LB_cb1e02d5 ++ vs1) ++ ([32, 13, 10, 13, 10] : List UInt8)) ++ vs3)).head) ((treeT (((LB_cb1e02d5 ++ vs1) ++ ([32, 13, 10, 13, 10] : List UInt8)) ++ vs3)).frm) ((treeT (((LB_cb1e02d5 ++ vs1) ++ ([32, 13, 10, 13, 10] : List UInt8)) ++ vs3)).til) ((treeT (((LB_cb1e02d5 ++ vs1) ++ ([32, 13, 10, 13, 10] : List UInt8)) ++ vs3)).kids))) == b) && true)), []))))))) := by kernel_rfl
  rw [h, need_pos (show ((contP (((LB_cb1e02d5 ++ vs1) ++ ([32, 13, 10, 13, 10] : List UInt8)) ++ vs3) (Part.mk ((treeT (((LB_cb1e02d5 ++ vs1) ++ ([32, 13, 10, 13, 10] : List UInt8)) ++ vs3)).type) ((treeT (((LB_cb1e02d5 ++ vs1) ++ ([32, 13, 10, 13, 10] : List UInt8)) ++ vs3)).params) ((treeT (((LB_cb1e02d5 ++ vs1) ++ ([32, 13, 10, 13, 10] : List UInt8)) ++ vs3)).enc) ((treeT (((LB_cb1e02d5 ++ vs1) ++ ([32, 13, 10, 13, 10] : List UInt8)) ++ vs3)).attach) ((treeT (((LB_cb1e02d5 ++ vs1) ++ ([32, 13, 10, 13, 10] : List UInt8)) ++ vs3)).head) ((treeT (((LB_cb1e02d5 ++ vs1) ++ ([32, 13, 10, 13, 10] : List UInt8)) ++ vs3)).frm) ((treeT (((LB_cb1e02d5 ++ vs1) ++ ([32, 13, 10, 13, 10] : List UInt8)) ++ vs3)).til) ((treeT (((LB_cb1e02d5 ++ vs1) ++ ([32, 13, 10, 13, 10] : List UInt8)) ++ vs3)).kids))) == b) = true → ((contP (((LB_cb1e02d5 ++ vs1) ++ ([32, 13, 10, 13, 10] : List UInt8)) ++ vs3) (Part.mk ((treeT (((LB_cb1e02d5 ++ vs1) ++ ([32, 13, 10, 13, 10] : List UInt8)) ++ vs3)).type) ((treeT (((LB_cb1e02d5 ++ vs1) ++ ([32, 13, 10, 13, 10] : List UInt8)) ++ vs3)).params) ((treeT (((LB_cb1e02d5 ++ vs1) ++ ([32, 13, 10, 13, 10] : List UInt8)) ++ vs3)).enc) ((treeT (((LB_cb1e02d5 ++ vs1) ++ ([32, 13, 10, 13, 10] : List UInt8)) ++ vs3)).attach) ((treeT (((LB_cb1e02d5 ++ vs1) ++ ([32, 13, 10, 13, 10] : List UInt8)) ++ vs3)).head) ((treeT (((LB_cb1e02d5 ++ vs1) ++ ([32, 13, 10, 13, 10] : List UInt8)) ++ vs3)).frm) ((treeT (((LB_cb1e02d5 ++ vs1) ++ ([32, 13, 10, 13, 10] : List UInt8)) ++ vs3)).til) ((treeT (((LB_cb1e02d5 ++ vs1) ++ ([32, 13, 10, 13, 10] : List UInt8)) ++ vs3)).kids))) == b) = true from (fun q0 => q0))]

theorem FPartCodes_eq (F : Nat) (b : List UInt8) (w : Int) : FPartCodes F b w = cond (decide ((b.length : Int) > (1000 : Int))) (some (.p (.bool true), [])) ((need (0 ≤ (w.tmod (3 : Int)) ∧ (w.tmod (3 : Int)) < ([([66, 97, 115, 101, 54, 52] : List UInt8), ([113, 117, 111, 116, 101, 100, 45, 112, 114, 105, 110, 116, 97, 98, 108, 101] : List UInt8), ([56, 98, 105, 116] : List UInt8)].length : Int)) (need ((w.tmod (3 : Int)).toNat < [([66, 97, 115, 101, 54, 52] : List UInt8), ([113, 117, 111, 116, 101, 100, 45, 112, 114, 105, 110, 116, 97, 98, 108, 101] : List UInt8), ([56, 98, 105, 116] : List UInt8)].length) (BPartCodes_1 F b w ([([66, 97, 115, 101, 54, 52] : List UInt8), ([113, 117, 111, 116, 101, 100, 45, 112, 114, 105, 110, 116, 97, 98, 108, 101] : List UInt8), ([56, 98, 105, 116] : List UInt8)].getD ((w.tmod (3 : Int)).toNat) []))))) := by
  have h : FPartCodes F b w = cond (decide ((b.length : Int) > (1000 : Int))) (some (.p (.bool true), [])) (need ((3 : Int) ≠ 0) (need (0 ≤ (w.tmod (3 : Int)) ∧ (w.tmod (3 : Int)) < ([([66, 97, 115, 101, 54, 52] : List UInt8), ([113, 117, 111, 116, 101, 100, 45, 112, 114, 105, 110, 116, 97, 98, 108, 101] : List UInt8), ([56, 98, 105, 116] : List UInt8)].length : Int)) (need ((w.tmod (3 : Int)).toNat < [([66, 97, 115, 101, 54, 52] : List UInt8), ([113, 117, 111, 116, 101, 100, 45, 112, 114, 105, 110, 116, 97, 98, 108, 101] : List UInt8), ([56, 98, 105, 116] : List UInt8)].length) (BPartCodes_1 F b w ([([66, 97, 115, 101, 54, 52] : List UInt8), ([113, 117, 111, 116, 101, 100, 45, 112, 114, 105, 110, 116, 97, 98, 108, 101] : List UInt8), ([56, 98, 105, 116] : List UInt8)].getD ((w.tmod (3 : Int)).toNat) []))))) := by kernel_rfl
  rw [h, need_pos (show (3 : Int) ≠ 0 from (by decide))]

theorem fn_PartCodes (F : Nat) (b : List UInt8) (w : Int) (r : AV) (h : (∃ M vs, ARels γ0 M [.p (.str b), .p (.int .u8 w)] vs) → FPartCodes F b w = some (r, [])) : FnP Tryd.prog 10 [.p (.str b), .p (.int .u8 w)] r :=
  FnP_run GPartCodes F rfl (EnvOk_mk (l := [(11, sp_awake), (16, sp_tree), (21, sp_content), (22, sp_Encode), (23, sp_QEncode)]) ⟨ok_awake.any, ok_tree.any, ok_content.any, ok_Encode.any, ok_QEncode.any, trivial⟩) (EnvROk_mk (l := []) trivial) (Checked.mixed Tryd.checked) (fn := Tryd.f10) (by kernel_rfl) (by kernel_rfl) rfl h
theorem whole_lines (s : List UInt8) : linesN s 0 s.length = lnF [] 0 s := by unfold linesN; rw [List.take_length]; rfl
theorem whole_split (s : List UInt8) : splitS s 0 s.length = (fieldsS (gathS (lnF [] 0 s) s.length []).1, (gathS (lnF [] 0 s) s.length []).2) := by
  unfold splitS
  rw [if_neg (by omega), Int.toNat_natCast, show ((0 : Int)).toNat = 0 from rfl, whole_lines]
def codeS (e t : List UInt8) : List UInt8 := ((LB_cb1e02d5 ++ e) ++ ([32, 13, 10, 13, 10] : List UInt8)) ++ t
def textP : List UInt8 := [116, 101, 120, 116, 47, 112, 108, 97, 105, 110]
theorem plain_tree {s e : List UInt8} {n : Int} {l : List (List UInt8 × List UInt8)} (h : splitS s 0 s.length = (l, n)) (ht : typeF l = (textP, [])) (he : encF l = e) (ha : attF l = false) : treeT s = Part.mk textP [] e false 0 n s.length [] := by
  have h1 : oneP s 0 s.length = Part.mk textP [] e false 0 n s.length [] := by unfold oneP; rw [h, ht, he, ha]
  have h2 : markP s 0 s.length = [] := by unfold markP; rw [h1]; rfl
  unfold treeT
  rw [show (6 - (0 : Int)).toNat = 5 + 1 from rfl, treeP, if_pos h2, h1]
theorem code_b (t : List UInt8) : treeT (codeS [66, 97, 115, 101, 54, 52] t) = Part.mk textP [] [98, 97, 115, 101, 54, 52] false 0 39 (codeS [66, 97, 115, 101, 54, 52] t).length [] := by
  refine plain_tree (l := [([67, 111, 110, 116, 101, 110, 116, 45, 84, 114, 97, 110, 115, 102, 101, 114, 45, 69, 110, 99, 111, 100, 105, 110, 103], [66, 97, 115, 101, 54, 52])]) ?_ (by kernel_rfl) (by kernel_rfl) (by kernel_rfl)
  rw [whole_split]; kernel_rfl
theorem code_q (t : List UInt8) : treeT (codeS [113, 117, 111, 116, 101, 100, 45, 112, 114, 105, 110, 116, 97, 98, 108, 101] t) = Part.mk textP [] [113, 117, 111, 116, 101, 100, 45, 112, 114, 105, 110, 116, 97, 98, 108, 101] false 0 49 (codeS [113, 117, 111, 116, 101, 100, 45, 112, 114, 105, 110, 116, 97, 98, 108, 101] t).length [] := by
  refine plain_tree (l := [([67, 111, 110, 116, 101, 110, 116, 45, 84, 114, 97, 110, 115, 102, 101, 114, 45, 69, 110, 99, 111, 100, 105, 110, 103], [113, 117, 111, 116, 101, 100, 45, 112, 114, 105, 110, 116, 97, 98, 108, 101])]) ?_ (by kernel_rfl) (by kernel_rfl) (by kernel_rfl)
  rw [whole_split]; kernel_rfl
theorem code_8 (t : List UInt8) : treeT (codeS [56, 98, 105, 116] t) = Part.mk textP [] [56, 98, 105, 116] false 0 37 (codeS [56, 98, 105, 116] t).length [] := by
  refine plain_tree (l := [([67, 111, 110, 116, 101, 110, 116, 45, 84, 114, 97, 110, 115, 102, 101, 114, 45, 69, 110, 99, 111, 100, 105, 110, 103], [56, 98, 105, 116])]) ?_ (by kernel_rfl) (by kernel_rfl) (by kernel_rfl)
  rw [whole_split]; kernel_rfl
theorem code_len (e t : List UInt8) : (codeS e t).length = 33 + e.length + t.length := by
  have : LB_cb1e02d5.length = 28 := rfl
  unfold codeS; simp; omega
theorem code_cont {e t e2 : List UInt8} {n : Nat} (h : treeT (codeS e t) = Part.mk textP [] e2 false 0 (n : Int) (codeS e t).length []) (hn : n ≤ (codeS e t).length) : contP (codeS e t) (treeT (codeS e t)) = if e2 = [98, 97, 115, 101, 54, 52] then looseB ((codeS e t).drop n) else if e2 = [113, 117, 111, 116, 101, 100, 45, 112, 114, 105, 110, 116, 97, 98, 108, 101] then qdec ((codeS e t).drop n) else (codeS e t).drop n := by
  rw [h]
  unfold contP
  show (if ((decide ((n : Int) < 0) || decide (((codeS e t).length : Int) > ((codeS e t).length : Int))) || decide ((n : Int) > ((codeS e t).length : Int))) = true then _ else if e2 = [98, 97, 115, 101, 54, 52] then looseB (((codeS e t).take (((codeS e t).length : Int)).toNat).drop ((n : Int)).toNat) else if e2 = [113, 117, 111, 116, 101, 100, 45, 112, 114, 105, 110, 116, 97, 98, 108, 101] then qdec (((codeS e t).take (((codeS e t).length : Int)).toNat).drop ((n : Int)).toNat) else ((codeS e t).take (((codeS e t).length : Int)).toNat).drop ((n : Int)).toNat) = _
  rw [if_neg (by simp; omega), Int.toNat_natCast, Int.toNat_natCast, List.take_length]
theorem PartCodes_true (b : List UInt8) (w : Int) (hw : 0 ≤ w ∧ w < 256) : FPartCodes 0 b w = some (.p (.bool true), []) := by
  obtain ⟨a, rfl⟩ := Int.eq_ofNat_of_zero_le hw.1
  have hm := Nat.mod_lt a (show 3 > 0 by decide)
  have e1 : ((a : Int).tmod (3 : Int)) = ((a % 3 : Nat) : Int) := rfl
  have hel := enc_len b 0
  have heb := encB_len b.length b (Nat.le_refl _)
  rw [FPartCodes_eq, e1]
  by_cases hb : (b.length : Int) > 1000
  · exact cond_t (by simpa using hb) rfl
  · refine cond_f (by simpa using hb) (need_mk ⟨by omega, by show _ < (3 : Int); omega⟩ (need_mk (by show _ < 3; omega) ?_))
    rw [Int.toNat_natCast]
    have h3 : ∀ e t : List UInt8, e.length ≤ 20 → t.length ≤ 6000 → contP (codeS e t) (treeT (codeS e t)) = b → BPartCodes_3 0 b e t = some (.p (.bool true), []) := by
      intro e t he ht hc
      have hl := code_len e t
      have hLB : LB_cb1e02d5.length = 28 := rfl
      rw [BPartCodes_3_eq, part_eta]
      refine need_mk (by unfold lenok; omega) (need_mk (by unfold lenok; simp; omega) (need_mk (by unfold lenok; simp; omega) (need_mk (by show (codeS e t).length ≤ _; omega) (need_mk (by show (codeS e t).length ≤ _; omega) ?_))))
      show some (AV.p (.bool ((contP (codeS e t) (treeT (codeS e t)) == b) && true)), []) = _
      rw [hc]; simp
    have hcase : a % 3 = 0 ∨ a % 3 = 1 ∨ a % 3 = 2 := by omega
    rw [BPartCodes_1_eq, e1]
    rcases hcase with h | h | h
    · rw [h]
      refine cond_t rfl (need_mk (by omega) ?_)
      rw [BPartCodes_2_eq, e1, h]
      refine cond_f rfl (h3 _ _ (by decide) (by omega) ?_)
      show contP (codeS [66, 97, 115, 101, 54, 52] (encB b)) (treeT (codeS [66, 97, 115, 101, 54, 52] (encB b))) = b
      rw [code_cont (n := 39) (code_b (encB b)) (by rw [code_len]; simp), if_pos rfl]
      exact looseB_enc b
    · rw [h]
      refine cond_f rfl ?_
      rw [BPartCodes_2_eq, e1, h]
      refine cond_t rfl (need_mk (by omega) (h3 _ _ (by decide) (by omega) ?_))
      show contP (codeS [113, 117, 111, 116, 101, 100, 45, 112, 114, 105, 110, 116, 97, 98, 108, 101] (encL 0 b)) (treeT (codeS [113, 117, 111, 116, 101, 100, 45, 112, 114, 105, 110, 116, 97, 98, 108, 101] (encL 0 b))) = b
      rw [code_cont (n := 49) (code_q (encL 0 b)) (by rw [code_len]; simp), if_neg (by decide), if_pos rfl]
      exact qdec_enc b 0
    · rw [h]
      refine cond_f rfl ?_
      rw [BPartCodes_2_eq, e1, h]
      refine cond_f rfl (h3 _ _ (by decide) (by omega) ?_)
      show contP (codeS [56, 98, 105, 116] b) (treeT (codeS [56, 98, 105, 116] b)) = b
      rw [code_cont (n := 37) (code_8 b) (by rw [code_len]; simp), if_neg (by decide), if_neg (by decide)]
      rfl
theorem u8pl {n : Int} (h : IntKind.u8.has n) : 0 ≤ n ∧ n < 256 := by
  unfold IntKind.has at h
  simp [IntKind.min, IntKind.max, IntKind.bits, IntKind.signed] at h
  omega
end Go.Proofs.YthfgklcdkehgjaaDoor
