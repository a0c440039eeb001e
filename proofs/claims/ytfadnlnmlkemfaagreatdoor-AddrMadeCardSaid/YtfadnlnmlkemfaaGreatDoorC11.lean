/-
  Lifted functions, and facts about them.
-/
import Derived.Test.YtfadnlnmlkemfaaGreatDoorRows
import Derived.Test.YtfadnlnmlkemfaaGreatDoorAmC
import Derived.Test.YtfadnlnmlkemfaaGreatDoorC01
import Derived.Test.YtfadnlnmlkemfaaGreatDoorC10
import Derived.Deep.Slices
import Derived.Carry
import Derived.Handed
import Derived.Shelf.Vars
import Derived.WalkKit
import Derived.ProofKit
import Derived.OpenShut
namespace Go.Proofs.YtfadnlnmlkemfaaGreatDoor
open Go Go.Am
set_option linter.unusedVariables false
/-! Addresses that are put together are found, in order. -/
def rkT : List UInt8 := [114, 101, 44, 32, 40, 109, 97, 41, 32, 114, 107, 41]
def entS (a b : List UInt8) (m : Nat) : List UInt8 :=
  if m = 0 then b ++ [64, 104, 46, 120]
  else if m = 1 then a ++ 32 :: 60 :: ((b ++ [64, 104]) ++ [62])
  else if m = 2 then 34 :: ((a ++ 44 :: 32 :: b) ++ 34 :: 32 :: 60 :: ((b ++ [64, 104]) ++ [62]))
  else a ++ 32 :: 40 :: (rkT ++ 32 :: (b ++ 32 :: 60 :: ((b ++ [64, 104]) ++ [62])))
def entA (a b : List UInt8) (m : Nat) : AddrT :=
  if m = 0 then ([], b, [104, 46, 120]) else if m = 1 then (a, b, [104]) else if m = 2 then (a ++ 44 :: 32 :: b, b, [104]) else (a ++ 32 :: b, b, [104])
abbrev Ends (t : List UInt8) : Prop := t = [] ∨ ∃ c r, t = c :: r ∧ (c = 44 ∨ c = 59)
theorem ends_at {t : List UInt8} (h : Ends t) : ∀ c r, t = c :: r → isAt c = false := by
  intro c r e
  rcases h with h | ⟨d, q, h, hd⟩
  · rw [h] at e; cases e
  · rw [h] at e; injection e with e1 e2
    subst e1
    rcases hd with hd | hd <;> (rw [hd]; rfl)
theorem bl_at (t : List UInt8) : ∀ c r, (32 :: t : List UInt8) = c :: r → isAt c = false := by
  intro c r e
  injection e with e1 _
  subst e1; rfl
theorem adG_box {b t : List UInt8} (hb : Atom b) (ws : List (List UInt8)) (an : List UInt8) (hs : Bool) (out : List AddrT) :
    adG (32 :: 60 :: ((b ++ [64, 104]) ++ 62 :: t)) ws an hs out = adG t ws (b ++ [64, 104]) true out := by
  rw [adG_bl, adG_angle, unb_id]
  · intro c hc
    rcases List.mem_append.1 hc with h | h
    · exact ⟨lo_ne (hb.2.2 c h) (by decide), lo_ne (hb.2.2 c h) (by decide)⟩
    · clear hc; revert c; decide
  · intro c hc
    rcases List.mem_append.1 hc with h | h
    · exact lo_ne (hb.2.2 c h) (by decide)
    · clear hc; revert c; decide
theorem told_box {b : List UInt8} (hb : Atom b) (ws : List (List UInt8)) (n : List UInt8) (hn : joinS [32] ws = n) (h61 : ∀ c ∈ n, c ≠ 61) (out : List AddrT) : tellS ws (b ++ [64, 104]) true out = out ++ [(n, b, [104])] := by
  unfold tellS told
  rw [if_pos rfl, part_h, hn, word_id h61]
  exact if_pos (.inl hb.1)
theorem ent_step {a b : List UInt8} (ha : Atom a) (hb : Atom b) (m : Nat) {t : List UInt8} (ht : Ends t) (out : List AddrT) :
    ∃ ws an hs, adG (entS a b m ++ t) [] [] false out = adG t ws an hs out ∧ tellS ws an hs out = out ++ [entA a b m] := by
  have hla : ∀ c ∈ a, isAt c = true := fun c hc => lo_at (ha.2.2 c hc)
  have hlb : ∀ c ∈ b, isAt c = true := fun c hc => lo_at (hb.2.2 c hc)
  have h61a : ∀ c ∈ a, c ≠ 61 := fun c hc => lo_ne (ha.2.2 c hc) (by decide)
  have h61b : ∀ c ∈ b, c ≠ 61 := fun c hc => lo_ne (hb.2.2 c hc) (by decide)
  unfold entS entA
  by_cases m0 : m = 0
  · rw [if_pos m0, if_pos m0]
    refine ⟨[b ++ [64, 104, 46, 120]], [], false, ?_, ?_⟩
    · rw [adG_word (by simp) (fun c hc => ?_) (ends_at ht)]
      · rfl
      · rcases List.mem_append.1 hc with h | h
        · exact hlb c h
        · clear hc; revert c; decide
    · have e : told [b ++ [64, 104, 46, 120]] [] false = ([], b, [104, 46, 120]) := by
        unfold told
        rw [if_neg (by decide), show joinS [] [b ++ [64, 104, 46, 120]] = b ++ [64, 104, 46, 120] by simp [joinS], part_hx]
      unfold tellS
      rw [e]
      exact if_pos (.inl hb.1)
  rw [if_neg m0, if_neg m0]
  by_cases m1 : m = 1
  · rw [if_pos m1, if_pos m1]
    refine ⟨[a], _, true, ?_, told_box hb [a] a (by simp [joinS]) h61a out⟩
    rw [show (a ++ 32 :: 60 :: ((b ++ [64, 104]) ++ [62])) ++ t = a ++ (32 :: 60 :: ((b ++ [64, 104]) ++ 62 :: t)) by simp, adG_word ha.1 hla (bl_at _), adG_box hb]
    rfl
  rw [if_neg m1, if_neg m1]
  by_cases m2 : m = 2
  · rw [if_pos m2, if_pos m2]
    refine ⟨[a ++ 44 :: 32 :: b], _, true, ?_, told_box hb [a ++ 44 :: 32 :: b] _ (by simp [joinS]) (fun c hc => ?_) out⟩
    · rw [show (34 :: ((a ++ 44 :: 32 :: b) ++ 34 :: 32 :: 60 :: ((b ++ [64, 104]) ++ [62]))) ++ t = 34 :: ((a ++ 44 :: 32 :: b) ++ 34 :: (32 :: 60 :: ((b ++ [64, 104]) ++ 62 :: t))) by simp, adG_quote (fun c hc => ?_), adG_box hb]
      · rfl
      · rcases List.mem_append.1 hc with h | h
        · exact ⟨lo_ne (ha.2.2 c h) (by decide), lo_ne (ha.2.2 c h) (by decide)⟩
        · rcases List.mem_cons.1 h with h | h
          · rw [h]; decide
          · rcases List.mem_cons.1 h with h | h
            · rw [h]; decide
            · exact ⟨lo_ne (hb.2.2 c h) (by decide), lo_ne (hb.2.2 c h) (by decide)⟩
    · rcases List.mem_append.1 hc with h | h
      · exact h61a c h
      · rcases List.mem_cons.1 h with h | h
        · rw [h]; decide
        · rcases List.mem_cons.1 h with h | h
          · rw [h]; decide
          · exact h61b c h
  · rw [if_neg m2, if_neg m2]
    refine ⟨[a, b], _, true, ?_, told_box hb [a, b] _ (by simp [joinS]) (fun c hc => ?_) out⟩
    · rw [show (a ++ 32 :: 40 :: (rkT ++ 32 :: (b ++ 32 :: 60 :: ((b ++ [64, 104]) ++ [62])))) ++ t = a ++ (32 :: 40 :: (rkT ++ (32 :: (b ++ (32 :: 60 :: ((b ++ [64, 104]) ++ 62 :: t)))))) by simp, adG_word ha.1 hla (bl_at _), adG_bl, rkT, adG_remark, adG_bl, adG_word hb.1 hlb (bl_at _), adG_box hb]
      rfl
    · rcases List.mem_append.1 hc with h | h
      · exact h61a c h
      · rcases List.mem_cons.1 h with h | h
        · rw [h]; decide
        · exact h61b c h
theorem ent_len {a b : List UInt8} (ha : Atom a) (hb : Atom b) (m : Nat) : (entS a b m).length ≤ 200 := by
  have h1 := ha.2.1
  have h2 := hb.2.1
  unfold entS rkT
  split
  · simp; omega
  · split
    · simp; omega
    · split <;> (simp; omega)
def Made (s : List UInt8) (want : List AddrT) : Prop := ∀ t, Ends t → ∀ out, ∃ ws an hs o, adG (s ++ t) [] [] false out = adG t ws an hs o ∧ tellS ws an hs o = out ++ want
def Ready (s : List UInt8) (want : List AddrT) : Prop := ∀ t out, adG (s ++ t) [] [] false out = adG t [] [] false (out ++ want)
theorem tell_none (out : List AddrT) : tellS [] [] false out = out := by
  unfold tellS told
  rw [if_neg (by decide)]
theorem made_nil : Made [] [] := fun t _ out => ⟨[], [], false, out, rfl, by rw [tell_none, List.append_nil]⟩
theorem ready_nil : Ready [] [] := fun t out => by rw [List.nil_append, List.append_nil]
theorem ready_made {s : List UInt8} {w : List AddrT} (h : Made s w) : Ready (s ++ [44, 32]) w := by
  intro t out
  obtain ⟨ws, an, hs, o, e1, e2⟩ := h (44 :: 32 :: t) (.inr ⟨44, _, rfl, .inl rfl⟩) out
  rw [show (s ++ [44, 32]) ++ t = s ++ 44 :: 32 :: t by simp, e1, adG_comma 44 (.inl rfl), adG_bl, e2]
theorem made_ready {s : List UInt8} {w : List AddrT} (h : Ready s w) {a b : List UInt8} (ha : Atom a) (hb : Atom b) (m : Nat) : Made (s ++ entS a b m) (w ++ [entA a b m]) := by
  intro t ht out
  obtain ⟨ws, an, hs, e1, e2⟩ := ent_step ha hb m ht (out ++ w)
  exact ⟨ws, an, hs, _, by rw [List.append_assoc, h, e1], by rw [e2, List.append_assoc]⟩
theorem list_adG (s : List UInt8) : listA s = adG s [] [] false [] := rfl
theorem list_made {s : List UInt8} {w : List AddrT} (h : Made s w) : listA s = w := by
  obtain ⟨ws, an, hs, o, e1, e2⟩ := h [] (.inl rfl) []
  rw [List.append_nil, adG_nil] at e1
  rw [list_adG, e1, e2]; rfl
theorem list_group {s : List UInt8} {w : List AddrT} (h : Made s w) : listA ((([103, 114, 111, 117, 112, 58, 32] : List UInt8) ++ s) ++ ([59] : List UInt8)) = w := by
  obtain ⟨ws, an, hs, o, e1, e2⟩ := h [59] (.inr ⟨59, [], rfl, .inr rfl⟩) []
  rw [list_adG, show (([103, 114, 111, 117, 112, 58, 32] : List UInt8) ++ s) ++ ([59] : List UInt8) = ([103, 114, 111, 117, 112] : List UInt8) ++ (58 :: 32 :: (s ++ [59])) by simp,
    adG_word (by decide) (by decide) (fun c r e => by injection e with e1 _; subst e1; rfl), adG_colon, adG_bl, e1, adG_comma 59 (.inr rfl), e2, adG_nil, tell_none]; rfl
noncomputable def cmade12 : Code := bodyOf Tryz.f3

noncomputable def Gmade12 : Cfg := ⟨Tryz.prog, mkEnv [(5, sp_atom), (6, sp_same), (7, sp_alist), (8, sp_awake12)], mkEnvR [], 126, [], [([1, 1], ⟨[0, 1, 2, 7], []⟩), ([0, 1, 0, 1, 1, 1, 1], ⟨[0, 1, 2, 7, 8, 9, 10], [⟨.slot 9, 9, (.larr 27 false 3 (.dat (.pair .str (.pair .str .str)) ([] : List (List UInt8 × List UInt8 × List UInt8))))⟩]⟩), ([1, 1, 0, 0, 1, 0, 0, 1, 0, 1, 1, 1, 1], ⟨[0, 1, 2, 7, 8, 9, 10, 11, 12], [⟨.slot 9, 9, (.larr 27 false 3 (.dat (.pair .str (.pair .str .str)) ([] : List (List UInt8 × List UInt8 × List UInt8))))⟩]⟩), ([1, 0, 1, 1, 1, 1, 1, 0, 1, 1, 1, 0, 0, 1, 0, 0, 1, 0, 1, 1, 1, 1], ⟨[0, 1, 2, 7, 8, 9, 10, 11, 12], [⟨.slot 9, 9, (.larr 27 false 3 (.dat (.pair .str (.pair .str .str)) ([] : List (List UInt8 × List UInt8 × List UInt8))))⟩]⟩), ([1, 1, 1, 1, 1, 1, 1, 0, 1, 1, 1, 0, 0, 1, 0, 0, 1, 0, 1, 1, 1, 1], ⟨[0, 1, 2, 7, 8, 9, 10, 11, 12], [⟨.slot 9, 9, (.larr 27 false 3 (.dat (.pair .str (.pair .str .str)) ([] : List (List UInt8 × List UInt8 × List UInt8))))⟩]⟩), ([1, 1, 0, 0, 1, 0, 1, 1, 1, 1], ⟨[0, 1, 2, 7, 8, 9, 10], [⟨.slot 9, 9, (.larr 27 false 3 (.dat (.pair .str (.pair .str .str)) ([] : List (List UInt8 × List UInt8 × List UInt8))))⟩]⟩)], []⟩

noncomputable def Bmade12_1 (F : Nat) (ns bs : List (List UInt8)) (hw : List UInt8) (vi1 : Int) : Option Ans := runB Gmade12 cmade12 (kP Tryz.prog Tryz.f3.results.toList) F [] [1, 1] [(0, .p (.list 1 (.dat .str ns))), (1, .p (.list 1 (.dat .str bs))), (2, .p (.bytes hw)), (7, .p (.int .i64 vi1))] []

noncomputable def Bmade12_2 (F f1 : Nat) (ns bs : List (List UInt8)) (hw : List UInt8) (vi1 : Int) (vs2 : List UInt8) (vi3 : Int) (vl4 : List (List UInt8 × List UInt8 × List UInt8)) : Option Ans := runR Gmade12 cmade12 (kP Tryz.prog Tryz.f3.results.toList) F [] [1, 1, 1, 1, 0, 1, 0] f1 [(0, .p (.list 1 (.dat .str ns))), (1, .p (.list 1 (.dat .str bs))), (2, .p (.bytes hw)), (7, .p (.int .i64 vi1)), (8, .p (.str vs2)), (9, .arr 9), (10, .p (.int .i64 vi3))] [(9, .larr 27 false 3 (.dat (.pair .str (.pair .str .str)) vl4))]

noncomputable def Bmade12_3 (F f1 : Nat) (ns bs : List (List UInt8)) (hw : List UInt8) (vi1 : Int) (vs5 : List UInt8) (vi3 : Int) (vs6 vs7 : List UInt8) (vl4 : List (List UInt8 × List UInt8 × List UInt8)) : Option Ans := runB Gmade12 cmade12 (kP Tryz.prog Tryz.f3.results.toList) F [f1] [1, 1, 1, 1, 0, 1, 0, 0, 1, 0, 0, 1, 1] [(0, .p (.list 1 (.dat .str ns))), (1, .p (.list 1 (.dat .str bs))), (2, .p (.bytes hw)), (7, .p (.int .i64 vi1)), (8, .p (.str vs5)), (9, .arr 9), (10, .p (.int .i64 vi3)), (11, .p (.str vs6)), (12, .p (.str vs7))] [(9, .larr 27 false 3 (.dat (.pair .str (.pair .str .str)) vl4))]

noncomputable def Bmade12_4 (F f1 : Nat) (ns bs : List (List UInt8)) (hw : List UInt8) (vi1 : Int) (vs8 : List UInt8) (vi3 : Int) (vl9 : List (List UInt8 × List UInt8 × List UInt8)) : Option Ans := runB Gmade12 cmade12 (kP Tryz.prog Tryz.f3.results.toList) F [f1] [1, 1, 1, 1, 0, 1, 0, 0, 1, 1] [(0, .p (.list 1 (.dat .str ns))), (1, .p (.list 1 (.dat .str bs))), (2, .p (.bytes hw)), (7, .p (.int .i64 vi1)), (8, .p (.str vs8)), (9, .arr 9), (10, .p (.int .i64 vi3))] [(9, .larr 27 false 3 (.dat (.pair .str (.pair .str .str)) vl9))]

noncomputable def Bmade12_5 (F f1 : Nat) (ns bs : List (List UInt8)) (hw : List UInt8) (vi1 : Int) (vs10 : List UInt8) (vi3 : Int) (vs6 vs7 : List UInt8) (vl4 : List (List UInt8 × List UInt8 × List UInt8)) : Option Ans := runB Gmade12 cmade12 (kP Tryz.prog Tryz.f3.results.toList) F [f1] [1, 1, 1, 1, 0, 1, 0, 0, 1, 0, 0, 1, 1, 1, 0, 1, 1, 1, 1, 1, 0, 1] [(0, .p (.list 1 (.dat .str ns))), (1, .p (.list 1 (.dat .str bs))), (2, .p (.bytes hw)), (7, .p (.int .i64 vi1)), (8, .p (.str vs10)), (9, .arr 9), (10, .p (.int .i64 vi3)), (11, .p (.str vs6)), (12, .p (.str vs7))] [(9, .larr 27 false 3 (.dat (.pair .str (.pair .str .str)) vl4))]

noncomputable def Bmade12_6 (F f1 : Nat) (ns bs : List (List UInt8)) (hw : List UInt8) (vi1 : Int) (vs11 : List UInt8) (vi3 : Int) (vs6 vs7 : List UInt8) (vl4 : List (List UInt8 × List UInt8 × List UInt8)) : Option Ans := runB Gmade12 cmade12 (kP Tryz.prog Tryz.f3.results.toList) F [f1] [1, 1, 1, 1, 0, 1, 0, 0, 1, 0, 0, 1, 1, 1, 0, 1, 1, 1, 1, 1, 1, 1] [(0, .p (.list 1 (.dat .str ns))), (1, .p (.list 1 (.dat .str bs))), (2, .p (.bytes hw)), (7, .p (.int .i64 vi1)), (8, .p (.str vs11)), (9, .arr 9), (10, .p (.int .i64 vi3)), (11, .p (.str vs6)), (12, .p (.str vs7))] [(9, .larr 27 false 3 (.dat (.pair .str (.pair .str .str)) vl4))]

noncomputable def Fmade12 (F : Nat) (ns bs : List (List UInt8)) (hw : List UInt8) : Option Ans := runF Gmade12 Tryz.f3 F [.p (.list 1 (.dat .str ns)), .p (.list 1 (.dat .str bs)), .p (.bytes hw)]

theorem Bmade12_1_eq (F : Nat) (ns bs : List (List UInt8)) (hw : List UInt8) (vi1 : Int) : Bmade12_1 F ns bs hw vi1 = Bmade12_2 F F ns bs hw vi1 ([] : List UInt8) (0 : Int) ([] : List (List UInt8 × List UInt8 × List UInt8)) := by kernel_rfl

theorem Bmade12_2_eq (F f1 : Nat) (ns bs : List (List UInt8)) (hw : List UInt8) (vi1 : Int) (vs2 : List UInt8) (vi3 : Int) (vl4 : List (List UInt8 × List UInt8 × List UInt8)) : Bmade12_2 F (f1 + 1) ns bs hw vi1 vs2 vi3 vl4 = cond (decide (vi3 < vi1)) (need (0 ≤ vi3 ∧ vi3 < (ns.length : Int)) (need ((ns.getD (vi3).toNat []).length ≤ 140737488355328) (need (0 ≤ vi3 ∧ vi3 < (bs.length : Int)) (need ((bs.getD (vi3).toNat []).length ≤ 140737488355328) (cond (decide (vi3 > (0 : Int))) (need (lenok (vs2.length + ([44, 32] : List UInt8).length)) (Bmade12_3 F f1 ns bs hw vi1 (vs2 ++ ([44, 32] : List UInt8)) vi3 (atomS (ns.getD (vi3).toNat [])) (atomS (bs.getD (vi3).toNat [])) vl4)) (Bmade12_3 F f1 ns bs hw vi1 vs2 vi3 (atomS (ns.getD (vi3).toNat [])) (atomS (bs.getD (vi3).toNat [])) vl4)))))) (need (vs2.length ≤ 40000) (need ((listA vs2).length ≤ 1000000 ∧ vl4.length ≤ 1000000) (need ((sameA (listA vs2) vl4) = true → lenok (([103, 114, 111, 117, 112, 58, 32] : List UInt8).length + vs2.length)) (need ((sameA (listA vs2) vl4) = true → lenok ((([103, 114, 111, 117, 112, 58, 32] : List UInt8) ++ vs2).length + ([59] : List UInt8).length)) (need ((sameA (listA vs2) vl4) = true → ((([103, 114, 111, 117, 112, 58, 32] : List UInt8) ++ vs2) ++ ([59] : List UInt8)).length ≤ 40000) (need ((sameA (listA vs2) vl4) = true → (listA ((([103, 114, 111, 117, 112, 58, 32] : List UInt8) ++ vs2) ++ ([59] : List UInt8))).length ≤ 1000000 ∧ vl4.length ≤ 1000000) (some (.p (.bool (((sameA (listA vs2) vl4) && (sameA (listA ((([103, 114, 111, 117, 112, 58, 32] : List UInt8) ++ vs2) ++ ([59] : List UInt8))) vl4)) && true)), [])))))))) :=
  Eq.trans (show Bmade12_2 F (f1 + 1) ns bs hw vi1 vs2 vi3 vl4 = cond (decide (vi3 < vi1)) (need (0 ≤ vi3 ∧ vi3 < (ns.length : Int)) (need ((ns.getD (vi3).toNat []).length ≤ 140737488355328) (need (0 ≤ vi3 ∧ vi3 < (bs.length : Int)) (need ((bs.getD (vi3).toNat []).length ≤ 140737488355328) (cond (decide (vi3 > (0 : Int))) (need (lenok (vs2.length + ([44, 32] : List UInt8).length)) (Bmade12_3 F f1 ns bs hw vi1 (vs2 ++ ([44, 32] : List UInt8)) vi3 (atomS (ns.getD (vi3).toNat [])) (atomS (bs.getD (vi3).toNat [])) vl4)) (Bmade12_3 F f1 ns bs hw vi1 vs2 vi3 (atomS (ns.getD (vi3).toNat [])) (atomS (bs.getD (vi3).toNat [])) vl4)))))) (need (vs2.length ≤ 40000) (need ((listA vs2).length ≤ 1000000 ∧ vl4.length ≤ 1000000) (need ((sameA (listA vs2) vl4) = true → (sameA (listA vs2) vl4) = true) (need ((sameA (listA vs2) vl4) = true → lenok (([103, 114, 111, 117, 112, 58, 32] : List UInt8).length + vs2.length)) (need ((sameA (listA vs2) vl4) = true → (sameA (listA vs2) vl4) = true) (need ((sameA (listA vs2) vl4) = true → lenok ((([103, 114, 111, 117, 112, 58, 32] : List UInt8) ++ vs2).length + ([59] : List UInt8).length)) (need ((sameA (listA vs2) vl4) = true → (sameA (listA vs2) vl4) = true) (need ((sameA (listA vs2) vl4) = true → ((([103, 114, 111, 117, 112, 58, 32] : List UInt8) ++ vs2) ++ ([59] : List UInt8)).length ≤ 40000) (need ((sameA (listA vs2) vl4) = true → (sameA (listA vs2) vl4) = true) (need ((sameA (listA vs2) vl4) = true → (sameA (listA vs2) vl4) = true) (need ((sameA (listA vs2) vl4) = true → (listA ((([103, 114, 111, 117, 112, 58, 32] : List UInt8) ++ vs2) ++ ([59] : List UInt8))).length ≤ 1000000 ∧ vl4.length ≤ 1000000) (need ((sameA (listA vs2) vl4) = true → (sameA (listA vs2) vl4) = true) (need (((sameA (listA vs2) vl4) && (sameA (listA ((([103, 114, 111, 117, 112, 58, 32] : List UInt8) ++ vs2) ++ ([59] : List UInt8))) vl4)) = true → ((sameA (listA vs2) vl4) && (sameA (listA ((([103, 114, 111, 117, 112, 58, 32] : List UInt8) ++ vs2) ++ ([59] : List UInt8))) vl4)) = true) (some (.p (.bool (((sameA (listA vs2) vl4) && (sameA (listA ((([103, 114, 111, 117, 112, 58, 32] : List UInt8) ++ vs2) ++ ([59] : List UInt8))) vl4)) && true)), []))))))))))))))) by kernel_rfl) (cond_congr (rfl) (need_congr (need_congr (need_strike (show (sameA (listA vs2) vl4) = true → (sameA (listA vs2) vl4) = true from (fun q0 => q0)) (need_congr (need_strike (show (sameA (listA vs2) vl4) = true → (sameA (listA vs2) vl4) = true from (fun q0 => q0)) (need_congr (need_strike (show (sameA (listA vs2) vl4) = true → (sameA (listA vs2) vl4) = true from (fun q0 => q0)) (need_congr (need_strike (show (sameA (listA vs2) vl4) = true → (sameA (listA vs2) vl4) = true from (fun q0 => q0)) (need_strike (show (sameA (listA vs2) vl4) = true → (sameA (listA vs2) vl4) = true from (fun q0 => q0)) (need_congr (need_strike (show (sameA (listA vs2) vl4) = true → (sameA (listA vs2) vl4) = true from (fun q0 => q0)) (need_strike (show ((sameA (listA vs2) vl4) && (sameA (listA ((([103, 114, 111, 117, 112, 58, 32] : List UInt8) ++ vs2) ++ ([59] : List UInt8))) vl4)) = true → ((sameA (listA vs2) vl4) && (sameA (listA ((([103, 114, 111, 117, 112, 58, 32] : List UInt8) ++ vs2) ++ ([59] : List UInt8))) vl4)) = true from (fun q0 => q0)) (rfl)))))))))))))))

theorem Bmade12_3_eq (F f1 : Nat) (ns bs : List (List UInt8)) (hw : List UInt8) (vi1 : Int) (vs5 : List UInt8) (vi3 : Int) (vs6 vs7 : List UInt8) (vl4 : List (List UInt8 × List UInt8 × List UInt8)) : Bmade12_3 F f1 ns bs hw vi1 vs5 vi3 vs6 vs7 vl4 = need (0 ≤ vi3 ∧ vi3 < (hw.length : Int)) ((cond ((((hw.getD (vi3).toNat 0).toNat : Int).tmod (4 : Int)) == (0 : Int)) (need (lenok (vs5.length + vs7.length)) (need (lenok ((vs5 ++ vs7).length + ([64, 104, 46, 120] : List UInt8).length)) (need ((vl4.length + [(([] : List UInt8), (vs7, ([104, 46, 120] : List UInt8)))].length) * 48 ≤ 140737488355328) (Bmade12_4 F f1 ns bs hw vi1 ((vs5 ++ vs7) ++ ([64, 104, 46, 120] : List UInt8)) vi3 (vl4 ++ [(([] : List UInt8), (vs7, ([104, 46, 120] : List UInt8)))]))))) (cond ((((hw.getD (vi3).toNat 0).toNat : Int).tmod (4 : Int)) == (1 : Int)) (need (lenok (vs5.length + vs6.length)) (need (lenok ((vs5 ++ vs6).length + ([32, 60] : List UInt8).length)) (need (lenok (((vs5 ++ vs6) ++ ([32, 60] : List UInt8)).length + vs7.length)) (need (lenok ((((vs5 ++ vs6) ++ ([32, 60] : List UInt8)) ++ vs7).length + ([64, 104, 62] : List UInt8).length)) (need ((vl4.length + [(vs6, (vs7, ([104] : List UInt8)))].length) * 48 ≤ 140737488355328) (Bmade12_4 F f1 ns bs hw vi1 ((((vs5 ++ vs6) ++ ([32, 60] : List UInt8)) ++ vs7) ++ ([64, 104, 62] : List UInt8)) vi3 (vl4 ++ [(vs6, (vs7, ([104] : List UInt8)))]))))))) (cond ((((hw.getD (vi3).toNat 0).toNat : Int).tmod (4 : Int)) == (2 : Int)) (need (lenok (vs5.length + ([34] : List UInt8).length)) (need (lenok ((vs5 ++ ([34] : List UInt8)).length + vs6.length)) (need (lenok (((vs5 ++ ([34] : List UInt8)) ++ vs6).length + ([44, 32] : List UInt8).length)) (need (lenok ((((vs5 ++ ([34] : List UInt8)) ++ vs6) ++ ([44, 32] : List UInt8)).length + vs7.length)) (need (lenok (((((vs5 ++ ([34] : List UInt8)) ++ vs6) ++ ([44, 32] : List UInt8)) ++ vs7).length + ([34, 32, 60] : List UInt8).length)) (need (lenok ((((((vs5 ++ ([34] : List UInt8)) ++ vs6) ++ ([44, 32] : List UInt8)) ++ vs7) ++ ([34, 32, 60] : List UInt8)).length + vs7.length)) (need (lenok (((((((vs5 ++ ([34] : List UInt8)) ++ vs6) ++ ([44, 32] : List UInt8)) ++ vs7) ++ ([34, 32, 60] : List UInt8)) ++ vs7).length + ([64, 104, 62] : List UInt8).length)) (Bmade12_5 F f1 ns bs hw vi1 (((((((vs5 ++ ([34] : List UInt8)) ++ vs6) ++ ([44, 32] : List UInt8)) ++ vs7) ++ ([34, 32, 60] : List UInt8)) ++ vs7) ++ ([64, 104, 62] : List UInt8)) vi3 vs6 vs7 vl4)))))))) (need (lenok (vs5.length + vs6.length)) (need (lenok ((vs5 ++ vs6).length + ([32, 40, 114, 101, 44, 32, 40, 109, 97, 41, 32, 114, 107, 41, 32] : List UInt8).length)) (need (lenok (((vs5 ++ vs6) ++ ([32, 40, 114, 101, 44, 32, 40, 109, 97, 41, 32, 114, 107, 41, 32] : List UInt8)).length + vs7.length)) (need (lenok ((((vs5 ++ vs6) ++ ([32, 40, 114, 101, 44, 32, 40, 109, 97, 41, 32, 114, 107, 41, 32] : List UInt8)) ++ vs7).length + ([32, 60] : List UInt8).length)) (need (lenok (((((vs5 ++ vs6) ++ ([32, 40, 114, 101, 44, 32, 40, 109, 97, 41, 32, 114, 107, 41, 32] : List UInt8)) ++ vs7) ++ ([32, 60] : List UInt8)).length + vs7.length)) (need (lenok ((((((vs5 ++ vs6) ++ ([32, 40, 114, 101, 44, 32, 40, 109, 97, 41, 32, 114, 107, 41, 32] : List UInt8)) ++ vs7) ++ ([32, 60] : List UInt8)) ++ vs7).length + ([64, 104, 62] : List UInt8).length)) (Bmade12_6 F f1 ns bs hw vi1 ((((((vs5 ++ vs6) ++ ([32, 40, 114, 101, 44, 32, 40, 109, 97, 41, 32, 114, 107, 41, 32] : List UInt8)) ++ vs7) ++ ([32, 60] : List UInt8)) ++ vs7) ++ ([64, 104, 62] : List UInt8)) vi3 vs6 vs7 vl4))))))))))) := by
  have h : Bmade12_3 F f1 ns bs hw vi1 vs5 vi3 vs6 vs7 vl4 = need (0 ≤ vi3 ∧ vi3 < (hw.length : Int)) (need ((4 : Int) ≠ 0) (cond ((((hw.getD (vi3).toNat 0).toNat : Int).tmod (4 : Int)) == (0 : Int)) (need (lenok (vs5.length + vs7.length)) (need (lenok ((vs5 ++ vs7).length + ([64, 104, 46, 120] : List UInt8).length)) (need ((vl4.length + [(([] : List UInt8), (vs7, ([104, 46, 120] : List UInt8)))].length) * 48 ≤ 140737488355328) (Bmade12_4 F f1 ns bs hw vi1 ((vs5 ++ vs7) ++ ([64, 104, 46, 120] : List UInt8)) vi3 (vl4 ++ [(([] : List UInt8), (vs7, ([104, 46, 120] : List UInt8)))]))))) (cond ((((hw.getD (vi3).toNat 0).toNat : Int).tmod (4 : Int)) == (1 : Int)) (need (lenok (vs5.length + vs6.length)) (need (lenok ((vs5 ++ vs6).length + ([32, 60] : List UInt8).length)) (need (lenok (((vs5 ++ vs6) ++ ([32, 60] : List UInt8)).length + vs7.length)) (need (lenok ((((vs5 ++ vs6) ++ ([32, 60] : List UInt8)) ++ vs7).length + ([64, 104, 62] : List UInt8).length)) (need ((vl4.length + [(vs6, (vs7, ([104] : List UInt8)))].length) * 48 ≤ 140737488355328) (Bmade12_4 F f1 ns bs hw vi1 ((((vs5 ++ vs6) ++ ([32, 60] : List UInt8)) ++ vs7) ++ ([64, 104, 62] : List UInt8)) vi3 (vl4 ++ [(vs6, (vs7, ([104] : List UInt8)))]))))))) (cond ((((hw.getD (vi3).toNat 0).toNat : Int).tmod (4 : Int)) == (2 : Int)) (need (lenok (vs5.length + ([34] : List UInt8).length)) (need (lenok ((vs5 ++ ([34] : List UInt8)).length + vs6.length)) (need (lenok (((vs5 ++ ([34] : List UInt8)) ++ vs6).length + ([44, 32] : List UInt8).length)) (need (lenok ((((vs5 ++ ([34] : List UInt8)) ++ vs6) ++ ([44, 32] : List UInt8)).length + vs7.length)) (need (lenok (((((vs5 ++ ([34] : List UInt8)) ++ vs6) ++ ([44, 32] : List UInt8)) ++ vs7).length + ([34, 32, 60] : List UInt8).length)) (need (lenok ((((((vs5 ++ ([34] : List UInt8)) ++ vs6) ++ ([44, 32] : List UInt8)) ++ vs7) ++ ([34, 32, 60] : List UInt8)).length + vs7.length)) (need (lenok (((((((vs5 ++ ([34] : List UInt8)) ++ vs6) ++ ([44, 32] : List UInt8)) ++ vs7) ++ ([34, 32, 60] : List UInt8)) ++ vs7).length + ([64, 104, 62] : List UInt8).length)) (Bmade12_5 F f1 ns bs hw vi1 (((((((vs5 ++ ([34] : List UInt8)) ++ vs6) ++ ([44, 32] : List UInt8)) ++ vs7) ++ ([34, 32, 60] : List UInt8)) ++ vs7) ++ ([64, 104, 62] : List UInt8)) vi3 vs6 vs7 vl4)))))))) (need (lenok (vs5.length + vs6.length)) (need (lenok ((vs5 ++ vs6).length + ([32, 40, 114, 101, 44, 32, 40, 109, 97, 41, 32, 114, 107, 41, 32] : List UInt8).length)) (need (lenok (((vs5 ++ vs6) ++ ([32, 40, 114, 101, 44, 32, 40, 109, 97, 41, 32, 114, 107, 41, 32] : List UInt8)).length + vs7.length)) (need (lenok ((((vs5 ++ vs6) ++ ([32, 40, 114, 101, 44, 32, 40, 109, 97, 41, 32, 114, 107, 41, 32] : List UInt8)) ++ vs7).length + ([32, 60] : List UInt8).length)) (need (lenok (((((vs5 ++ vs6) ++ ([32, 40, 114, 101, 44, 32, 40, 109, 97, 41, 32, 114, 107, 41, 32] : List UInt8)) ++ vs7) ++ ([32, 60] : List UInt8)).length + vs7.length)) (need (lenok ((((((vs5 ++ vs6) ++ ([32, 40, 114, 101, 44, 32, 40, 109, 97, 41, 32, 114, 107, 41, 32] : List UInt8)) ++ vs7) ++ ([32, 60] : List UInt8)) ++ vs7).length + ([64, 104, 62] : List UInt8).length)) (Bmade12_6 F f1 ns bs hw vi1 ((((((vs5 ++ vs6) ++ ([32, 40, 114, 101, 44, 32, 40, 109, 97, 41, 32, 114, 107, 41, 32] : List UInt8)) ++ vs7) ++ ([32, 60] : List UInt8)) ++ vs7) ++ ([64, 104, 62] : List UInt8)) vi3 vs6 vs7 vl4))))))))))) := by kernel_rfl
  rw [h, need_pos (show (4 : Int) ≠ 0 from (by decide))]

theorem Bmade12_4_eq (F f1 : Nat) (ns bs : List (List UInt8)) (hw : List UInt8) (vi1 : Int) (vs8 : List UInt8) (vi3 : Int) (vl9 : List (List UInt8 × List UInt8 × List UInt8)) : Bmade12_4 F f1 ns bs hw vi1 vs8 vi3 vl9 = need (i64ok (vi3 + (1 : Int))) (Bmade12_2 F f1 ns bs hw vi1 vs8 (vi3 + (1 : Int)) vl9) := by kernel_rfl

theorem Bmade12_5_eq (F f1 : Nat) (ns bs : List (List UInt8)) (hw : List UInt8) (vi1 : Int) (vs10 : List UInt8) (vi3 : Int) (vs6 vs7 : List UInt8) (vl4 : List (List UInt8 × List UInt8 × List UInt8)) : Bmade12_5 F f1 ns bs hw vi1 vs10 vi3 vs6 vs7 vl4 = need (lenok (vs6.length + ([44, 32] : List UInt8).length)) (need (lenok ((vs6 ++ ([44, 32] : List UInt8)).length + vs7.length)) (need ((vl4.length + [((vs6 ++ ([44, 32] : List UInt8)) ++ vs7, (vs7, ([104] : List UInt8)))].length) * 48 ≤ 140737488355328) (Bmade12_4 F f1 ns bs hw vi1 vs10 vi3 (vl4 ++ [((vs6 ++ ([44, 32] : List UInt8)) ++ vs7, (vs7, ([104] : List UInt8)))])))) := by kernel_rfl

theorem Bmade12_6_eq (F f1 : Nat) (ns bs : List (List UInt8)) (hw : List UInt8) (vi1 : Int) (vs11 : List UInt8) (vi3 : Int) (vs6 vs7 : List UInt8) (vl4 : List (List UInt8 × List UInt8 × List UInt8)) : Bmade12_6 F f1 ns bs hw vi1 vs11 vi3 vs6 vs7 vl4 = need (lenok (vs6.length + ([32] : List UInt8).length)) (need (lenok ((vs6 ++ ([32] : List UInt8)).length + vs7.length)) (need ((vl4.length + [((vs6 ++ ([32] : List UInt8)) ++ vs7, (vs7, ([104] : List UInt8)))].length) * 48 ≤ 140737488355328) (Bmade12_4 F f1 ns bs hw vi1 vs11 vi3 (vl4 ++ [((vs6 ++ ([32] : List UInt8)) ++ vs7, (vs7, ([104] : List UInt8)))])))) := by kernel_rfl

theorem Fmade12_eq (F : Nat) (ns bs : List (List UInt8)) (hw : List UInt8) : Fmade12 F ns bs hw = Bmade12_1 F ns bs hw (if (20 : Int) < (if (hw.length : Int) < (if (bs.length : Int) < (ns.length : Int) then (bs.length : Int) else (ns.length : Int)) then (hw.length : Int) else (if (bs.length : Int) < (ns.length : Int) then (bs.length : Int) else (ns.length : Int))) then (20 : Int) else (if (hw.length : Int) < (if (bs.length : Int) < (ns.length : Int) then (bs.length : Int) else (ns.length : Int)) then (hw.length : Int) else (if (bs.length : Int) < (ns.length : Int) then (bs.length : Int) else (ns.length : Int)))) := by kernel_rfl

theorem fn_made12 (F : Nat) (ns bs : List (List UInt8)) (hw : List UInt8) (r : AV) (h : (∃ M vs, ARels γ0 M [.p (.list 1 (.dat .str ns)), .p (.list 1 (.dat .str bs)), .p (.bytes hw)] vs) → Fmade12 F ns bs hw = some (r, [])) : FnP Tryz.prog 3 [.p (.list 1 (.dat .str ns)), .p (.list 1 (.dat .str bs)), .p (.bytes hw)] r :=
  FnP_run Gmade12 F rfl (EnvOk_mk (l := [(5, sp_atom), (6, sp_same), (7, sp_alist), (8, sp_awake12)]) ⟨ok_atom.any, ok_same.any, ok_alist.any, ok_awake12.any, trivial⟩) (EnvROk_mk (l := []) trivial) (Checked.mixed Tryz.checked) (fn := Tryz.f3) (by kernel_rfl) (by kernel_rfl) rfl h
theorem mod4 (c : UInt8) : (((c.toNat : Nat) : Int).tmod (4 : Int)) = ((c.toNat % 4 : Nat) : Int) := by
  rw [Int.tmod_eq_emod_of_nonneg (Int.natCast_nonneg _)]; omega
theorem made_4 (F f : Nat) (ns bs : List (List UInt8)) (hw : List UInt8) (n : Int) (s a b : List UInt8) (ha : Atom a) (hb : Atom b) (want : List AddrT) (i : Nat) (hi : i < hw.length) (hi2 : i ≤ 20) (hs : s.length ≤ 1000000) (hwt : want.length ≤ 20) :
    Bmade12_3 F f ns bs hw n s (i : Int) a b want = Bmade12_2 F f ns bs hw n (s ++ entS a b ((hw.getD i 0).toNat % 4)) ((i + 1 : Nat) : Int) (want ++ [entA a b ((hw.getD i 0).toNat % 4)]) := by
  have h1 := ha.2.1
  have h2 := hb.2.1
  have hm : (hw.getD i 0).toNat % 4 < 4 := Nat.mod_lt _ (by decide)
  rw [Bmade12_3_eq, Int.toNat_natCast, mod4]
  generalize (hw.getD i 0).toNat % 4 = m at hm
  refine need_mk ⟨by omega, by omega⟩ ?_
  unfold entS entA
  by_cases m0 : m = 0
  · subst m0
    refine cond_t (by decide) (need_mk (by unfold lenok; first | omega | (simp; omega)) (need_mk (by unfold lenok; first | omega | (simp; omega)) (need_mk (by simp; omega) ?_)))
    rw [Bmade12_4_eq]
    refine need_mk (by unfold i64ok; omega) ?_
    simp
  refine cond_f (by simpa using m0) ?_
  rw [if_neg m0, if_neg m0]
  by_cases m1 : m = 1
  · subst m1
    refine cond_t (by decide) (need_mk (by unfold lenok; first | omega | (simp; omega)) (need_mk (by unfold lenok; first | omega | (simp; omega)) (need_mk (by unfold lenok; first | omega | (simp; omega)) (need_mk (by unfold lenok; first | omega | (simp; omega)) (need_mk (by simp; omega) ?_)))))
    rw [Bmade12_4_eq]
    refine need_mk (by unfold i64ok; omega) ?_
    simp
  refine cond_f (by rw [beq_eq_false_iff_ne]; omega) ?_
  rw [if_neg m1, if_neg m1]
  by_cases m2 : m = 2
  · subst m2
    refine cond_t (by decide) (need_mk (by unfold lenok; first | omega | (simp; omega)) (need_mk (by unfold lenok; first | omega | (simp; omega)) (need_mk (by unfold lenok; first | omega | (simp; omega)) (need_mk (by unfold lenok; first | omega | (simp; omega)) (need_mk (by unfold lenok; first | omega | (simp; omega)) (need_mk (by unfold lenok; first | omega | (simp; omega)) (need_mk (by unfold lenok; first | omega | (simp; omega)) ?_)))))))
    rw [Bmade12_5_eq]
    refine need_mk (by unfold lenok; first | omega | (simp; omega)) (need_mk (by unfold lenok; first | omega | (simp; omega)) (need_mk (by simp; omega) ?_))
    rw [Bmade12_4_eq]
    refine need_mk (by unfold i64ok; omega) ?_
    simp
  · refine cond_f (by rw [beq_eq_false_iff_ne]; omega) ?_
    rw [if_neg m2, if_neg m2]
    refine need_mk (by unfold lenok; first | omega | (simp; omega)) (need_mk (by unfold lenok; first | omega | (simp; omega)) (need_mk (by unfold lenok; first | omega | (simp; omega)) (need_mk (by unfold lenok; first | omega | (simp; omega)) (need_mk (by unfold lenok; first | omega | (simp; omega)) (need_mk (by unfold lenok; first | omega | (simp; omega)) ?_)))))
    rw [Bmade12_6_eq]
    refine need_mk (by unfold lenok; first | omega | (simp; omega)) (need_mk (by unfold lenok; first | omega | (simp; omega)) (need_mk (by simp; omega) ?_))
    rw [Bmade12_4_eq]
    refine need_mk (by unfold i64ok; omega) ?_
    simp [rkT]
theorem made_loop (F : Nat) (ns bs : List (List UInt8)) (hw : List UInt8) (n : Nat) (h1 : n ≤ ns.length) (h2 : n ≤ bs.length) (h3 : n ≤ hw.length) (h20 : n ≤ 20) (hn : ∀ x ∈ ns, x.length ≤ 140737488355328) (hb : ∀ x ∈ bs, x.length ≤ 140737488355328) :
    ∀ (k i f : Nat) (s : List UInt8) (want : List AddrT), i + k = n → k < f → (i = 0 → s = [] ∧ want = []) → Made s want → s.length ≤ 250 * i → want.length ≤ i → Bmade12_2 F f ns bs hw (n : Int) s (i : Int) want = some (.p (.bool true), [])
  | 0, i, f, s, want, hk, hf, h0, hm, hs, hwt => by
    obtain ⟨f, rfl⟩ : ∃ k, f = k + 1 := ⟨f - 1, by omega⟩
    have e1 := list_made hm
    have e2 := list_group hm
    have e3 : sameA want want = true := by unfold sameA; exact decide_eq_true rfl
    rw [Bmade12_2_eq, e1, e2, e3]
    refine cond_f (decide_eq_false (by omega)) (need_mk (by omega) (need_mk ⟨by omega, by omega⟩ (need_mk (fun _ => by unfold lenok; simp; omega) (need_mk (fun _ => by unfold lenok; simp; omega) (need_mk (fun _ => by simp; omega) (need_mk (fun _ => ⟨by omega, by omega⟩) rfl))))))
  | k + 1, i, f, s, want, hk, hf, h0, hm, hs, hwt => by
    obtain ⟨f, rfl⟩ : ∃ k, f = k + 1 := ⟨f - 1, by omega⟩
    have gn : (ns.getD i []).length ≤ 140737488355328 := by
      rw [List.getD_eq_getElem?_getD, List.getElem?_eq_getElem (by omega)]; exact hn _ (List.getElem_mem _)
    have gb : (bs.getD i []).length ≤ 140737488355328 := by
      rw [List.getD_eq_getElem?_getD, List.getElem?_eq_getElem (by omega)]; exact hb _ (List.getElem_mem _)
    have ha1 := atom_is (ns.getD i [])
    have hb1 := atom_is (bs.getD i [])
    rw [Bmade12_2_eq, Int.toNat_natCast]
    refine cond_t (decide_eq_true (by omega)) (need_mk ⟨by omega, by omega⟩ (need_mk gn (need_mk ⟨by omega, by omega⟩ (need_mk gb ?_))))
    have hl := ent_len ha1 hb1 ((hw.getD i 0).toNat % 4)
    by_cases hi : i = 0
    · obtain ⟨rfl, rfl⟩ := h0 hi
      refine cond_f (decide_eq_false (by omega)) ?_
      rw [made_4 F f ns bs hw n [] _ _ ha1 hb1 [] i (by omega) (by omega) (by simp) (by simp)]
      exact made_loop F ns bs hw n h1 h2 h3 h20 hn hb k (i + 1) f _ _ (by omega) (by omega) (fun e => by omega) (made_ready ready_nil ha1 hb1 _) (by rw [List.length_append, List.length_nil]; omega) (by simp)
    · refine cond_t (decide_eq_true (by omega)) (need_mk (by unfold lenok; first | omega | (simp; omega)) ?_)
      rw [made_4 F f ns bs hw n _ _ _ ha1 hb1 want i (by omega) (by omega) (by simp; omega) (by omega)]
      exact made_loop F ns bs hw n h1 h2 h3 h20 hn hb k (i + 1) f _ _ (by omega) (by omega) (fun e => by omega) (made_ready (ready_made hm) ha1 hb1 _) (by simp only [List.length_append, List.length_cons, List.length_nil]; omega) (by simp; omega)
theorem made12_true (ns bs : List (List UInt8)) (hw : List UInt8) (hn : ∀ x ∈ ns, x.length ≤ 140737488355328) (hb : ∀ x ∈ bs, x.length ≤ 140737488355328) : Fmade12 22 ns bs hw = some (.p (.bool true), []) := by
  rw [Fmade12_eq, Bmade12_1_eq]
  have hl : ∀ (n : Int), 0 ≤ n → n ≤ ns.length → n ≤ bs.length → n ≤ hw.length → n ≤ 20 → Bmade12_2 22 22 ns bs hw n ([] : List UInt8) (0 : Int) ([] : List AddrT) = some (.p (.bool true), []) := by
    intro n p1 p2 p3 p4 p5
    obtain ⟨n, rfl⟩ := Int.eq_ofNat_of_zero_le p1
    exact made_loop 22 ns bs hw n (by omega) (by omega) (by omega) (by omega) hn hb n 0 22 [] [] (by omega) (by omega) (fun _ => ⟨rfl, rfl⟩) made_nil (by simp) (by simp)
  refine hl _ ?_ ?_ ?_ ?_ ?_ <;> (repeat' split) <;> omega
end Go.Proofs.YtfadnlnmlkemfaaGreatDoor
namespace Go.Proofs.YtfadnlnmlkemfaaGreatDoor
open Go Go.Am
set_option linter.unusedVariables false
/-! A list of bytes as a row of bytes. -/
theorem u8row_lt {n : Int} (h : IntKind.u8.has n) : 0 ≤ n ∧ n < 256 := by
  unfold IntKind.has at h
  simp [IntKind.min, IntKind.max, IntKind.bits, IntKind.signed] at h
  omega
theorem u8_row {M : Mem} {x : List Int} {v : Value} (h : PRel M (.list 1 (.dat (.int .u8) x)) v) : PRel M (.bytes (x.map fun n => UInt8.ofNat n.toNat)) v := by
  have hl : (x.map fun n => UInt8.ofNat n.toNat).length = x.length := by simp
  cases h with
  | listNil _ _ h0 =>
    have : x = [] := List.eq_nil_of_length_eq_zero h0
    subst this; exact .bytesNil
  | list _ _ b off cap g hm hc hM hx =>
    have hm : x.length ≤ maxLen := hm
    have hc : x.length ≤ cap := hc
    show PRel M _ (.slice (some ⟨b, off, none⟩) x.length cap)
    rw [← hl]
    refine .bytes _ b off cap (by rw [hl]; exact hm) (by rw [hl]; exact hc) fun i c hi => ?_
    rw [List.getElem?_map] at hi
    cases hxi : x[i]? with
    | none => rw [hxi] at hi; cases hi
    | some n =>
      rw [hxi] at hi
      have hi : UInt8.ofNat n.toNat = c := Option.some.inj hi
      have hlt : i < x.length := (List.getElem?_eq_some_iff.1 hxi).1
      have h1 := hM i 0 hlt (by omega)
      have h2 := hx i 0 hlt (by omega)
      have h2 : PRel M (.int .u8 (x.getD i 0)) (g i 0) := h2
      rw [List.getD_eq_getElem?_getD, hxi] at h2
      obtain ⟨e, hn⟩ := h2.int_inv
      have hn : IntKind.u8.has n := hn
      have := u8row_lt hn
      rw [show off + i = off + i * 1 + 0 by omega, h1, e, ← hi]
      unfold byteV
      rw [show (UInt8.ofNat n.toNat).toNat = n.toNat by rw [UInt8.toNat_ofNat']; omega, Int.toNat_of_nonneg this.1]
      rfl
end Go.Proofs.YtfadnlnmlkemfaaGreatDoor
namespace Go.Proofs.YtfadnlnmlkemfaaGreatDoor
open Go Go.Am
set_option linter.unusedVariables false
/-! AddrMade, its bytes as a list. -/
theorem fn_made12L (ns bs : List (List UInt8)) (x : List Int) (hn : ∀ y ∈ ns, y.length ≤ 140737488355328) (hb : ∀ y ∈ bs, y.length ≤ 140737488355328) :
    FnP Tryz.prog 3 [.p (.list (wid .str) (.dat .str ns)), .p (.list (wid .str) (.dat .str bs)), .p (.list (wid (.int .u8)) (.dat (.int .u8) x))] (.p (.bool true)) :=
  fun M w vs hM hvs => (fn_made12 22 ns bs (x.map fun n => UInt8.ofNat n.toNat) _ fun _ => made12_true _ _ _ hn hb) M w vs hM (by
    cases hvs with | cons h1 h2 =>
    cases h2 with | cons h2 h3 =>
    cases h3 with | cons h3 h4 =>
    cases h4
    exact .cons h1 (.cons h2 (.cons (.p _ _ (u8_row h3.p_inv)) .nil)))
end Go.Proofs.YtfadnlnmlkemfaaGreatDoor
/-! Slices among the arguments of a row. -/
namespace Go.Am
open Go Go.RowKit Go.ChangeShapes Go.WideShapes

def memOf (w : World) : Mem := fun b o => w.cell? ⟨b, o, none⟩
theorem memOf_ok (w : World) (hg : GOk (memOf w)) : MOk (memOf w) w := ⟨fun _ _ _ h => h, hg⟩

/-- Types whose cells say a code's datum; the fields of a struct from an offset on. -/
inductive EcX (P : Program) : Ec → TypeId ⊕ (List Field × Nat) → Prop
  | bool {t : TypeId} (h : P.underlying t = some .bool) : EcX P .bool (.inl t)
  | int {k : IntKind} {t : TypeId} (h : P.underlying t = some (.int k)) : EcX P (.int k) (.inl t)
  | str {t : TypeId} (h : P.underlying t = some .string) : EcX P .str (.inl t)
  | struct {t : TypeId} {fs : Array Field} {l : List Field} {c : Ec} (h : P.underlying t = some (.struct fs)) (hl : fs.toList = l) (hc : P.cellsOf t = wid c) (hf : EcX P c (.inr (l, 0))) : EcX P c (.inl t)
  | last {c : Ec} {f : Field} {o : Nat} (ho : f.offset = o) (hc : P.cellsOf f.type = wid c) (h : EcX P c (.inl f.type)) : EcX P c (.inr ([f], o))
  | cons {a b : Ec} {f : Field} {fs : List Field} {o o2 : Nat} (ho : f.offset = o) (hc : P.cellsOf f.type = wid a) (h : EcX P a (.inl f.type)) (h2 : o2 = o + wid a) (hr : EcX P b (.inr (fs, o2))) : EcX P (.pair a b) (.inr (f :: fs, o))

/-- The lengths of the texts in a datum. -/
def lensB : (c : Ec) → Elt c → List Nat
  | .str, x => [List.length (α := UInt8) x]
  | .pair a b, x => lensB a x.1 ++ lensB b x.2
  | _, _ => []

section
variable {H : Type} {enc : TypeId × Value → H} {P : Program} {w : World} {spare : Nat → Bool} {held : Bool} {M : Mem}

theorem weightsEach_mem : ∀ {ts : List TypeId} {ds : List (DataW H)} {i : Nat} {t : TypeId} {d : DataW H} {n : Nat}, ts[i]? = some t → ds[i]? = some d → n ∈ d.weights P t → n ∈ DataW.weightsEach P ts ds
  | [], _, _, _, _, _, h, _, _ => by simp at h
  | _ :: _, [], _, _, _, _, _, h, _ => by simp at h
  | u :: ts, e :: ds, 0, t, d, n, h1, h2, h3 => by
    simp at h1 h2; subst h1; subst h2
    rw [DataW.weightsEach]; exact List.mem_append_left _ h3
  | u :: ts, e :: ds, i + 1, t, d, n, h1, h2, h3 => by
    rw [DataW.weightsEach]; exact List.mem_append_right _ (weightsEach_mem (by simpa using h1) (by simpa using h2) h3)
theorem weightsAll_mem {e : TypeId} : ∀ {ds : List (DataW H)} {d : DataW H} {n : Nat}, d ∈ ds → n ∈ d.weights P e → n ∈ DataW.weightsAll P e ds
  | [], _, _, h, _ => by cases h
  | d' :: ds, d, n, h, hn => by
    rw [DataW.weightsAll]
    rcases List.mem_cons.1 h with h | h
    · subst h; exact List.mem_append_left _ hn
    · exact List.mem_append_right _ (weightsAll_mem h hn)

theorem open_ec {c : Ec} {x : TypeId ⊕ (List Field × Nat)} (h : EcX P c x) : match x with
  | .inl t => ∀ (fuel : Nat) (cs : List Value) (y : DataW H × List MemPlace), DataW.trod enc P w 0 spare held fuel t cs = some y → ∃ d : Elt c, (∀ j, j < wid c → PRel M (cell c d j) (cs.getD j undef)) ∧ ∀ n ∈ lensB c d, n ∈ y.1.weights P t
  | .inr (fs, o) => ∀ (fuel : Nat) (cs : List Value), (∀ f ∈ fs, ∃ y, DataW.trod enc P w 0 spare held fuel f.type ((cs.drop f.offset).take (P.cellsOf f.type)) = some y) →
      ∃ d : Elt c, (∀ j, j < wid c → PRel M (cell c d j) (cs.getD (o + j) undef)) ∧ ∀ n ∈ lensB c d, ∃ f ∈ fs, ∃ y, DataW.trod enc P w 0 spare held fuel f.type ((cs.drop f.offset).take (P.cellsOf f.type)) = some y ∧ n ∈ y.1.weights P f.type := by
  induction h with
  | bool h =>
    intro fuel cs y hy
    obtain ⟨b, rfl, _⟩ := DataW.trod_bool h hy
    exact ⟨b, fun j hj => by have : j = 0 := by (have := hj; simp only [wid] at this; omega)
                             subst this; exact .bool b, fun n hn => by cases hn⟩
  | int h =>
    intro fuel cs y hy
    obtain ⟨n, rfl, _, hw⟩ := DataW.trod_int h hy
    exact ⟨n, fun j hj => by have : j = 0 := by (have := hj; simp only [wid] at this; omega)
                             subst this; exact .int _ n (has_wf hw), fun n hn => by cases hn⟩
  | str h =>
    intro fuel cs y hy
    obtain ⟨s, rfl, hy', hw⟩ := DataW.trod_string h hy
    refine ⟨s.data.toList, fun j hj => by have : j = 0 := by (have := hj; simp only [wid] at this; omega)
                                          subst this; exact .str s.data.toList (by rw [Array.length_toList]; exact hw), fun n hn => ?_⟩
    subst hy'
    rw [DataW.weights]; exact hn
  | struct h hl hc hf ih =>
    intro fuel cs y hy
    obtain ⟨xs, n, rfl, hy', hlen, hxs, hall⟩ := DataW.trod_struct h hy
    rename_i t fs l c
    have hgo : ∀ f ∈ l, ∃ (i : Nat) (hi : i < xs.length), fs.toList[i]? = some f ∧ DataW.trod enc P w 0 spare held n f.type ((cs.drop f.offset).take (P.cellsOf f.type)) = some xs[i] := fun f hf => by
      rw [← hl] at hf
      obtain ⟨i, hi⟩ := List.getElem?_of_mem hf
      have hi' := hi
      rw [Array.getElem?_toList] at hi'
      have hlt : i < xs.length := by
        rw [hxs]
        have := (List.getElem?_eq_some_iff.1 hi).1
        simpa using this
      have := hall i f hi'
      rw [List.getElem?_eq_getElem hlt] at this
      exact ⟨i, hlt, hi, this⟩
    obtain ⟨d, hd, hw⟩ := ih n cs fun f hf => by
      obtain ⟨i, hi, _, h2⟩ := hgo f hf
      exact ⟨_, h2⟩
    refine ⟨d, fun j hj => by have := hd j hj; rwa [Nat.zero_add] at this, fun k hk => ?_⟩
    obtain ⟨f, hf, y2, h2, h3⟩ := hw k hk
    obtain ⟨i, hi, h4, h5⟩ := hgo f hf
    rw [h5] at h2; cases h2
    subst hy'
    rw [DataW.weights, h]
    refine weightsEach_mem (i := i) (t := f.type) (d := xs[i].1) ?_ ?_ h3
    · rw [List.getElem?_map, h4]; rfl
    · rw [List.getElem?_map, List.getElem?_eq_getElem hi]; rfl
  | last ho hc h ih =>
    intro fuel cs hall
    obtain ⟨y, hy⟩ := hall _ (List.mem_singleton.2 rfl)
    obtain ⟨d, hd, hw⟩ := ih fuel _ y hy
    refine ⟨d, fun j hj => ?_, fun n hn => ⟨_, List.mem_singleton.2 rfl, y, hy, hw n hn⟩⟩
    have := hd j hj
    rw [List.getD_eq_getElem?_getD, List.getElem?_take_of_lt (by rw [hc]; exact hj), List.getElem?_drop, ho, ← List.getD_eq_getElem?_getD] at this
    exact this
  | cons ho hc h h2 hr ih ihr =>
    intro fuel cs hall
    obtain ⟨y, hy⟩ := hall _ (List.mem_cons_self ..)
    obtain ⟨d, hd, hw⟩ := ih fuel _ y hy
    obtain ⟨d2, hd2, hw2⟩ := ihr fuel cs fun f hf => hall f (List.mem_cons_of_mem _ hf)
    rename_i a b f fs o o2
    refine ⟨(d, d2), fun j hj => ?_, fun n hn => ?_⟩
    · simp only [cell]
      cases hlt : Nat.blt j (wid a) with
      | true =>
        have hlt : j < wid a := Nat.le_of_ble_eq_true hlt
        have := hd j hlt
        rw [List.getD_eq_getElem?_getD, List.getElem?_take_of_lt (by rw [hc]; exact hlt), List.getElem?_drop, ho, ← List.getD_eq_getElem?_getD] at this
        exact this
      | false =>
        have hge : wid a ≤ j := by
          rcases Nat.lt_or_ge j (wid a) with h5 | h5
          · have : Nat.blt j (wid a) = true := Nat.ble_eq_true_of_le h5
            rw [this] at hlt; cases hlt
          · exact h5
        have hj' : j < wid a + wid b := hj
        have := hd2 (j - wid a) (by omega)
        rw [h2, show o + wid a + (j - wid a) = o + j by omega] at this
        exact this
    · rcases List.mem_append.1 hn with hn | hn
      · exact ⟨f, List.mem_cons_self .., y, hy, hw n hn⟩
      · obtain ⟨f', hf', y', h1, h2⟩ := hw2 n hn
        exact ⟨f', List.mem_cons_of_mem _ hf', y', h1, h2⟩

theorem spot_add {b off n : Nat} : (⟨b, off, none⟩ : Addr).add n = ⟨b, off + n, none⟩ := by
  unfold Addr.add
  split
  · rename_i h; subst h; rfl
  · rfl

theorem okWide_spot {r : Reach} {b0 : Nat} {t e : TypeId} {a : Addr} {len cap : Nat} (ht : P.underlying t = some (.slice e)) (h : Value.okWide P w r b0 t (.slice (some a) len cap)) : a.spot = none := by
  unfold Value.okWide at h
  rw [ht] at h
  simp only [Cell.okWide, Cell.ok, ht] at h
  exact h.2.2.2.1

theorem open_list {r : Reach} {b0 : Nat} {t e : TypeId} {a : Ec} {v : Value} {d : DataW H} {ps : List MemPlace} (ht : P.underlying t = some (.slice e)) (hc : P.cellsOf e = wid a) (ha : EcX P a (.inl e))
    (hval : Value.okWide P w r b0 t v) (hd : DataW.Trod enc P w 0 spare held t v d ps) : ∃ l : List (Elt a), ARel γ0 (memOf w) (.p (.list (wid a) (.dat a l))) v ∧ (∀ x ∈ l, ∀ n ∈ lensB a x, n ∈ d.weights P t) ∧ (l ≠ [] → ∃ m, l.length ≤ m ∧ m * P.bytesOf e ∈ d.weights P t) := by
  obtain ⟨a0, len, cap, rfl⟩ := okWide_slice ht hval
  obtain ⟨fuel, hf⟩ := hd
  rcases Go.Deep.open_slice ht hf with ⟨h0, _⟩ | ⟨q, len', cap', m, n, D, Pl, h0, hb, hl, hm, hmm, hdd, hx⟩
  · simp only [Value.cells, List.cons.injEq, Value.slice.injEq, and_true] at h0
    obtain ⟨rfl, rfl, rfl⟩ := h0
    exact ⟨[], .p _ _ (.listNil _ _ rfl), fun x hx => (by cases hx), fun h => absurd rfl h⟩
  · simp only [Value.cells, List.cons.injEq, Value.slice.injEq, and_true] at h0
    obtain ⟨rfl, rfl, rfl⟩ := h0
    have hspot := okWide_spot ht hval
    obtain ⟨bl, off, sp⟩ := q
    dsimp only at hspot
    subst hspot
    have hlm : len ≤ m := by rw [hmm]; split <;> omega
    obtain ⟨cs, hcs⟩ := Go.Deep.choose_lt (α := List Value) (p := fun i cs' => w.cells? 0 ((⟨bl, off, none⟩ : Addr).add (i * P.cellsOf e)) (P.cellsOf e) = some cs' ∧ DataW.trod enc P w 0 spare held n e cs' = some (D i, Pl i)) hx
    have hex : ∀ i, i < m → ∃ d : Elt a, (∀ j, j < wid a → PRel (memOf w) (cell a d j) ((cs i).getD j undef)) ∧ ∀ k ∈ lensB a d, k ∈ (D i).weights P e := fun i hi => open_ec ha n (cs i) _ (hcs i hi).2
    letI : Inhabited (Elt a) := ⟨dfl a⟩
    obtain ⟨E, hE⟩ := Go.Deep.choose_lt hex
    have hlen : ((List.range len).map E).length = len := by simp
    have hd1 : d = .slice ((List.range len).map D) ((List.range (m - len)).map fun j => D (len + j)) := congrArg Prod.fst hdd
    have hwd : d.weights P t = (((List.range len).map D).length + ((List.range (m - len)).map fun j => D (len + j)).length) * P.bytesOf e :: (DataW.weightsAll P e ((List.range len).map D) ++ DataW.weightsAll P e ((List.range (m - len)).map fun j => D (len + j))) := by
      rw [hd1, DataW.weights, ht]
    refine ⟨(List.range len).map E, ?_, fun x hx k hk => ?_, fun _ => ⟨_, ?_, by rw [hwd]; exact List.mem_cons_self ..⟩⟩
    rotate_left
    · obtain ⟨i, hi, rfl⟩ := List.mem_map.1 hx
      have hi := List.mem_range.1 hi
      rw [hwd]
      refine List.mem_cons_of_mem _ (List.mem_append_left _ (weightsAll_mem (d := D i) (List.mem_map.2 ⟨i, List.mem_range.2 hi, rfl⟩) ((hE i (by omega)).2 k hk)))
    · simp
    have hget : ∀ i, i < len → ((List.range len).map E).getD i (dfl a) = E i := fun i hi => by
      rw [List.getD_eq_getElem?_getD, List.getElem?_map, List.getElem?_range hi]; rfl
    have key : PRel (memOf w) (.list (wid a) (.dat a ((List.range len).map E))) (.slice (some ⟨bl, off, none⟩) (Rows.dat a ((List.range len).map E)).n cap) := by
      refine .list _ _ bl off cap (fun i j => (cs i).getD j undef) ?_ ?_ (fun i j hi hj => ?_) (fun i j hi hj => ?_)
      · show ((List.range len).map E).length ≤ maxLen
        rw [hlen]; exact Nat.le_trans hl hm
      · show ((List.range len).map E).length ≤ cap
        rw [hlen]; exact hl
      · have hi' : i < len := by have : i < ((List.range len).map E).length := hi
                                 rwa [hlen] at this
        obtain ⟨_, h2, h3⟩ := World.cells?_some (hcs i (by omega)).1
        have := h3 j (by rw [hc]; exact hj)
        rw [spot_add, spot_add, hc] at this
        show w.cell? ⟨bl, off + i * wid a + j, none⟩ = _
        rw [this, List.getD_eq_getElem?_getD, List.getElem?_eq_getElem (by rw [h2, hc]; exact hj)]
        rfl
      · have hi' : i < len := by have : i < ((List.range len).map E).length := hi
                                 rwa [hlen] at this
        show PRel _ (cell a (((List.range len).map E).getD i (dfl a)) j) _
        rw [hget i hi']
        exact (hE i (by omega)).1 j hj
    have hn : (Rows.dat a ((List.range len).map E)).n = len := hlen
    rw [hn] at key
    exact .p _ _ key
end

theorem walk_of_FnP2 {P : Program} {f : FuncId} {args : List AV} (h : FnP P f args (.p (.bool true))) {vs : List Value} (w : World) (hg : GOk (memOf w)) (hv : ARels γ0 (memOf w) args vs) :
    Calls P f vs.toArray w fun e w' => e = .returned (.bool true) ∧ Below w.heap.size w w' := by
  refine (h (memOf w) w vs (memOf_ok w hg) hv).mono fun e w' ⟨v, M', he, _, _, _, hr, hb⟩ => ?_
  rw [hr.bool_inv] at he
  exact ⟨he, hb⟩
theorem str_argM (M : Mem) (a : ByteArray) (h : a.size ≤ maxLen) : ARel γ0 M (.p (.str a.data.toList)) (.string a) :=
  .p _ _ (.str a.data.toList (by rw [Array.length_toList]; exact h))
theorem bool_argM (M : Mem) (b : Bool) : ARel γ0 M (.p (.bool b)) (.bool b) := .p _ _ (.bool b)
end Go.Am
set_option linter.unusedVariables false
/-! The row's wrap, with what the world's shape says of the globals. -/
namespace Go.Am
open Go Go.RowKit Go.ChangeShapes Go.WideShapes Go.ChangeAt
variable {H : Type} {enc : TypeId × Value → H}
theorem returns_shaped {a : Assume} {C : Checked} {os : Os} {f : FuncId} {fn : Func} {s : ChangeSpec} {conds : List PathCond} {apart fresh handsOn again : Bool} {X : World → Array Value → Prop}
    (own : ownKnob C.prog.godebug = none) (started : os.Started) (noInit : C.prog.inits.idxOf? f = none) (hfn : C.prog.funcs[f]? = some fn)
    (witness : ∃ (w : World) (tape : Tape) (i : Input), w.os = os ∧ (w.forCall tape i).Shaped C.prog ∧ i.vars = [] ∧ Input.okWide C.prog (w.forCall tape i) .any w.heap.size f i ∧
      ((s.pre enc C.prog fn conds apart (w.forCall tape i).memory i.args ∧ X (w.forCall tape i).memory i.args) ∧ sizedMet enc C.prog fn (OpenSpec.ofChange s) apart (w.forCall tape i).memory i.args) ∧ a.holds C.prog (lone (Frame.enter C.prog f i.args .normal) [] (w.forCall tape i)))
    (contract : ∀ (W : World) (base : Nat) (args : Array Value) (ds gs : List (DataW H)) (before : List MemPlace), W.ShapedOpen C.prog →
      (∀ (j : Nat) t v, fn.params[j]? = some t → args[j]? = some v → Value.okWide C.prog W .any base t v) →
      DataW.Whole enc C.prog fn.params.toList s.vars apart W args.toList ds gs before →
      (DataW.weightsEach C.prog (fn.params.toList ++ s.plain.varTypes C.prog) (ds ++ gs)).all (· ≤ reachBytes) = true →
      Calls C.prog f args W fun e W' => ∃ v, e = .returned v ∧ s.post enc C.prog fn apart fresh handsOn again W args v W') :
    ReturnsInHanded a C os f .any (fun w args => (s.pre enc C.prog fn conds apart w args ∧ X w args) ∧ sizedMet enc C.prog fn (OpenSpec.ofChange s) apart w args) (s.post enc C.prog fn apart fresh handsOn again) := by
  refine returnsInHanded_of_calls own started noInit witness ?_
  intro w tape i _ hsh _ hok hpre _
  obtain ⟨_, _, _, fn', hfn', _, _, _, _, hval⟩ := hok
  have e : fn' = fn := Option.some.inj (hfn'.symm.trans hfn)
  subst e
  obtain ⟨⟨⟨ds, gs, before, hw, _⟩, _⟩, hz⟩ := hpre
  have hw' := DataW.Whole.of_heap (w' := w.forCall tape i) (by rfl) hw
  refine (contract (w.forCall tape i) w.heap.size i.args ds gs before hsh hval hw' (hz.weights hw)).mono fun e W' ⟨v, he, hp⟩ => ?_
  subst he
  exact ChangeSpec.post_blind hp
end Go.Am
