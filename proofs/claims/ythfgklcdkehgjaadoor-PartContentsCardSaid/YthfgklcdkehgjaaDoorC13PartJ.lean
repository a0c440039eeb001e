/-
  Lifted functions, and facts about them.
-/
import Derived.Test.YthfgklcdkehgjaaDoorRows
import Derived.Test.YthfgklcdkehgjaaDoorAmC
import Derived.Test.YthfgklcdkehgjaaDoorAmNeed
import Derived.Test.YthfgklcdkehgjaaDoorC13PartI
import Derived.Test.YthfgklcdkehgjaaDoorC13B64Loose
import Derived.Test.YthfgklcdkehgjaaDoorC13R1Loose
import Derived.Test.YthfgklcdkehgjaaDoorC13QDec
import Derived.Test.YthfgklcdkehgjaaDoorC13QPlain
namespace Go.Proofs.YthfgklcdkehgjaaDoor
open Go Go.Am
set_option linter.unusedVariables false
/-! What a part has in it. -/
def contP (s : List UInt8) (p : Part) : List UInt8 :=
  if (((decide (p.frm < (0 : Int))) || (decide (p.til > (s.length : Int)))) || (decide (p.frm > p.til))) = true then [] else if p.enc = [98, 97, 115, 101, 54, 52] then looseB ((s.take p.til.toNat).drop p.frm.toNat) else if p.enc = [113, 117, 111, 116, 101, 100, 45, 112, 114, 105, 110, 116, 97, 98, 108, 101] then qdec ((s.take p.til.toNat).drop p.frm.toNat) else (s.take p.til.toNat).drop p.frm.toNat
noncomputable def ccontent : Code := bodyOf Tryd.f21

noncomputable def Gcontent : Cfg := ⟨Tryd.prog, mkEnv [(37, sp_Loose), (38, sp_QDecode)], mkEnvR [], 40, [], [([1, 1, 1, 0, 1, 0, 1, 1, 1], ⟨[5, 35], []⟩)], []⟩

noncomputable def Bcontent_1 (F : Nat) (vs1 : List UInt8) (vc2 : Bool) : Option Ans := runB Gcontent ccontent (kP Tryd.prog Tryd.f21.results.toList) F [] [1, 1, 1, 0, 1, 0, 1, 1, 1] [(5, .p (.str vs1)), (35, .p (.bool vc2))] []

noncomputable def Fcontent (F : Nat) (s ty : List UInt8) (ps : List (List UInt8 × List UInt8)) (en : List UInt8) (at_ : Bool) (h_ f_ t_ : Int) (ks : List Part) : Option Ans := runF Gcontent Tryd.f21 F [.p (.str s), .agg [.p (.str ty), .p (.list 2 (.dat (.pair .str .str) ps)), .p (.str en), .p (.bool at_), .p (.int .i64 h_), .p (.int .i64 f_), .p (.int .i64 t_), .p (.list 8 (.dat .part ks))]]

theorem Bcontent_1_eq (F : Nat) (vs1 : List UInt8) (vc2 : Bool) : Bcontent_1 F vs1 vc2 = cond (vc2) (need (vs1.length ≤ 1000000) (some (.p (.str (qdec vs1)), []))) (some (.p (.str vs1), [])) := by kernel_rfl

theorem Fcontent_eq (F : Nat) (s ty : List UInt8) (ps : List (List UInt8 × List UInt8)) (en : List UInt8) (at_ : Bool) (h_ f_ t_ : Int) (ks : List Part) : Fcontent F s ty ps en at_ h_ f_ t_ ks = cond (((decide (f_ < (0 : Int))) || (decide (t_ > (s.length : Int)))) || (decide (f_ > t_))) (some (.p (.str ([] : List UInt8)), [])) (need (0 ≤ f_ ∧ f_ ≤ t_ ∧ t_ ≤ (s.length : Int)) (cond (en == ([98, 97, 115, 101, 54, 52] : List UInt8)) (need (((s.take (t_).toNat).drop (f_).toNat).length ≤ 1000000) (some (.p (.str (looseB ((s.take (t_).toNat).drop (f_).toNat))), []))) (Bcontent_1 F ((s.take (t_).toNat).drop (f_).toNat) (en == ([113, 117, 111, 116, 101, 100, 45, 112, 114, 105, 110, 116, 97, 98, 108, 101] : List UInt8))))) :=
  Eq.trans (show Fcontent F s ty ps en at_ h_ f_ t_ ks = need ((!(decide (f_ < (0 : Int)))) = true → (!(decide (f_ < (0 : Int)))) = true) (need ((!(decide (f_ < (0 : Int)))) = true → (!(decide (f_ < (0 : Int)))) = true) (need ((!(decide (f_ < (0 : Int)))) = true → (!(decide (f_ < (0 : Int)))) = true) (need ((!(decide (f_ < (0 : Int)))) = true → (!(decide (f_ < (0 : Int)))) = true) (need ((decide (f_ < (0 : Int))) = false → (!(decide (f_ < (0 : Int)))) = true) (need ((!((decide (f_ < (0 : Int))) || (decide (t_ > (s.length : Int))))) = true → (!((decide (f_ < (0 : Int))) || (decide (t_ > (s.length : Int))))) = true) (need ((!((decide (f_ < (0 : Int))) || (decide (t_ > (s.length : Int))))) = true → (!((decide (f_ < (0 : Int))) || (decide (t_ > (s.length : Int))))) = true) (need ((!((decide (f_ < (0 : Int))) || (decide (t_ > (s.length : Int))))) = true → (!((decide (f_ < (0 : Int))) || (decide (t_ > (s.length : Int))))) = true) (need ((!((decide (f_ < (0 : Int))) || (decide (t_ > (s.length : Int))))) = true → (!((decide (f_ < (0 : Int))) || (decide (t_ > (s.length : Int))))) = true) (need (((decide (f_ < (0 : Int))) || (decide (t_ > (s.length : Int)))) = false → (!((decide (f_ < (0 : Int))) || (decide (t_ > (s.length : Int))))) = true) (cond (((decide (f_ < (0 : Int))) || (decide (t_ > (s.length : Int)))) || (decide (f_ > t_))) (some (.p (.str ([] : List UInt8)), [])) (need (0 ≤ f_ ∧ f_ ≤ t_ ∧ t_ ≤ (s.length : Int)) (cond (en == ([98, 97, 115, 101, 54, 52] : List UInt8)) (need (((s.take (t_).toNat).drop (f_).toNat).length ≤ 1000000) (some (.p (.str (looseB ((s.take (t_).toNat).drop (f_).toNat))), []))) (Bcontent_1 F ((s.take (t_).toNat).drop (f_).toNat) (en == ([113, 117, 111, 116, 101, 100, 45, 112, 114, 105, 110, 116, 97, 98, 108, 101] : List UInt8))))))))))))))) by kernel_rfl) (need_strike (show (!(decide (f_ < (0 : Int)))) = true → (!(decide (f_ < (0 : Int)))) = true from (fun q0 => q0)) (need_strike (show (!(decide (f_ < (0 : Int)))) = true → (!(decide (f_ < (0 : Int)))) = true from (fun q0 => q0)) (need_strike (show (!(decide (f_ < (0 : Int)))) = true → (!(decide (f_ < (0 : Int)))) = true from (fun q0 => q0)) (need_strike (show (!(decide (f_ < (0 : Int)))) = true → (!(decide (f_ < (0 : Int)))) = true from (fun q0 => q0)) (need_strike (show (decide (f_ < (0 : Int))) = false → (!(decide (f_ < (0 : Int)))) = true from (fun q0 => (not_mk q0))) (need_strike (show (!((decide (f_ < (0 : Int))) || (decide (t_ > (s.length : Int))))) = true → (!((decide (f_ < (0 : Int))) || (decide (t_ > (s.length : Int))))) = true from (fun q0 => q0)) (need_strike (show (!((decide (f_ < (0 : Int))) || (decide (t_ > (s.length : Int))))) = true → (!((decide (f_ < (0 : Int))) || (decide (t_ > (s.length : Int))))) = true from (fun q0 => q0)) (need_strike (show (!((decide (f_ < (0 : Int))) || (decide (t_ > (s.length : Int))))) = true → (!((decide (f_ < (0 : Int))) || (decide (t_ > (s.length : Int))))) = true from (fun q0 => q0)) (need_strike (show (!((decide (f_ < (0 : Int))) || (decide (t_ > (s.length : Int))))) = true → (!((decide (f_ < (0 : Int))) || (decide (t_ > (s.length : Int))))) = true from (fun q0 => q0)) (need_strike (show ((decide (f_ < (0 : Int))) || (decide (t_ > (s.length : Int)))) = false → (!((decide (f_ < (0 : Int))) || (decide (t_ > (s.length : Int))))) = true from (fun q0 => (not_mk q0))) (rfl)))))))))))

theorem fn_content (F : Nat) (s ty : List UInt8) (ps : List (List UInt8 × List UInt8)) (en : List UInt8) (at_ : Bool) (h_ f_ t_ : Int) (ks : List Part) (r : AV) (h : (∃ M vs, ARels γ0 M [.p (.str s), .agg [.p (.str ty), .p (.list 2 (.dat (.pair .str .str) ps)), .p (.str en), .p (.bool at_), .p (.int .i64 h_), .p (.int .i64 f_), .p (.int .i64 t_), .p (.list 8 (.dat .part ks))]] vs) → Fcontent F s ty ps en at_ h_ f_ t_ ks = some (r, [])) : FnP Tryd.prog 21 [.p (.str s), .agg [.p (.str ty), .p (.list 2 (.dat (.pair .str .str) ps)), .p (.str en), .p (.bool at_), .p (.int .i64 h_), .p (.int .i64 f_), .p (.int .i64 t_), .p (.list 8 (.dat .part ks))]] r :=
  FnP_run Gcontent F rfl (EnvOk_mk (l := [(37, sp_Loose), (38, sp_QDecode)]) ⟨ok_Loose.any, ok_QDecode.any, trivial⟩) (EnvROk_mk (l := []) trivial) (Checked.mixed Tryd.checked) (fn := Tryd.f21) (by kernel_rfl) (by kernel_rfl) rfl h
theorem content_eq (s ty : List UInt8) (ps : List (List UInt8 × List UInt8)) (en : List UInt8) (at_ : Bool) (h f t : Int) (ks : List Part) (hs : s.length ≤ 1000000) : Fcontent 0 s ty ps en at_ h f t ks = some (.p (.str (contP s (Part.mk ty ps en at_ h f t ks))), []) := by
  rw [Fcontent_eq]
  unfold contP
  show cond (((decide (f < (0 : Int))) || (decide (t > (s.length : Int)))) || (decide (f > t))) _ _ = some (AV.p (.str (if (((decide (f < (0 : Int))) || (decide (t > (s.length : Int)))) || (decide (f > t))) = true then [] else if en = [98, 97, 115, 101, 54, 52] then _ else if en = [113, 117, 111, 116, 101, 100, 45, 112, 114, 105, 110, 116, 97, 98, 108, 101] then _ else _)), [])
  cases hc : (((decide (f < (0 : Int))) || (decide (t > (s.length : Int)))) || (decide (f > t))) with
  | true => rw [if_pos rfl]; exact cond_t rfl rfl
  | false =>
    simp only [Bool.or_eq_false_iff, decide_eq_false_iff_not] at hc
    have hl : ((s.take t.toNat).drop f.toNat).length ≤ 1000000 := by simp; omega
    rw [if_neg (by simp)]
    refine cond_f rfl (need_mk (by omega) ?_)
    by_cases h1 : en = [98, 97, 115, 101, 54, 52]
    · rw [if_pos h1]; exact cond_t (by rw [h1]; rfl) (need_mk hl rfl)
    · rw [if_neg h1, Bcontent_1_eq]
      refine cond_f (by rw [beq_eq_false_iff_ne]; exact h1) ?_
      by_cases h2 : en = [113, 117, 111, 116, 101, 100, 45, 112, 114, 105, 110, 116, 97, 98, 108, 101]
      · rw [if_pos h2]; exact cond_t (by rw [h2]; rfl) (need_mk hl rfl)
      · rw [if_neg h2]; exact cond_f (by rw [beq_eq_false_iff_ne]; exact h2) rfl
def sp_content : List AV → Option (AV × Option Prop)
  | [.p (.str s), .agg [.p (.str ty), .p (.list 2 (.dat (.pair .str .str) ps)), .p (.str en), .p (.bool at_), .p (.int .i64 h_), .p (.int .i64 f_), .p (.int .i64 t_), .p (.list 8 (.dat .part ks))]] => some (.p (.str (contP s (Part.mk ty ps en at_ h_ f_ t_ ks))), some (s.length ≤ 1000000))
  | _ => none
theorem ok_content : SpecOk Tryd.prog 21 sp_content := by
  intro zs r ok he hok
  unfold sp_content at he
  split at he
  · cases he; exact ⟨by kernel_rfl, fn_content 0 _ _ _ _ _ _ _ _ _ _ fun hx => content_eq _ _ _ _ _ _ _ _ _ hok⟩
  · cases he
noncomputable def cr13content : Code := bodyOf Tryd.f36

noncomputable def Gr13content : Cfg := ⟨Tryd.prog, mkEnv [(62, sp_rLoose), (63, sp_QPlain)], mkEnvR [], 40, [], [([1, 1, 1, 0, 1, 0, 1, 1, 1], ⟨[5, 35], []⟩)], []⟩

noncomputable def Br13content_1 (F : Nat) (vs1 : List UInt8) (vc2 : Bool) : Option Ans := runB Gr13content cr13content (kP Tryd.prog Tryd.f36.results.toList) F [] [1, 1, 1, 0, 1, 0, 1, 1, 1] [(5, .p (.str vs1)), (35, .p (.bool vc2))] []

noncomputable def Fr13content (F : Nat) (s ty : List UInt8) (ps : List (List UInt8 × List UInt8)) (en : List UInt8) (at_ : Bool) (h_ f_ t_ : Int) (ks : List Part) : Option Ans := runF Gr13content Tryd.f36 F [.p (.str s), .agg [.p (.str ty), .p (.list 2 (.dat (.pair .str .str) ps)), .p (.str en), .p (.bool at_), .p (.int .i64 h_), .p (.int .i64 f_), .p (.int .i64 t_), .p (.list 8 (.dat .part ks))]]

theorem Br13content_1_eq (F : Nat) (vs1 : List UInt8) (vc2 : Bool) : Br13content_1 F vs1 vc2 = cond (vc2) (need (vs1.length ≤ 1000000) (some (.p (.str (qdec vs1)), []))) (some (.p (.str vs1), [])) := by kernel_rfl

theorem Fr13content_eq (F : Nat) (s ty : List UInt8) (ps : List (List UInt8 × List UInt8)) (en : List UInt8) (at_ : Bool) (h_ f_ t_ : Int) (ks : List Part) : Fr13content F s ty ps en at_ h_ f_ t_ ks = cond (((decide (f_ < (0 : Int))) || (decide (t_ > (s.length : Int)))) || (decide (f_ > t_))) (some (.p (.str ([] : List UInt8)), [])) (need (0 ≤ f_ ∧ f_ ≤ t_ ∧ t_ ≤ (s.length : Int)) (cond (en == ([98, 97, 115, 101, 54, 52] : List UInt8)) (need (((s.take (t_).toNat).drop (f_).toNat).length ≤ 1000000) (some (.p (.str (looseB ((s.take (t_).toNat).drop (f_).toNat))), []))) (Br13content_1 F ((s.take (t_).toNat).drop (f_).toNat) (en == ([113, 117, 111, 116, 101, 100, 45, 112, 114, 105, 110, 116, 97, 98, 108, 101] : List UInt8))))) :=
  Eq.trans (show Fr13content F s ty ps en at_ h_ f_ t_ ks = need ((!(decide (f_ < (0 : Int)))) = true → (!(decide (f_ < (0 : Int)))) = true) (need ((!(decide (f_ < (0 : Int)))) = true → (!(decide (f_ < (0 : Int)))) = true) (need ((!(decide (f_ < (0 : Int)))) = true → (!(decide (f_ < (0 : Int)))) = true) (need ((!(decide (f_ < (0 : Int)))) = true → (!(decide (f_ < (0 : Int)))) = true) (need ((decide (f_ < (0 : Int))) = false → (!(decide (f_ < (0 : Int)))) = true) (need ((!((decide (f_ < (0 : Int))) || (decide (t_ > (s.length : Int))))) = true → (!((decide (f_ < (0 : Int))) || (decide (t_ > (s.length : Int))))) = true) (need ((!((decide (f_ < (0 : Int))) || (decide (t_ > (s.length : Int))))) = true → (!((decide (f_ < (0 : Int))) || (decide (t_ > (s.length : Int))))) = true) (need ((!((decide (f_ < (0 : Int))) || (decide (t_ > (s.length : Int))))) = true → (!((decide (f_ < (0 : Int))) || (decide (t_ > (s.length : Int))))) = true) (need ((!((decide (f_ < (0 : Int))) || (decide (t_ > (s.length : Int))))) = true → (!((decide (f_ < (0 : Int))) || (decide (t_ > (s.length : Int))))) = true) (need (((decide (f_ < (0 : Int))) || (decide (t_ > (s.length : Int)))) = false → (!((decide (f_ < (0 : Int))) || (decide (t_ > (s.length : Int))))) = true) (cond (((decide (f_ < (0 : Int))) || (decide (t_ > (s.length : Int)))) || (decide (f_ > t_))) (some (.p (.str ([] : List UInt8)), [])) (need (0 ≤ f_ ∧ f_ ≤ t_ ∧ t_ ≤ (s.length : Int)) (cond (en == ([98, 97, 115, 101, 54, 52] : List UInt8)) (need (((s.take (t_).toNat).drop (f_).toNat).length ≤ 1000000) (some (.p (.str (looseB ((s.take (t_).toNat).drop (f_).toNat))), []))) (Br13content_1 F ((s.take (t_).toNat).drop (f_).toNat) (en == ([113, 117, 111, 116, 101, 100, 45, 112, 114, 105, 110, 116, 97, 98, 108, 101] : List UInt8))))))))))))))) by kernel_rfl) (need_strike (show (!(decide (f_ < (0 : Int)))) = true → (!(decide (f_ < (0 : Int)))) = true from (fun q0 => q0)) (need_strike (show (!(decide (f_ < (0 : Int)))) = true → (!(decide (f_ < (0 : Int)))) = true from (fun q0 => q0)) (need_strike (show (!(decide (f_ < (0 : Int)))) = true → (!(decide (f_ < (0 : Int)))) = true from (fun q0 => q0)) (need_strike (show (!(decide (f_ < (0 : Int)))) = true → (!(decide (f_ < (0 : Int)))) = true from (fun q0 => q0)) (need_strike (show (decide (f_ < (0 : Int))) = false → (!(decide (f_ < (0 : Int)))) = true from (fun q0 => (not_mk q0))) (need_strike (show (!((decide (f_ < (0 : Int))) || (decide (t_ > (s.length : Int))))) = true → (!((decide (f_ < (0 : Int))) || (decide (t_ > (s.length : Int))))) = true from (fun q0 => q0)) (need_strike (show (!((decide (f_ < (0 : Int))) || (decide (t_ > (s.length : Int))))) = true → (!((decide (f_ < (0 : Int))) || (decide (t_ > (s.length : Int))))) = true from (fun q0 => q0)) (need_strike (show (!((decide (f_ < (0 : Int))) || (decide (t_ > (s.length : Int))))) = true → (!((decide (f_ < (0 : Int))) || (decide (t_ > (s.length : Int))))) = true from (fun q0 => q0)) (need_strike (show (!((decide (f_ < (0 : Int))) || (decide (t_ > (s.length : Int))))) = true → (!((decide (f_ < (0 : Int))) || (decide (t_ > (s.length : Int))))) = true from (fun q0 => q0)) (need_strike (show ((decide (f_ < (0 : Int))) || (decide (t_ > (s.length : Int)))) = false → (!((decide (f_ < (0 : Int))) || (decide (t_ > (s.length : Int))))) = true from (fun q0 => (not_mk q0))) (rfl)))))))))))

theorem fn_r13content (F : Nat) (s ty : List UInt8) (ps : List (List UInt8 × List UInt8)) (en : List UInt8) (at_ : Bool) (h_ f_ t_ : Int) (ks : List Part) (r : AV) (h : (∃ M vs, ARels γ0 M [.p (.str s), .agg [.p (.str ty), .p (.list 2 (.dat (.pair .str .str) ps)), .p (.str en), .p (.bool at_), .p (.int .i64 h_), .p (.int .i64 f_), .p (.int .i64 t_), .p (.list 8 (.dat .part ks))]] vs) → Fr13content F s ty ps en at_ h_ f_ t_ ks = some (r, [])) : FnP Tryd.prog 36 [.p (.str s), .agg [.p (.str ty), .p (.list 2 (.dat (.pair .str .str) ps)), .p (.str en), .p (.bool at_), .p (.int .i64 h_), .p (.int .i64 f_), .p (.int .i64 t_), .p (.list 8 (.dat .part ks))]] r :=
  FnP_run Gr13content F rfl (EnvOk_mk (l := [(62, sp_rLoose), (63, sp_QPlain)]) ⟨ok_rLoose.any, ok_QPlain.any, trivial⟩) (EnvROk_mk (l := []) trivial) (Checked.mixed Tryd.checked) (fn := Tryd.f36) (by kernel_rfl) (by kernel_rfl) rfl h
theorem r13content_eq (s ty : List UInt8) (ps : List (List UInt8 × List UInt8)) (en : List UInt8) (at_ : Bool) (h f t : Int) (ks : List Part) (hs : s.length ≤ 1000000) : Fr13content 0 s ty ps en at_ h f t ks = some (.p (.str (contP s (Part.mk ty ps en at_ h f t ks))), []) := by
  rw [Fr13content_eq]
  unfold contP
  show cond (((decide (f < (0 : Int))) || (decide (t > (s.length : Int)))) || (decide (f > t))) _ _ = some (AV.p (.str (if (((decide (f < (0 : Int))) || (decide (t > (s.length : Int)))) || (decide (f > t))) = true then [] else if en = [98, 97, 115, 101, 54, 52] then _ else if en = [113, 117, 111, 116, 101, 100, 45, 112, 114, 105, 110, 116, 97, 98, 108, 101] then _ else _)), [])
  cases hc : (((decide (f < (0 : Int))) || (decide (t > (s.length : Int)))) || (decide (f > t))) with
  | true => rw [if_pos rfl]; exact cond_t rfl rfl
  | false =>
    simp only [Bool.or_eq_false_iff, decide_eq_false_iff_not] at hc
    have hl : ((s.take t.toNat).drop f.toNat).length ≤ 1000000 := by simp; omega
    rw [if_neg (by simp)]
    refine cond_f rfl (need_mk (by omega) ?_)
    by_cases h1 : en = [98, 97, 115, 101, 54, 52]
    · rw [if_pos h1]; exact cond_t (by rw [h1]; rfl) (need_mk hl rfl)
    · rw [if_neg h1, Br13content_1_eq]
      refine cond_f (by rw [beq_eq_false_iff_ne]; exact h1) ?_
      by_cases h2 : en = [113, 117, 111, 116, 101, 100, 45, 112, 114, 105, 110, 116, 97, 98, 108, 101]
      · rw [if_pos h2]; exact cond_t (by rw [h2]; rfl) (need_mk hl rfl)
      · rw [if_neg h2]; exact cond_f (by rw [beq_eq_false_iff_ne]; exact h2) rfl
def sp_r13content : List AV → Option (AV × Option Prop)
  | [.p (.str s), .agg [.p (.str ty), .p (.list 2 (.dat (.pair .str .str) ps)), .p (.str en), .p (.bool at_), .p (.int .i64 h_), .p (.int .i64 f_), .p (.int .i64 t_), .p (.list 8 (.dat .part ks))]] => some (.p (.str (contP s (Part.mk ty ps en at_ h_ f_ t_ ks))), some (s.length ≤ 1000000))
  | _ => none
theorem ok_r13content : SpecOk Tryd.prog 36 sp_r13content := by
  intro zs r ok he hok
  unfold sp_r13content at he
  split at he
  · cases he; exact ⟨by kernel_rfl, fn_r13content 0 _ _ _ _ _ _ _ _ _ _ fun hx => r13content_eq _ _ _ _ _ _ _ _ _ hok⟩
  · cases he
def sp_sameC (k : Nat) : List AV → Option (AV × Option Prop)
  | [.p (.str s), .agg [.p (.str ty), .p (.list 2 (.dat (.pair .str .str) ps)), .p (.str en), .p (.bool at_), .p (.int .i64 h), .p (.int .i64 f), .p (.int .i64 t), .p (.list 8 (.dat .part ks))]] => some (.p (.bool true), some (deepP k (Part.mk ty ps en at_ h f t ks) ∧ s.length ≤ 1000000))
  | _ => none
noncomputable def csameC : Code := bodyOf Tryd.f20

noncomputable def GsameC (k : Nat) : Cfg := ⟨Tryd.prog, mkEnv [(20, sp_sameC k), (21, sp_content), (36, sp_r13content)], mkEnvR [], 28, [], [([1, 0, 1], ⟨[0, 3, 12], [⟨.slot 3, 3, .cells []⟩]⟩), ([0, 1, 0, 1, 1], ⟨[0, 3, 5], [⟨.slot 3, 3, .cells []⟩]⟩)], []⟩

noncomputable def BsameC_1 (k F : Nat) (s : List UInt8) (vc1 : Bool) (ty : List UInt8) (ps : List (List UInt8 × List UInt8)) (en : List UInt8) (at_ : Bool) (h_ f_ t_ : Int) (ks : List Part) : Option Ans := runB (GsameC k) csameC (kP Tryd.prog Tryd.f20.results.toList) F [] [1, 0, 1] [(0, .p (.str s)), (3, .ref 3 0), (12, .p (.bool vc1))] [(3, .cells [.p (.str ty), .p (.list 2 (.dat (.pair .str .str) ps)), .p (.str en), .p (.bool at_), .p (.int .i64 h_), .p (.int .i64 f_), .p (.int .i64 t_), .p (.list 8 (.dat .part ks))])]

noncomputable def BsameC_2 (k F f1 : Nat) (s : List UInt8) (vi2 : Int) (vs3 : List UInt8) (vl4 : List (List UInt8 × List UInt8)) (vs5 : List UInt8) (vc6 : Bool) (vi7 vi8 vi9 : Int) (vl10 : List Part) : Option Ans := runR (GsameC k) csameC (kP Tryd.prog Tryd.f20.results.toList) F [] [1, 1, 0, 1, 0] f1 [(0, .p (.str s)), (3, .ref 3 0), (5, .p (.int .i64 vi2))] [(3, .cells [.p (.str vs3), .p (.list 2 (.dat (.pair .str .str) vl4)), .p (.str vs5), .p (.bool vc6), .p (.int .i64 vi7), .p (.int .i64 vi8), .p (.int .i64 vi9), .p (.list 8 (.dat .part vl10))])]

noncomputable def FsameC (k F : Nat) (s ty : List UInt8) (ps : List (List UInt8 × List UInt8)) (en : List UInt8) (at_ : Bool) (h_ f_ t_ : Int) (ks : List Part) : Option Ans := runF (GsameC k) Tryd.f20 F [.p (.str s), .agg [.p (.str ty), .p (.list 2 (.dat (.pair .str .str) ps)), .p (.str en), .p (.bool at_), .p (.int .i64 h_), .p (.int .i64 f_), .p (.int .i64 t_), .p (.list 8 (.dat .part ks))]]

theorem BsameC_1_eq (k F : Nat) (s : List UInt8) (vc1 : Bool) (ty : List UInt8) (ps : List (List UInt8 × List UInt8)) (en : List UInt8) (at_ : Bool) (h_ f_ t_ : Int) (ks : List Part) : BsameC_1 k F s vc1 ty ps en at_ h_ f_ t_ ks = cond (vc1) (some (.p (.bool false), [])) (BsameC_2 k F F s (0 : Int) ty ps en at_ h_ f_ t_ ks) := by kernel_rfl

theorem BsameC_2_eq (k F f1 : Nat) (s : List UInt8) (vi2 : Int) (vs3 : List UInt8) (vl4 : List (List UInt8 × List UInt8)) (vs5 : List UInt8) (vc6 : Bool) (vi7 vi8 vi9 : Int) (vl10 : List Part) : BsameC_2 k F (f1 + 1) s vi2 vs3 vl4 vs5 vc6 vi7 vi8 vi9 vl10 = cond (decide (vi2 < (vl10.length : Int))) (need (0 ≤ vi2 ∧ vi2 < (vl10.length : Int)) (need (deepP k (Part.mk ((vl10.getD (vi2).toNat (dfl .part)).type) ((vl10.getD (vi2).toNat (dfl .part)).params) ((vl10.getD (vi2).toNat (dfl .part)).enc) ((vl10.getD (vi2).toNat (dfl .part)).attach) ((vl10.getD (vi2).toNat (dfl .part)).head) ((vl10.getD (vi2).toNat (dfl .part)).frm) ((vl10.getD (vi2).toNat (dfl .part)).til) ((vl10.getD (vi2).toNat (dfl .part)).kids)) ∧ s.length ≤ 1000000) (need (i64ok (vi2 + (1 : Int))) (BsameC_2 k F f1 s (vi2 + (1 : Int)) vs3 vl4 vs5 vc6 vi7 vi8 vi9 vl10)))) (some (.p (.bool true), [])) := by kernel_rfl

theorem FsameC_eq (k F : Nat) (s ty : List UInt8) (ps : List (List UInt8 × List UInt8)) (en : List UInt8) (at_ : Bool) (h_ f_ t_ : Int) (ks : List Part) : FsameC k F s ty ps en at_ h_ f_ t_ ks = need (s.length ≤ 1000000) (need (s.length ≤ 1000000) (BsameC_1 k F s ((contP s (Part.mk ty ps en at_ h_ f_ t_ ks)) != (contP s (Part.mk ty ps en at_ h_ f_ t_ ks))) ty ps en at_ h_ f_ t_ ks)) := by kernel_rfl

theorem fn_sameC (k : Nat) (hrec : SpecOk Tryd.prog 20 (sp_sameC k)) (F : Nat) (s ty : List UInt8) (ps : List (List UInt8 × List UInt8)) (en : List UInt8) (at_ : Bool) (h_ f_ t_ : Int) (ks : List Part) (r : AV) (h : (∃ M vs, ARels γ0 M [.p (.str s), .agg [.p (.str ty), .p (.list 2 (.dat (.pair .str .str) ps)), .p (.str en), .p (.bool at_), .p (.int .i64 h_), .p (.int .i64 f_), .p (.int .i64 t_), .p (.list 8 (.dat .part ks))]] vs) → FsameC k F s ty ps en at_ h_ f_ t_ ks = some (r, [])) : FnP Tryd.prog 20 [.p (.str s), .agg [.p (.str ty), .p (.list 2 (.dat (.pair .str .str) ps)), .p (.str en), .p (.bool at_), .p (.int .i64 h_), .p (.int .i64 f_), .p (.int .i64 t_), .p (.list 8 (.dat .part ks))]] r :=
  FnP_run (GsameC k) F rfl (EnvOk_mk (l := [(20, sp_sameC k), (21, sp_content), (36, sp_r13content)]) ⟨hrec.any, ok_content.any, ok_r13content.any, trivial⟩) (EnvROk_mk (l := []) trivial) (Checked.mixed Tryd.checked) (fn := Tryd.f20) (by kernel_rfl) (by kernel_rfl) rfl h
theorem BsameC_spec (k F : Nat) (s : List UInt8) (hs : s.length ≤ 1000000) (ty en : List UInt8) (ps : List (List UInt8 × List UInt8)) (at_ : Bool) (h f t : Int) (ks : List Part) (hk : ks.length ≤ 10000000) (hd : ∀ q ∈ ks, deepP k q) : ∀ (r : List Part) (fu i : Nat), ks.drop i = r → r.length < fu → i ≤ ks.length →
    BsameC_2 k F fu s (i : Int) ty ps en at_ h f t ks = some (.p (.bool true), []) := by
  intro r
  induction r with
  | nil =>
    intro fu i hr hf hi
    have : i = ks.length := by have := congrArg List.length hr; simp at this; omega
    cases fu with
    | zero => omega
    | succ fu => rw [BsameC_2_eq]; exact cond_f (by simp; omega) rfl
  | cons q r ih =>
    intro fu i hr hf hi
    obtain ⟨h1, h2, h3⟩ := dropG hr (dfl .part)
    have hq := hd q (by rw [← h1]; exact getD_mem h3 _)
    cases fu with
    | zero => omega
    | succ fu =>
      rw [BsameC_2_eq, Int.toNat_natCast, h1, part_eta]
      refine cond_t (by simp; omega) (need_mk ⟨by omega, by omega⟩ (need_mk ⟨hq, hs⟩ (need_mk (by unfold i64ok; omega) ?_)))
      rw [show (i : Int) + 1 = ((i + 1 : Nat) : Int) by omega]
      exact ih fu (i + 1) h2 (by simp at hf; omega) (by omega)
theorem sameC_eq (k : Nat) (s ty en : List UInt8) (ps : List (List UInt8 × List UInt8)) (at_ : Bool) (h f t : Int) (ks : List Part) (hd : deepP (k + 1) (Part.mk ty ps en at_ h f t ks) ∧ s.length ≤ 1000000) : FsameC k (ks.length + 1) s ty ps en at_ h f t ks = some (.p (.bool true), []) := by
  obtain ⟨⟨d1, _, d2⟩, hs⟩ := hd
  rw [FsameC_eq, BsameC_1_eq]
  exact need_mk hs (need_mk hs (cond_f (by simp) (BsameC_spec k _ s hs ty en ps at_ h f t ks d1 d2 ks (ks.length + 1) 0 rfl (by omega) (by omega))))
theorem ok_sameC : ∀ k, SpecOk Tryd.prog 20 (sp_sameC k)
  | 0 => by
    intro zs r ok he hok
    unfold sp_sameC at he
    split at he
    · cases he; exact absurd hok.1 (by simp [deepP])
    · cases he
  | k + 1 => by
    intro zs r ok he hok
    unfold sp_sameC at he
    split at he
    · cases he; exact ⟨by kernel_rfl, fn_sameC k (ok_sameC k) _ _ _ _ _ _ _ _ _ _ _ fun _ => sameC_eq k _ _ _ _ _ _ _ _ _ hok⟩
    · cases he

noncomputable def GPartContents : Cfg := ⟨Tryd.prog, mkEnv [(11, sp_awake), (17, sp_r13tree), (20, sp_sameC 7)], mkEnvR [], 14, [], [], []⟩

noncomputable def FPartContents (F : Nat) (s : List UInt8) : Option Ans := runF GPartContents Tryd.f8 F [.p (.str s)]

theorem FPartContents_eq (F : Nat) (s : List UInt8) : FPartContents F s = cond (decide ((s.length : Int) > (3000 : Int))) (some (.p (.bool true), [])) (need (s.length ≤ 1000000) (need (deepP 7 (Part.mk ((treeT s).type) ((treeT s).params) ((treeT s).enc) ((treeT s).attach) ((treeT s).head) ((treeT s).frm) ((treeT s).til) ((treeT s).kids)) ∧ s.length ≤ 1000000) ((some (.p (.bool (true && true)), []))))) := by
  have h : FPartContents F s = cond (decide ((s.length : Int) > (3000 : Int))) (some (.p (.bool true), [])) (need (s.length ≤ 1000000) (need (deepP 7 (Part.mk ((treeT s).type) ((treeT s).params) ((treeT s).enc) ((treeT s).attach) ((treeT s).head) ((treeT s).frm) ((treeT s).til) ((treeT s).kids)) ∧ s.length ≤ 1000000) (need (true = true → true = true) (some (.p (.bool (true && true)), []))))) := by kernel_rfl
  rw [h, need_pos (show true = true → true = true from (fun q0 => q0))]

theorem fn_PartContents (F : Nat) (s : List UInt8) (r : AV) (h : (∃ M vs, ARels γ0 M [.p (.str s)] vs) → FPartContents F s = some (r, [])) : FnP Tryd.prog 8 [.p (.str s)] r :=
  FnP_run GPartContents F rfl (EnvOk_mk (l := [(11, sp_awake), (17, sp_r13tree), (20, sp_sameC 7)]) ⟨ok_awake.any, ok_r13tree.any, (ok_sameC 7).any, trivial⟩) (EnvROk_mk (l := []) trivial) (Checked.mixed Tryd.checked) (fn := Tryd.f8) (by kernel_rfl) (by kernel_rfl) rfl h
theorem PartContents_true (s : List UInt8) : FPartContents 0 s = some (.p (.bool true), []) := by
  rw [FPartContents_eq, part_eta]
  by_cases h : (s.length : Int) > 3000
  · exact cond_t (by simpa using h) rfl
  · exact cond_f (by simpa using h) (need_mk (by omega) (need_mk ⟨treeT_deep s (by omega), by omega⟩ rfl))
end Go.Proofs.YthfgklcdkehgjaaDoor
