/-
  Lifted functions, and facts about them.
-/
import Derived.Test.YthfgklcdkehgjaaDoorRows
import Derived.Test.YthfgklcdkehgjaaDoorAmC
import Derived.Test.YthfgklcdkehgjaaDoorAmNeed
import Derived.Test.YthfgklcdkehgjaaDoorC13PartI
import Derived.Test.YthfgklcdkehgjaaDoorC13B64Loose
import Derived.Test.YthfgklcdkehgjaaDoorC13R1Loose
import Derived.Test.YthfgklcdkehgjaaDoorC13QDec
import Derived.Test.YthfgklcdkehgjaaDoorC13QPlain
namespace Go.Proofs.YthfgklcdkehgjaaDoor
open Go Go.Am
set_option linter.unusedVariables false
/-! What a part has in it. -/
def contP (s : List UInt8) (p : Part) : List UInt8 :=
  if (((decide (p.frm < (0 : Int))) || (decide (p.til > (s.length : Int)))) || (decide (p.frm > p.til))) = true then [] else if p.enc = [98, 97, 115, 101, 54, 52] then looseB ((s.take p.til.toNat).drop p.frm.toNat) else if p.enc = [113, 117, 111, 116, 101, 100, 45, 112, 114, 105, 110, 116, 97, 98, 108, 101] then qdec ((s.take p.til.toNat).drop p.frm.toNat) else (s.take p.til.toNat).drop p.frm.toNat
noncomputable def ccontent : Code := bodyOf Tryd.f21

noncomputable def Gcontent : Cfg := ⟨Tryd.prog, mkEnv [(37, sp_Loose), (38, sp_QDecode)], mkEnvR [], 40, [], [([1, 1, 1, 0, 1, 0, 1, 1, 1], ⟨[5, 35], []⟩)], []⟩

noncomputable def Bcontent_1 (F : Nat) (vs1 : List UInt8) (vc2 : Bool) : Option Ans := runB Gcontent ccontent (kP Tryd.prog Tryd.f21.results.toList) F [] [1, 1, 1, 0, 1, 0, 1, 1, 1] [(5, .p (.str vs1)), (35, .p (.bool vc2))] []

noncomputable def Fcontent (F : Nat) (s ty : List UInt8) (ps : List (List UInt8 × List UInt8)) (en : List UInt8) (at_ : Bool) (h_ f_ t_ : Int) (ks : List Part) : Option Ans := runF Gcontent Tryd.f21 F [.p (.str s), .agg [.p (.str ty), .p (.list 2 (.dat (.pair .str .str) ps)), .p (.str en), .p (.bool at_), .p (.int .i64 h_), .p (.int .i64 f_), .p (.int .i64 t_), .p (.list 8 (.dat .part ks))]]

theorem Bcontent_1_eq (F : Nat) (vs1 : List UInt8) (vc2 : Bool) : Bcontent_1 F vs1 vc2 = cond (vc2) (need (vs1.length ≤ 1000000) (some (.p (.str (qdec vs1)), []))) (some (.p (.str vs1), [])) := by kernel_rfl

theorem Fcontent_eq (F : Nat) (s ty : List UInt8) (ps : List (List UInt8 × List UInt8)) (en : List UInt8) (at_ : Bool) (h_ f_ t_ : Int) (ks : List Part) : Fcontent F s ty ps en at_ h_ f_ t_ ks = cond (((decide (f_ < (0 : Int))) || (decide (t_ > (s.length : Int)))) || (decide (f_ > t_))) (some (.p (.str ([] : List UInt8)), [])) (need (0 ≤ f_ ∧ f_ ≤ t_ ∧ t_ ≤ (s.length : Int)) (cond (en == ([98, 97, 115, 101, 54, 52] : List UInt8)) (need (((s.take (t_).toNat).drop (f_).toNat).length ≤ 1000000) (some (.p (.str (looseB ((s.take (t_).toNat).drop (f_).toNat))), []))) (Bcontent_1 F ((s.take (t_).toNat).drop (f_).toNat) (en == ([113, 117, 111, 116, 101, 100, 45, 112, 114, 105, 110, 116, 97, 98, 108, 101] : List UInt8))))) :=
  Eq.trans (show Fcontent F s ty ps en at_ h_ f_ t_ ks = need ((!(decide (f_ < (0 : Int)))) = true → (!(decide (f_ < (0 : Int)))) = true) (need ((!(decide (f_ < (0 : Int)))) = true → (!(decide (f_ < (0 : Int)))) = true) (need ((!(decide (f_ < (0 : Int)))) = true → (!(decide (f_ < (0 : Int)))) = true) (need ((!(decide (f_ < (0 : Int)))) = true → (!(decide (f_ < (0 : Int)))) = true) (need ((decide (f_ < (0 : Int))) = false → (!(decide (f_ < (0 : Int)))) = true) (need ((!((decide (f_ < (0 : Int))) || (decide (t_ > (s.length : Int))))) = true → (!((decide (f_ < (0 : Int))) || (decide (t_ > (s.length : Int))))) = true) (need ((!((decide (f_ < (0 : Int))) || (decide (t_ > (s.length : Int))))) = true → (!((decide (f_ < (0 : Int))) || (decide (t_ > (s.length : Int))))) = true) (need ((!((decide (f_ < (0 : Int))) || (decide (t_ > (s.length : Int))))) = true → (!((decide (f_ < (0 : Int))) || (decide (t_ > (s.length : Int))))) = true) (need ((!((decide (f_ < (0 : Int))) || (decide (t_ > (s.length : Int))))) = true → (!((decide (f_ < (0 : Int))) || (decide (t_ > (s.length : Int))))) = true) (need (((decide (f_ < (0 : Int))) || (decide (t_ > (s.length : Int)))) = false → (!((decide (f_ < (0 : Int))) || (decide (t_ > (s.length : Int))))) = true) (cond (((decide (f_ < (0 : Int))) || (decide (t_ > (s.length : Int)))) || (decide (f_ > t_))) (some (.p (.str ([] : List UInt8)), [])) (need (0 ≤ f_ ∧ f_ ≤ t_ ∧ t_ ≤ (s.length : Int)) (cond (en == ([98, 97, 115, 101, 54, 52] : List UInt8)) (need (((s.take (t_).toNat).drop (f_).toNat).length ≤ 1000000) (some (.p (.str (looseB ((s.take (t_).toNat).drop (f_).toNat))), []))) (Bcontent_1 F ((s.take (t_).toNat).drop (f_).toNat) (en == ([113, 117, 111, 116, 101, 100, 45, 112, 114, 105, 110, 116, 97, 98, 108, 101] : List UInt8))))))))))))))) by kernel_rfl) (need_strike (show (!(decide (f_ < (0 : Int)))) = true → (!(decide (f_ < (0 : Int)))) = true from (fun q0 => q0)) (need_strike (show (!(decide (f_ < (0 : Int)))) = true → (!(decide (f_ < (0 : Int)))) = true from (fun q0 => q0)) (need_strike (show (!(decide (f_ < (0 : Int)))) = true → (!(decide (f_ < (0 : Int)))) = true from (fun q0 => q0)) (need_strike (show (!(decide (f_ < (0 : Int)))) = true → (!(decide (f_ < (0 : Int)))) = true from (fun q0 => q0)) (need_strike (show (decide (f_ < (0 : Int))) = false → (!(decide (f_ < (0 : Int)))) = true from (fun q0 => (not_mk q0))) (need_strike (show (!((decide (f_ < (0 : Int))) || (decide (t_ > (s.length : Int))))) = true → (!((decide (f_ < (0 : Int))) || (decide (t_ > (s.length : Int))))) = true from (fun q0 => q0)) (need_strike (show (!((decide (f_ < (0 : Int))) || (decide (t_ > (s.length : Int))))) = true → (!((decide (f_ < (0 : Int))) || (decide (t_ > (s.length : Int))))) = true from (fun q0 => q0)) (need_strike (show (!((decide (f_ < (0 : Int))) || (decide (t_ > (s.length : Int))))) = true → (!((decide (f_ < (0 : Int))) || (decide (t_ > (s.length : Int))))) = true from (fun q0 => q0)) (need_strike (show (!((decide (f_ < (0 : Int))) || (decide (t_ > (s.length : Int))))) = true → (!((decide (f_ < (0 : Int))) || (decide (t_ > (s.length : Int))))) = true from (fun q0 => q0)) (need_strike (show ((decide (f_ < (0 : Int))) || (decide (t_ > (s.length : Int)))) = false → (!((decide (f_ < (0 : Int))) || (decide (t_ > (s.length : Int))))) = true from (fun q0 => (not_mk q0))) (rfl)))))))))))

theorem fn_content (F : Nat) (s ty : List UInt8) (ps : List (List UInt8 × List UInt8)) (en : List UInt8) (at_ : Bool) (h_ f_ t_ : Int) (ks : List Part) (r : AV) (h : (∃ M vs, ARels γ0 M [.p (.str s), .agg [.p (.str ty), .p (.list 2 (.dat (.pair .str .str) ps)), .p (.str en), .p (.bool at_), .p (.int .i64 h_), .p (.int .i64 f_), .p (.int .i64 t_), .p (.list 8 (.dat .part ks))]] vs) → Fcontent F s ty ps en at_ h_ f_ t_ ks = some (r, [])) : FnP Tryd.prog 21 [.p (.str s), .agg [.p (.str ty), .p (.list 2 (.dat (.pair .str .str) ps)), .p (.str en), .p (.bool at_), .p (.int .i64 h_), .p (.int .i64 f_), .p (.int .i64 t_), .p (.list 8 (.dat .part ks))]] r :=
  FnP_run Gcontent F rfl (EnvOk_mk (l := [(37, sp_Loose), (38, sp_QDecode)]) ⟨ok_Loose.any, ok_QDecode.any, trivial⟩) (EnvROk_mk (l := []) trivial) (Checked.mixed Tryd.checked) (fn := Tryd.f21) (by kernel_rfl) (by kernel_rfl) rfl h
theorem content_eq (s ty : List UInt8) (ps : List (List UInt8 × List UInt8)) (en : List UInt8) (at_ : Bool) (h f t : Int) (ks : List Part) (hs : s.length ≤ 1000000) : Fcontent 0 s ty ps en at_ h f t ks = some (.p (.str (contP s (Part.mk ty ps en at_ h f t ks))), []) := by
  rw [Fcontent_eq]
  unfold contP
  show cond (((decide (f < (0 : Int))) || (decide (t > (s.length : Int)))) || (decide (f > t))) _ _ = some (AV.p (.str (if (((decide (f < (0 : Int))) || (decide (t > (s.length : Int)))) || (decide (f > t))) = true then [] else if en = [98, 97, 115, 101, 54, 52] then _ else if en = [113, 117, 111, 116, 101, 100, 45, 112, 114, 105, 110, 116, 97, 98, 108, 101] then _ else _)), [])
  cases hc : (((decide (f < (0 : Int))) || (decide (t > (s.length : Int)))) || (decide (f > t))) with
  | true => rw [if_pos rfl]; exact cond_t rfl rfl
  | false =>
    simp only [Bool.or_eq_false_iff, decide_eq_false_iff_not] at hc
    have hl : ((s.take t.toNat).drop f.toNat).length ≤ 1000000 := by simp; omega
    rw [if_neg (by simp)]
    refine cond_f rfl (need_mk (by omega) ?_)
    by_cases h1 : en = [98, 97, 115, 101, 54, 52]
    · rw [if_pos h1]; exact cond_t (by rw [h1]; rfl) (need_mk hl rfl)
    · rw [if_neg h1, Bcontent_1_eq]
      refine cond_f (by rw [beq_eq_false_iff_ne]; exact h1) ?_
      by_cases h2 : en = [113, 117, 111, 116, 101, 100, 45, 112, 114, 105, 110, 116, 97, 98, 108, 101]
      · rw [if_pos h2]; exact cond_t (by rw [h2]; rfl) (need_mk hl rfl)
      · rw [if_neg h2]; exact cond_f (by rw [beq_eq_false_iff_ne]; exact h2) rfl
def sp_content : List AV → Option (AV × Option Prop)
  | [.p (.str s), .agg [.p (.str ty), .p (.list 2 (.dat (.pair .str .str) ps)), .p (.str en), .p (.bool at_), .p (.int .i64 h_), .p (.int .i64 f_), .p (.int .i64 t_), .p (.list 8 (.dat .part ks))]] => some (.p (.str (contP s (Part.mk ty ps en at_ h_ f_ t_ ks))), some (s.length ≤ 1000000))
  | _ => none
theorem ok_content : SpecOk Tryd.prog 21 sp_content := by
  intro zs r ok he hok
  unfold sp_content at he
  split at he
  · cases he; exact ⟨by kernel_rfl, fn_content 0 _ _ _ _ _ _ _ _ _ _ fun hx => content_eq _ _ _ _ _ _ _ _ _ hok⟩
  · cases he


















end Go.Proofs.YthfgklcdkehgjaaDoor
