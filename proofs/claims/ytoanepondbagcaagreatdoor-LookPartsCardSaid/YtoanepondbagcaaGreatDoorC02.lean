/-
  Lifted functions, and facts about them.
-/
import Derived.Test.YtoanepondbagcaaGreatDoorRows
import Derived.Test.YtoanepondbagcaaGreatDoorAmC
import Derived.Test.YtoanepondbagcaaGreatDoorC01
import Derived.Test.YtoanepondbagcaaGreatDoorC14IxAny2
import Derived.Lib.Bytealg
import Derived.RangeFuncRecord
namespace Go.Proofs.YtoanepondbagcaaGreatDoor
open Go Go.Am
set_option linter.unusedVariables false
/-! TrimLeft, TrimRight at blanks and tabs; IndexAny at two signs: as contracts. -/
theorem FnP_pure {P : Program} {f : FuncId} {args : List AV} {r : AV} (h : ∀ (M : Mem) (w : World) (vs : List Value), ARels γ0 M args vs → ∃ v, (∀ M', ARel γ0 M' r v) ∧ Calls P f vs.toArray w fun e w' => e = .returned v ∧ RowKit.Below w.heap.size w w') : FnP P f args r := by
  intro M w vs hM hvs
  obtain ⟨v, hr, hc⟩ := h M w vs hvs
  refine hc.mono fun e w' ⟨he, hB⟩ => ⟨v, M, he, MLe.refl M, fun _ _ => rfl, fun b q u hu => ?_, hr M, hB⟩
  have hc := hM b q u hu
  have hb : b < w.heap.size := World.block_lt_of_cell? w ⟨b, q, none⟩ hc
  rw [World.cell?_of_block (w := w) (hB.block b hb)]; exact hc
def trimLB (s : List UInt8) : List UInt8 := s.dropWhile isBl2
def trimRB (s : List UInt8) : List UInt8 := (s.reverse.dropWhile isBl2).reverse
theorem trimLB_len (s : List UInt8) : (trimLB s).length ≤ s.length := dropWhile_le isBl2 s
theorem trimRB_len (s : List UInt8) : (trimRB s).length ≤ s.length := by unfold trimRB; have := dropWhile_le isBl2 s.reverse; simp at this ⊢; exact this
open Go.Shelf Go.Lib in
set_option maxRecDepth 100000 in
theorem fn_triml (s : List UInt8) (hs : s.length ≤ 1000000) : FnP Tryz.prog 150 [.p (.str s), .p (.str [32, 9])] (.p (.str (trimLB s))) := by
  refine FnP_pure fun M w vs hvs => ⟨.string ⟨(trimLB s).toArray⟩, fun M' => .p _ _ (.str _ (by have := trimLB_len s; unfold maxLen; omega)), ?_⟩
  cases hvs with | cons h1 h2 =>
  cases h2 with | cons h2 h3 =>
  cases h3
  cases h1 with | p _ _ h1 =>
  cases h2 with | p _ _ h2 =>
  cases h1 with | str _ _ =>
  cases h2 with | str _ _ =>
  exact Any.strings_TrimLeft_laid lays161 (by kernel_rfl) ⟨s.toArray⟩ ⟨#[32, 9]⟩ w (by decide) (ascii_of_all (by decide))
open Go.Shelf Go.Lib in
set_option maxRecDepth 100000 in
theorem fn_trimr (s : List UInt8) (hs : s.length ≤ 1000000) : FnP Tryz.prog 100 [.p (.str s), .p (.str [32, 9])] (.p (.str (trimRB s))) := by
  refine FnP_pure fun M w vs hvs => ⟨.string ⟨(trimRB s).toArray⟩, fun M' => .p _ _ (.str _ (by have := trimRB_len s; unfold maxLen; omega)), ?_⟩
  cases hvs with | cons h1 h2 =>
  cases h2 with | cons h2 h3 =>
  cases h3
  cases h1 with | p _ _ h1 =>
  cases h2 with | p _ _ h2 =>
  cases h1 with | str _ _ =>
  cases h2 with | str _ _ =>
  exact Any.strings_TrimRight_laid lays162 (by kernel_rfl) ⟨s.toArray⟩ ⟨#[32, 9]⟩ w (by show s.toArray.size ≤ _; simp; omega) (by decide) (ascii_of_all (by decide))
/-- Where one of the two signs stands first; -1. -/
def ixSep (s : List UInt8) : Int := Lib.indexAny s [61, 59]
theorem ixSep_ge (s : List UInt8) : -1 ≤ ixSep s := Lib.indexAny_ge _ _
theorem fn_ixany (s : List UInt8) (hs : s.length ≤ 1000000) : FnP Tryz.prog 151 [.p (.str s), .p (.str [61, 59])] (.p (.int .i64 (ixSep s))) := by
  have hlt : ∀ l : List UInt8, Lib.indexAny l [61, 59] < l.length + 1 := by
    intro l
    induction l with
    | nil => decide
    | cons b l ih =>
      unfold Lib.indexAny
      split
      · simp; omega
      · split
        · simp; omega
        · simp; omega
  refine FnP_pure fun M w vs hvs => ⟨.int .i64 (ixSep s), fun M' => .p _ _ (.int _ _ ?_), ?_⟩
  · have h1 := ixSep_ge s
    have h2 := hlt s
    unfold ixSep at h1 ⊢
    have h3 := hlt s
    show IntKind.i64.min ≤ _ ∧ _ ≤ IntKind.i64.max
    rw [show IntKind.i64.min = -9223372036854775808 from rfl, show IntKind.i64.max = 9223372036854775807 from rfl]
    omega
  cases hvs with | cons h1 h2 =>
  cases h2 with | cons h2 h3 =>
  cases h3
  cases h1 with | p _ _ h1 =>
  cases h2 with | p _ _ h2 =>
  cases h1 with | str _ _ =>
  cases h2 with | str _ _ =>
  exact ia_all ⟨s.toArray⟩ w (by show s.toArray.size < _; simp; omega)
def sp_triml : List AV → Option (AV × Option Prop)
  | [.p (.str s), .p (.str [32, 9])] => some (.p (.str (trimLB s)), some (s.length ≤ 1000000))
  | _ => none
theorem ok_triml : SpecOk Tryz.prog 150 sp_triml := by
  intro zs r ok he hok
  unfold sp_triml at he
  split at he
  · cases he; exact ⟨by kernel_rfl, fn_triml _ hok⟩
  · cases he
def sp_trimr : List AV → Option (AV × Option Prop)
  | [.p (.str s), .p (.str [32, 9])] => some (.p (.str (trimRB s)), some (s.length ≤ 1000000))
  | _ => none
theorem ok_trimr : SpecOk Tryz.prog 100 sp_trimr := by
  intro zs r ok he hok
  unfold sp_trimr at he
  split at he
  · cases he; exact ⟨by kernel_rfl, fn_trimr _ hok⟩
  · cases he
def sp_ixany : List AV → Option (AV × Option Prop)
  | [.p (.str s), .p (.str [61, 59])] => some (.p (.int .i64 (ixSep s)), some (s.length ≤ 1000000))
  | _ => none
theorem ok_ixany : SpecOk Tryz.prog 151 sp_ixany := by
  intro zs r ok he hok
  unfold sp_ixany at he
  split at he
  · cases he; exact ⟨by kernel_rfl, fn_ixany _ hok⟩
  · cases he
end Go.Proofs.YtoanepondbagcaaGreatDoor
namespace Go.Proofs.YtoanepondbagcaaGreatDoor
open Go Go.Am
set_option linter.unusedVariables false
noncomputable def cFold : Code := bodyOf Tryz.f61

noncomputable def GFold : Cfg := ⟨Tryz.prog, mkEnv [], mkEnvR [], 32, [], [([0, 1, 0, 1, 1], ⟨[0, 3, 10, 11], [⟨.slot 3, 3, (.barr 5 false [])⟩]⟩), ([1, 0, 1, 1, 0, 0, 1, 1, 0, 0, 1, 0, 1, 1], ⟨[0, 3, 5, 10, 11, 22], [⟨.slot 3, 3, (.barr 5 false [])⟩]⟩), ([1, 1, 1, 0, 0, 1, 1, 0, 0, 1, 0, 1, 1], ⟨[0, 3, 5, 10, 11], [⟨.slot 3, 3, (.barr 5 false [])⟩]⟩)], []⟩

noncomputable def BFold_1 (F f1 : Nat) (s : List UInt8) (vi1 vi2 : Int) (vb3 : List UInt8) : Option Ans := runR GFold cFold (kP Tryz.prog Tryz.f61.results.toList) F [] [1, 1, 0, 1, 0] f1 [(0, .p (.str s)), (3, .arr 3), (10, .p (.int .i64 vi1)), (11, .p (.int .i64 vi2))] [(3, .barr 5 true vb3)]

noncomputable def BFold_2 (F f1 : Nat) (s : List UInt8) (vi4 vi1 vi2 : Int) (vc5 : Bool) (vb3 : List UInt8) : Option Ans := runB GFold cFold (kP Tryz.prog Tryz.f61.results.toList) F [f1] [1, 1, 0, 1, 0, 0, 1, 1, 0, 0, 1, 1, 0, 1] [(0, .p (.str s)), (3, .arr 3), (5, .p (.int .u8 vi4)), (10, .p (.int .i64 vi1)), (11, .p (.int .i64 vi2)), (22, .p (.bool vc5))] [(3, .barr 5 true vb3)]

noncomputable def BFold_3 (F f1 : Nat) (s : List UInt8) (vi6 vi1 vi2 : Int) (vb3 : List UInt8) : Option Ans := runB GFold cFold (kP Tryz.prog Tryz.f61.results.toList) F [f1] [1, 1, 0, 1, 0, 0, 1, 1, 0, 0, 1, 1, 1] [(0, .p (.str s)), (3, .arr 3), (5, .p (.int .u8 vi6)), (10, .p (.int .i64 vi1)), (11, .p (.int .i64 vi2))] [(3, .barr 5 true vb3)]

noncomputable def FFold (F : Nat) (s : List UInt8) : Option Ans := runF GFold Tryz.f61 F [.p (.str s)]

theorem BFold_1_eq (F f1 : Nat) (s : List UInt8) (vi1 vi2 : Int) (vb3 : List UInt8) : BFold_1 F (f1 + 1) s vi1 vi2 vb3 = cond (decide (vi2 < vi1)) (need (0 ≤ vi2 ∧ vi2 < (s.length : Int)) (((BFold_2 F f1 s ((s.getD (vi2).toNat 0).toNat : Int) vi1 vi2 ((decide (((s.getD (vi2).toNat 0).toNat : Int) ≥ (65 : Int))) && (decide (((s.getD (vi2).toNat 0).toNat : Int) ≤ (90 : Int)))) vb3)))) (some (.p (.str vb3), [])) := by
  have h : BFold_1 F (f1 + 1) s vi1 vi2 vb3 = cond (decide (vi2 < vi1)) (need (0 ≤ vi2 ∧ vi2 < (s.length : Int)) (need ((decide (((s.getD (vi2).toNat 0).toNat : Int) ≥ (65 : Int))) = true → (decide (((s.getD (vi2).toNat 0).toNat : Int) ≥ (65 : Int))) = true) (need ((decide (((s.getD (vi2).toNat 0).toNat : Int) ≥ (65 : Int))) = true → (decide (((s.getD (vi2).toNat 0).toNat : Int) ≥ (65 : Int))) = true) (BFold_2 F f1 s ((s.getD (vi2).toNat 0).toNat : Int) vi1 vi2 ((decide (((s.getD (vi2).toNat 0).toNat : Int) ≥ (65 : Int))) && (decide (((s.getD (vi2).toNat 0).toNat : Int) ≤ (90 : Int)))) vb3)))) (some (.p (.str vb3), [])) := by kernel_rfl
  rw [h, need_pos (show (decide (((s.getD (vi2).toNat 0).toNat : Int) ≥ (65 : Int))) = true → (decide (((s.getD (vi2).toNat 0).toNat : Int) ≥ (65 : Int))) = true from (fun q0 => q0)), need_pos (show (decide (((s.getD (vi2).toNat 0).toNat : Int) ≥ (65 : Int))) = true → (decide (((s.getD (vi2).toNat 0).toNat : Int) ≥ (65 : Int))) = true from (fun q0 => q0))]

theorem BFold_2_eq (F f1 : Nat) (s : List UInt8) (vi4 vi1 vi2 : Int) (vc5 : Bool) (vb3 : List UInt8) : BFold_2 F f1 s vi4 vi1 vi2 vc5 vb3 = cond (vc5) (BFold_3 F f1 s (IntKind.u8.wrap (vi4 + (32 : Int))) vi1 vi2 vb3) (BFold_3 F f1 s vi4 vi1 vi2 vb3) := by kernel_rfl

theorem BFold_3_eq (F f1 : Nat) (s : List UInt8) (vi6 vi1 vi2 : Int) (vb3 : List UInt8) : BFold_3 F f1 s vi6 vi1 vi2 vb3 = need ((vb3.length + [UInt8.ofNat (vi6).toNat].length) * 1 ≤ 140737488355328) (need (i64ok (vi2 + (1 : Int))) (BFold_1 F f1 s vi1 (vi2 + (1 : Int)) (vb3 ++ [UInt8.ofNat (vi6).toNat]))) := by kernel_rfl

theorem FFold_eq (F : Nat) (s : List UInt8) : FFold F s = need (0 ≤ (0 : Int) ∧ (0 : Int) ≤ (s.length : Int) ∧ (1 : Int) * (s.length : Int) ≤ 281474976710656 ∧ (s.length : Int) ≤ 9223372036854775807) (BFold_1 F F s (s.length : Int) (0 : Int) (List.replicate ((0 : Int)).toNat 0)) := by kernel_rfl

theorem fn_Fold (F : Nat) (s : List UInt8) (r : AV) (h : (∃ M vs, ARels γ0 M [.p (.str s)] vs) → FFold F s = some (r, [])) : FnP Tryz.prog 61 [.p (.str s)] r :=
  FnP_run GFold F rfl (EnvOk_mk (l := []) trivial) (EnvROk_mk (l := []) trivial) (Checked.mixed Tryz.checked) (fn := Tryz.f61) (by kernel_rfl) (by kernel_rfl) rfl h











def lowB (b : UInt8) : UInt8 := if 65 ≤ b.toNat ∧ b.toNat ≤ 90 then b + 32 else b
def foldS (s : List UInt8) : List UInt8 := s.map lowB
theorem low_up (b : UInt8) (h : 65 ≤ b.toNat ∧ b.toNat ≤ 90) : UInt8.ofNat (IntKind.u8.wrap ((b.toNat : Int) + (32 : Int))).toNat = lowB b := by
  have e : ((b.toNat : Int) + 32) = ((b.toNat + 32 : Nat) : Int) := by omega
  rw [e, u8_of, lowB, if_pos h]
  apply UInt8.toNat_inj.1
  rw [UInt8.toNat_ofNat', UInt8.toNat_add]; rfl
theorem low_id (b : UInt8) (h : ¬ (65 ≤ b.toNat ∧ b.toNat ≤ 90)) : UInt8.ofNat ((b.toNat : Int)).toNat = lowB b := by
  rw [lowB, if_neg h, Int.toNat_natCast, UInt8.ofNat_toNat]
theorem up_dec (b : UInt8) : ((decide ((b.toNat : Int) ≥ (65 : Int))) && (decide ((b.toNat : Int) ≤ (90 : Int)))) = decide (65 ≤ b.toNat ∧ b.toNat ≤ 90) := by
  rw [← Bool.decide_and]; exact decide_eq_decide.2 (by omega)
theorem BFold_spec (F : Nat) (s : List UInt8) (hs : s.length ≤ 140737488355328) : ∀ (r : List UInt8) (f i : Nat) (acc : List UInt8), s.drop i = r → acc.length = i → r.length < f → i ≤ s.length →
    BFold_1 F f s (s.length : Int) (i : Int) acc = some (.p (.str (acc ++ r.map lowB)), []) := by
  intro r
  induction r with
  | nil =>
    intro f i acc hd ha hf hi
    have : i = s.length := by have := congrArg List.length hd; simp at this; omega
    cases f with
    | zero => omega
    | succ f =>
      rw [BFold_1_eq]
      refine cond_f (by first | omega | (unfold i64ok; omega) | (simp only [List.length_cons, List.length_nil]; omega) | (simp; omega) | simp) ?_
      simp
  | cons c r ih =>
    intro f i acc hd ha hf hi
    obtain ⟨h1, h2, h3⟩ := drop_cons hd
    cases f with
    | zero => omega
    | succ f =>
      rw [BFold_1_eq]
      refine cond_t (by first | omega | (unfold i64ok; omega) | (simp only [List.length_cons, List.length_nil]; omega) | (simp; omega) | simp) ?_
      refine need_mk (by first | omega | (unfold i64ok; omega) | (simp only [List.length_cons, List.length_nil]; omega) | (simp; omega) | simp) ?_
      rw [Int.toNat_natCast, h1, BFold_2_eq, up_dec]
      have e : (i : Int) + 1 = ((i + 1 : Nat) : Int) := by omega
      have step : ∀ d, BFold_1 F f s (s.length : Int) ((i : Int) + 1) (acc ++ [d]) = some (.p (.str (acc ++ d :: r.map lowB)), []) := fun d => by
        rw [e, ih f (i + 1) (acc ++ [d]) h2 (by simp [ha]) (by simp at hf; omega) (by omega)]; simp
      by_cases hc : 65 ≤ c.toNat ∧ c.toNat ≤ 90
      · refine cond_t (by simpa using hc) ?_
        rw [BFold_3_eq]
        refine need_mk (by first | omega | (unfold i64ok; omega) | (simp only [List.length_cons, List.length_nil]; omega) | (simp; omega) | simp) ?_
        refine need_mk (by first | omega | (unfold i64ok; omega) | (simp only [List.length_cons, List.length_nil]; omega) | (simp; omega) | simp) ?_
        rw [low_up c hc, step]; rfl
      · refine cond_f (by simpa using hc) ?_
        rw [BFold_3_eq]
        refine need_mk (by first | omega | (unfold i64ok; omega) | (simp only [List.length_cons, List.length_nil]; omega) | (simp; omega) | simp) ?_
        refine need_mk (by first | omega | (unfold i64ok; omega) | (simp only [List.length_cons, List.length_nil]; omega) | (simp; omega) | simp) ?_
        rw [low_id c hc, step]; rfl
theorem Fold_eq (s : List UInt8) (hs : s.length ≤ 140737488355328) : FFold (s.length + 1) s = some (.p (.str (foldS s)), []) := by
  rw [FFold_eq]
  refine need_mk (by first | omega | (unfold i64ok; omega) | (simp only [List.length_cons, List.length_nil]; omega) | (simp; omega) | simp) ?_
  exact BFold_spec _ s hs s (s.length + 1) 0 [] rfl rfl (by omega) (by omega)
def sp_Fold : List AV → Option (AV × Option Prop)
  | [.p (.str s)] => some (.p (.str (foldS s)), some (s.length ≤ 140737488355328))
  | _ => none
theorem ok_Fold : SpecOk Tryz.prog 61 sp_Fold := by
  intro zs r ok he hok
  unfold sp_Fold at he
  split at he
  · cases he; exact ⟨by kernel_rfl, fn_Fold (_) _ _ fun hx => Fold_eq _ hok⟩
  · cases he
end Go.Proofs.YtoanepondbagcaaGreatDoor
namespace Go.Proofs.YtoanepondbagcaaGreatDoor
open Go Go.Am
set_option linter.unusedVariables false
def ixS (s : List UInt8) (c : Int) : Int := Lib.indexByte s c.toNat.toUInt8
def sp_extib : List AV → Option (AV × Option Prop)
  | [.p (.str s), .p (.int .u8 c)] => some (.p (.int .i64 (ixS s c)), none)
  | _ => none
theorem indexByte_lt (l : List UInt8) (c : UInt8) : Lib.indexByte l c < l.length ∨ Lib.indexByte l c = -1 := by
  induction l with
  | nil => right; rfl
  | cons b l ih =>
    unfold Lib.indexByte
    split
    · left; simp
    · split
      · right; rfl
      · left; rename_i h1 h2; simp at h2; simp; omega
theorem ok_extib : SpecExt Tryz.prog 145 sp_extib := by
  intro zs r ok h hok M w vs hM hvs
  unfold sp_extib at h
  split at h
  · rename_i s c
    cases h
    cases hvs with
    | cons h1 h2 => cases h2 with
      | cons h2 h3 =>
        cases h3
        cases h1 with | p _ _ h1 =>
        cases h2 with | p _ _ h2 =>
        cases h1 with | str _ hs =>
        cases h2 with | int _ _ hc =>
        refine ⟨.int .i64 (ixS s c), ?_, .p _ _ (.int _ _ ?_)⟩
        · rw [run_callFunc_extern (fn := Tryz.f145) (e := Extern.BytealgIndexByte.indexByte) (by kernel_rfl) (by kernel_rfl) (by kernel_rfl) (by kernel_rfl) (by kernel_rfl)]
          rw [Lib.run_indexByteString]; rfl
        · have h1 := Lib.indexByte_ge s c.toNat.toUInt8
          have h2 := indexByte_lt s c.toNat.toUInt8
          exact has_i64 (by unfold maxLen at hs; unfold i64ok ixS; omega)
  · cases h
end Go.Proofs.YtoanepondbagcaaGreatDoor
namespace Go.Proofs.YtoanepondbagcaaGreatDoor
open Go Go.Am
set_option linter.unusedVariables false
def Fixbl (fuel : Nat) (s : List UInt8) (c : Int) : Option Int := some (ixS s c)

noncomputable def cixbl : Code := bodyOf Tryz.f124

def envixbl : Env := mkEnv [(145, sp_extib)]

theorem envixbl_ok : EnvOk Tryz.prog envixbl := EnvOk_mk ⟨ok_extib.any, trivial⟩

theorem Tixbl (fuel : Nat) (s : List UInt8) (c res : Int) (h : Fixbl fuel s c = some res) (C : Ctx) (hC : CtxOk C 8 []) :
    T Tryz.prog C (at_ cixbl []) (mkS [(0, .p (.str s)), (1, .p (.int .u8 c))] []) (Qend Tryz.prog C Tryz.f124.results.toList (.p (.int .i64 res))) := by
  have henv := envixbl_ok
  unfold Fixbl at h
  refine T_seqp (p := []) (by kernel_rfl) ?_
  refine T_reg henv hC [] [(0, .p (.str s)), (1, .p (.int .u8 c))] [] [] (by kernel_rfl) (by kernel_rfl) trivial (fun s1 hs1 => ?_)
  refine (T.weaken ?_ hs1 : T Tryz.prog C (at_ cixbl [1]) _ _)
  refine T_seqp (p := [1]) (by kernel_rfl) ?_
  refine T_reg henv hC [] [(4, .p (.int .i64 (ixS s c)))] [] [] (by kernel_rfl) (by kernel_rfl) trivial (fun s1 hs1 => ?_)
  refine (T.weaken ?_ hs1 : T Tryz.prog C (at_ cixbl [1, 1]) _ _)
  refine T_retp (p := [1, 1]) (by kernel_rfl) ?_
  have h := Option.some.inj h; subst h
  exact ⟨mkS [(4, .p (.int .i64 (ixS s c)))] [], (Sub.refl _), by kernel_rfl⟩

theorem fn_ixbl (fuel : Nat) (s : List UInt8) (c res : Int) (h : (∃ M vs, ARels γ0 M [.p (.str s), .p (.int .u8 c)] vs) → Fixbl fuel s c = some res) : FnP Tryz.prog 124 [.p (.str s), .p (.int .u8 c)] (.p (.int .i64 res)) :=
  FnP_lift (fn := Tryz.f124) (by kernel_rfl) (by kernel_rfl) fun M vs hvs C hC0 => have hC : CtxOk C 8 [] := ⟨hC0.nt.trans (by kernel_rfl), hC0.fx⟩; T.weaken (Tixbl fuel s c res (h ⟨M, vs, hvs⟩) C hC) (sinit_sub hC (by kernel_rfl) (by kernel_rfl))
def sp_ixbl : List AV → Option (AV × Option Prop) := sp_extib
theorem ok_ixbl : SpecOk Tryz.prog 124 sp_ixbl := by
  intro zs r ok h hok
  unfold sp_ixbl sp_extib at h
  split at h
  · cases h; exact ⟨by kernel_rfl, fn_ixbl 0 _ _ _ fun _ => rfl⟩
  · cases h
end Go.Proofs.YtoanepondbagcaaGreatDoor
namespace Go.Proofs.YtoanepondbagcaaGreatDoor
open Go Go.Am
set_option linter.unusedVariables false
/-! strings: Index at one byte. -/
theorem u8c (c : UInt8) : ((c.toNat : Int)).toNat.toUInt8 = c := by simp

noncomputable def Gixl : Cfg := ⟨Tryz.prog, mkEnv [(124, sp_ixbl)], mkEnvR [], 143, [], [], []⟩

noncomputable def Fixl (F : Nat) (s : List UInt8) (c : UInt8) : Option Ans := runF Gixl Tryz.f126 F [.p (.str s), .p (.str [c])]

theorem Fixl_eq (F : Nat) (s : List UInt8) (c : UInt8) : Fixl F s c = (((cond (false || ([c] == s)) (some (.p (.int .i64 (0 : Int)), [])) (need (0 ≤ (0 : Int) ∧ (0 : Int) < ([c].length : Int)) (some (.p (.int .i64 (ixS s (([c].getD ((0 : Int)).toNat 0).toNat : Int))), [])))))) := by
  have h : Fixl F s c = need ((!false) = true → (!false) = true) (need ((!false) = true → (!false) = true) (need (false = false → (!false) = true) (cond (false || ([c] == s)) (some (.p (.int .i64 (0 : Int)), [])) (need (0 ≤ (0 : Int) ∧ (0 : Int) < ([c].length : Int)) (some (.p (.int .i64 (ixS s (([c].getD ((0 : Int)).toNat 0).toNat : Int))), [])))))) := by kernel_rfl
  rw [h, need_pos (show false = false → (!false) = true from (fun q0 => (not_mk q0))), need_pos (show (!false) = true → (!false) = true from (fun q0 => q0)), need_pos (show (!false) = true → (!false) = true from (fun q0 => q0))]

theorem fn_ixl (F : Nat) (s : List UInt8) (c : UInt8) (r : AV) (h : (∃ M vs, ARels γ0 M [.p (.str s), .p (.str [c])] vs) → Fixl F s c = some (r, [])) : FnP Tryz.prog 126 [.p (.str s), .p (.str [c])] r :=
  FnP_run Gixl F rfl (EnvOk_mk (l := [(124, sp_ixbl)]) ⟨ok_ixbl.any, trivial⟩) (EnvROk_mk (l := []) trivial) (Checked.mixed Tryz.checked) (fn := Tryz.f126) (by kernel_rfl) (by kernel_rfl) rfl h
theorem ixl_eq (s : List UInt8) (c : UInt8) : Fixl 0 s c = some (.p (.int .i64 (ixS s (c.toNat : Int))), []) := by
  rw [Fixl_eq]
  by_cases h : [c] = s
  · refine cond_t (by simp [h]) ?_
    subst h
    have : ixS [c] (c.toNat : Int) = 0 := by unfold ixS; rw [u8c]; simp [Lib.indexByte]
    rw [this]
  · refine cond_f (by simp [h]) ?_
    exact need_mk (by simp) rfl
def sp_ixl : List AV → Option (AV × Option Prop)
  | [.p (.str s), .p (.str [c])] => some (.p (.int .i64 (ixS s (c.toNat : Int))), none)
  | _ => none
theorem ok_ixl : SpecOk Tryz.prog 126 sp_ixl := by
  intro zs r ok he hok
  unfold sp_ixl at he
  split at he
  · cases he; exact ⟨by kernel_rfl, fn_ixl 0 _ _ _ fun hx => ixl_eq _ _⟩
  · cases he
end Go.Proofs.YtoanepondbagcaaGreatDoor
namespace Go.Proofs.YtoanepondbagcaaGreatDoor
open Go Go.Am
set_option linter.unusedVariables false
/-! Cut at one byte. -/
def cutS (s : List UInt8) (c : UInt8) : List UInt8 × List UInt8 × Bool :=
  if ixS s (c.toNat : Int) ≥ 0 then (s.take (ixS s (c.toNat : Int)).toNat, s.drop ((ixS s (c.toNat : Int)) + 1).toNat, true) else (s, [], false)

noncomputable def Gcutl : Cfg := ⟨Tryz.prog, mkEnv [(126, sp_ixl)], mkEnvR [], 23, [], [], []⟩

noncomputable def Fcutl (F : Nat) (s : List UInt8) (c : UInt8) : Option Ans := runF Gcutl Tryz.f90 F [.p (.str s), .p (.str [c])]

theorem Fcutl_eq (F : Nat) (s : List UInt8) (c : UInt8) : Fcutl F s c = cond (decide ((ixS s (c.toNat : Int)) ≥ (0 : Int))) (need (0 ≤ (ixS s (c.toNat : Int)) ∧ (ixS s (c.toNat : Int)) ≤ (s.length : Int)) (need (i64ok ((ixS s (c.toNat : Int)) + (1 : Int))) (need (0 ≤ ((ixS s (c.toNat : Int)) + (1 : Int)) ∧ ((ixS s (c.toNat : Int)) + (1 : Int)) ≤ (s.length : Int)) (some (.tup [.p (.str (s.take (ixS s (c.toNat : Int)).toNat)), .p (.str (s.drop ((ixS s (c.toNat : Int)) + (1 : Int)).toNat)), .p (.bool true)], []))))) (some (.tup [.p (.str s), .p (.str ([] : List UInt8)), .p (.bool false)], [])) := by kernel_rfl

theorem fn_cutl (F : Nat) (s : List UInt8) (c : UInt8) (r : AV) (h : (∃ M vs, ARels γ0 M [.p (.str s), .p (.str [c])] vs) → Fcutl F s c = some (r, [])) : FnP Tryz.prog 90 [.p (.str s), .p (.str [c])] r :=
  FnP_run Gcutl F rfl (EnvOk_mk (l := [(126, sp_ixl)]) ⟨ok_ixl.any, trivial⟩) (EnvROk_mk (l := []) trivial) (Checked.mixed Tryz.checked) (fn := Tryz.f90) (by kernel_rfl) (by kernel_rfl) rfl h
theorem ixS_lt (s : List UInt8) (c : Int) : ixS s c < s.length ∨ ixS s c = -1 := indexByte_lt s c.toNat.toUInt8
theorem cutl_eq (s : List UInt8) (c : UInt8) (hs : s.length ≤ 1000000) : Fcutl 0 s c = some (.tup [.p (.str (cutS s c).1), .p (.str (cutS s c).2.1), .p (.bool (cutS s c).2.2)], []) := by
  rw [Fcutl_eq, cutS]
  have h := ixS_lt s (c.toNat : Int)
  by_cases hc : ixS s (c.toNat : Int) ≥ 0
  · refine cond_t (by simpa using hc) ?_
    rw [if_pos hc]
    refine need_mk (by omega) (need_mk (by unfold i64ok; omega) (need_mk (by omega) rfl))
  · refine cond_f (by simpa using hc) ?_
    rw [if_neg hc]
def sp_cutl : List AV → Option (AV × Option Prop)
  | [.p (.str s), .p (.str [c])] => some (.tup [.p (.str ((cutS s c).1)), .p (.str ((cutS s c).2.1)), .p (.bool ((cutS s c).2.2))], some (s.length ≤ 1000000))
  | _ => none
theorem ok_cutl : SpecOk Tryz.prog 90 sp_cutl := by
  intro zs r ok he hok
  unfold sp_cutl at he
  split at he
  · cases he; exact ⟨by kernel_rfl, fn_cutl 0 _ _ _ fun hx => cutl_eq _ _ hok⟩
  · cases he

noncomputable def Gcut : Cfg := ⟨Tryz.prog, mkEnv [(90, sp_cutl)], mkEnvR [], 13, [], [], []⟩

noncomputable def Fcut (F : Nat) (s : List UInt8) (c : UInt8) : Option Ans := runF Gcut Tryz.f53 F [.p (.str s), .p (.str [c])]

theorem Fcut_eq (F : Nat) (s : List UInt8) (c : UInt8) : Fcut F s c = need (s.length ≤ 1000000) (some (.tup [.p (.str ((cutS s c).1)), .p (.str ((cutS s c).2.1)), .p (.bool ((cutS s c).2.2))], [])) := by kernel_rfl

theorem fn_cut (F : Nat) (s : List UInt8) (c : UInt8) (r : AV) (h : (∃ M vs, ARels γ0 M [.p (.str s), .p (.str [c])] vs) → Fcut F s c = some (r, [])) : FnP Tryz.prog 53 [.p (.str s), .p (.str [c])] r :=
  FnP_run Gcut F rfl (EnvOk_mk (l := [(90, sp_cutl)]) ⟨ok_cutl.any, trivial⟩) (EnvROk_mk (l := []) trivial) (Checked.mixed Tryz.checked) (fn := Tryz.f53) (by kernel_rfl) (by kernel_rfl) rfl h
theorem cut_eq (s : List UInt8) (c : UInt8) (hs : s.length ≤ 1000000) : Fcut 0 s c = some (.tup [.p (.str (cutS s c).1), .p (.str (cutS s c).2.1), .p (.bool (cutS s c).2.2)], []) := by
  rw [Fcut_eq]; exact need_pos hs
def sp_cut : List AV → Option (AV × Option Prop)
  | [.p (.str s), .p (.str [c])] => some (.tup [.p (.str ((cutS s c).1)), .p (.str ((cutS s c).2.1)), .p (.bool ((cutS s c).2.2))], some (s.length ≤ 1000000))
  | _ => none
theorem ok_cut : SpecOk Tryz.prog 53 sp_cut := by
  intro zs r ok he hok
  unfold sp_cut at he
  split at he
  · cases he; exact ⟨by kernel_rfl, fn_cut 0 _ _ _ fun hx => cut_eq _ _ hok⟩
  · cases he
end Go.Proofs.YtoanepondbagcaaGreatDoor
namespace Go.Proofs.YtoanepondbagcaaGreatDoor
open Go Go.Am
set_option linter.unusedVariables false
/-! Where a byte stands first. -/
theorem ixb_split (c : UInt8) : ∀ (s : List UInt8), (∃ p q, s = p ++ c :: q ∧ (∀ x ∈ p, x ≠ c) ∧ Lib.indexByte s c = (p.length : Int)) ∨ ((∀ x ∈ s, x ≠ c) ∧ Lib.indexByte s c = -1)
  | [] => .inr ⟨by simp, rfl⟩
  | b :: l => by
    by_cases h : b = c
    · subst h
      exact .inl ⟨[], l, rfl, by simp, by simp [Lib.indexByte]⟩
    · rcases ixb_split c l with ⟨p, q, e, hp, hi⟩ | ⟨hn, hi⟩
      · refine .inl ⟨b :: p, q, by rw [e]; rfl, ?_, ?_⟩
        · intro x hx
          rcases List.mem_cons.1 hx with rfl | hx
          · exact h
          · exact hp x hx
        · unfold Lib.indexByte
          rw [if_neg (by simpa using h), hi, if_neg (by simp)]
          simp only [List.length_cons]; omega
      · refine .inr ⟨?_, ?_⟩
        · intro x hx
          rcases List.mem_cons.1 hx with rfl | hx
          · exact h
          · exact hn x hx
        · simp [Lib.indexByte, hi, h]
theorem ixS_u8 (s : List UInt8) (c : UInt8) : ixS s (c.toNat : Int) = Lib.indexByte s c := by unfold ixS; rw [u8c]
theorem cut_split (c : UInt8) (s : List UInt8) : (∃ p q, s = p ++ c :: q ∧ (∀ x ∈ p, x ≠ c) ∧ cutS s c = (p, q, true)) ∨ ((∀ x ∈ s, x ≠ c) ∧ cutS s c = (s, [], false)) := by
  rcases ixb_split c s with ⟨p, q, e, hp, hi⟩ | ⟨hn, hi⟩
  · refine .inl ⟨p, q, e, hp, ?_⟩
    rw [cutS, ixS_u8, hi, if_pos (by omega)]
    have e1 : ((p.length : Int) + 1).toNat = p.length + 1 := by omega
    rw [Int.toNat_natCast, e1, e]
    simp
  · refine .inr ⟨hn, ?_⟩
    rw [cutS, ixS_u8, hi, if_neg (by decide)]
end Go.Proofs.YtoanepondbagcaaGreatDoor
namespace Go.Proofs.YtoanepondbagcaaGreatDoor
open Go Go.Am
set_option linter.unusedVariables false
/-! TrimSuffix. -/
def hasSuf (s p : List UInt8) : Bool := decide ((s.length : Int) ≥ (p.length : Int)) && (s.drop (s.length - p.length) == p)
def trimSuf (s p : List UInt8) : List UInt8 := if hasSuf s p = true then s.take (s.length - p.length) else s

noncomputable def Ghsl : Cfg := ⟨Tryz.prog, mkEnv [], mkEnvR [], 21, [], [], []⟩

noncomputable def Fhsl (F : Nat) (s p : List UInt8) : Option Ans := runF Ghsl Tryz.f106 F [.p (.str s), .p (.str p)]

theorem Fhsl_eq (F : Nat) (s p : List UInt8) : Fhsl F s p = need ((decide ((s.length : Int) ≥ (p.length : Int))) = true → i64ok ((s.length : Int) - (p.length : Int))) (need ((decide ((s.length : Int) ≥ (p.length : Int))) = true → 0 ≤ ((s.length : Int) - (p.length : Int)) ∧ ((s.length : Int) - (p.length : Int)) ≤ (s.length : Int)) (some (.p (.bool ((decide ((s.length : Int) ≥ (p.length : Int))) && ((s.drop ((s.length : Int) - (p.length : Int)).toNat) == p))), []))) :=
  Eq.trans (show Fhsl F s p = need ((decide ((s.length : Int) ≥ (p.length : Int))) = true → (decide ((s.length : Int) ≥ (p.length : Int))) = true) (need ((decide ((s.length : Int) ≥ (p.length : Int))) = true → (decide ((s.length : Int) ≥ (p.length : Int))) = true) (need ((decide ((s.length : Int) ≥ (p.length : Int))) = true → (decide ((s.length : Int) ≥ (p.length : Int))) = true) (need ((decide ((s.length : Int) ≥ (p.length : Int))) = true → (decide ((s.length : Int) ≥ (p.length : Int))) = true) (need ((decide ((s.length : Int) ≥ (p.length : Int))) = true → i64ok ((s.length : Int) - (p.length : Int))) (need ((decide ((s.length : Int) ≥ (p.length : Int))) = true → (decide ((s.length : Int) ≥ (p.length : Int))) = true) (need ((decide ((s.length : Int) ≥ (p.length : Int))) = true → (decide ((s.length : Int) ≥ (p.length : Int))) = true) (need ((decide ((s.length : Int) ≥ (p.length : Int))) = true → 0 ≤ ((s.length : Int) - (p.length : Int)) ∧ ((s.length : Int) - (p.length : Int)) ≤ (s.length : Int)) (need ((decide ((s.length : Int) ≥ (p.length : Int))) = true → (decide ((s.length : Int) ≥ (p.length : Int))) = true) (need ((decide ((s.length : Int) ≥ (p.length : Int))) = true → (decide ((s.length : Int) ≥ (p.length : Int))) = true) (need ((decide ((s.length : Int) ≥ (p.length : Int))) = true → (decide ((s.length : Int) ≥ (p.length : Int))) = true) (some (.p (.bool ((decide ((s.length : Int) ≥ (p.length : Int))) && ((s.drop ((s.length : Int) - (p.length : Int)).toNat) == p))), [])))))))))))) by kernel_rfl) (need_strike (show (decide ((s.length : Int) ≥ (p.length : Int))) = true → (decide ((s.length : Int) ≥ (p.length : Int))) = true from (fun q0 => q0)) (need_strike (show (decide ((s.length : Int) ≥ (p.length : Int))) = true → (decide ((s.length : Int) ≥ (p.length : Int))) = true from (fun q0 => q0)) (need_strike (show (decide ((s.length : Int) ≥ (p.length : Int))) = true → (decide ((s.length : Int) ≥ (p.length : Int))) = true from (fun q0 => q0)) (need_strike (show (decide ((s.length : Int) ≥ (p.length : Int))) = true → (decide ((s.length : Int) ≥ (p.length : Int))) = true from (fun q0 => q0)) (need_congr (need_strike (show (decide ((s.length : Int) ≥ (p.length : Int))) = true → (decide ((s.length : Int) ≥ (p.length : Int))) = true from (fun q0 => q0)) (need_strike (show (decide ((s.length : Int) ≥ (p.length : Int))) = true → (decide ((s.length : Int) ≥ (p.length : Int))) = true from (fun q0 => q0)) (need_congr (need_strike (show (decide ((s.length : Int) ≥ (p.length : Int))) = true → (decide ((s.length : Int) ≥ (p.length : Int))) = true from (fun q0 => q0)) (need_strike (show (decide ((s.length : Int) ≥ (p.length : Int))) = true → (decide ((s.length : Int) ≥ (p.length : Int))) = true from (fun q0 => q0)) (need_strike (show (decide ((s.length : Int) ≥ (p.length : Int))) = true → (decide ((s.length : Int) ≥ (p.length : Int))) = true from (fun q0 => q0)) (rfl))))))))))))

theorem fn_hsl (F : Nat) (s p : List UInt8) (r : AV) (h : (∃ M vs, ARels γ0 M [.p (.str s), .p (.str p)] vs) → Fhsl F s p = some (r, [])) : FnP Tryz.prog 106 [.p (.str s), .p (.str p)] r :=
  FnP_run Ghsl F rfl (EnvOk_mk (l := []) trivial) (EnvROk_mk (l := []) trivial) (Checked.mixed Tryz.checked) (fn := Tryz.f106) (by kernel_rfl) (by kernel_rfl) rfl h
theorem hsl_eq (s p : List UInt8) (hs : s.length ≤ 1000000) : Fhsl 0 s p = some (.p (.bool (hasSuf s p)), []) := by
  have e : ((s.length : Int) - (p.length : Int)).toNat = s.length - p.length := by omega
  rw [Fhsl_eq, e]
  exact need_mk (fun h => by unfold i64ok; simp at h; omega) (need_mk (fun h => by simp at h; omega) rfl)
def sp_hsl : List AV → Option (AV × Option Prop)
  | [.p (.str s), .p (.str p)] => some (.p (.bool (hasSuf s p)), some (s.length ≤ 1000000))
  | _ => none
theorem ok_hsl : SpecOk Tryz.prog 106 sp_hsl := by
  intro zs r ok he hok
  unfold sp_hsl at he
  split at he
  · cases he; exact ⟨by kernel_rfl, fn_hsl 0 _ _ _ fun hx => hsl_eq _ _ hok⟩
  · cases he

noncomputable def Gtsl : Cfg := ⟨Tryz.prog, mkEnv [(106, sp_hsl)], mkEnvR [], 16, [], [], []⟩

noncomputable def Ftsl (F : Nat) (s p : List UInt8) : Option Ans := runF Gtsl Tryz.f131 F [.p (.str s), .p (.str p)]

theorem Ftsl_eq (F : Nat) (s p : List UInt8) : Ftsl F s p = need (s.length ≤ 1000000) (cond (hasSuf s p) (need (i64ok ((s.length : Int) - (p.length : Int))) (need (0 ≤ ((s.length : Int) - (p.length : Int)) ∧ ((s.length : Int) - (p.length : Int)) ≤ (s.length : Int)) (some (.p (.str (s.take ((s.length : Int) - (p.length : Int)).toNat)), [])))) (some (.p (.str s), []))) := by kernel_rfl

theorem fn_tsl (F : Nat) (s p : List UInt8) (r : AV) (h : (∃ M vs, ARels γ0 M [.p (.str s), .p (.str p)] vs) → Ftsl F s p = some (r, [])) : FnP Tryz.prog 131 [.p (.str s), .p (.str p)] r :=
  FnP_run Gtsl F rfl (EnvOk_mk (l := [(106, sp_hsl)]) ⟨ok_hsl.any, trivial⟩) (EnvROk_mk (l := []) trivial) (Checked.mixed Tryz.checked) (fn := Tryz.f131) (by kernel_rfl) (by kernel_rfl) rfl h
theorem tsl_eq (s p : List UInt8) (hs : s.length ≤ 1000000) : Ftsl 0 s p = some (.p (.str (trimSuf s p)), []) := by
  have e : ((s.length : Int) - (p.length : Int)).toNat = s.length - p.length := by omega
  rw [Ftsl_eq, trimSuf, e]
  refine need_mk hs ?_
  by_cases h : hasSuf s p = true
  · have h2 := h
    unfold hasSuf at h2
    rw [Bool.and_eq_true] at h2
    have h3 := of_decide_eq_true h2.1
    refine cond_t h (need_mk (by unfold i64ok; omega) (need_mk (by omega) ?_))
    rw [if_pos h]
  · refine cond_f (by simpa using h) ?_
    rw [if_neg h]
def sp_tsl : List AV → Option (AV × Option Prop)
  | [.p (.str s), .p (.str p)] => some (.p (.str (trimSuf s p)), some (s.length ≤ 1000000))
  | _ => none
theorem ok_tsl : SpecOk Tryz.prog 131 sp_tsl := by
  intro zs r ok he hok
  unfold sp_tsl at he
  split at he
  · cases he; exact ⟨by kernel_rfl, fn_tsl 0 _ _ _ fun hx => tsl_eq _ _ hok⟩
  · cases he

noncomputable def Gts : Cfg := ⟨Tryz.prog, mkEnv [(131, sp_tsl)], mkEnvR [], 8, [], [], []⟩

noncomputable def Fts (F : Nat) (s p : List UInt8) : Option Ans := runF Gts Tryz.f99 F [.p (.str s), .p (.str p)]

theorem Fts_eq (F : Nat) (s p : List UInt8) : Fts F s p = need (s.length ≤ 1000000) (some (.p (.str (trimSuf s p)), [])) := by kernel_rfl

theorem fn_ts (F : Nat) (s p : List UInt8) (r : AV) (h : (∃ M vs, ARels γ0 M [.p (.str s), .p (.str p)] vs) → Fts F s p = some (r, [])) : FnP Tryz.prog 99 [.p (.str s), .p (.str p)] r :=
  FnP_run Gts F rfl (EnvOk_mk (l := [(131, sp_tsl)]) ⟨ok_tsl.any, trivial⟩) (EnvROk_mk (l := []) trivial) (Checked.mixed Tryz.checked) (fn := Tryz.f99) (by kernel_rfl) (by kernel_rfl) rfl h
theorem ts_eq (s p : List UInt8) (hs : s.length ≤ 1000000) : Fts 0 s p = some (.p (.str (trimSuf s p)), []) := by rw [Fts_eq]; exact need_mk hs rfl
def sp_ts : List AV → Option (AV × Option Prop)
  | [.p (.str s), .p (.str p)] => some (.p (.str (trimSuf s p)), some (s.length ≤ 1000000))
  | _ => none
theorem ok_ts : SpecOk Tryz.prog 99 sp_ts := by
  intro zs r ok he hok
  unfold sp_ts at he
  split at he
  · cases he; exact ⟨by kernel_rfl, fn_ts 0 _ _ _ fun hx => ts_eq _ _ hok⟩
  · cases he
end Go.Proofs.YtoanepondbagcaaGreatDoor
namespace Go.Proofs.YtoanepondbagcaaGreatDoor
open Go Go.Am
set_option linter.unusedVariables false






end Go.Proofs.YtoanepondbagcaaGreatDoor
/-! A range over a function: the statement, a round, a call of yield. -/
namespace Go.Am
open Go Go.RowKit
variable {P : Program} {C C' : Ctx} {s s' : S} {a a' : Act} {w w' w2 : World} {γ γ' : Nat → Option G} {M M' : Mem}

/-- A state, told from another place. -/
theorem StG.reroot (h : StG C γ M s a w) (e0 : C'.w0 = w2) (eM : C'.M0 = M) (hown : ∀ id g b, s.ob id ≠ none → γ id = some g → g.blk = some b → C'.own b ∧ w2.heap[b]? = w.heap[b]?)
    (hsz : w.heap.size ≤ w2.heap.size) (hmem : MOk M w2) (ht : a'.tmps = a.tmps) (hd : a'.defers = C'.dl) (hnt : C'.nt = C.nt) (hg : GLe C'.g0 γ) : StG C' γ M s a' w2 := by
  refine ⟨fun t => by rw [ht]; exact h.sl t, fun id o ho => (h.ob id o ho).keep (GLe.refl γ) (MLe.refl M) fun g b h1 h2 => ⟨(hown id g b (by rw [ho]; simp) h1 h2).2, rfl⟩, h.us, h.sep,
    fun id g b h1 h2 h3 => ⟨.inr (hown id g b h1 h2 h3).1, Nat.lt_of_lt_of_le (h.lo id g b h1 h2 h3).2 hsz⟩, hmem, by rw [eM]; exact MLe.refl M, fun _ _ _ => by rw [eM],
    ⟨by rw [e0], by rw [e0], by rw [e0], by rw [e0]; exact Nat.le_refl _, fun _ _ _ => by rw [e0]⟩, hd, by rw [ht, hnt]; exact h.nt, hg⟩

theorem MOk.none_of {b q : Nat} (h : MOk M w) (hb : w.cell? ⟨b, q, none⟩ = none) : M b q = none := by
  cases hm : M b q with
  | none => rfl
  | some v => have := h b q v hm; rw [hb] at this; cases this
theorem MOk.put {l : Nat} {o : Obj} (h : MOk M w) (hn : ∀ q, M l q = none) : MOk M (w.putObj l o) := by
  intro b q v hv
  have hb : b ≠ l := by rintro rfl; rw [hn] at hv; cases hv
  have h1 := h b q v hv
  unfold World.cell? at *
  rw [World.putObj_heap_other hb]; exact h1
theorem MOk.dfr {b q : Nat} {r : Option (List Deferred)} (h : MOk M w) (hb : w.heap[b]? = some (.deferred r)) : M b q = none := by
  refine h.none_of ?_
  unfold World.cell?
  rw [hb]

/-! ### The statement -/
abbrev markOf (D : Nat) : Deferred := { target := .collected D, args := #[] }
theorem wpIn_rangeFunc_st {g : Operand} {ps : Array Tmp} {assign body : Code} {Q : Exit → Act → World → Prop} {gf : FuncId} {lb : Array Value} (hg : a.eval g = .func (.func gf) #[] lb) (eg : callable P gf = true)
    (h : ∀ (fn : FuncId) (mkR : LoopState → Option Code → Loop), mkR = (fun st pe => { state := st, pending := pe, fn, tmps := a.tmps, params := ps, assign, body, defers := w.heap.size }) →
      Calls P gf (#[.func (.yield (w.heap.size + 1)) #[] #[]] ++ lb) ((w.alloc (.deferred (some []))).alloc (.loop (mkR .ready none))) fun e W2 => (∃ v, e = .returned v) ∧
        ((W2.heap[w.heap.size + 1]? = some (.loop (mkR .ready none)) ∧ Q .normal { a with defers := markOf w.heap.size :: a.defers } (W2.putObj (w.heap.size + 1) (.loop (mkR .exhausted none)))) ∨
         (∃ c, W2.heap[w.heap.size + 1]? = some (.loop (mkR .done (some c))) ∧ c.wpIn (FW none) 0 P Q { a with defers := markOf w.heap.size :: a.defers } (W2.putObj (w.heap.size + 1) (.loop (mkR .exhausted (some c))))))) :
    (Code.rangeFunc g ps assign body).wpIn (FW none) 0 P Q a w := by
  refine wpIn_rangeFunc fun fn _ => ?_
  obtain ⟨mkR, hR⟩ : ∃ mkR : LoopState → Option Code → Loop, mkR = fun st pe => { state := st, pending := pe, fn, tmps := a.tmps, params := ps, assign, body, defers := w.heap.size } := ⟨_, rfl⟩
  obtain ⟨W1, hW1⟩ : ∃ W1, (w.alloc (.deferred (some []))).alloc (.loop (mkR .ready none)) = W1 := ⟨_, rfl⟩
  have hc := h fn mkR hR
  rw [hW1] at hc
  refine ⟨w.heap.size + 1, [markOf w.heap.size], W1, { target := .fn (.func gf) lb, args := #[.func (.yield (w.heap.size + 1)) #[] #[]] }, W1, gf,
    #[.func (.yield (w.heap.size + 1)) #[] #[]] ++ lb, W1, ?_, ?_, fun _ _ => trivial, ?_, (fun h => nomatch h), ?_⟩
  · rw [← hW1, hR]; exact run_enterLoop_outer _ _ _ _ _
  · simp only [resolve, hg]
    simp [go_sem]
  · simp [invoke, go_sem, run_callFunc eg]
  · refine callsIn_FW.2 (hc.mono ?_)
    rintro e W2 ⟨⟨v, rfl⟩, ⟨hl, hq⟩ | ⟨c, hl, hq⟩⟩
    · refine ⟨none, _, ?_, hq⟩
      have := run_endLoop (P := P) hl (by rw [hR]; simp)
      rw [hR] at this ⊢; exact this
    · refine ⟨some c, _, ?_, hq⟩
      have := run_endLoop (P := P) hl (by rw [hR]; simp)
      rw [hR] at this ⊢; exact this

/-! ### A round -/
def rndPost (l : Nat) (r : Loop) (R : Option Code → World → Prop) : Exit → Act → World → Prop
  | .normal, _, W => W.heap[l]? = some (.loop { r with state := .busy }) ∧ R none W
  | .ret, _, W => W.heap[l]? = some (.loop { r with state := .busy }) ∧ R (some .ret) W
  | .exit id, _, W => W.heap[l]? = some (.loop { r with state := .busy }) ∧ R (some (.exit id)) W
  | _, _, _ => False
theorem round_st {l : Nat} {r : Loop} {tm : Array Value} {W : World} {R : Option Code → World → Prop} (hr : r.state = .ready)
    (h : r.assign.wpIn (FW (some l)) 0 P (Exit.then (fun a1 W1 => W1.heap[l]? = some (.loop r) ∧ r.body.wpIn (FW (some l)) 0 P (rndPost l r R) a1 (W1.putObj l (.loop { r with state := .busy }))) (fun _ _ _ => False)) { tmps := tm, defers := [] } W) :
    RoundIn (FW none) 0 P l r.fn tm r.assign r.body W fun e W' => ∃ (jump : Option Code) (W3 : World), e = .returned (.bool jump.isNone) ∧
      W' = W3.putObj l (.loop { r with state := if jump.isNone then .ready else .done, pending := jump }) ∧ R jump W3 := by
  refine roundIn_of_wpIn (F := FW none) trivial ?_
  refine wpIn_mono (F := FW (some l)) h fun e a1 W1 he => ?_
  cases e with
  | normal =>
    obtain ⟨hl, hb⟩ := he
    refine ⟨_, run_beginRound hl hr, wpIn_mono (F := FW (some l)) hb fun e2 a2 W2 h2 => ?_⟩
    cases e2 with
    | normal => exact ⟨_, _, run_endRound none h2.1, none, W2, rfl, rfl, h2.2⟩
    | ret => exact ⟨_, _, run_endRound (some .ret) h2.1, some .ret, W2, rfl, rfl, h2.2⟩
    | exit id => exact ⟨_, _, run_endRound (some (.exit id)) h2.1, some (.exit id), W2, rfl, rfl, h2.2⟩
    | goto t => exact h2.elim
    | panic ch => exact h2.elim
    | outgrown => exact h2.elim
  | exit id => exact he
  | goto l => exact he
  | ret => exact he
  | panic ch => exact he
  | outgrown => exact he

/-! ### A call of yield -/
theorem wpIn_yield {dst : Option Tmp} {fop : Operand} {args : Array Operand} {ts : Array TypeId} {type : TypeId} {pos : String} {after : Array Edge} {guard : Option (Nat × Bool)} {l : Nat} {r : Loop} {next : Act → World → Prop} {Q : Exit → Act → World → Prop}
    (hf : a.eval fop = .func (.yield l) #[] #[]) (hl : w.heap[l]? = some (.loop r)) (hn : args.size = r.params.size)
    (h : RoundIn (FW none) 0 P l r.fn ((r.params.zip (args.map a.eval)).foldl (fun tmps (t, a) => tmps.setIfInBounds t a) r.tmps) r.assign r.body w fun e W' => ∃ v, e = .returned v ∧ next (a.put dst v) W') :
    (⟨dst, .call ⟨.value fop, args, ts⟩, type, pos, after, guard⟩ : Oper).wpIn (FW none) 0 P a w next Q := by
  have hrun : (execOp a.eval ⟨dst, .call ⟨.value fop, args, ts⟩, type, pos, after, guard⟩).run P w = .ok (.round l r.fn ((r.params.zip (args.map a.eval)).foldl (fun tmps (t, a) => tmps.setIfInBounds t a) r.tmps) r.assign r.body) w := by
    simp only [execOp, resolve, hf, Deferred.ofValue, Sem.run_bind, Sem.run_pure, Result.andThen_ok, invoke]
    have := run_yield (P := P) (args := args.map a.eval) hl (by simpa using hn)
    simpa using this
  refine wpIn_of hrun (fun _ e => by cases e) ⟨fun h => (by cases h), h.mono fun e W' ⟨v, he, hv⟩ => ?_⟩
  subst he
  exact hv
end Go.Am
