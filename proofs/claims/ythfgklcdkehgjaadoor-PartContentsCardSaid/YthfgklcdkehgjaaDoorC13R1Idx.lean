/-
  Lifted functions, and facts about them.
-/
import Derived.Test.YthfgklcdkehgjaaDoorRows
import Derived.Test.YthfgklcdkehgjaaDoorAmC
import Derived.Test.YthfgklcdkehgjaaDoorC13Small
import Derived.Test.YthfgklcdkehgjaaDoorC13Ixb0
namespace Go.Proofs.YthfgklcdkehgjaaDoor
open Go Go.Am
set_option linter.unusedVariables false
def BIndex_1 (fuel : Nat)  : Nat → List UInt8 → List UInt8 → Int → Option Int
  | 0, _, _, _ => none
  | f1 + 1, s, sub, vi1 => if i64ok (vi1 + (sub.length : Int)) then (if (decide ((vi1 + (sub.length : Int)) ≤ (s.length : Int))) = true then (if (i64ok (vi1 + (sub.length : Int))) ∧ (0 ≤ vi1 ∧ vi1 ≤ (vi1 + (sub.length : Int)) ∧ (vi1 + (sub.length : Int)) ≤ (s.length : Int)) then (if (((s.take (vi1 + (sub.length : Int)).toNat).drop (vi1).toNat) == sub) = true then (some vi1) else (if i64ok (vi1 + (1 : Int)) then (BIndex_1 fuel f1 s sub (vi1 + (1 : Int))) else none)) else none) else (some (-1 : Int))) else none

def FIndex (fuel : Nat) (s sub : List UInt8) (from_ : Int) : Option Int := BIndex_1 fuel fuel s sub from_

noncomputable def cIndex : Code := bodyOf Tryd.f49

def envIndex : Env := mkEnv []

theorem envIndex_ok : EnvOk Tryd.prog envIndex := EnvOk_mk trivial

theorem TIndex (fuel : Nat) (s sub : List UInt8) (from_ res : Int) (h : FIndex fuel s sub from_ = some res) (C : Ctx) (hC : CtxOk C 28 []) :
    T Tryd.prog C (at_ cIndex []) (mkS [(0, .p (.str s)), (1, .p (.str sub)), (2, .p (.int .i64 from_))] []) (Qend Tryd.prog C Tryd.f49.results.toList (.p (.int .i64 res))) := by
  have henv := envIndex_ok
  unfold FIndex at h
  refine T_seqp (p := []) (by kernel_rfl) ?_
  refine T_reg henv hC [] [(0, .p (.str s)), (1, .p (.str sub)), (2, .p (.int .i64 from_))] [] [] (by kernel_rfl) (by kernel_rfl) trivial (fun s1 hs1 => ?_)
  refine (T.weaken ?_ hs1 : T Tryd.prog C (at_ cIndex [1]) _ _)
  refine T_seqp (p := [1]) (by kernel_rfl) ?_
  refine T_seqp (p := [1, 0]) (by kernel_rfl) ?_
  refine T_reg henv hC [] [(0, .p (.str s)), (1, .p (.str sub)), (7, .p (.int .i64 from_))] [] [] (by kernel_rfl) (by kernel_rfl) trivial (fun s1 hs1 => ?_)
  refine (T.weaken ?_ hs1 : T Tryd.prog C (at_ cIndex [1, 0, 1]) _ _)
  refine T_blockp (p := [1, 0, 1]) 0 (by kernel_rfl) ?_
  refine T.weaken ?_ (Sub_view (l := [(0, .p (.str s)), (1, .p (.str sub)), (7, .p (.int .i64 from_))]) (o := []) hC [] (by kernel_rfl) (by kernel_rfl) (by kernel_rfl))
  refine T_loopp (p := [1, 0, 1, 0]) (by kernel_rfl) (fun f1 s2 => ∃ (s : List UInt8) (sub : List UInt8) (vi1 : Int), s2 = mkS [(0, .p (.str s)), (1, .p (.str sub)), (7, .p (.int .i64 vi1))] [] ∧ BIndex_1 fuel f1 s sub vi1 = some res) ?_ fuel ⟨s, sub, from_, rfl, h⟩
  rintro f1 s2 ⟨s, sub, vi1, rfl, h⟩
  cases f1 with
  | zero => cases h
  | succ f1 =>
    rw [BIndex_1] at h
    refine T_seqp (p := [1, 0, 1, 0, 0]) (by kernel_rfl) ?_
    refine T_seqp (p := [1, 0, 1, 0, 0, 0]) (by kernel_rfl) ?_
    obtain ⟨hob, h⟩ := ite_get h
    refine T_reg henv hC [] [(0, .p (.str s)), (1, .p (.str sub)), (7, .p (.int .i64 vi1)), (15, .p (.bool (decide ((vi1 + (sub.length : Int)) ≤ (s.length : Int)))))] [] [i64ok (vi1 + (sub.length : Int))] (by kernel_rfl) (by kernel_rfl) ⟨hob, trivial⟩ (fun s1 hs1 => ?_)
    refine (T.weaken ?_ hs1 : T Tryd.prog C (at_ cIndex [1, 0, 1, 0, 0, 0, 1]) _ _)
    refine T_condp (p := [1, 0, 1, 0, 0, 0, 1]) (by kernel_rfl) (decide ((vi1 + (sub.length : Int)) ≤ (s.length : Int))) (by kernel_rfl) (fun hb => ?_) (fun hb => ?_)
    · have h := ite_t h hb
      refine T_skipp (p := [1, 0, 1, 0, 0, 0, 1, 0]) (by kernel_rfl) ?_
      refine (T.weaken ?_ (Sub.refl _) : T Tryd.prog C (at_ cIndex [1, 0, 1, 0, 0, 1]) _ _)
      refine T_seqp (p := [1, 0, 1, 0, 0, 1]) (by kernel_rfl) ?_
      refine T_blockp (p := [1, 0, 1, 0, 0, 1, 0]) 1 (by kernel_rfl) ?_
      refine T_seqp (p := [1, 0, 1, 0, 0, 1, 0, 0]) (by kernel_rfl) ?_
      obtain ⟨hob, h⟩ := ite_get h
      refine T_reg henv hC [] [(0, .p (.str s)), (1, .p (.str sub)), (7, .p (.int .i64 vi1)), (26, .p (.bool (((s.take (vi1 + (sub.length : Int)).toNat).drop (vi1).toNat) == sub)))] [] [i64ok (vi1 + (sub.length : Int)), 0 ≤ vi1 ∧ vi1 ≤ (vi1 + (sub.length : Int)) ∧ (vi1 + (sub.length : Int)) ≤ (s.length : Int)] (by kernel_rfl) (by kernel_rfl) ⟨hob.1, hob.2, trivial⟩ (fun s1 hs1 => ?_)
      refine (T.weaken ?_ hs1 : T Tryd.prog C (at_ cIndex [1, 0, 1, 0, 0, 1, 0, 0, 1]) _ _)
      refine T_condp (p := [1, 0, 1, 0, 0, 1, 0, 0, 1]) (by kernel_rfl) (((s.take (vi1 + (sub.length : Int)).toNat).drop (vi1).toNat) == sub) (by kernel_rfl) (fun hb => ?_) (fun hb => ?_)
      · have h := ite_t h hb
        refine T_seqp (p := [1, 0, 1, 0, 0, 1, 0, 0, 1, 0]) (by kernel_rfl) ?_
        refine T_reg henv hC [] [(6, .p (.int .i64 vi1))] [] [] (by kernel_rfl) (by kernel_rfl) trivial (fun s1 hs1 => ?_)
        refine (T.weaken ?_ hs1 : T Tryd.prog C (at_ cIndex [1, 0, 1, 0, 0, 1, 0, 0, 1, 0, 1]) _ _)
        refine T_retp (p := [1, 0, 1, 0, 0, 1, 0, 0, 1, 0, 1]) (by kernel_rfl) ?_
        refine inblock_ret ?_
        refine then_ret ?_
        refine then_ret ?_
        refine inblock_ret ?_
        refine then_ret ?_
        have h := Option.some.inj h; subst h
        exact ⟨mkS [(6, .p (.int .i64 vi1))] [], (Sub.refl _), by kernel_rfl⟩
      · have h := ite_f h hb
        refine T_skipp (p := [1, 0, 1, 0, 0, 1, 0, 0, 1, 1]) (by kernel_rfl) ?_
        refine (T.weaken ?_ (Sub.refl _) : T Tryd.prog C (at_ cIndex [1, 0, 1, 0, 0, 1, 1]) _ _)
        obtain ⟨hob, h⟩ := ite_get h
        refine T_reg henv hC [] [(0, .p (.str s)), (1, .p (.str sub)), (7, .p (.int .i64 (vi1 + (1 : Int))))] [] [i64ok (vi1 + (1 : Int))] (by kernel_rfl) (by kernel_rfl) ⟨hob, trivial⟩ (fun s1 hs1 => ?_)
        exact ⟨f1, _, Nat.lt_succ_self f1, ⟨s, sub, vi1 + (1 : Int), rfl, h⟩, Sub.trans hs1 (Sub_view hC [] (by kernel_rfl) (by kernel_rfl) (by kernel_rfl))⟩
    · have h := ite_f h hb
      refine T_exitp (p := [1, 0, 1, 0, 0, 0, 1, 1]) 0 (by kernel_rfl) ?_
      refine then_exit ?_
      refine then_exit ?_
      refine inblock_hit ?_
      refine (T.weaken ?_ (Sub.refl _) : T Tryd.prog C (at_ cIndex [1, 1]) _ _)
      refine T_seqp (p := [1, 1]) (by kernel_rfl) ?_
      refine T_reg henv hC [] [(6, .p (.int .i64 (-1 : Int)))] [] [] (by kernel_rfl) (by kernel_rfl) trivial (fun s1 hs1 => ?_)
      refine (T.weaken ?_ hs1 : T Tryd.prog C (at_ cIndex [1, 1, 1]) _ _)
      refine T_retp (p := [1, 1, 1]) (by kernel_rfl) ?_
      have h := Option.some.inj h; subst h
      exact ⟨mkS [(6, .p (.int .i64 (-1 : Int)))] [], (Sub.refl _), by kernel_rfl⟩

theorem fn_Index (fuel : Nat) (s sub : List UInt8) (from_ res : Int) (h : (∃ M vs, ARels γ0 M [.p (.str s), .p (.str sub), .p (.int .i64 from_)] vs) → FIndex fuel s sub from_ = some res) : FnP Tryd.prog 49 [.p (.str s), .p (.str sub), .p (.int .i64 from_)] (.p (.int .i64 res)) :=
  FnP_lift (fn := Tryd.f49) (by kernel_rfl) (by kernel_rfl) fun M vs hvs C hC0 => have hC : CtxOk C 28 [] := ⟨hC0.nt.trans (by kernel_rfl), hC0.fx⟩; T.weaken (TIndex fuel s sub from_ res (h ⟨M, vs, hvs⟩) C hC) (sinit_sub hC (by kernel_rfl) (by kernel_rfl))
def idx (sub : List UInt8) : List UInt8 → Nat → Int
  | [], i => if sub.isPrefixOf [] then i else -1
  | c :: r, i => if sub.isPrefixOf (c :: r) then i else idx sub r (i + 1)
def indexS (s sub : List UInt8) (at0 : Int) : Int := idx sub (s.drop at0.toNat) at0.toNat
abbrev indexok (s sub : List UInt8) (at0 : Int) : Prop := 0 ≤ at0 ∧ at0 ≤ s.length ∧ s.length + sub.length ≤ 1000000000
theorem idx_one (c : UInt8) : ∀ (l : List UInt8) (i : Nat), idx [c] l i = if Lib.indexByte l c = -1 then -1 else (i : Int) + Lib.indexByte l c
  | [], i => by simp [idx, Lib.indexByte]
  | b :: l, i => by
    rw [idx, idx_one c l]
    have h1 := Lib.indexByte_ge l c
    by_cases h : b = c
    · subst h; simp [List.isPrefixOf, Lib.indexByte]
    · have h' : ¬ c = b := fun e => h e.symm
      simp only [List.isPrefixOf, Lib.indexByte, h, beq_iff_eq, if_false, beq_eq_false_iff_ne.2 h', Bool.false_and, Bool.false_eq_true]
      split
      · simp
      · rename_i h2; rw [if_neg (by omega)]; push_cast; omega
theorem indexS_one (s : List UInt8) (c : UInt8) : indexS s [c] 0 = Lib.indexByte s c := by
  unfold indexS
  rw [idx_one]
  simp only [Int.toNat_zero, List.drop_zero]
  split
  · rename_i h; exact h.symm
  · simp
theorem prefix_take {sub s : List UInt8} : (s.take sub.length == sub) = sub.isPrefixOf s := by
  rw [Bool.eq_iff_iff, beq_iff_eq, List.isPrefixOf_iff_prefix, List.prefix_iff_eq_take]
  exact ⟨fun h => h.symm, fun h => h.symm⟩
theorem BIndex_eq (fuel : Nat) (s sub : List UInt8) (hs : s.length + sub.length ≤ 1000000000) : ∀ (f i : Nat), s.length + 1 < f + i → i ≤ s.length + 1 →
    BIndex_1 fuel f s sub (i : Int) = some (if i ≤ s.length then idx sub (s.drop i) i else -1) := by
  intro f
  induction f with
  | zero => intro i h1 h2; omega
  | succ f ih =>
    intro i h1 h2
    rw [BIndex_1, if_pos (ok64 (by omega) (by omega))]
    by_cases h : i + sub.length ≤ s.length
    · rw [if_pos (by simp; omega), if_pos ⟨ok64 (by omega) (by omega), by omega, by omega, by omega⟩]
      have e1 : ((i : Int) + (sub.length : Int)).toNat = i + sub.length := by omega
      rw [e1, Int.toNat_natCast, List.drop_take]
      have e2 : i + sub.length - i = sub.length := by omega
      rw [e2, prefix_take, if_pos (by omega : i ≤ s.length)]
      cases hd : s.drop i with
      | nil =>
        have : s.length ≤ i := by have := congrArg List.length hd; simp at this; omega
        have : sub = [] := List.length_eq_zero_iff.1 (by omega)
        subst this
        rw [idx]; rfl
      | cons c r =>
        have hr : s.drop (i + 1) = r := by
          have : (s.drop i).drop 1 = r := by rw [hd]; rfl
          simpa [List.drop_drop] using this
        have hlen : i < s.length := by have := congrArg List.length hd; simp at this; omega
        rw [idx]
        split
        · rfl
        · rw [if_pos (ok64 (by omega) (by omega))]
          have := ih (i + 1) (by omega) (by omega)
          rw [if_pos (by omega), hr] at this
          exact this
    · rw [if_neg (by simp; omega)]
      have none : ∀ (l : List UInt8) (k : Nat), l.length < sub.length → idx sub l k = -1 := by
        intro l
        induction l with
        | nil =>
          intro k hk
          rw [idx, if_neg]; intro hp
          have := (List.isPrefixOf_iff_prefix.1 hp).length_le
          simp at this; simp [this] at hk
        | cons c r ih2 =>
          intro k hk
          rw [idx, if_neg, ih2 _ (by simp at hk; omega)]
          intro hp
          have := (List.isPrefixOf_iff_prefix.1 hp).length_le
          omega
      by_cases hi : i ≤ s.length
      · rw [if_pos hi, none _ _ (by rw [List.length_drop]; omega)]
      · rw [if_neg hi]
theorem Index_eq (s sub : List UInt8) (a : Int) (h : indexok s sub a) : FIndex 1000000002 s sub a = some (indexS s sub a) := by
  obtain ⟨h1, h2, h3⟩ := h
  obtain ⟨i, rfl⟩ := Int.eq_ofNat_of_zero_le h1
  have := BIndex_eq 1000000002 s sub h3 1000000002 i (by omega) (by omega)
  rw [if_pos (by omega)] at this
  exact this
def sp_Index : List AV → Option (AV × Option Prop)
  | [.p (.str s), .p (.str sub), .p (.int .i64 a)] => some (.p (.int .i64 (indexS s sub a)), some (indexok s sub a))
  | _ => none
theorem ok_Index : SpecOk Tryd.prog 49 sp_Index := by
  intro zs r ok he hok
  unfold sp_Index at he
  split at he
  · cases he; exact ⟨by kernel_rfl, fn_Index 1000000002 _ _ _ _ fun _ => Index_eq _ _ _ hok⟩
  · cases he
end Go.Proofs.YthfgklcdkehgjaaDoor
