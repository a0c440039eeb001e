/-
  Lifted functions, and facts about them.
-/
import Derived.Test.YthfgklcdkehgjaaDoorRows
import Derived.Test.YthfgklcdkehgjaaDoorAmC
import Derived.Test.YthfgklcdkehgjaaDoorC13QDec
namespace Go.Proofs.YthfgklcdkehgjaaDoor
open Go Go.Am
set_option linter.unusedVariables false
def BQPlain_1 (fuel : Nat)  : Nat → List UInt8 → Int → List UInt8 → Option (List UInt8)
  | 0, _, _, _ => none
  | f1 + 1, s, vi1, vb2 => if (decide (vi1 < (s.length : Int))) = true then (if (0 ≤ vi1 ∧ vi1 < (s.length : Int)) ∧ ((((s.getD (vi1).toNat 0).toNat : Int) == (61 : Int)) = true → i64ok (vi1 + (2 : Int))) ∧ (((((s.getD (vi1).toNat 0).toNat : Int) == (61 : Int)) && (decide ((vi1 + (2 : Int)) < (s.length : Int)))) = true → i64ok (vi1 + (1 : Int))) ∧ (((((s.getD (vi1).toNat 0).toNat : Int) == (61 : Int)) && (decide ((vi1 + (2 : Int)) < (s.length : Int)))) = true → 0 ≤ (vi1 + (1 : Int)) ∧ (vi1 + (1 : Int)) < (s.length : Int)) ∧ ((((((s.getD (vi1).toNat 0).toNat : Int) == (61 : Int)) && (decide ((vi1 + (2 : Int)) < (s.length : Int)))) && (decide ((digitS ((s.getD (vi1 + (1 : Int)).toNat 0).toNat : Int)) ≥ (0 : Int)))) = true → i64ok (vi1 + (2 : Int))) ∧ ((((((s.getD (vi1).toNat 0).toNat : Int) == (61 : Int)) && (decide ((vi1 + (2 : Int)) < (s.length : Int)))) && (decide ((digitS ((s.getD (vi1 + (1 : Int)).toNat 0).toNat : Int)) ≥ (0 : Int)))) = true → 0 ≤ (vi1 + (2 : Int)) ∧ (vi1 + (2 : Int)) < (s.length : Int)) then (if ((((((s.getD (vi1).toNat 0).toNat : Int) == (61 : Int)) && (decide ((vi1 + (2 : Int)) < (s.length : Int)))) && (decide ((digitS ((s.getD (vi1 + (1 : Int)).toNat 0).toNat : Int)) ≥ (0 : Int)))) && (decide ((digitS ((s.getD (vi1 + (2 : Int)).toNat 0).toNat : Int)) ≥ (0 : Int)))) = true then (if (i64ok (vi1 + (1 : Int))) ∧ (0 ≤ (vi1 + (1 : Int)) ∧ (vi1 + (1 : Int)) < (s.length : Int)) ∧ (i64ok ((16 : Int) * (digitS ((s.getD (vi1 + (1 : Int)).toNat 0).toNat : Int)))) ∧ (i64ok (vi1 + (2 : Int))) ∧ (0 ≤ (vi1 + (2 : Int)) ∧ (vi1 + (2 : Int)) < (s.length : Int)) ∧ (i64ok (((16 : Int) * (digitS ((s.getD (vi1 + (1 : Int)).toNat 0).toNat : Int))) + (digitS ((s.getD (vi1 + (2 : Int)).toNat 0).toNat : Int)))) ∧ ((vb2.length + [UInt8.ofNat (IntKind.u8.wrap (((16 : Int) * (digitS ((s.getD (vi1 + (1 : Int)).toNat 0).toNat : Int))) + (digitS ((s.getD (vi1 + (2 : Int)).toNat 0).toNat : Int)))).toNat].length) * 1 ≤ 140737488355328) then (if i64ok (vi1 + (3 : Int)) then (BQPlain_1 fuel f1 s (vi1 + (3 : Int)) (vb2 ++ [UInt8.ofNat (IntKind.u8.wrap (((16 : Int) * (digitS ((s.getD (vi1 + (1 : Int)).toNat 0).toNat : Int))) + (digitS ((s.getD (vi1 + (2 : Int)).toNat 0).toNat : Int)))).toNat])) else none) else none) else (if (0 ≤ vi1 ∧ vi1 < (s.length : Int)) ∧ ((((s.getD (vi1).toNat 0).toNat : Int) == (61 : Int)) = true → i64ok (vi1 + (1 : Int))) ∧ (((((s.getD (vi1).toNat 0).toNat : Int) == (61 : Int)) && (decide ((vi1 + (1 : Int)) < (s.length : Int)))) = true → i64ok (vi1 + (1 : Int))) ∧ (((((s.getD (vi1).toNat 0).toNat : Int) == (61 : Int)) && (decide ((vi1 + (1 : Int)) < (s.length : Int)))) = true → 0 ≤ (vi1 + (1 : Int)) ∧ (vi1 + (1 : Int)) < (s.length : Int)) then (if (((((s.getD (vi1).toNat 0).toNat : Int) == (61 : Int)) && (decide ((vi1 + (1 : Int)) < (s.length : Int)))) && (((s.getD (vi1 + (1 : Int)).toNat 0).toNat : Int) == (10 : Int))) = true then (if i64ok (vi1 + (2 : Int)) then (BQPlain_1 fuel f1 s (vi1 + (2 : Int)) vb2) else none) else (if (0 ≤ vi1 ∧ vi1 < (s.length : Int)) ∧ ((((s.getD (vi1).toNat 0).toNat : Int) == (61 : Int)) = true → i64ok (vi1 + (2 : Int))) ∧ (((((s.getD (vi1).toNat 0).toNat : Int) == (61 : Int)) && (decide ((vi1 + (2 : Int)) < (s.length : Int)))) = true → i64ok (vi1 + (1 : Int))) ∧ (((((s.getD (vi1).toNat 0).toNat : Int) == (61 : Int)) && (decide ((vi1 + (2 : Int)) < (s.length : Int)))) = true → 0 ≤ (vi1 + (1 : Int)) ∧ (vi1 + (1 : Int)) < (s.length : Int)) ∧ ((((((s.getD (vi1).toNat 0).toNat : Int) == (61 : Int)) && (decide ((vi1 + (2 : Int)) < (s.length : Int)))) && (((s.getD (vi1 + (1 : Int)).toNat 0).toNat : Int) == (13 : Int))) = true → i64ok (vi1 + (2 : Int))) ∧ ((((((s.getD (vi1).toNat 0).toNat : Int) == (61 : Int)) && (decide ((vi1 + (2 : Int)) < (s.length : Int)))) && (((s.getD (vi1 + (1 : Int)).toNat 0).toNat : Int) == (13 : Int))) = true → 0 ≤ (vi1 + (2 : Int)) ∧ (vi1 + (2 : Int)) < (s.length : Int)) then (if ((((((s.getD (vi1).toNat 0).toNat : Int) == (61 : Int)) && (decide ((vi1 + (2 : Int)) < (s.length : Int)))) && (((s.getD (vi1 + (1 : Int)).toNat 0).toNat : Int) == (13 : Int))) && (((s.getD (vi1 + (2 : Int)).toNat 0).toNat : Int) == (10 : Int))) = true then (if i64ok (vi1 + (3 : Int)) then (BQPlain_1 fuel f1 s (vi1 + (3 : Int)) vb2) else none) else (if (0 ≤ vi1 ∧ vi1 < (s.length : Int)) ∧ ((vb2.length + [UInt8.ofNat (((s.getD (vi1).toNat 0).toNat : Int)).toNat].length) * 1 ≤ 140737488355328) then (if i64ok (vi1 + (1 : Int)) then (BQPlain_1 fuel f1 s (vi1 + (1 : Int)) (vb2 ++ [UInt8.ofNat (((s.getD (vi1).toNat 0).toNat : Int)).toNat])) else none) else none)) else none)) else none)) else none) else (some vb2)

def FQPlain (fuel : Nat) (s : List UInt8) : Option (List UInt8) := BQPlain_1 fuel fuel s (0 : Int) []

noncomputable def cQPlain : Code := bodyOf Tryd.f63

def envQPlain : Env := mkEnv [(84, sp_half)]

theorem envQPlain_ok : EnvOk Tryd.prog envQPlain := EnvOk_mk ⟨ok_half.any, trivial⟩

def envrQPlain : EnvR := mkEnvR []

theorem envrQPlain_ok : EnvROk Tryd.prog envrQPlain := EnvROk_mk trivial

theorem TQPlain (fuel : Nat) (s res : List UInt8) (h : FQPlain fuel s = some res) (C : Ctx) (hC : CtxOk C 114 []) :
    T Tryd.prog C (at_ cQPlain []) (mkS [(0, .p (.str s))] []) (Qend Tryd.prog C Tryd.f63.results.toList (.p (.str res))) := by
  have henv := envQPlain_ok
  have henvR := envrQPlain_ok
  have hmx : Tryd.prog.follows .mixedOrders = true := Checked.mixed Tryd.checked
  unfold FQPlain at h
  refine T_seqp (p := []) (by kernel_rfl) ?_
  refine T_reg henv hC [] [(0, .p (.str s))] [] [] (by kernel_rfl) (by kernel_rfl) trivial (fun s1 hs1 => ?_)
  refine (T.weaken ?_ hs1 : T Tryd.prog C (at_ cQPlain [1]) _ _)
  refine T_seqp (p := [1]) (by kernel_rfl) ?_
  refine T_reg henv hC [(3, none)] [(0, .p (.str s)), (3, .arr 3)] [(3, .barr 5 false [])] [] (by kernel_rfl) (by kernel_rfl) trivial (fun s1 hs1 => ?_)
  refine (T.weaken ?_ hs1 : T Tryd.prog C (at_ cQPlain [1, 1]) _ _)
  refine T_seqp (p := [1, 1]) (by kernel_rfl) ?_
  refine T_seqp (p := [1, 1, 0]) (by kernel_rfl) ?_
  refine T_reg henv hC [(3, some 3)] [(0, .p (.str s)), (3, .arr 3), (4, .p (.int .i64 (0 : Int)))] [(3, .barr 5 false [])] [] (by kernel_rfl) (by kernel_rfl) trivial (fun s1 hs1 => ?_)
  refine (T.weaken ?_ hs1 : T Tryd.prog C (at_ cQPlain [1, 1, 0, 1]) _ _)
  refine T_blockp (p := [1, 1, 0, 1]) 0 (by kernel_rfl) ?_
  refine T.weaken ?_ (Sub_view (l := [(0, .p (.str s)), (3, .arr 3), (4, .p (.int .i64 (0 : Int)))]) (o := [(3, .barr 5 false [])]) hC [(3, some 3)] (by kernel_rfl) (by kernel_rfl) (by kernel_rfl))
  refine T_loopp (p := [1, 1, 0, 1, 0]) (by kernel_rfl) (fun f1 s2 => ∃ (s : List UInt8) (vi1 : Int) (vb2 : List UInt8), s2 = mkS [(0, .p (.str s)), (3, .arr 3), (4, .p (.int .i64 vi1))] [(3, .barr 5 false vb2)] ∧ BQPlain_1 fuel f1 s vi1 vb2 = some res) ?_ fuel ⟨s, (0 : Int), [], rfl, h⟩
  rintro f1 s2 ⟨s, vi1, vb2, rfl, h⟩
  cases f1 with
  | zero => cases h
  | succ f1 =>
    rw [BQPlain_1] at h
    refine T_seqp (p := [1, 1, 0, 1, 0, 0]) (by kernel_rfl) ?_
    refine T_seqp (p := [1, 1, 0, 1, 0, 0, 0]) (by kernel_rfl) ?_
    refine T_reg henv hC [(3, some 3)] [(0, .p (.str s)), (3, .arr 3), (4, .p (.int .i64 vi1)), (8, .p (.bool (decide (vi1 < (s.length : Int)))))] [(3, .barr 5 false vb2)] [] (by kernel_rfl) (by kernel_rfl) trivial (fun s1 hs1 => ?_)
    refine (T.weaken ?_ hs1 : T Tryd.prog C (at_ cQPlain [1, 1, 0, 1, 0, 0, 0, 1]) _ _)
    refine T_condp (p := [1, 1, 0, 1, 0, 0, 0, 1]) (by kernel_rfl) (decide (vi1 < (s.length : Int))) (by kernel_rfl) (fun hb => ?_) (fun hb => ?_)
    · have h := ite_t h hb
      refine T_skipp (p := [1, 1, 0, 1, 0, 0, 0, 1, 0]) (by kernel_rfl) ?_
      refine (T.weaken ?_ (Sub.refl _) : T Tryd.prog C (at_ cQPlain [1, 1, 0, 1, 0, 0, 1]) _ _)
      refine T_blockp (p := [1, 1, 0, 1, 0, 0, 1]) 1 (by kernel_rfl) ?_
      refine T_blockp (p := [1, 1, 0, 1, 0, 0, 1, 0]) 2 (by kernel_rfl) ?_
      refine T_seqp (p := [1, 1, 0, 1, 0, 0, 1, 0, 0]) (by kernel_rfl) ?_
      obtain ⟨hob, h⟩ := ite_get h
      refine T_reg henv hC [(3, some 3)] [(0, .p (.str s)), (3, .arr 3), (4, .p (.int .i64 vi1)), (17, .p (.bool ((((((s.getD (vi1).toNat 0).toNat : Int) == (61 : Int)) && (decide ((vi1 + (2 : Int)) < (s.length : Int)))) && (decide ((digitS ((s.getD (vi1 + (1 : Int)).toNat 0).toNat : Int)) ≥ (0 : Int)))) && (decide ((digitS ((s.getD (vi1 + (2 : Int)).toNat 0).toNat : Int)) ≥ (0 : Int))))))] [(3, .barr 5 false vb2)] [0 ≤ vi1 ∧ vi1 < (s.length : Int), (((s.getD (vi1).toNat 0).toNat : Int) == (61 : Int)) = true → (((s.getD (vi1).toNat 0).toNat : Int) == (61 : Int)) = true, (((s.getD (vi1).toNat 0).toNat : Int) == (61 : Int)) = true → i64ok (vi1 + (2 : Int)), (((s.getD (vi1).toNat 0).toNat : Int) == (61 : Int)) = true → (((s.getD (vi1).toNat 0).toNat : Int) == (61 : Int)) = true, (((s.getD (vi1).toNat 0).toNat : Int) == (61 : Int)) = true → (((s.getD (vi1).toNat 0).toNat : Int) == (61 : Int)) = true, (((s.getD (vi1).toNat 0).toNat : Int) == (61 : Int)) = true → (((s.getD (vi1).toNat 0).toNat : Int) == (61 : Int)) = true, (((s.getD (vi1).toNat 0).toNat : Int) == (61 : Int)) = true → (((s.getD (vi1).toNat 0).toNat : Int) == (61 : Int)) = true, ((((s.getD (vi1).toNat 0).toNat : Int) == (61 : Int)) && (decide ((vi1 + (2 : Int)) < (s.length : Int)))) = true → ((((s.getD (vi1).toNat 0).toNat : Int) == (61 : Int)) && (decide ((vi1 + (2 : Int)) < (s.length : Int)))) = true, ((((s.getD (vi1).toNat 0).toNat : Int) == (61 : Int)) && (decide ((vi1 + (2 : Int)) < (s.length : Int)))) = true → i64ok (vi1 + (1 : Int)), ((((s.getD (vi1).toNat 0).toNat : Int) == (61 : Int)) && (decide ((vi1 + (2 : Int)) < (s.length : Int)))) = true → ((((s.getD (vi1).toNat 0).toNat : Int) == (61 : Int)) && (decide ((vi1 + (2 : Int)) < (s.length : Int)))) = true, ((((s.getD (vi1).toNat 0).toNat : Int) == (61 : Int)) && (decide ((vi1 + (2 : Int)) < (s.length : Int)))) = true → ((((s.getD (vi1).toNat 0).toNat : Int) == (61 : Int)) && (decide ((vi1 + (2 : Int)) < (s.length : Int)))) = true, ((((s.getD (vi1).toNat 0).toNat : Int) == (61 : Int)) && (decide ((vi1 + (2 : Int)) < (s.length : Int)))) = true → 0 ≤ (vi1 + (1 : Int)) ∧ (vi1 + (1 : Int)) < (s.length : Int), ((((s.getD (vi1).toNat 0).toNat : Int) == (61 : Int)) && (decide ((vi1 + (2 : Int)) < (s.length : Int)))) = true → ((((s.getD (vi1).toNat 0).toNat : Int) == (61 : Int)) && (decide ((vi1 + (2 : Int)) < (s.length : Int)))) = true, ((((s.getD (vi1).toNat 0).toNat : Int) == (61 : Int)) && (decide ((vi1 + (2 : Int)) < (s.length : Int)))) = true → ((((s.getD (vi1).toNat 0).toNat : Int) == (61 : Int)) && (decide ((vi1 + (2 : Int)) < (s.length : Int)))) = true, ((((s.getD (vi1).toNat 0).toNat : Int) == (61 : Int)) && (decide ((vi1 + (2 : Int)) < (s.length : Int)))) = true → ((((s.getD (vi1).toNat 0).toNat : Int) == (61 : Int)) && (decide ((vi1 + (2 : Int)) < (s.length : Int)))) = true, (((((s.getD (vi1).toNat 0).toNat : Int) == (61 : Int)) && (decide ((vi1 + (2 : Int)) < (s.length : Int)))) && (decide ((digitS ((s.getD (vi1 + (1 : Int)).toNat 0).toNat : Int)) ≥ (0 : Int)))) = true → (((((s.getD (vi1).toNat 0).toNat : Int) == (61 : Int)) && (decide ((vi1 + (2 : Int)) < (s.length : Int)))) && (decide ((digitS ((s.getD (vi1 + (1 : Int)).toNat 0).toNat : Int)) ≥ (0 : Int)))) = true, (((((s.getD (vi1).toNat 0).toNat : Int) == (61 : Int)) && (decide ((vi1 + (2 : Int)) < (s.length : Int)))) && (decide ((digitS ((s.getD (vi1 + (1 : Int)).toNat 0).toNat : Int)) ≥ (0 : Int)))) = true → i64ok (vi1 + (2 : Int)), (((((s.getD (vi1).toNat 0).toNat : Int) == (61 : Int)) && (decide ((vi1 + (2 : Int)) < (s.length : Int)))) && (decide ((digitS ((s.getD (vi1 + (1 : Int)).toNat 0).toNat : Int)) ≥ (0 : Int)))) = true → (((((s.getD (vi1).toNat 0).toNat : Int) == (61 : Int)) && (decide ((vi1 + (2 : Int)) < (s.length : Int)))) && (decide ((digitS ((s.getD (vi1 + (1 : Int)).toNat 0).toNat : Int)) ≥ (0 : Int)))) = true, (((((s.getD (vi1).toNat 0).toNat : Int) == (61 : Int)) && (decide ((vi1 + (2 : Int)) < (s.length : Int)))) && (decide ((digitS ((s.getD (vi1 + (1 : Int)).toNat 0).toNat : Int)) ≥ (0 : Int)))) = true → (((((s.getD (vi1).toNat 0).toNat : Int) == (61 : Int)) && (decide ((vi1 + (2 : Int)) < (s.length : Int)))) && (decide ((digitS ((s.getD (vi1 + (1 : Int)).toNat 0).toNat : Int)) ≥ (0 : Int)))) = true, (((((s.getD (vi1).toNat 0).toNat : Int) == (61 : Int)) && (decide ((vi1 + (2 : Int)) < (s.length : Int)))) && (decide ((digitS ((s.getD (vi1 + (1 : Int)).toNat 0).toNat : Int)) ≥ (0 : Int)))) = true → 0 ≤ (vi1 + (2 : Int)) ∧ (vi1 + (2 : Int)) < (s.length : Int), (((((s.getD (vi1).toNat 0).toNat : Int) == (61 : Int)) && (decide ((vi1 + (2 : Int)) < (s.length : Int)))) && (decide ((digitS ((s.getD (vi1 + (1 : Int)).toNat 0).toNat : Int)) ≥ (0 : Int)))) = true → (((((s.getD (vi1).toNat 0).toNat : Int) == (61 : Int)) && (decide ((vi1 + (2 : Int)) < (s.length : Int)))) && (decide ((digitS ((s.getD (vi1 + (1 : Int)).toNat 0).toNat : Int)) ≥ (0 : Int)))) = true, (((((s.getD (vi1).toNat 0).toNat : Int) == (61 : Int)) && (decide ((vi1 + (2 : Int)) < (s.length : Int)))) && (decide ((digitS ((s.getD (vi1 + (1 : Int)).toNat 0).toNat : Int)) ≥ (0 : Int)))) = true → (((((s.getD (vi1).toNat 0).toNat : Int) == (61 : Int)) && (decide ((vi1 + (2 : Int)) < (s.length : Int)))) && (decide ((digitS ((s.getD (vi1 + (1 : Int)).toNat 0).toNat : Int)) ≥ (0 : Int)))) = true, (((((s.getD (vi1).toNat 0).toNat : Int) == (61 : Int)) && (decide ((vi1 + (2 : Int)) < (s.length : Int)))) && (decide ((digitS ((s.getD (vi1 + (1 : Int)).toNat 0).toNat : Int)) ≥ (0 : Int)))) = true → (((((s.getD (vi1).toNat 0).toNat : Int) == (61 : Int)) && (decide ((vi1 + (2 : Int)) < (s.length : Int)))) && (decide ((digitS ((s.getD (vi1 + (1 : Int)).toNat 0).toNat : Int)) ≥ (0 : Int)))) = true] (by kernel_rfl) (by kernel_rfl) ⟨hob.1, (fun q0 => q0), hob.2.1, (fun q0 => q0), (fun q0 => q0), (fun q0 => q0), (fun q0 => q0), (fun q0 => q0), hob.2.2.1, (fun q0 => q0), (fun q0 => q0), hob.2.2.2.1, (fun q0 => q0), (fun q0 => q0), (fun q0 => q0), (fun q0 => q0), hob.2.2.2.2.1, (fun q0 => q0), (fun q0 => q0), hob.2.2.2.2.2, (fun q0 => q0), (fun q0 => q0), (fun q0 => q0), trivial⟩ (fun s1 hs1 => ?_)
      refine (T.weaken ?_ hs1 : T Tryd.prog C (at_ cQPlain [1, 1, 0, 1, 0, 0, 1, 0, 0, 1]) _ _)
      refine T_condp (p := [1, 1, 0, 1, 0, 0, 1, 0, 0, 1]) (by kernel_rfl) ((((((s.getD (vi1).toNat 0).toNat : Int) == (61 : Int)) && (decide ((vi1 + (2 : Int)) < (s.length : Int)))) && (decide ((digitS ((s.getD (vi1 + (1 : Int)).toNat 0).toNat : Int)) ≥ (0 : Int)))) && (decide ((digitS ((s.getD (vi1 + (2 : Int)).toNat 0).toNat : Int)) ≥ (0 : Int)))) (by kernel_rfl) (fun hb => ?_) (fun hb => ?_)
      · have h := ite_t h hb
        refine T_seqp (p := [1, 1, 0, 1, 0, 0, 1, 0, 0, 1, 0]) (by kernel_rfl) ?_
        obtain ⟨hob, h⟩ := ite_get h
        refine T_regdW henv henvR hmx hC [] [(3, some 60)] [(0, .p (.str s)), (3, .arr 3), (4, .p (.int .i64 vi1))] [(3, .barr 5 false (vb2 ++ [UInt8.ofNat (IntKind.u8.wrap (((16 : Int) * (digitS ((s.getD (vi1 + (1 : Int)).toNat 0).toNat : Int))) + (digitS ((s.getD (vi1 + (2 : Int)).toNat 0).toNat : Int)))).toNat]))] [i64ok (vi1 + (1 : Int)), 0 ≤ (vi1 + (1 : Int)) ∧ (vi1 + (1 : Int)) < (s.length : Int), i64ok ((16 : Int) * (digitS ((s.getD (vi1 + (1 : Int)).toNat 0).toNat : Int))), i64ok (vi1 + (2 : Int)), 0 ≤ (vi1 + (2 : Int)) ∧ (vi1 + (2 : Int)) < (s.length : Int), i64ok (((16 : Int) * (digitS ((s.getD (vi1 + (1 : Int)).toNat 0).toNat : Int))) + (digitS ((s.getD (vi1 + (2 : Int)).toNat 0).toNat : Int))), (vb2.length + [UInt8.ofNat (IntKind.u8.wrap (((16 : Int) * (digitS ((s.getD (vi1 + (1 : Int)).toNat 0).toNat : Int))) + (digitS ((s.getD (vi1 + (2 : Int)).toNat 0).toNat : Int)))).toNat].length) * 1 ≤ 140737488355328] (by kernel_rfl) (by kernel_rfl) (by kernel_rfl) ⟨hob.1, hob.2.1, hob.2.2.1, hob.2.2.2.1, hob.2.2.2.2.1, hob.2.2.2.2.2.1, hob.2.2.2.2.2.2, trivial⟩ (fun s1 hs1 => ?_)
        refine (T.weaken ?_ hs1 : T Tryd.prog C (at_ cQPlain [1, 1, 0, 1, 0, 0, 1, 0, 0, 1, 0, 1]) _ _)
        obtain ⟨hob, h⟩ := ite_get h
        refine T_reg henv hC [(3, some 3)] [(0, .p (.str s)), (3, .arr 3), (4, .p (.int .i64 (vi1 + (3 : Int))))] [(3, .barr 5 false (vb2 ++ [UInt8.ofNat (IntKind.u8.wrap (((16 : Int) * (digitS ((s.getD (vi1 + (1 : Int)).toNat 0).toNat : Int))) + (digitS ((s.getD (vi1 + (2 : Int)).toNat 0).toNat : Int)))).toNat]))] [i64ok (vi1 + (3 : Int))] (by kernel_rfl) (by kernel_rfl) ⟨hob, trivial⟩ (fun s1 hs1 => ?_)
        exact ⟨f1, _, Nat.lt_succ_self f1, ⟨s, vi1 + (3 : Int), vb2 ++ [UInt8.ofNat (IntKind.u8.wrap (((16 : Int) * (digitS ((s.getD (vi1 + (1 : Int)).toNat 0).toNat : Int))) + (digitS ((s.getD (vi1 + (2 : Int)).toNat 0).toNat : Int)))).toNat], rfl, h⟩, Sub.trans hs1 (Sub_view hC [(3, some 3)] (by kernel_rfl) (by kernel_rfl) (by kernel_rfl))⟩
      · have h := ite_f h hb
        refine T_seqp (p := [1, 1, 0, 1, 0, 0, 1, 0, 0, 1, 1]) (by kernel_rfl) ?_
        obtain ⟨hob, h⟩ := ite_get h
        refine T_reg henv hC [(3, some 3)] [(0, .p (.str s)), (3, .arr 3), (4, .p (.int .i64 vi1)), (63, .p (.bool (((((s.getD (vi1).toNat 0).toNat : Int) == (61 : Int)) && (decide ((vi1 + (1 : Int)) < (s.length : Int)))) && (((s.getD (vi1 + (1 : Int)).toNat 0).toNat : Int) == (10 : Int)))))] [(3, .barr 5 false vb2)] [0 ≤ vi1 ∧ vi1 < (s.length : Int), (((s.getD (vi1).toNat 0).toNat : Int) == (61 : Int)) = true → (((s.getD (vi1).toNat 0).toNat : Int) == (61 : Int)) = true, (((s.getD (vi1).toNat 0).toNat : Int) == (61 : Int)) = true → i64ok (vi1 + (1 : Int)), (((s.getD (vi1).toNat 0).toNat : Int) == (61 : Int)) = true → (((s.getD (vi1).toNat 0).toNat : Int) == (61 : Int)) = true, (((s.getD (vi1).toNat 0).toNat : Int) == (61 : Int)) = true → (((s.getD (vi1).toNat 0).toNat : Int) == (61 : Int)) = true, (((s.getD (vi1).toNat 0).toNat : Int) == (61 : Int)) = true → (((s.getD (vi1).toNat 0).toNat : Int) == (61 : Int)) = true, (((s.getD (vi1).toNat 0).toNat : Int) == (61 : Int)) = true → (((s.getD (vi1).toNat 0).toNat : Int) == (61 : Int)) = true, ((((s.getD (vi1).toNat 0).toNat : Int) == (61 : Int)) && (decide ((vi1 + (1 : Int)) < (s.length : Int)))) = true → ((((s.getD (vi1).toNat 0).toNat : Int) == (61 : Int)) && (decide ((vi1 + (1 : Int)) < (s.length : Int)))) = true, ((((s.getD (vi1).toNat 0).toNat : Int) == (61 : Int)) && (decide ((vi1 + (1 : Int)) < (s.length : Int)))) = true → i64ok (vi1 + (1 : Int)), ((((s.getD (vi1).toNat 0).toNat : Int) == (61 : Int)) && (decide ((vi1 + (1 : Int)) < (s.length : Int)))) = true → ((((s.getD (vi1).toNat 0).toNat : Int) == (61 : Int)) && (decide ((vi1 + (1 : Int)) < (s.length : Int)))) = true, ((((s.getD (vi1).toNat 0).toNat : Int) == (61 : Int)) && (decide ((vi1 + (1 : Int)) < (s.length : Int)))) = true → ((((s.getD (vi1).toNat 0).toNat : Int) == (61 : Int)) && (decide ((vi1 + (1 : Int)) < (s.length : Int)))) = true, ((((s.getD (vi1).toNat 0).toNat : Int) == (61 : Int)) && (decide ((vi1 + (1 : Int)) < (s.length : Int)))) = true → 0 ≤ (vi1 + (1 : Int)) ∧ (vi1 + (1 : Int)) < (s.length : Int), ((((s.getD (vi1).toNat 0).toNat : Int) == (61 : Int)) && (decide ((vi1 + (1 : Int)) < (s.length : Int)))) = true → ((((s.getD (vi1).toNat 0).toNat : Int) == (61 : Int)) && (decide ((vi1 + (1 : Int)) < (s.length : Int)))) = true, ((((s.getD (vi1).toNat 0).toNat : Int) == (61 : Int)) && (decide ((vi1 + (1 : Int)) < (s.length : Int)))) = true → ((((s.getD (vi1).toNat 0).toNat : Int) == (61 : Int)) && (decide ((vi1 + (1 : Int)) < (s.length : Int)))) = true] (by kernel_rfl) (by kernel_rfl) ⟨hob.1, (fun q0 => q0), hob.2.1, (fun q0 => q0), (fun q0 => q0), (fun q0 => q0), (fun q0 => q0), (fun q0 => q0), hob.2.2.1, (fun q0 => q0), (fun q0 => q0), hob.2.2.2, (fun q0 => q0), (fun q0 => q0), trivial⟩ (fun s1 hs1 => ?_)
        refine (T.weaken ?_ hs1 : T Tryd.prog C (at_ cQPlain [1, 1, 0, 1, 0, 0, 1, 0, 0, 1, 1, 1]) _ _)
        refine T_condp (p := [1, 1, 0, 1, 0, 0, 1, 0, 0, 1, 1, 1]) (by kernel_rfl) (((((s.getD (vi1).toNat 0).toNat : Int) == (61 : Int)) && (decide ((vi1 + (1 : Int)) < (s.length : Int)))) && (((s.getD (vi1 + (1 : Int)).toNat 0).toNat : Int) == (10 : Int))) (by kernel_rfl) (fun hb => ?_) (fun hb => ?_)
        · have h := ite_t h hb
          obtain ⟨hob, h⟩ := ite_get h
          refine T_reg henv hC [(3, some 3)] [(0, .p (.str s)), (3, .arr 3), (4, .p (.int .i64 (vi1 + (2 : Int))))] [(3, .barr 5 false vb2)] [i64ok (vi1 + (2 : Int))] (by kernel_rfl) (by kernel_rfl) ⟨hob, trivial⟩ (fun s1 hs1 => ?_)
          exact ⟨f1, _, Nat.lt_succ_self f1, ⟨s, vi1 + (2 : Int), vb2, rfl, h⟩, Sub.trans hs1 (Sub_view hC [(3, some 3)] (by kernel_rfl) (by kernel_rfl) (by kernel_rfl))⟩
        · have h := ite_f h hb
          refine T_seqp (p := [1, 1, 0, 1, 0, 0, 1, 0, 0, 1, 1, 1, 1]) (by kernel_rfl) ?_
          obtain ⟨hob, h⟩ := ite_get h
          refine T_reg henv hC [(3, some 3)] [(0, .p (.str s)), (3, .arr 3), (4, .p (.int .i64 vi1)), (84, .p (.bool ((((((s.getD (vi1).toNat 0).toNat : Int) == (61 : Int)) && (decide ((vi1 + (2 : Int)) < (s.length : Int)))) && (((s.getD (vi1 + (1 : Int)).toNat 0).toNat : Int) == (13 : Int))) && (((s.getD (vi1 + (2 : Int)).toNat 0).toNat : Int) == (10 : Int)))))] [(3, .barr 5 false vb2)] [0 ≤ vi1 ∧ vi1 < (s.length : Int), (((s.getD (vi1).toNat 0).toNat : Int) == (61 : Int)) = true → (((s.getD (vi1).toNat 0).toNat : Int) == (61 : Int)) = true, (((s.getD (vi1).toNat 0).toNat : Int) == (61 : Int)) = true → i64ok (vi1 + (2 : Int)), (((s.getD (vi1).toNat 0).toNat : Int) == (61 : Int)) = true → (((s.getD (vi1).toNat 0).toNat : Int) == (61 : Int)) = true, (((s.getD (vi1).toNat 0).toNat : Int) == (61 : Int)) = true → (((s.getD (vi1).toNat 0).toNat : Int) == (61 : Int)) = true, (((s.getD (vi1).toNat 0).toNat : Int) == (61 : Int)) = true → (((s.getD (vi1).toNat 0).toNat : Int) == (61 : Int)) = true, (((s.getD (vi1).toNat 0).toNat : Int) == (61 : Int)) = true → (((s.getD (vi1).toNat 0).toNat : Int) == (61 : Int)) = true, ((((s.getD (vi1).toNat 0).toNat : Int) == (61 : Int)) && (decide ((vi1 + (2 : Int)) < (s.length : Int)))) = true → ((((s.getD (vi1).toNat 0).toNat : Int) == (61 : Int)) && (decide ((vi1 + (2 : Int)) < (s.length : Int)))) = true, ((((s.getD (vi1).toNat 0).toNat : Int) == (61 : Int)) && (decide ((vi1 + (2 : Int)) < (s.length : Int)))) = true → i64ok (vi1 + (1 : Int)), ((((s.getD (vi1).toNat 0).toNat : Int) == (61 : Int)) && (decide ((vi1 + (2 : Int)) < (s.length : Int)))) = true → ((((s.getD (vi1).toNat 0).toNat : Int) == (61 : Int)) && (decide ((vi1 + (2 : Int)) < (s.length : Int)))) = true, ((((s.getD (vi1).toNat 0).toNat : Int) == (61 : Int)) && (decide ((vi1 + (2 : Int)) < (s.length : Int)))) = true → ((((s.getD (vi1).toNat 0).toNat : Int) == (61 : Int)) && (decide ((vi1 + (2 : Int)) < (s.length : Int)))) = true, ((((s.getD (vi1).toNat 0).toNat : Int) == (61 : Int)) && (decide ((vi1 + (2 : Int)) < (s.length : Int)))) = true → 0 ≤ (vi1 + (1 : Int)) ∧ (vi1 + (1 : Int)) < (s.length : Int), ((((s.getD (vi1).toNat 0).toNat : Int) == (61 : Int)) && (decide ((vi1 + (2 : Int)) < (s.length : Int)))) = true → ((((s.getD (vi1).toNat 0).toNat : Int) == (61 : Int)) && (decide ((vi1 + (2 : Int)) < (s.length : Int)))) = true, ((((s.getD (vi1).toNat 0).toNat : Int) == (61 : Int)) && (decide ((vi1 + (2 : Int)) < (s.length : Int)))) = true → ((((s.getD (vi1).toNat 0).toNat : Int) == (61 : Int)) && (decide ((vi1 + (2 : Int)) < (s.length : Int)))) = true, (((((s.getD (vi1).toNat 0).toNat : Int) == (61 : Int)) && (decide ((vi1 + (2 : Int)) < (s.length : Int)))) && (((s.getD (vi1 + (1 : Int)).toNat 0).toNat : Int) == (13 : Int))) = true → (((((s.getD (vi1).toNat 0).toNat : Int) == (61 : Int)) && (decide ((vi1 + (2 : Int)) < (s.length : Int)))) && (((s.getD (vi1 + (1 : Int)).toNat 0).toNat : Int) == (13 : Int))) = true, (((((s.getD (vi1).toNat 0).toNat : Int) == (61 : Int)) && (decide ((vi1 + (2 : Int)) < (s.length : Int)))) && (((s.getD (vi1 + (1 : Int)).toNat 0).toNat : Int) == (13 : Int))) = true → i64ok (vi1 + (2 : Int)), (((((s.getD (vi1).toNat 0).toNat : Int) == (61 : Int)) && (decide ((vi1 + (2 : Int)) < (s.length : Int)))) && (((s.getD (vi1 + (1 : Int)).toNat 0).toNat : Int) == (13 : Int))) = true → (((((s.getD (vi1).toNat 0).toNat : Int) == (61 : Int)) && (decide ((vi1 + (2 : Int)) < (s.length : Int)))) && (((s.getD (vi1 + (1 : Int)).toNat 0).toNat : Int) == (13 : Int))) = true, (((((s.getD (vi1).toNat 0).toNat : Int) == (61 : Int)) && (decide ((vi1 + (2 : Int)) < (s.length : Int)))) && (((s.getD (vi1 + (1 : Int)).toNat 0).toNat : Int) == (13 : Int))) = true → (((((s.getD (vi1).toNat 0).toNat : Int) == (61 : Int)) && (decide ((vi1 + (2 : Int)) < (s.length : Int)))) && (((s.getD (vi1 + (1 : Int)).toNat 0).toNat : Int) == (13 : Int))) = true, (((((s.getD (vi1).toNat 0).toNat : Int) == (61 : Int)) && (decide ((vi1 + (2 : Int)) < (s.length : Int)))) && (((s.getD (vi1 + (1 : Int)).toNat 0).toNat : Int) == (13 : Int))) = true → 0 ≤ (vi1 + (2 : Int)) ∧ (vi1 + (2 : Int)) < (s.length : Int), (((((s.getD (vi1).toNat 0).toNat : Int) == (61 : Int)) && (decide ((vi1 + (2 : Int)) < (s.length : Int)))) && (((s.getD (vi1 + (1 : Int)).toNat 0).toNat : Int) == (13 : Int))) = true → (((((s.getD (vi1).toNat 0).toNat : Int) == (61 : Int)) && (decide ((vi1 + (2 : Int)) < (s.length : Int)))) && (((s.getD (vi1 + (1 : Int)).toNat 0).toNat : Int) == (13 : Int))) = true, (((((s.getD (vi1).toNat 0).toNat : Int) == (61 : Int)) && (decide ((vi1 + (2 : Int)) < (s.length : Int)))) && (((s.getD (vi1 + (1 : Int)).toNat 0).toNat : Int) == (13 : Int))) = true → (((((s.getD (vi1).toNat 0).toNat : Int) == (61 : Int)) && (decide ((vi1 + (2 : Int)) < (s.length : Int)))) && (((s.getD (vi1 + (1 : Int)).toNat 0).toNat : Int) == (13 : Int))) = true] (by kernel_rfl) (by kernel_rfl) ⟨hob.1, (fun q0 => q0), hob.2.1, (fun q0 => q0), (fun q0 => q0), (fun q0 => q0), (fun q0 => q0), (fun q0 => q0), hob.2.2.1, (fun q0 => q0), (fun q0 => q0), hob.2.2.2.1, (fun q0 => q0), (fun q0 => q0), (fun q0 => q0), hob.2.2.2.2.1, (fun q0 => q0), (fun q0 => q0), hob.2.2.2.2.2, (fun q0 => q0), (fun q0 => q0), trivial⟩ (fun s1 hs1 => ?_)
          refine (T.weaken ?_ hs1 : T Tryd.prog C (at_ cQPlain [1, 1, 0, 1, 0, 0, 1, 0, 0, 1, 1, 1, 1, 1]) _ _)
          refine T_condp (p := [1, 1, 0, 1, 0, 0, 1, 0, 0, 1, 1, 1, 1, 1]) (by kernel_rfl) ((((((s.getD (vi1).toNat 0).toNat : Int) == (61 : Int)) && (decide ((vi1 + (2 : Int)) < (s.length : Int)))) && (((s.getD (vi1 + (1 : Int)).toNat 0).toNat : Int) == (13 : Int))) && (((s.getD (vi1 + (2 : Int)).toNat 0).toNat : Int) == (10 : Int))) (by kernel_rfl) (fun hb => ?_) (fun hb => ?_)
          · have h := ite_t h hb
            obtain ⟨hob, h⟩ := ite_get h
            refine T_reg henv hC [(3, some 3)] [(0, .p (.str s)), (3, .arr 3), (4, .p (.int .i64 (vi1 + (3 : Int))))] [(3, .barr 5 false vb2)] [i64ok (vi1 + (3 : Int))] (by kernel_rfl) (by kernel_rfl) ⟨hob, trivial⟩ (fun s1 hs1 => ?_)
            exact ⟨f1, _, Nat.lt_succ_self f1, ⟨s, vi1 + (3 : Int), vb2, rfl, h⟩, Sub.trans hs1 (Sub_view hC [(3, some 3)] (by kernel_rfl) (by kernel_rfl) (by kernel_rfl))⟩
          · have h := ite_f h hb
            refine T_seqp (p := [1, 1, 0, 1, 0, 0, 1, 0, 0, 1, 1, 1, 1, 1, 1]) (by kernel_rfl) ?_
            obtain ⟨hob, h⟩ := ite_get h
            refine T_reg henv hC [(3, some 14)] [(0, .p (.str s)), (3, .arr 3), (4, .p (.int .i64 vi1))] [(3, .barr 5 false (vb2 ++ [UInt8.ofNat (((s.getD (vi1).toNat 0).toNat : Int)).toNat]))] [0 ≤ vi1 ∧ vi1 < (s.length : Int), (vb2.length + [UInt8.ofNat (((s.getD (vi1).toNat 0).toNat : Int)).toNat].length) * 1 ≤ 140737488355328] (by kernel_rfl) (by kernel_rfl) ⟨hob.1, hob.2, trivial⟩ (fun s1 hs1 => ?_)
            refine (T.weaken ?_ hs1 : T Tryd.prog C (at_ cQPlain [1, 1, 0, 1, 0, 0, 1, 0, 0, 1, 1, 1, 1, 1, 1, 1]) _ _)
            obtain ⟨hob, h⟩ := ite_get h
            refine T_reg henv hC [(3, some 3)] [(0, .p (.str s)), (3, .arr 3), (4, .p (.int .i64 (vi1 + (1 : Int))))] [(3, .barr 5 false (vb2 ++ [UInt8.ofNat (((s.getD (vi1).toNat 0).toNat : Int)).toNat]))] [i64ok (vi1 + (1 : Int))] (by kernel_rfl) (by kernel_rfl) ⟨hob, trivial⟩ (fun s1 hs1 => ?_)
            exact ⟨f1, _, Nat.lt_succ_self f1, ⟨s, vi1 + (1 : Int), vb2 ++ [UInt8.ofNat (((s.getD (vi1).toNat 0).toNat : Int)).toNat], rfl, h⟩, Sub.trans hs1 (Sub_view hC [(3, some 3)] (by kernel_rfl) (by kernel_rfl) (by kernel_rfl))⟩
    · have h := ite_f h hb
      refine T_exitp (p := [1, 1, 0, 1, 0, 0, 0, 1, 1]) 0 (by kernel_rfl) ?_
      refine then_exit ?_
      refine then_exit ?_
      refine inblock_hit ?_
      refine (T.weaken ?_ (Sub.refl _) : T Tryd.prog C (at_ cQPlain [1, 1, 1]) _ _)
      refine T_seqp (p := [1, 1, 1]) (by kernel_rfl) ?_
      refine T_reg henv hC [] [(2, .p (.str vb2))] [] [] (by kernel_rfl) (by kernel_rfl) trivial (fun s1 hs1 => ?_)
      refine (T.weaken ?_ hs1 : T Tryd.prog C (at_ cQPlain [1, 1, 1, 1]) _ _)
      refine T_retp (p := [1, 1, 1, 1]) (by kernel_rfl) ?_
      have h := Option.some.inj h; subst h
      exact ⟨mkS [(2, .p (.str vb2))] [], (Sub.refl _), by kernel_rfl⟩

theorem fn_QPlain (fuel : Nat) (s res : List UInt8) (h : (∃ M vs, ARels γ0 M [.p (.str s)] vs) → FQPlain fuel s = some res) : FnP Tryd.prog 63 [.p (.str s)] (.p (.str res)) :=
  FnP_lift (fn := Tryd.f63) (by kernel_rfl) (by kernel_rfl) fun M vs hvs C hC0 => have hC : CtxOk C 114 [] := ⟨hC0.nt.trans (by kernel_rfl), hC0.fx⟩; T.weaken (TQPlain fuel s res (h ⟨M, vs, hvs⟩) C hC) (sinit_sub hC (by kernel_rfl) (by kernel_rfl))
theorem BQPlain_eq (fuel : Nat) (s : List UInt8) (hs : s.length ≤ 1000000) : ∀ (f i : Nat) (b : List UInt8), s.length < f + i → i ≤ s.length → b.length ≤ i →
    BQPlain_1 fuel f s (i : Int) b = some (b ++ qdec (s.drop i)) := by
  intro f
  induction f with
  | zero => intro i b h1 h2; omega
  | succ f ih =>
    intro i b h1 h2 h3
    cases hd : s.drop i with
    | nil =>
      have : s.length ≤ i := by have := congrArg List.length hd; simp at this; omega
      rw [BQPlain_1, if_neg (by simp; omega), qdec_nil]
      simp
    | cons c r =>
      obtain ⟨e1, e2, e3⟩ := drop_cons hd
      have t1 : ((i : Int) + 1).toNat = i + 1 := by omega
      have t2 : ((i : Int) + 2).toNat = i + 2 := by omega
      have ok : ∀ n : Int, 0 ≤ n → n ≤ 10000000 → i64ok n := fun n h h' => i64ok_small (by omega) (by omega)
      have next : ∀ (k : Nat) (b' : List UInt8), i + k ≤ s.length → 1 ≤ k → b'.length ≤ i + k → BQPlain_1 fuel f s ((i : Int) + k) b' = some (b' ++ qdec (s.drop (i + k))) := by
        intro k b' hk hk1 hb
        have := ih (i + k) b' (by omega) hk hb
        rw [← this]; congr 1
      rw [BQPlain_1, if_pos (by simp; omega)]
      simp only [Int.toNat_natCast, e1, t1, t2]
      have ok1 := ok ((i : Int) + 1) (by omega) (by omega)
      have ok2 := ok ((i : Int) + 2) (by omega) (by omega)
      have ok3 := ok ((i : Int) + 3) (by omega) (by omega)
      have n1 := next 1
      have n2 := next 2
      have n3 := next 3
      by_cases hc : c = 61
      · subst hc
        match r, e3, e2, hd with
        | [], e3, e2, hd =>
          simp only [List.length_nil] at e3
          rw [if_pos ⟨by omega, fun _ => ok2, fun _ => ok1, fun h => by simp at h; omega, fun _ => ok2, fun h => by simp at h; omega⟩,
            if_neg (by intro h; simp at h; omega), if_pos ⟨by omega, fun _ => ok1, fun _ => ok1, fun h => by simp at h; omega⟩, if_neg (by intro h; simp at h; omega),
            if_pos ⟨by omega, fun _ => ok2, fun _ => ok1, fun h => by simp at h; omega, fun _ => ok2, fun h => by simp at h; omega⟩,
            if_neg (by intro h; simp at h; omega), if_pos ⟨by omega, by simp; omega⟩, if_pos ok1]
          refine (n1 _ (by omega) (by omega) (by simp; omega)).trans ?_
          rw [e2, qdec_nil, qdec_1]; simp
        | [x], e3, e2, hd =>
          simp only [List.length_cons, List.length_nil] at e3
          have x1 := (drop_cons e2).1
          simp only [x1]
          rw [if_pos ⟨by omega, fun _ => ok2, fun _ => ok1, fun h => by simp at h; omega, fun _ => ok2, fun h => by simp at h; omega⟩,
            if_neg (by intro h; simp at h; omega), if_pos ⟨by omega, fun _ => ok1, fun _ => ok1, fun h => by omega⟩, qdec_2]
          by_cases hx : x = 10
          · subst hx
            rw [if_pos (by simp; omega), if_pos ok2, if_pos rfl]
            refine (n2 b (by omega) (by omega) (by omega)).trans ?_
            rw [List.drop_of_length_le (by omega), qdec_nil]
          · rw [if_neg (by intro h; simp at h; exact hx (u8_eq (d := 10) |>.1 h.2)), if_neg hx,
              if_pos ⟨by omega, fun _ => ok2, fun _ => ok1, fun h => by simp at h; omega, fun _ => ok2, fun h => by simp at h; omega⟩,
              if_neg (by intro h; simp at h; omega), if_pos ⟨by omega, by simp; omega⟩, if_pos ok1]
            refine (n1 _ (by omega) (by omega) (by simp; omega)).trans ?_
            rw [e2]; simp
        | x :: y :: t, e3, e2, hd =>
          simp only [List.length_cons] at e3
          obtain ⟨x1, x2, _⟩ := drop_cons e2
          obtain ⟨y1, y2, _⟩ := drop_cons x2
          rw [show i + 1 + 1 = i + 2 from rfl] at x2 y1
          rw [show i + 1 + 1 + 1 = i + 3 from rfl] at y2
          simp only [x1, y1]
          have dx := digitS_lt (x.toNat)
          have dy := digitS_lt (y.toNat)
          rw [if_pos ⟨by omega, fun _ => ok2, fun _ => ok1, fun _ => by omega, fun _ => ok2, fun _ => by omega⟩, qdec_3]
          by_cases hh : isHex x ∧ isHex y
          · have h1 : (0 : Int) ≤ digitS x.toNat := hh.1
            have h2' : (0 : Int) ≤ digitS y.toNat := hh.2
            rw [if_pos (by simpa using ⟨⟨by omega, h1⟩, h2'⟩), if_pos hh, if_pos ⟨ok1, by omega, ok _ (by omega) (by omega), ok2, by omega, ok _ (by omega) (by omega), by simp; omega⟩, if_pos ok3]
            refine (n3 _ (by omega) (by omega) (by simp; omega)).trans ?_
            rw [y2, u8_small (by omega) (by omega)]
            simp [hexB]
          · rw [if_neg (by
              intro h; simp at h
              exact hh ⟨h.1.2, h.2⟩), if_neg hh, if_pos ⟨by omega, fun _ => ok1, fun _ => ok1, fun _ => by omega⟩]
            by_cases hx : x = 10
            · subst hx
              rw [if_pos (by simp; omega), if_pos ok2, if_pos rfl]
              refine (n2 b (by omega) (by omega) (by omega)).trans ?_
              rw [x2]
            · rw [if_neg (by intro h; simp at h; exact hx (u8_eq (d := 10) |>.1 h.2)), if_neg hx,
                if_pos ⟨by omega, fun _ => ok2, fun _ => ok1, fun _ => by omega, fun _ => ok2, fun _ => by omega⟩]
              by_cases hxy : x = 13 ∧ y = 10
              · obtain ⟨rfl, rfl⟩ := hxy
                rw [if_pos (by simp; omega), if_pos ok3, if_pos ⟨rfl, rfl⟩]
                refine (n3 b (by omega) (by omega) (by omega)).trans ?_
                rw [y2]
              · rw [if_neg (by
                  intro h; simp at h
                  exact hxy ⟨u8_eq (d := 13) |>.1 h.1.2, u8_eq (d := 10) |>.1 h.2⟩), if_neg hxy, if_pos ⟨by omega, by simp; omega⟩, if_pos ok1]
                refine (n1 _ (by omega) (by omega) (by simp; omega)).trans ?_
                rw [e2]; simp
      · have hc' : ((c.toNat : Int) == 61) = false := by simpa using fun e => hc (u8_eq (d := 61) |>.1 e)
        simp only [hc', Bool.false_and]
        have f0 : ∀ p : Prop, (false = true → p) := fun p h => by cases h
        rw [if_pos ⟨by omega, f0 _, f0 _, f0 _, f0 _, f0 _⟩, if_neg (by simp), if_pos ⟨by omega, f0 _, f0 _, f0 _⟩, if_neg (by simp), if_pos ⟨by omega, f0 _, f0 _, f0 _, f0 _, f0 _⟩, if_neg (by simp), if_pos ⟨by omega, by simp; omega⟩, if_pos ok1]
        refine (n1 _ (by omega) (by omega) (by simp; omega)).trans ?_
        rw [e2, qdec_ne hc]; simp

theorem QPlain_eq (s : List UInt8) (hs : s.length ≤ 1000000) : FQPlain 1000001 s = some (qdec s) := by
  have := BQPlain_eq 1000001 s hs 1000001 0 [] (by omega) (by omega) (by simp)
  simpa [FQPlain] using this
def sp_QPlain : List AV → Option (AV × Option Prop) := spStr qdec
theorem ok_QPlain : SpecOk Tryd.prog 63 sp_QPlain := spStr_ok (by kernel_rfl) fun s hs => fn_QPlain 1000001 s _ fun _ => QPlain_eq s hs
end Go.Proofs.YthfgklcdkehgjaaDoor
