/-
  A lifted function, or a fact about one.
-/
import Derived.Test.YtnojfkkdihchiaaRows
import Derived.Test.YtnojfkkdihchiaaAmDrawRR
import Derived.Test.YtnojfkkdihchiaaQSpec
namespace Go.Proofs.Ytnojfkkdihchiaa
open Go Go.Am
def BQuoted_3 (fuel : Nat) (k1 : List UInt8 → Int → Int → List UInt8 → Option (List UInt8)) (s : List UInt8) (vi5 : Int) (vi2 : Int) (vb6 : List UInt8) (vb4 : List UInt8) : Option (List UInt8) := if (vb6.length + vb4.length) * 1 ≤ 140737488355328 then (if i64ok (vi5 + (vb4.length : Int)) then (if i64ok (vi2 + (1 : Int)) then (k1 s (vi5 + (vb4.length : Int)) (vi2 + (1 : Int)) (vb6 ++ vb4)) else none) else none) else none

def BQuoted_2 (fuel : Nat) (k1 : List UInt8 → Int → Int → List UInt8 → Option (List UInt8)) (s : List UInt8) (vi1 : Int) (vi2 : Int) (vb3 : List UInt8) (vb4 : List UInt8) : Option (List UInt8) := if i64ok (vi1 + (vb4.length : Int)) then (if (decide ((vi1 + (vb4.length : Int)) > (75 : Int))) = true then (if (vb3.length + [UInt8.ofNat ((61 : Int)).toNat, UInt8.ofNat ((13 : Int)).toNat, UInt8.ofNat ((10 : Int)).toNat].length) * 1 ≤ 140737488355328 then (BQuoted_3 fuel k1 s (0 : Int) vi2 (vb3 ++ [UInt8.ofNat ((61 : Int)).toNat, UInt8.ofNat ((13 : Int)).toNat, UInt8.ofNat ((10 : Int)).toNat]) vb4) else none) else (BQuoted_3 fuel k1 s vi1 vi2 vb3 vb4)) else none

def BQuoted_1 (fuel : Nat)  : Nat → List UInt8 → Int → Int → List UInt8 → Option (List UInt8)
  | 0, _, _, _, _ => none
  | f + 1, s, vi1, vi2, vb3 => if (decide (vi2 < (s.length : Int))) = true then (if 0 ≤ vi2 ∧ vi2 < (s.length : Int) then (if ((((decide (((s.getD (vi2).toNat 0).toNat : Int) < (33 : Int))) || (decide (((s.getD (vi2).toNat 0).toNat : Int) > (126 : Int)))) || (((s.getD (vi2).toNat 0).toNat : Int) == (61 : Int))) && (!(((s.getD (vi2).toNat 0).toNat : Int) != (32 : Int)))) = true → i64ok ((s.length : Int) - (1 : Int)) then (if ((((decide (((s.getD (vi2).toNat 0).toNat : Int) < (33 : Int))) || (decide (((s.getD (vi2).toNat 0).toNat : Int) > (126 : Int)))) || (((s.getD (vi2).toNat 0).toNat : Int) == (61 : Int))) && ((((s.getD (vi2).toNat 0).toNat : Int) != (32 : Int)) || (vi2 == ((s.length : Int) - (1 : Int))))) = true then (if ((16 : Int) ≠ 0) ∧ (0 ≤ (IntKind.u8.wrap (((s.getD (vi2).toNat 0).toNat : Int).tdiv (16 : Int))) ∧ (IntKind.u8.wrap (((s.getD (vi2).toNat 0).toNat : Int).tdiv (16 : Int))) < (([48, 49, 50, 51, 52, 53, 54, 55, 56, 57, 65, 66, 67, 68, 69, 70] : List UInt8).length : Int)) ∧ ((16 : Int) ≠ 0) ∧ (0 ≤ (((s.getD (vi2).toNat 0).toNat : Int).tmod (16 : Int)) ∧ (((s.getD (vi2).toNat 0).toNat : Int).tmod (16 : Int)) < (([48, 49, 50, 51, 52, 53, 54, 55, 56, 57, 65, 66, 67, 68, 69, 70] : List UInt8).length : Int)) then (BQuoted_2 fuel (BQuoted_1 fuel f) s vi1 vi2 vb3 [UInt8.ofNat ((61 : Int)).toNat, UInt8.ofNat (((([48, 49, 50, 51, 52, 53, 54, 55, 56, 57, 65, 66, 67, 68, 69, 70] : List UInt8).getD (IntKind.u8.wrap (((s.getD (vi2).toNat 0).toNat : Int).tdiv (16 : Int))).toNat 0).toNat : Int)).toNat, UInt8.ofNat (((([48, 49, 50, 51, 52, 53, 54, 55, 56, 57, 65, 66, 67, 68, 69, 70] : List UInt8).getD (((s.getD (vi2).toNat 0).toNat : Int).tmod (16 : Int)).toNat 0).toNat : Int)).toNat]) else none) else (BQuoted_2 fuel (BQuoted_1 fuel f) s vi1 vi2 vb3 [UInt8.ofNat (((s.getD (vi2).toNat 0).toNat : Int)).toNat])) else none) else none) else (some vb3)

def FQuoted (fuel : Nat) (s : List UInt8) : Option (List UInt8) := BQuoted_1 fuel fuel s (0 : Int) (0 : Int) []

noncomputable def cQuoted : Code := bodyOf Try.f9

def envQuoted : Env := mkEnv []

theorem envQuoted_ok : EnvOk Try.prog envQuoted := EnvOk_mk trivial

theorem TQuoted (fuel : Nat) (s : List UInt8) (res : List UInt8) (h : FQuoted fuel s = some res) (C : Ctx) (hC : CtxOk C 64 []) :
    T Try.prog C (at_ cQuoted []) (mkS [(0, .p (.str s))] []) (Qend Try.prog C Try.f9.results.toList (.p (.str res))) := by
  have henv := envQuoted_ok
  have hmx : Try.prog.follows .mixedOrders = true := Checked.mixed Try.checked
  unfold FQuoted at h
  refine T_seqp (p := []) (by kernel_rfl) ?_
  refine T_reg henv hC [] [(0, .p (.str s))] [] [] (by kernel_rfl) (by kernel_rfl) trivial (fun s1 hs1 => ?_)
  refine (T.weaken ?_ hs1 : T Try.prog C (at_ cQuoted [1]) _ _)
  refine T_seqp (p := [1]) (by kernel_rfl) ?_
  refine T_reg henv hC [(3, none)] [(0, .p (.str s)), (3, .arr 3)] [(3, .barr 5 false [])] [] (by kernel_rfl) (by kernel_rfl) trivial (fun s1 hs1 => ?_)
  refine (T.weaken ?_ hs1 : T Try.prog C (at_ cQuoted [1, 1]) _ _)
  refine T_seqp (p := [1, 1]) (by kernel_rfl) ?_
  refine T_reg henv hC [(3, some 3)] [(0, .p (.str s)), (3, .arr 3), (4, .p (.int .i64 (0 : Int)))] [(3, .barr 5 false [])] [] (by kernel_rfl) (by kernel_rfl) trivial (fun s1 hs1 => ?_)
  refine (T.weaken ?_ hs1 : T Try.prog C (at_ cQuoted [1, 1, 1]) _ _)
  refine T_seqp (p := [1, 1, 1]) (by kernel_rfl) ?_
  refine T_seqp (p := [1, 1, 1, 0]) (by kernel_rfl) ?_
  refine T_reg henv hC [(3, some 3)] [(0, .p (.str s)), (3, .arr 3), (4, .p (.int .i64 (0 : Int))), (5, .p (.int .i64 (0 : Int)))] [(3, .barr 5 false [])] [] (by kernel_rfl) (by kernel_rfl) trivial (fun s1 hs1 => ?_)
  refine (T.weaken ?_ hs1 : T Try.prog C (at_ cQuoted [1, 1, 1, 0, 1]) _ _)
  refine T_blockp (p := [1, 1, 1, 0, 1]) 0 (by kernel_rfl) ?_
  refine T.weaken ?_ (Sub_view (l := [(0, .p (.str s)), (3, .arr 3), (4, .p (.int .i64 (0 : Int))), (5, .p (.int .i64 (0 : Int)))]) (o := [(3, .barr 5 false [])]) hC [(3, some 3)] (by kernel_rfl) (by kernel_rfl) (by kernel_rfl))
  refine T_loopp (p := [1, 1, 1, 0, 1, 0]) (by kernel_rfl) (fun f s2 => ∃ (s : List UInt8) (vi1 : Int) (vi2 : Int) (vb3 : List UInt8), s2 = mkS [(0, .p (.str s)), (3, .arr 3), (4, .p (.int .i64 vi1)), (5, .p (.int .i64 vi2))] [(3, .barr 5 false vb3)] ∧ BQuoted_1 fuel f s vi1 vi2 vb3 = some res) ?_ fuel ⟨s, (0 : Int), (0 : Int), [], rfl, h⟩
  rintro f s2 ⟨s, vi1, vi2, vb3, rfl, h⟩
  cases f with
  | zero => cases h
  | succ f =>
    rw [BQuoted_1] at h
    refine T_seqp (p := [1, 1, 1, 0, 1, 0, 0]) (by kernel_rfl) ?_
    refine T_seqp (p := [1, 1, 1, 0, 1, 0, 0, 0]) (by kernel_rfl) ?_
    refine T_reg henv hC [(3, some 3)] [(0, .p (.str s)), (3, .arr 3), (4, .p (.int .i64 vi1)), (5, .p (.int .i64 vi2)), (11, .p (.bool (decide (vi2 < (s.length : Int)))))] [(3, .barr 5 false vb3)] [] (by kernel_rfl) (by kernel_rfl) trivial (fun s1 hs1 => ?_)
    refine (T.weaken ?_ hs1 : T Try.prog C (at_ cQuoted [1, 1, 1, 0, 1, 0, 0, 0, 1]) _ _)
    refine T_condp (p := [1, 1, 1, 0, 1, 0, 0, 0, 1]) (by kernel_rfl) (decide (vi2 < (s.length : Int))) (by kernel_rfl) (fun hb => ?_) (fun hb => ?_)
    · have h := ite_t h hb
      refine T_skipp (p := [1, 1, 1, 0, 1, 0, 0, 0, 1, 0]) (by kernel_rfl) ?_
      refine (T.weaken ?_ (Sub.refl _) : T Try.prog C (at_ cQuoted [1, 1, 1, 0, 1, 0, 0, 1]) _ _)
      refine T_seqp (p := [1, 1, 1, 0, 1, 0, 0, 1]) (by kernel_rfl) ?_
      refine T_blockp (p := [1, 1, 1, 0, 1, 0, 0, 1, 0]) 1 (by kernel_rfl) ?_
      refine T_seqp (p := [1, 1, 1, 0, 1, 0, 0, 1, 0, 0]) (by kernel_rfl) ?_
      obtain ⟨hob, h⟩ := ite_get h
      refine T_reg henv hC [(3, some 3)] [(0, .p (.str s)), (3, .arr 3), (4, .p (.int .i64 vi1)), (5, .p (.int .i64 vi2)), (6, .p (.int .u8 ((s.getD (vi2).toNat 0).toNat : Int)))] [(3, .barr 5 false vb3)] [0 ≤ vi2 ∧ vi2 < (s.length : Int)] (by kernel_rfl) (by kernel_rfl) ⟨hob, trivial⟩ (fun s1 hs1 => ?_)
      refine (T.weaken ?_ hs1 : T Try.prog C (at_ cQuoted [1, 1, 1, 0, 1, 0, 0, 1, 0, 0, 1]) _ _)
      refine T_seqp (p := [1, 1, 1, 0, 1, 0, 0, 1, 0, 0, 1]) (by kernel_rfl) ?_
      refine T_reg henv hC [(3, some 3), (7, some 18)] [(0, .p (.str s)), (3, .arr 3), (4, .p (.int .i64 vi1)), (5, .p (.int .i64 vi2)), (6, .p (.int .u8 ((s.getD (vi2).toNat 0).toNat : Int))), (7, .arr 7)] [(3, .barr 5 false vb3), (7, .barr 5 false [UInt8.ofNat (((s.getD (vi2).toNat 0).toNat : Int)).toNat])] [] (by kernel_rfl) (by kernel_rfl) trivial (fun s1 hs1 => ?_)
      refine (T.weaken ?_ hs1 : T Try.prog C (at_ cQuoted [1, 1, 1, 0, 1, 0, 0, 1, 0, 0, 1, 1]) _ _)
      refine T_join (p := [1, 1, 1, 0, 1, 0, 0, 1, 0, 0, 1, 1]) (by kernel_rfl) (fun s2 => ∃ (s : List UInt8) (vi1 : Int) (vi2 : Int) (vb3 : List UInt8) (vb4 : List UInt8), BQuoted_2 fuel (BQuoted_1 fuel f) s vi1 vi2 vb3 vb4 = some res ∧ Sub C s2 (mkS [(0, .p (.str s)), (3, .arr 3), (4, .p (.int .i64 vi1)), (5, .p (.int .i64 vi2)), (7, .arr 7)] [(3, .barr 5 false vb3), (7, .barr 5 false vb4)])) ?_ ?_
      · refine T_seqp (p := [1, 1, 1, 0, 1, 0, 0, 1, 0, 0, 1, 1, 0]) (by kernel_rfl) ?_
        obtain ⟨hob, h⟩ := ite_get h
        refine T_reg henv hC [(3, some 3), (7, some 7)] [(0, .p (.str s)), (3, .arr 3), (4, .p (.int .i64 vi1)), (5, .p (.int .i64 vi2)), (6, .p (.int .u8 ((s.getD (vi2).toNat 0).toNat : Int))), (7, .arr 7), (39, .p (.bool ((((decide (((s.getD (vi2).toNat 0).toNat : Int) < (33 : Int))) || (decide (((s.getD (vi2).toNat 0).toNat : Int) > (126 : Int)))) || (((s.getD (vi2).toNat 0).toNat : Int) == (61 : Int))) && ((((s.getD (vi2).toNat 0).toNat : Int) != (32 : Int)) || (vi2 == ((s.length : Int) - (1 : Int)))))))] [(3, .barr 5 false vb3), (7, .barr 5 false [UInt8.ofNat (((s.getD (vi2).toNat 0).toNat : Int)).toNat])] [(!(decide (((s.getD (vi2).toNat 0).toNat : Int) < (33 : Int)))) = true → (!(decide (((s.getD (vi2).toNat 0).toNat : Int) < (33 : Int)))) = true, (decide (((s.getD (vi2).toNat 0).toNat : Int) < (33 : Int))) = false → (!(decide (((s.getD (vi2).toNat 0).toNat : Int) < (33 : Int)))) = true, (!((decide (((s.getD (vi2).toNat 0).toNat : Int) < (33 : Int))) || (decide (((s.getD (vi2).toNat 0).toNat : Int) > (126 : Int))))) = true → (!((decide (((s.getD (vi2).toNat 0).toNat : Int) < (33 : Int))) || (decide (((s.getD (vi2).toNat 0).toNat : Int) > (126 : Int))))) = true, ((decide (((s.getD (vi2).toNat 0).toNat : Int) < (33 : Int))) || (decide (((s.getD (vi2).toNat 0).toNat : Int) > (126 : Int)))) = false → (!((decide (((s.getD (vi2).toNat 0).toNat : Int) < (33 : Int))) || (decide (((s.getD (vi2).toNat 0).toNat : Int) > (126 : Int))))) = true, (((decide (((s.getD (vi2).toNat 0).toNat : Int) < (33 : Int))) || (decide (((s.getD (vi2).toNat 0).toNat : Int) > (126 : Int)))) || (((s.getD (vi2).toNat 0).toNat : Int) == (61 : Int))) = true → (((decide (((s.getD (vi2).toNat 0).toNat : Int) < (33 : Int))) || (decide (((s.getD (vi2).toNat 0).toNat : Int) > (126 : Int)))) || (((s.getD (vi2).toNat 0).toNat : Int) == (61 : Int))) = true, (((decide (((s.getD (vi2).toNat 0).toNat : Int) < (33 : Int))) || (decide (((s.getD (vi2).toNat 0).toNat : Int) > (126 : Int)))) || (((s.getD (vi2).toNat 0).toNat : Int) == (61 : Int))) = true → (((decide (((s.getD (vi2).toNat 0).toNat : Int) < (33 : Int))) || (decide (((s.getD (vi2).toNat 0).toNat : Int) > (126 : Int)))) || (((s.getD (vi2).toNat 0).toNat : Int) == (61 : Int))) = true, ((((decide (((s.getD (vi2).toNat 0).toNat : Int) < (33 : Int))) || (decide (((s.getD (vi2).toNat 0).toNat : Int) > (126 : Int)))) || (((s.getD (vi2).toNat 0).toNat : Int) == (61 : Int))) && (!(((s.getD (vi2).toNat 0).toNat : Int) != (32 : Int)))) = true → ((((decide (((s.getD (vi2).toNat 0).toNat : Int) < (33 : Int))) || (decide (((s.getD (vi2).toNat 0).toNat : Int) > (126 : Int)))) || (((s.getD (vi2).toNat 0).toNat : Int) == (61 : Int))) && (!(((s.getD (vi2).toNat 0).toNat : Int) != (32 : Int)))) = true, ((((decide (((s.getD (vi2).toNat 0).toNat : Int) < (33 : Int))) || (decide (((s.getD (vi2).toNat 0).toNat : Int) > (126 : Int)))) || (((s.getD (vi2).toNat 0).toNat : Int) == (61 : Int))) && (!(((s.getD (vi2).toNat 0).toNat : Int) != (32 : Int)))) = true → ((((decide (((s.getD (vi2).toNat 0).toNat : Int) < (33 : Int))) || (decide (((s.getD (vi2).toNat 0).toNat : Int) > (126 : Int)))) || (((s.getD (vi2).toNat 0).toNat : Int) == (61 : Int))) && (!(((s.getD (vi2).toNat 0).toNat : Int) != (32 : Int)))) = true, ((((decide (((s.getD (vi2).toNat 0).toNat : Int) < (33 : Int))) || (decide (((s.getD (vi2).toNat 0).toNat : Int) > (126 : Int)))) || (((s.getD (vi2).toNat 0).toNat : Int) == (61 : Int))) && (!(((s.getD (vi2).toNat 0).toNat : Int) != (32 : Int)))) = true → i64ok ((s.length : Int) - (1 : Int)), ((((decide (((s.getD (vi2).toNat 0).toNat : Int) < (33 : Int))) || (decide (((s.getD (vi2).toNat 0).toNat : Int) > (126 : Int)))) || (((s.getD (vi2).toNat 0).toNat : Int) == (61 : Int))) && (!(((s.getD (vi2).toNat 0).toNat : Int) != (32 : Int)))) = true → ((((decide (((s.getD (vi2).toNat 0).toNat : Int) < (33 : Int))) || (decide (((s.getD (vi2).toNat 0).toNat : Int) > (126 : Int)))) || (((s.getD (vi2).toNat 0).toNat : Int) == (61 : Int))) && (!(((s.getD (vi2).toNat 0).toNat : Int) != (32 : Int)))) = true, ((((decide (((s.getD (vi2).toNat 0).toNat : Int) < (33 : Int))) || (decide (((s.getD (vi2).toNat 0).toNat : Int) > (126 : Int)))) || (((s.getD (vi2).toNat 0).toNat : Int) == (61 : Int))) && (!(((s.getD (vi2).toNat 0).toNat : Int) != (32 : Int)))) = true → ((((decide (((s.getD (vi2).toNat 0).toNat : Int) < (33 : Int))) || (decide (((s.getD (vi2).toNat 0).toNat : Int) > (126 : Int)))) || (((s.getD (vi2).toNat 0).toNat : Int) == (61 : Int))) && (!(((s.getD (vi2).toNat 0).toNat : Int) != (32 : Int)))) = true, (((decide (((s.getD (vi2).toNat 0).toNat : Int) < (33 : Int))) || (decide (((s.getD (vi2).toNat 0).toNat : Int) > (126 : Int)))) || (((s.getD (vi2).toNat 0).toNat : Int) == (61 : Int))) = true → (((decide (((s.getD (vi2).toNat 0).toNat : Int) < (33 : Int))) || (decide (((s.getD (vi2).toNat 0).toNat : Int) > (126 : Int)))) || (((s.getD (vi2).toNat 0).toNat : Int) == (61 : Int))) = true, (((decide (((s.getD (vi2).toNat 0).toNat : Int) < (33 : Int))) || (decide (((s.getD (vi2).toNat 0).toNat : Int) > (126 : Int)))) || (((s.getD (vi2).toNat 0).toNat : Int) == (61 : Int))) = true → (((s.getD (vi2).toNat 0).toNat : Int) != (32 : Int)) = false → ((((decide (((s.getD (vi2).toNat 0).toNat : Int) < (33 : Int))) || (decide (((s.getD (vi2).toNat 0).toNat : Int) > (126 : Int)))) || (((s.getD (vi2).toNat 0).toNat : Int) == (61 : Int))) && (!(((s.getD (vi2).toNat 0).toNat : Int) != (32 : Int)))) = true, (((decide (((s.getD (vi2).toNat 0).toNat : Int) < (33 : Int))) || (decide (((s.getD (vi2).toNat 0).toNat : Int) > (126 : Int)))) || (((s.getD (vi2).toNat 0).toNat : Int) == (61 : Int))) = true → (((decide (((s.getD (vi2).toNat 0).toNat : Int) < (33 : Int))) || (decide (((s.getD (vi2).toNat 0).toNat : Int) > (126 : Int)))) || (((s.getD (vi2).toNat 0).toNat : Int) == (61 : Int))) = true] (by kernel_rfl) (by kernel_rfl) ⟨(fun q0 => q0), (fun q0 => (not_mk q0)), (fun q0 => q0), (fun q0 => (not_mk q0)), (fun q0 => q0), (fun q0 => q0), (fun q0 => q0), (fun q0 => q0), hob, (fun q0 => q0), (fun q0 => q0), (fun q0 => q0), (fun q0 q1 => (and_mk q0 (not_mk q1))), (fun q0 => q0), trivial⟩ (fun s1 hs1 => ?_)
        refine (T.weaken ?_ hs1 : T Try.prog C (at_ cQuoted [1, 1, 1, 0, 1, 0, 0, 1, 0, 0, 1, 1, 0, 1]) _ _)
        refine T_condp (p := [1, 1, 1, 0, 1, 0, 0, 1, 0, 0, 1, 1, 0, 1]) (by kernel_rfl) ((((decide (((s.getD (vi2).toNat 0).toNat : Int) < (33 : Int))) || (decide (((s.getD (vi2).toNat 0).toNat : Int) > (126 : Int)))) || (((s.getD (vi2).toNat 0).toNat : Int) == (61 : Int))) && ((((s.getD (vi2).toNat 0).toNat : Int) != (32 : Int)) || (vi2 == ((s.length : Int) - (1 : Int))))) (by kernel_rfl) (fun hb => ?_) (fun hb => ?_)
        · have h := ite_t h hb
          obtain ⟨hob, h⟩ := ite_get h
          refine T_regd henv hmx hC [(3, some 3), (7, some 46)] [(0, .p (.str s)), (3, .arr 3), (4, .p (.int .i64 vi1)), (5, .p (.int .i64 vi2)), (7, .arr 7)] [(3, .barr 5 false vb3), (7, .barr 5 false [UInt8.ofNat ((61 : Int)).toNat, UInt8.ofNat (((([48, 49, 50, 51, 52, 53, 54, 55, 56, 57, 65, 66, 67, 68, 69, 70] : List UInt8).getD (IntKind.u8.wrap (((s.getD (vi2).toNat 0).toNat : Int).tdiv (16 : Int))).toNat 0).toNat : Int)).toNat, UInt8.ofNat (((([48, 49, 50, 51, 52, 53, 54, 55, 56, 57, 65, 66, 67, 68, 69, 70] : List UInt8).getD (((s.getD (vi2).toNat 0).toNat : Int).tmod (16 : Int)).toNat 0).toNat : Int)).toNat])] [(16 : Int) ≠ 0, 0 ≤ (IntKind.u8.wrap (((s.getD (vi2).toNat 0).toNat : Int).tdiv (16 : Int))) ∧ (IntKind.u8.wrap (((s.getD (vi2).toNat 0).toNat : Int).tdiv (16 : Int))) < (([48, 49, 50, 51, 52, 53, 54, 55, 56, 57, 65, 66, 67, 68, 69, 70] : List UInt8).length : Int), (16 : Int) ≠ 0, 0 ≤ (((s.getD (vi2).toNat 0).toNat : Int).tmod (16 : Int)) ∧ (((s.getD (vi2).toNat 0).toNat : Int).tmod (16 : Int)) < (([48, 49, 50, 51, 52, 53, 54, 55, 56, 57, 65, 66, 67, 68, 69, 70] : List UInt8).length : Int)] (by kernel_rfl) (by kernel_rfl) (by kernel_rfl) ⟨hob.1, hob.2.1, hob.2.2.1, hob.2.2.2, trivial⟩ (fun s1 hs1 => ?_)
          exact ⟨s, vi1, vi2, vb3, [UInt8.ofNat ((61 : Int)).toNat, UInt8.ofNat (((([48, 49, 50, 51, 52, 53, 54, 55, 56, 57, 65, 66, 67, 68, 69, 70] : List UInt8).getD (IntKind.u8.wrap (((s.getD (vi2).toNat 0).toNat : Int).tdiv (16 : Int))).toNat 0).toNat : Int)).toNat, UInt8.ofNat (((([48, 49, 50, 51, 52, 53, 54, 55, 56, 57, 65, 66, 67, 68, 69, 70] : List UInt8).getD (((s.getD (vi2).toNat 0).toNat : Int).tmod (16 : Int)).toNat 0).toNat : Int)).toNat], h, Sub.trans hs1 (Sub_view hC [(3, some 3), (7, some 7)] (by kernel_rfl) (by kernel_rfl) (by kernel_rfl))⟩
        · have h := ite_f h hb
          refine T_skipp (p := [1, 1, 1, 0, 1, 0, 0, 1, 0, 0, 1, 1, 0, 1, 1]) (by kernel_rfl) ?_
          exact ⟨s, vi1, vi2, vb3, [UInt8.ofNat (((s.getD (vi2).toNat 0).toNat : Int)).toNat], h, Sub.trans (Sub.refl _) (Sub_view hC [(3, some 3), (7, some 7)] (by kernel_rfl) (by kernel_rfl) (by kernel_rfl))⟩
      · rintro s2 ⟨s, vi1, vi2, vb3, vb4, h, hs2⟩
        unfold BQuoted_2 at h
        refine (T.weaken ?_ hs2 : T Try.prog C (at_ cQuoted [1, 1, 1, 0, 1, 0, 0, 1, 0, 0, 1, 1, 1]) _ _)
        refine T_join (p := [1, 1, 1, 0, 1, 0, 0, 1, 0, 0, 1, 1, 1]) (by kernel_rfl) (fun s2 => ∃ (s : List UInt8) (vi5 : Int) (vi2 : Int) (vb6 : List UInt8) (vb4 : List UInt8), BQuoted_3 fuel (BQuoted_1 fuel f) s vi5 vi2 vb6 vb4 = some res ∧ Sub C s2 (mkS [(0, .p (.str s)), (3, .arr 3), (4, .p (.int .i64 vi5)), (5, .p (.int .i64 vi2)), (7, .arr 7)] [(3, .barr 5 false vb6), (7, .barr 5 false vb4)])) ?_ ?_
        · refine T_seqp (p := [1, 1, 1, 0, 1, 0, 0, 1, 0, 0, 1, 1, 1, 0]) (by kernel_rfl) ?_
          obtain ⟨hob, h⟩ := ite_get h
          refine T_reg henv hC [(3, some 3), (7, some 7)] [(0, .p (.str s)), (3, .arr 3), (4, .p (.int .i64 vi1)), (5, .p (.int .i64 vi2)), (7, .arr 7), (51, .p (.bool (decide ((vi1 + (vb4.length : Int)) > (75 : Int)))))] [(3, .barr 5 false vb3), (7, .barr 5 false vb4)] [i64ok (vi1 + (vb4.length : Int))] (by kernel_rfl) (by kernel_rfl) ⟨hob, trivial⟩ (fun s1 hs1 => ?_)
          refine (T.weaken ?_ hs1 : T Try.prog C (at_ cQuoted [1, 1, 1, 0, 1, 0, 0, 1, 0, 0, 1, 1, 1, 0, 1]) _ _)
          refine T_condp (p := [1, 1, 1, 0, 1, 0, 0, 1, 0, 0, 1, 1, 1, 0, 1]) (by kernel_rfl) (decide ((vi1 + (vb4.length : Int)) > (75 : Int))) (by kernel_rfl) (fun hb => ?_) (fun hb => ?_)
          · have h := ite_t h hb
            refine T_seqp (p := [1, 1, 1, 0, 1, 0, 0, 1, 0, 0, 1, 1, 1, 0, 1, 0]) (by kernel_rfl) ?_
            obtain ⟨hob, h⟩ := ite_get h
            refine T_reg henv hC [(3, some 54), (7, some 7)] [(0, .p (.str s)), (3, .arr 3), (5, .p (.int .i64 vi2)), (7, .arr 7)] [(3, .barr 5 false (vb3 ++ [UInt8.ofNat ((61 : Int)).toNat, UInt8.ofNat ((13 : Int)).toNat, UInt8.ofNat ((10 : Int)).toNat])), (7, .barr 5 false vb4)] [(vb3.length + [UInt8.ofNat ((61 : Int)).toNat, UInt8.ofNat ((13 : Int)).toNat, UInt8.ofNat ((10 : Int)).toNat].length) * 1 ≤ 140737488355328] (by kernel_rfl) (by kernel_rfl) ⟨hob, trivial⟩ (fun s1 hs1 => ?_)
            refine (T.weaken ?_ hs1 : T Try.prog C (at_ cQuoted [1, 1, 1, 0, 1, 0, 0, 1, 0, 0, 1, 1, 1, 0, 1, 0, 1]) _ _)
            refine T_reg henv hC [(3, some 3), (7, some 7)] [(0, .p (.str s)), (3, .arr 3), (4, .p (.int .i64 (0 : Int))), (5, .p (.int .i64 vi2)), (7, .arr 7)] [(3, .barr 5 false (vb3 ++ [UInt8.ofNat ((61 : Int)).toNat, UInt8.ofNat ((13 : Int)).toNat, UInt8.ofNat ((10 : Int)).toNat])), (7, .barr 5 false vb4)] [] (by kernel_rfl) (by kernel_rfl) trivial (fun s1 hs1 => ?_)
            exact ⟨s, (0 : Int), vi2, vb3 ++ [UInt8.ofNat ((61 : Int)).toNat, UInt8.ofNat ((13 : Int)).toNat, UInt8.ofNat ((10 : Int)).toNat], vb4, h, Sub.trans hs1 (Sub_view hC [(3, some 3), (7, some 7)] (by kernel_rfl) (by kernel_rfl) (by kernel_rfl))⟩
          · have h := ite_f h hb
            refine T_skipp (p := [1, 1, 1, 0, 1, 0, 0, 1, 0, 0, 1, 1, 1, 0, 1, 1]) (by kernel_rfl) ?_
            exact ⟨s, vi1, vi2, vb3, vb4, h, Sub.trans (Sub.refl _) (Sub_view hC [(3, some 3), (7, some 7)] (by kernel_rfl) (by kernel_rfl) (by kernel_rfl))⟩
        · rintro s2 ⟨s, vi5, vi2, vb6, vb4, h, hs2⟩
          unfold BQuoted_3 at h
          refine (T.weaken ?_ hs2 : T Try.prog C (at_ cQuoted [1, 1, 1, 0, 1, 0, 0, 1, 0, 0, 1, 1, 1, 1]) _ _)
          refine T_seqp (p := [1, 1, 1, 0, 1, 0, 0, 1, 0, 0, 1, 1, 1, 1]) (by kernel_rfl) ?_
          obtain ⟨hob, h⟩ := ite_get h
          refine T_reg henv hC [(3, some 57), (7, some 7)] [(0, .p (.str s)), (3, .arr 3), (4, .p (.int .i64 vi5)), (5, .p (.int .i64 vi2)), (7, .arr 7)] [(3, .barr 5 false (vb6 ++ vb4)), (7, .barr 5 false vb4)] [(vb6.length + vb4.length) * 1 ≤ 140737488355328] (by kernel_rfl) (by kernel_rfl) ⟨hob, trivial⟩ (fun s1 hs1 => ?_)
          refine (T.weaken ?_ hs1 : T Try.prog C (at_ cQuoted [1, 1, 1, 0, 1, 0, 0, 1, 0, 0, 1, 1, 1, 1, 1]) _ _)
          obtain ⟨hob, h⟩ := ite_get h
          refine T_reg henv hC [(3, some 3)] [(0, .p (.str s)), (3, .arr 3), (4, .p (.int .i64 (vi5 + (vb4.length : Int)))), (5, .p (.int .i64 vi2))] [(3, .barr 5 false (vb6 ++ vb4))] [i64ok (vi5 + (vb4.length : Int))] (by kernel_rfl) (by kernel_rfl) ⟨hob, trivial⟩ (fun s1 hs1 => ?_)
          refine (T.weaken ?_ hs1 : T Try.prog C (at_ cQuoted [1, 1, 1, 0, 1, 0, 0, 1, 1]) _ _)
          obtain ⟨hob, h⟩ := ite_get h
          refine T_reg henv hC [(3, some 3)] [(0, .p (.str s)), (3, .arr 3), (4, .p (.int .i64 (vi5 + (vb4.length : Int)))), (5, .p (.int .i64 (vi2 + (1 : Int))))] [(3, .barr 5 false (vb6 ++ vb4))] [i64ok (vi2 + (1 : Int))] (by kernel_rfl) (by kernel_rfl) ⟨hob, trivial⟩ (fun s1 hs1 => ?_)
          exact ⟨f, _, Nat.lt_succ_self f, ⟨s, vi5 + (vb4.length : Int), vi2 + (1 : Int), vb6 ++ vb4, rfl, h⟩, Sub.trans hs1 (Sub_view hC [(3, some 3)] (by kernel_rfl) (by kernel_rfl) (by kernel_rfl))⟩
    · have h := ite_f h hb
      refine T_exitp (p := [1, 1, 1, 0, 1, 0, 0, 0, 1, 1]) 0 (by kernel_rfl) ?_
      refine then_exit ?_
      refine then_exit ?_
      refine inblock_hit ?_
      refine (T.weaken ?_ (Sub.refl _) : T Try.prog C (at_ cQuoted [1, 1, 1, 1]) _ _)
      refine T_seqp (p := [1, 1, 1, 1]) (by kernel_rfl) ?_
      refine T_reg henv hC [] [(2, .p (.str vb3))] [] [] (by kernel_rfl) (by kernel_rfl) trivial (fun s1 hs1 => ?_)
      refine (T.weaken ?_ hs1 : T Try.prog C (at_ cQuoted [1, 1, 1, 1, 1]) _ _)
      refine T_retp (p := [1, 1, 1, 1, 1]) (by kernel_rfl) ?_
      have h := Option.some.inj h; subst h
      exact ⟨mkS [(2, .p (.str vb3))] [], (Sub.refl _), by kernel_rfl⟩

theorem fn_Quoted (fuel : Nat) (s : List UInt8) (res : List UInt8) (h : (∃ M vs, ARels γ0 M [.p (.str s)] vs) → FQuoted fuel s = some res) : FnP Try.prog 9 [.p (.str s)] (.p (.str res)) :=
  FnP_lift (fn := Try.f9) (by kernel_rfl) (by kernel_rfl) fun M vs hvs C hC0 => have hC : CtxOk C 64 [] := ⟨hC0.nt.trans (by kernel_rfl), hC0.fx⟩; T.weaken (TQuoted fuel s res (h ⟨M, vs, hvs⟩) C hC) (sinit_sub hC (by kernel_rfl) (by kernel_rfl))
end Go.Proofs.Ytnojfkkdihchiaa
