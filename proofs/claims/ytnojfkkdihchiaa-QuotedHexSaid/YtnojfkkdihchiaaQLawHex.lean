/-
  A lifted function, or a fact about one.
-/
import Derived.Test.YtnojfkkdihchiaaRows
import Derived.Test.YtnojfkkdihchiaaAmDrawRR
import Derived.Test.YtnojfkkdihchiaaQSpec3
namespace Go.Proofs.Ytnojfkkdihchiaa
open Go Go.Am
def BHex_1 (fuel : Nat)  : Nat → List UInt8 → Int → List UInt8 → List UInt8 → Option Bool
  | 0, _, _, _, _ => none
  | f + 1, s, vi1, vb2, vb3 => if (decide (vi1 < (s.length : Int))) = true then (if (0 ≤ vi1 ∧ vi1 < (s.length : Int)) ∧ ((16 : Int) ≠ 0) ∧ (0 ≤ (IntKind.u8.wrap (((s.getD (vi1).toNat 0).toNat : Int).tdiv (16 : Int))) ∧ (IntKind.u8.wrap (((s.getD (vi1).toNat 0).toNat : Int).tdiv (16 : Int))) < (([48, 49, 50, 51, 52, 53, 54, 55, 56, 57, 65, 66, 67, 68, 69, 70] : List UInt8).length : Int)) ∧ (0 ≤ vi1 ∧ vi1 < (s.length : Int)) ∧ ((16 : Int) ≠ 0) ∧ (0 ≤ (((s.getD (vi1).toNat 0).toNat : Int).tmod (16 : Int)) ∧ (((s.getD (vi1).toNat 0).toNat : Int).tmod (16 : Int)) < (([48, 49, 50, 51, 52, 53, 54, 55, 56, 57, 65, 66, 67, 68, 69, 70] : List UInt8).length : Int)) ∧ ((vb2.length + [UInt8.ofNat ((61 : Int)).toNat, UInt8.ofNat (((([48, 49, 50, 51, 52, 53, 54, 55, 56, 57, 65, 66, 67, 68, 69, 70] : List UInt8).getD (IntKind.u8.wrap (((s.getD (vi1).toNat 0).toNat : Int).tdiv (16 : Int))).toNat 0).toNat : Int)).toNat, UInt8.ofNat (((([48, 49, 50, 51, 52, 53, 54, 55, 56, 57, 65, 66, 67, 68, 69, 70] : List UInt8).getD (((s.getD (vi1).toNat 0).toNat : Int).tmod (16 : Int)).toNat 0).toNat : Int)).toNat].length) * 1 ≤ 140737488355328) then (if (0 ≤ vi1 ∧ vi1 < (s.length : Int)) ∧ ((16 : Int) ≠ 0) ∧ (0 ≤ (IntKind.u8.wrap (((s.getD (vi1).toNat 0).toNat : Int).tdiv (16 : Int))) ∧ (IntKind.u8.wrap (((s.getD (vi1).toNat 0).toNat : Int).tdiv (16 : Int))) < (([48, 49, 50, 51, 52, 53, 54, 55, 56, 57, 97, 98, 99, 100, 101, 102] : List UInt8).length : Int)) ∧ (0 ≤ vi1 ∧ vi1 < (s.length : Int)) ∧ ((16 : Int) ≠ 0) ∧ (0 ≤ (((s.getD (vi1).toNat 0).toNat : Int).tmod (16 : Int)) ∧ (((s.getD (vi1).toNat 0).toNat : Int).tmod (16 : Int)) < (([48, 49, 50, 51, 52, 53, 54, 55, 56, 57, 97, 98, 99, 100, 101, 102] : List UInt8).length : Int)) ∧ ((vb3.length + [UInt8.ofNat ((61 : Int)).toNat, UInt8.ofNat (((([48, 49, 50, 51, 52, 53, 54, 55, 56, 57, 97, 98, 99, 100, 101, 102] : List UInt8).getD (IntKind.u8.wrap (((s.getD (vi1).toNat 0).toNat : Int).tdiv (16 : Int))).toNat 0).toNat : Int)).toNat, UInt8.ofNat (((([48, 49, 50, 51, 52, 53, 54, 55, 56, 57, 97, 98, 99, 100, 101, 102] : List UInt8).getD (((s.getD (vi1).toNat 0).toNat : Int).tmod (16 : Int)).toNat 0).toNat : Int)).toNat].length) * 1 ≤ 140737488355328) then (if i64ok (vi1 + (1 : Int)) then (BHex_1 fuel f s (vi1 + (1 : Int)) (vb2 ++ [UInt8.ofNat ((61 : Int)).toNat, UInt8.ofNat (((([48, 49, 50, 51, 52, 53, 54, 55, 56, 57, 65, 66, 67, 68, 69, 70] : List UInt8).getD (IntKind.u8.wrap (((s.getD (vi1).toNat 0).toNat : Int).tdiv (16 : Int))).toNat 0).toNat : Int)).toNat, UInt8.ofNat (((([48, 49, 50, 51, 52, 53, 54, 55, 56, 57, 65, 66, 67, 68, 69, 70] : List UInt8).getD (((s.getD (vi1).toNat 0).toNat : Int).tmod (16 : Int)).toNat 0).toNat : Int)).toNat]) (vb3 ++ [UInt8.ofNat ((61 : Int)).toNat, UInt8.ofNat (((([48, 49, 50, 51, 52, 53, 54, 55, 56, 57, 97, 98, 99, 100, 101, 102] : List UInt8).getD (IntKind.u8.wrap (((s.getD (vi1).toNat 0).toNat : Int).tdiv (16 : Int))).toNat 0).toNat : Int)).toNat, UInt8.ofNat (((([48, 49, 50, 51, 52, 53, 54, 55, 56, 57, 97, 98, 99, 100, 101, 102] : List UInt8).getD (((s.getD (vi1).toNat 0).toNat : Int).tmod (16 : Int)).toNat 0).toNat : Int)).toNat])) else none) else none) else none) else (if (vb2.length ≤ 1000000) ∧ (((decS vb2) == s) = true → vb3.length ≤ 1000000) then (some ((((decS vb2) == s) && ((decS vb3) == s)) && true)) else none)

def FHex (fuel : Nat) (s : List UInt8) : Option Bool := if (decide ((s.length : Int) > (1000 : Int))) = true then (some true) else (BHex_1 fuel fuel s (0 : Int) [] [])

noncomputable def cHex : Code := bodyOf Try.f6

def envHex : Env := mkEnv [(10, sp_Decode), (12, sp_awake)]

theorem envHex_ok : EnvOk Try.prog envHex := EnvOk_mk ⟨ok_Decode.any, ok_awake.any, trivial⟩

theorem THex (fuel : Nat) (s : List UInt8) (res : Bool) (h : FHex fuel s = some res) (C : Ctx) (hC : CtxOk C 57 []) :
    T Try.prog C (at_ cHex []) (mkS [(0, .p (.str s))] []) (Qend Try.prog C Try.f6.results.toList (.p (.bool res))) := by
  have henv := envHex_ok
  have hmx : Try.prog.follows .mixedOrders = true := Checked.mixed Try.checked
  unfold FHex at h
  refine T_seqp (p := []) (by kernel_rfl) ?_
  refine T_reg henv hC [] [(0, .p (.str s))] [] [] (by kernel_rfl) (by kernel_rfl) trivial (fun s1 hs1 => ?_)
  refine (T.weaken ?_ hs1 : T Try.prog C (at_ cHex [1]) _ _)
  refine T_seqp (p := [1]) (by kernel_rfl) ?_
  refine T_seqp (p := [1, 0]) (by kernel_rfl) ?_
  refine T_reg henv hC [] [(0, .p (.str s)), (8, .p (.bool (decide ((s.length : Int) > (1000 : Int)))))] [] [] (by kernel_rfl) (by kernel_rfl) trivial (fun s1 hs1 => ?_)
  refine (T.weaken ?_ hs1 : T Try.prog C (at_ cHex [1, 0, 1]) _ _)
  refine T_condp (p := [1, 0, 1]) (by kernel_rfl) (decide ((s.length : Int) > (1000 : Int))) (by kernel_rfl) (fun hb => ?_) (fun hb => ?_)
  · have h := ite_t h hb
    refine T_seqp (p := [1, 0, 1, 0]) (by kernel_rfl) ?_
    refine T_reg henv hC [] [(2, .p (.bool true))] [] [] (by kernel_rfl) (by kernel_rfl) trivial (fun s1 hs1 => ?_)
    refine (T.weaken ?_ hs1 : T Try.prog C (at_ cHex [1, 0, 1, 0, 1]) _ _)
    refine T_retp (p := [1, 0, 1, 0, 1]) (by kernel_rfl) ?_
    refine then_ret ?_
    have h := Option.some.inj h; subst h
    exact ⟨mkS [(2, .p (.bool true))] [], (Sub.refl _), by kernel_rfl⟩
  · have h := ite_f h hb
    refine T_skipp (p := [1, 0, 1, 1]) (by kernel_rfl) ?_
    refine (T.weaken ?_ (Sub.refl _) : T Try.prog C (at_ cHex [1, 1]) _ _)
    refine T_seqp (p := [1, 1]) (by kernel_rfl) ?_
    refine T_reg henv hC [(3, none), (4, none)] [(0, .p (.str s)), (3, .arr 3), (4, .arr 4)] [(3, .barr 5 false []), (4, .barr 5 false [])] [] (by kernel_rfl) (by kernel_rfl) trivial (fun s1 hs1 => ?_)
    refine (T.weaken ?_ hs1 : T Try.prog C (at_ cHex [1, 1, 1]) _ _)
    refine T_seqp (p := [1, 1, 1]) (by kernel_rfl) ?_
    refine T_seqp (p := [1, 1, 1, 0]) (by kernel_rfl) ?_
    refine T_reg henv hC [(3, some 3), (4, some 4)] [(0, .p (.str s)), (3, .arr 3), (4, .arr 4), (5, .p (.int .i64 (0 : Int)))] [(3, .barr 5 false []), (4, .barr 5 false [])] [] (by kernel_rfl) (by kernel_rfl) trivial (fun s1 hs1 => ?_)
    refine (T.weaken ?_ hs1 : T Try.prog C (at_ cHex [1, 1, 1, 0, 1]) _ _)
    refine T_blockp (p := [1, 1, 1, 0, 1]) 0 (by kernel_rfl) ?_
    refine T.weaken ?_ (Sub_view (l := [(0, .p (.str s)), (3, .arr 3), (4, .arr 4), (5, .p (.int .i64 (0 : Int)))]) (o := [(3, .barr 5 false []), (4, .barr 5 false [])]) hC [(3, some 3), (4, some 4)] (by kernel_rfl) (by kernel_rfl) (by kernel_rfl))
    refine T_loopp (p := [1, 1, 1, 0, 1, 0]) (by kernel_rfl) (fun f s2 => ∃ (s : List UInt8) (vi1 : Int) (vb2 : List UInt8) (vb3 : List UInt8), s2 = mkS [(0, .p (.str s)), (3, .arr 3), (4, .arr 4), (5, .p (.int .i64 vi1))] [(3, .barr 5 false vb2), (4, .barr 5 false vb3)] ∧ BHex_1 fuel f s vi1 vb2 vb3 = some res) ?_ fuel ⟨s, (0 : Int), [], [], rfl, h⟩
    rintro f s2 ⟨s, vi1, vb2, vb3, rfl, h⟩
    cases f with
    | zero => cases h
    | succ f =>
      rw [BHex_1] at h
      refine T_seqp (p := [1, 1, 1, 0, 1, 0, 0]) (by kernel_rfl) ?_
      refine T_seqp (p := [1, 1, 1, 0, 1, 0, 0, 0]) (by kernel_rfl) ?_
      refine T_reg henv hC [(3, some 3), (4, some 4)] [(0, .p (.str s)), (3, .arr 3), (4, .arr 4), (5, .p (.int .i64 vi1)), (13, .p (.bool (decide (vi1 < (s.length : Int)))))] [(3, .barr 5 false vb2), (4, .barr 5 false vb3)] [] (by kernel_rfl) (by kernel_rfl) trivial (fun s1 hs1 => ?_)
      refine (T.weaken ?_ hs1 : T Try.prog C (at_ cHex [1, 1, 1, 0, 1, 0, 0, 0, 1]) _ _)
      refine T_condp (p := [1, 1, 1, 0, 1, 0, 0, 0, 1]) (by kernel_rfl) (decide (vi1 < (s.length : Int))) (by kernel_rfl) (fun hb => ?_) (fun hb => ?_)
      · have h := ite_t h hb
        refine T_skipp (p := [1, 1, 1, 0, 1, 0, 0, 0, 1, 0]) (by kernel_rfl) ?_
        refine (T.weaken ?_ (Sub.refl _) : T Try.prog C (at_ cHex [1, 1, 1, 0, 1, 0, 0, 1]) _ _)
        refine T_seqp (p := [1, 1, 1, 0, 1, 0, 0, 1]) (by kernel_rfl) ?_
        refine T_blockp (p := [1, 1, 1, 0, 1, 0, 0, 1, 0]) 1 (by kernel_rfl) ?_
        refine T_seqp (p := [1, 1, 1, 0, 1, 0, 0, 1, 0, 0]) (by kernel_rfl) ?_
        obtain ⟨hob, h⟩ := ite_get h
        refine T_regd henv hmx hC [(3, some 28), (4, some 4)] [(0, .p (.str s)), (3, .arr 3), (4, .arr 4), (5, .p (.int .i64 vi1))] [(3, .barr 5 false (vb2 ++ [UInt8.ofNat ((61 : Int)).toNat, UInt8.ofNat (((([48, 49, 50, 51, 52, 53, 54, 55, 56, 57, 65, 66, 67, 68, 69, 70] : List UInt8).getD (IntKind.u8.wrap (((s.getD (vi1).toNat 0).toNat : Int).tdiv (16 : Int))).toNat 0).toNat : Int)).toNat, UInt8.ofNat (((([48, 49, 50, 51, 52, 53, 54, 55, 56, 57, 65, 66, 67, 68, 69, 70] : List UInt8).getD (((s.getD (vi1).toNat 0).toNat : Int).tmod (16 : Int)).toNat 0).toNat : Int)).toNat])), (4, .barr 5 false vb3)] [0 ≤ vi1 ∧ vi1 < (s.length : Int), (16 : Int) ≠ 0, 0 ≤ (IntKind.u8.wrap (((s.getD (vi1).toNat 0).toNat : Int).tdiv (16 : Int))) ∧ (IntKind.u8.wrap (((s.getD (vi1).toNat 0).toNat : Int).tdiv (16 : Int))) < (([48, 49, 50, 51, 52, 53, 54, 55, 56, 57, 65, 66, 67, 68, 69, 70] : List UInt8).length : Int), 0 ≤ vi1 ∧ vi1 < (s.length : Int), (16 : Int) ≠ 0, 0 ≤ (((s.getD (vi1).toNat 0).toNat : Int).tmod (16 : Int)) ∧ (((s.getD (vi1).toNat 0).toNat : Int).tmod (16 : Int)) < (([48, 49, 50, 51, 52, 53, 54, 55, 56, 57, 65, 66, 67, 68, 69, 70] : List UInt8).length : Int), (vb2.length + [UInt8.ofNat ((61 : Int)).toNat, UInt8.ofNat (((([48, 49, 50, 51, 52, 53, 54, 55, 56, 57, 65, 66, 67, 68, 69, 70] : List UInt8).getD (IntKind.u8.wrap (((s.getD (vi1).toNat 0).toNat : Int).tdiv (16 : Int))).toNat 0).toNat : Int)).toNat, UInt8.ofNat (((([48, 49, 50, 51, 52, 53, 54, 55, 56, 57, 65, 66, 67, 68, 69, 70] : List UInt8).getD (((s.getD (vi1).toNat 0).toNat : Int).tmod (16 : Int)).toNat 0).toNat : Int)).toNat].length) * 1 ≤ 140737488355328] (by kernel_rfl) (by kernel_rfl) (by kernel_rfl) ⟨hob.1, hob.2.1, hob.2.2.1, hob.2.2.2.1, hob.2.2.2.2.1, hob.2.2.2.2.2.1, hob.2.2.2.2.2.2, trivial⟩ (fun s1 hs1 => ?_)
        refine (T.weaken ?_ hs1 : T Try.prog C (at_ cHex [1, 1, 1, 0, 1, 0, 0, 1, 0, 0, 1]) _ _)
        obtain ⟨hob, h⟩ := ite_get h
        refine T_regd henv hmx hC [(3, some 3), (4, some 41)] [(0, .p (.str s)), (3, .arr 3), (4, .arr 4), (5, .p (.int .i64 vi1))] [(3, .barr 5 false (vb2 ++ [UInt8.ofNat ((61 : Int)).toNat, UInt8.ofNat (((([48, 49, 50, 51, 52, 53, 54, 55, 56, 57, 65, 66, 67, 68, 69, 70] : List UInt8).getD (IntKind.u8.wrap (((s.getD (vi1).toNat 0).toNat : Int).tdiv (16 : Int))).toNat 0).toNat : Int)).toNat, UInt8.ofNat (((([48, 49, 50, 51, 52, 53, 54, 55, 56, 57, 65, 66, 67, 68, 69, 70] : List UInt8).getD (((s.getD (vi1).toNat 0).toNat : Int).tmod (16 : Int)).toNat 0).toNat : Int)).toNat])), (4, .barr 5 false (vb3 ++ [UInt8.ofNat ((61 : Int)).toNat, UInt8.ofNat (((([48, 49, 50, 51, 52, 53, 54, 55, 56, 57, 97, 98, 99, 100, 101, 102] : List UInt8).getD (IntKind.u8.wrap (((s.getD (vi1).toNat 0).toNat : Int).tdiv (16 : Int))).toNat 0).toNat : Int)).toNat, UInt8.ofNat (((([48, 49, 50, 51, 52, 53, 54, 55, 56, 57, 97, 98, 99, 100, 101, 102] : List UInt8).getD (((s.getD (vi1).toNat 0).toNat : Int).tmod (16 : Int)).toNat 0).toNat : Int)).toNat]))] [0 ≤ vi1 ∧ vi1 < (s.length : Int), (16 : Int) ≠ 0, 0 ≤ (IntKind.u8.wrap (((s.getD (vi1).toNat 0).toNat : Int).tdiv (16 : Int))) ∧ (IntKind.u8.wrap (((s.getD (vi1).toNat 0).toNat : Int).tdiv (16 : Int))) < (([48, 49, 50, 51, 52, 53, 54, 55, 56, 57, 97, 98, 99, 100, 101, 102] : List UInt8).length : Int), 0 ≤ vi1 ∧ vi1 < (s.length : Int), (16 : Int) ≠ 0, 0 ≤ (((s.getD (vi1).toNat 0).toNat : Int).tmod (16 : Int)) ∧ (((s.getD (vi1).toNat 0).toNat : Int).tmod (16 : Int)) < (([48, 49, 50, 51, 52, 53, 54, 55, 56, 57, 97, 98, 99, 100, 101, 102] : List UInt8).length : Int), (vb3.length + [UInt8.ofNat ((61 : Int)).toNat, UInt8.ofNat (((([48, 49, 50, 51, 52, 53, 54, 55, 56, 57, 97, 98, 99, 100, 101, 102] : List UInt8).getD (IntKind.u8.wrap (((s.getD (vi1).toNat 0).toNat : Int).tdiv (16 : Int))).toNat 0).toNat : Int)).toNat, UInt8.ofNat (((([48, 49, 50, 51, 52, 53, 54, 55, 56, 57, 97, 98, 99, 100, 101, 102] : List UInt8).getD (((s.getD (vi1).toNat 0).toNat : Int).tmod (16 : Int)).toNat 0).toNat : Int)).toNat].length) * 1 ≤ 140737488355328] (by kernel_rfl) (by kernel_rfl) (by kernel_rfl) ⟨hob.1, hob.2.1, hob.2.2.1, hob.2.2.2.1, hob.2.2.2.2.1, hob.2.2.2.2.2.1, hob.2.2.2.2.2.2, trivial⟩ (fun s1 hs1 => ?_)
        refine (T.weaken ?_ hs1 : T Try.prog C (at_ cHex [1, 1, 1, 0, 1, 0, 0, 1, 1]) _ _)
        obtain ⟨hob, h⟩ := ite_get h
        refine T_reg henv hC [(3, some 3), (4, some 4)] [(0, .p (.str s)), (3, .arr 3), (4, .arr 4), (5, .p (.int .i64 (vi1 + (1 : Int))))] [(3, .barr 5 false (vb2 ++ [UInt8.ofNat ((61 : Int)).toNat, UInt8.ofNat (((([48, 49, 50, 51, 52, 53, 54, 55, 56, 57, 65, 66, 67, 68, 69, 70] : List UInt8).getD (IntKind.u8.wrap (((s.getD (vi1).toNat 0).toNat : Int).tdiv (16 : Int))).toNat 0).toNat : Int)).toNat, UInt8.ofNat (((([48, 49, 50, 51, 52, 53, 54, 55, 56, 57, 65, 66, 67, 68, 69, 70] : List UInt8).getD (((s.getD (vi1).toNat 0).toNat : Int).tmod (16 : Int)).toNat 0).toNat : Int)).toNat])), (4, .barr 5 false (vb3 ++ [UInt8.ofNat ((61 : Int)).toNat, UInt8.ofNat (((([48, 49, 50, 51, 52, 53, 54, 55, 56, 57, 97, 98, 99, 100, 101, 102] : List UInt8).getD (IntKind.u8.wrap (((s.getD (vi1).toNat 0).toNat : Int).tdiv (16 : Int))).toNat 0).toNat : Int)).toNat, UInt8.ofNat (((([48, 49, 50, 51, 52, 53, 54, 55, 56, 57, 97, 98, 99, 100, 101, 102] : List UInt8).getD (((s.getD (vi1).toNat 0).toNat : Int).tmod (16 : Int)).toNat 0).toNat : Int)).toNat]))] [i64ok (vi1 + (1 : Int))] (by kernel_rfl) (by kernel_rfl) ⟨hob, trivial⟩ (fun s1 hs1 => ?_)
        exact ⟨f, _, Nat.lt_succ_self f, ⟨s, vi1 + (1 : Int), vb2 ++ [UInt8.ofNat ((61 : Int)).toNat, UInt8.ofNat (((([48, 49, 50, 51, 52, 53, 54, 55, 56, 57, 65, 66, 67, 68, 69, 70] : List UInt8).getD (IntKind.u8.wrap (((s.getD (vi1).toNat 0).toNat : Int).tdiv (16 : Int))).toNat 0).toNat : Int)).toNat, UInt8.ofNat (((([48, 49, 50, 51, 52, 53, 54, 55, 56, 57, 65, 66, 67, 68, 69, 70] : List UInt8).getD (((s.getD (vi1).toNat 0).toNat : Int).tmod (16 : Int)).toNat 0).toNat : Int)).toNat], vb3 ++ [UInt8.ofNat ((61 : Int)).toNat, UInt8.ofNat (((([48, 49, 50, 51, 52, 53, 54, 55, 56, 57, 97, 98, 99, 100, 101, 102] : List UInt8).getD (IntKind.u8.wrap (((s.getD (vi1).toNat 0).toNat : Int).tdiv (16 : Int))).toNat 0).toNat : Int)).toNat, UInt8.ofNat (((([48, 49, 50, 51, 52, 53, 54, 55, 56, 57, 97, 98, 99, 100, 101, 102] : List UInt8).getD (((s.getD (vi1).toNat 0).toNat : Int).tmod (16 : Int)).toNat 0).toNat : Int)).toNat], rfl, h⟩, Sub.trans hs1 (Sub_view hC [(3, some 3), (4, some 4)] (by kernel_rfl) (by kernel_rfl) (by kernel_rfl))⟩
      · have h := ite_f h hb
        refine T_exitp (p := [1, 1, 1, 0, 1, 0, 0, 0, 1, 1]) 0 (by kernel_rfl) ?_
        refine then_exit ?_
        refine then_exit ?_
        refine inblock_hit ?_
        refine (T.weaken ?_ (Sub.refl _) : T Try.prog C (at_ cHex [1, 1, 1, 1]) _ _)
        refine T_seqp (p := [1, 1, 1, 1]) (by kernel_rfl) ?_
        obtain ⟨hob, h⟩ := ite_get h
        refine T_reg henv hC [] [(2, .p (.bool ((((decS vb2) == s) && ((decS vb3) == s)) && true)))] [] [vb2.length ≤ 1000000, ((decS vb2) == s) = true → ((decS vb2) == s) = true, ((decS vb2) == s) = true → ((decS vb2) == s) = true, ((decS vb2) == s) = true → vb3.length ≤ 1000000, ((decS vb2) == s) = true → ((decS vb2) == s) = true, ((decS vb2) == s) = true → ((decS vb2) == s) = true, ((decS vb2) == s) = true → ((decS vb2) == s) = true, (((decS vb2) == s) && ((decS vb3) == s)) = true → (((decS vb2) == s) && ((decS vb3) == s)) = true] (by kernel_rfl) (by kernel_rfl) ⟨hob.1, (fun q0 => q0), (fun q0 => q0), hob.2, (fun q0 => q0), (fun q0 => q0), (fun q0 => q0), (fun q0 => q0), trivial⟩ (fun s1 hs1 => ?_)
        refine (T.weaken ?_ hs1 : T Try.prog C (at_ cHex [1, 1, 1, 1, 1]) _ _)
        refine T_retp (p := [1, 1, 1, 1, 1]) (by kernel_rfl) ?_
        have h := Option.some.inj h; subst h
        exact ⟨mkS [(2, .p (.bool ((((decS vb2) == s) && ((decS vb3) == s)) && true)))] [], (Sub.refl _), by kernel_rfl⟩

theorem fn_Hex (fuel : Nat) (s : List UInt8) (res : Bool) (h : (∃ M vs, ARels γ0 M [.p (.str s)] vs) → FHex fuel s = some res) : FnP Try.prog 6 [.p (.str s)] (.p (.bool res)) :=
  FnP_lift (fn := Try.f6) (by kernel_rfl) (by kernel_rfl) fun M vs hvs C hC0 => have hC : CtxOk C 57 [] := ⟨hC0.nt.trans (by kernel_rfl), hC0.fx⟩; T.weaken (THex fuel s res (h ⟨M, vs, hvs⟩) C hC) (sinit_sub hC (by kernel_rfl) (by kernel_rfl))
end Go.Proofs.Ytnojfkkdihchiaa
