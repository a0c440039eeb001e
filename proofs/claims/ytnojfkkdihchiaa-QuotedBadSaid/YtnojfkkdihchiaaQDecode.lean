/-
  A lifted function, or a fact about one.
-/
import Derived.Test.YtnojfkkdihchiaaRows
import Derived.Test.YtnojfkkdihchiaaAmDrawRR
import Derived.Test.YtnojfkkdihchiaaQSpec
namespace Go.Proofs.Ytnojfkkdihchiaa
open Go Go.Am
def BDecode_2 (fuel : Nat) (k1 : List UInt8 → Int → List UInt8 → Option (List UInt8)) (s : List UInt8) (vi3 : Int) (vb4 : List UInt8) : Option (List UInt8) := if i64ok (vi3 + (1 : Int)) then (k1 s (vi3 + (1 : Int)) vb4) else none

def BDecode_1 (fuel : Nat)  : Nat → List UInt8 → Int → List UInt8 → Option (List UInt8)
  | 0, _, _, _ => none
  | f + 1, s, vi1, vb2 => if (decide (vi1 < (s.length : Int))) = true then (if (i64ok (vi1 + (1 : Int))) ∧ (0 ≤ (vi1 + (1 : Int)) ∧ (vi1 + (1 : Int)) ≤ (s.length : Int)) then (if 0 ≤ vi1 ∧ vi1 < (s.length : Int) then (if (((s.getD (vi1).toNat 0).toNat : Int) != (61 : Int)) = true then (if (0 ≤ vi1 ∧ vi1 < (s.length : Int)) ∧ ((vb2.length + [UInt8.ofNat (((s.getD (vi1).toNat 0).toNat : Int)).toNat].length) * 1 ≤ 140737488355328) then (BDecode_2 fuel (BDecode_1 fuel f) s vi1 (vb2 ++ [UInt8.ofNat (((s.getD (vi1).toNat 0).toNat : Int)).toNat])) else none) else (if ((decide (((s.drop (vi1 + (1 : Int)).toNat).length : Int) > (1 : Int))) = true → 0 ≤ (0 : Int) ∧ (0 : Int) < ((s.drop (vi1 + (1 : Int)).toNat).length : Int)) ∧ (((decide (((s.drop (vi1 + (1 : Int)).toNat).length : Int) > (1 : Int))) && (decide ((digitS (((s.drop (vi1 + (1 : Int)).toNat).getD ((0 : Int)).toNat 0).toNat : Int)) ≥ (0 : Int)))) = true → 0 ≤ (1 : Int) ∧ (1 : Int) < ((s.drop (vi1 + (1 : Int)).toNat).length : Int)) then (if (((decide (((s.drop (vi1 + (1 : Int)).toNat).length : Int) > (1 : Int))) && (decide ((digitS (((s.drop (vi1 + (1 : Int)).toNat).getD ((0 : Int)).toNat 0).toNat : Int)) ≥ (0 : Int)))) && (decide ((digitS (((s.drop (vi1 + (1 : Int)).toNat).getD ((1 : Int)).toNat 0).toNat : Int)) ≥ (0 : Int)))) = true then (if (0 ≤ (0 : Int) ∧ (0 : Int) < ((s.drop (vi1 + (1 : Int)).toNat).length : Int)) ∧ (0 ≤ (4 : Int)) ∧ (0 ≤ (1 : Int) ∧ (1 : Int) < ((s.drop (vi1 + (1 : Int)).toNat).length : Int)) ∧ ((vb2.length + [UInt8.ofNat (IntKind.u8.wrap (ibits .or .i64 (IntKind.i64.wrap ((digitS (((s.drop (vi1 + (1 : Int)).toNat).getD ((0 : Int)).toNat 0).toNat : Int)) * 2 ^ (min ((4 : Int)).toNat 64))) (digitS (((s.drop (vi1 + (1 : Int)).toNat).getD ((1 : Int)).toNat 0).toNat : Int)))).toNat].length) * 1 ≤ 140737488355328) then (if i64ok (vi1 + (2 : Int)) then (BDecode_2 fuel (BDecode_1 fuel f) s (vi1 + (2 : Int)) (vb2 ++ [UInt8.ofNat (IntKind.u8.wrap (ibits .or .i64 (IntKind.i64.wrap ((digitS (((s.drop (vi1 + (1 : Int)).toNat).getD ((0 : Int)).toNat 0).toNat : Int)) * 2 ^ (min ((4 : Int)).toNat 64))) (digitS (((s.drop (vi1 + (1 : Int)).toNat).getD ((1 : Int)).toNat 0).toNat : Int)))).toNat])) else none) else none) else (if (decide (((s.drop (vi1 + (1 : Int)).toNat).length : Int) > (0 : Int))) = true → 0 ≤ (0 : Int) ∧ (0 : Int) < ((s.drop (vi1 + (1 : Int)).toNat).length : Int) then (if ((decide (((s.drop (vi1 + (1 : Int)).toNat).length : Int) > (0 : Int))) && ((((s.drop (vi1 + (1 : Int)).toNat).getD ((0 : Int)).toNat 0).toNat : Int) == (10 : Int))) = true then (if i64ok (vi1 + (1 : Int)) then (BDecode_2 fuel (BDecode_1 fuel f) s (vi1 + (1 : Int)) vb2) else none) else (if ((decide (((s.drop (vi1 + (1 : Int)).toNat).length : Int) > (1 : Int))) = true → 0 ≤ (0 : Int) ∧ (0 : Int) < ((s.drop (vi1 + (1 : Int)).toNat).length : Int)) ∧ (((decide (((s.drop (vi1 + (1 : Int)).toNat).length : Int) > (1 : Int))) && ((((s.drop (vi1 + (1 : Int)).toNat).getD ((0 : Int)).toNat 0).toNat : Int) == (13 : Int))) = true → 0 ≤ (1 : Int) ∧ (1 : Int) < ((s.drop (vi1 + (1 : Int)).toNat).length : Int)) then (if (((decide (((s.drop (vi1 + (1 : Int)).toNat).length : Int) > (1 : Int))) && ((((s.drop (vi1 + (1 : Int)).toNat).getD ((0 : Int)).toNat 0).toNat : Int) == (13 : Int))) && ((((s.drop (vi1 + (1 : Int)).toNat).getD ((1 : Int)).toNat 0).toNat : Int) == (10 : Int))) = true then (if i64ok (vi1 + (2 : Int)) then (BDecode_2 fuel (BDecode_1 fuel f) s (vi1 + (2 : Int)) vb2) else none) else (if (vb2.length + [UInt8.ofNat ((61 : Int)).toNat].length) * 1 ≤ 140737488355328 then (BDecode_2 fuel (BDecode_1 fuel f) s vi1 (vb2 ++ [UInt8.ofNat ((61 : Int)).toNat])) else none)) else none)) else none)) else none)) else none) else none) else (some vb2)

def FDecode (fuel : Nat) (s : List UInt8) : Option (List UInt8) := BDecode_1 fuel fuel s (0 : Int) []

noncomputable def cDecode : Code := bodyOf Try.f10

def envDecode : Env := mkEnv [(15, sp_digit)]

theorem envDecode_ok : EnvOk Try.prog envDecode := EnvOk_mk ⟨ok_digit.any, trivial⟩

theorem TDecode (fuel : Nat) (s : List UInt8) (res : List UInt8) (h : FDecode fuel s = some res) (C : Ctx) (hC : CtxOk C 89 []) :
    T Try.prog C (at_ cDecode []) (mkS [(0, .p (.str s))] []) (Qend Try.prog C Try.f10.results.toList (.p (.str res))) := by
  have henv := envDecode_ok
  have hmx : Try.prog.follows .mixedOrders = true := Checked.mixed Try.checked
  unfold FDecode at h
  refine T_seqp (p := []) (by kernel_rfl) ?_
  refine T_reg henv hC [] [(0, .p (.str s))] [] [] (by kernel_rfl) (by kernel_rfl) trivial (fun s1 hs1 => ?_)
  refine (T.weaken ?_ hs1 : T Try.prog C (at_ cDecode [1]) _ _)
  refine T_seqp (p := [1]) (by kernel_rfl) ?_
  refine T_reg henv hC [(3, none)] [(0, .p (.str s)), (3, .arr 3)] [(3, .barr 5 false [])] [] (by kernel_rfl) (by kernel_rfl) trivial (fun s1 hs1 => ?_)
  refine (T.weaken ?_ hs1 : T Try.prog C (at_ cDecode [1, 1]) _ _)
  refine T_seqp (p := [1, 1]) (by kernel_rfl) ?_
  refine T_seqp (p := [1, 1, 0]) (by kernel_rfl) ?_
  refine T_reg henv hC [(3, some 3)] [(0, .p (.str s)), (3, .arr 3), (4, .p (.int .i64 (0 : Int)))] [(3, .barr 5 false [])] [] (by kernel_rfl) (by kernel_rfl) trivial (fun s1 hs1 => ?_)
  refine (T.weaken ?_ hs1 : T Try.prog C (at_ cDecode [1, 1, 0, 1]) _ _)
  refine T_blockp (p := [1, 1, 0, 1]) 0 (by kernel_rfl) ?_
  refine T.weaken ?_ (Sub_view (l := [(0, .p (.str s)), (3, .arr 3), (4, .p (.int .i64 (0 : Int)))]) (o := [(3, .barr 5 false [])]) hC [(3, some 3)] (by kernel_rfl) (by kernel_rfl) (by kernel_rfl))
  refine T_loopp (p := [1, 1, 0, 1, 0]) (by kernel_rfl) (fun f s2 => ∃ (s : List UInt8) (vi1 : Int) (vb2 : List UInt8), s2 = mkS [(0, .p (.str s)), (3, .arr 3), (4, .p (.int .i64 vi1))] [(3, .barr 5 false vb2)] ∧ BDecode_1 fuel f s vi1 vb2 = some res) ?_ fuel ⟨s, (0 : Int), [], rfl, h⟩
  rintro f s2 ⟨s, vi1, vb2, rfl, h⟩
  cases f with
  | zero => cases h
  | succ f =>
    rw [BDecode_1] at h
    refine T_seqp (p := [1, 1, 0, 1, 0, 0]) (by kernel_rfl) ?_
    refine T_seqp (p := [1, 1, 0, 1, 0, 0, 0]) (by kernel_rfl) ?_
    refine T_reg henv hC [(3, some 3)] [(0, .p (.str s)), (3, .arr 3), (4, .p (.int .i64 vi1)), (9, .p (.bool (decide (vi1 < (s.length : Int)))))] [(3, .barr 5 false vb2)] [] (by kernel_rfl) (by kernel_rfl) trivial (fun s1 hs1 => ?_)
    refine (T.weaken ?_ hs1 : T Try.prog C (at_ cDecode [1, 1, 0, 1, 0, 0, 0, 1]) _ _)
    refine T_condp (p := [1, 1, 0, 1, 0, 0, 0, 1]) (by kernel_rfl) (decide (vi1 < (s.length : Int))) (by kernel_rfl) (fun hb => ?_) (fun hb => ?_)
    · have h := ite_t h hb
      refine T_skipp (p := [1, 1, 0, 1, 0, 0, 0, 1, 0]) (by kernel_rfl) ?_
      refine (T.weaken ?_ (Sub.refl _) : T Try.prog C (at_ cDecode [1, 1, 0, 1, 0, 0, 1]) _ _)
      refine T_join (p := [1, 1, 0, 1, 0, 0, 1]) (by kernel_rfl) (fun s2 => ∃ (s : List UInt8) (vi3 : Int) (vb4 : List UInt8), BDecode_2 fuel (BDecode_1 fuel f) s vi3 vb4 = some res ∧ Sub C s2 (mkS [(0, .p (.str s)), (3, .arr 3), (4, .p (.int .i64 vi3))] [(3, .barr 5 false vb4)])) ?_ ?_
      · refine T_blockp (p := [1, 1, 0, 1, 0, 0, 1, 0]) 1 (by kernel_rfl) ?_
        refine T_seqp (p := [1, 1, 0, 1, 0, 0, 1, 0, 0]) (by kernel_rfl) ?_
        obtain ⟨hob, h⟩ := ite_get h
        refine T_reg henv hC [(3, some 3)] [(0, .p (.str s)), (3, .arr 3), (4, .p (.int .i64 vi1)), (5, .p (.str (s.drop (vi1 + (1 : Int)).toNat)))] [(3, .barr 5 false vb2)] [i64ok (vi1 + (1 : Int)), 0 ≤ (vi1 + (1 : Int)) ∧ (vi1 + (1 : Int)) ≤ (s.length : Int)] (by kernel_rfl) (by kernel_rfl) ⟨hob.1, hob.2, trivial⟩ (fun s1 hs1 => ?_)
        refine (T.weaken ?_ hs1 : T Try.prog C (at_ cDecode [1, 1, 0, 1, 0, 0, 1, 0, 0, 1]) _ _)
        refine T_blockp (p := [1, 1, 0, 1, 0, 0, 1, 0, 0, 1]) 2 (by kernel_rfl) ?_
        refine T_seqp (p := [1, 1, 0, 1, 0, 0, 1, 0, 0, 1, 0]) (by kernel_rfl) ?_
        obtain ⟨hob, h⟩ := ite_get h
        refine T_reg henv hC [(3, some 3)] [(0, .p (.str s)), (3, .arr 3), (4, .p (.int .i64 vi1)), (5, .p (.str (s.drop (vi1 + (1 : Int)).toNat))), (19, .p (.bool (((s.getD (vi1).toNat 0).toNat : Int) != (61 : Int))))] [(3, .barr 5 false vb2)] [0 ≤ vi1 ∧ vi1 < (s.length : Int)] (by kernel_rfl) (by kernel_rfl) ⟨hob, trivial⟩ (fun s1 hs1 => ?_)
        refine (T.weaken ?_ hs1 : T Try.prog C (at_ cDecode [1, 1, 0, 1, 0, 0, 1, 0, 0, 1, 0, 1]) _ _)
        refine T_condp (p := [1, 1, 0, 1, 0, 0, 1, 0, 0, 1, 0, 1]) (by kernel_rfl) (((s.getD (vi1).toNat 0).toNat : Int) != (61 : Int)) (by kernel_rfl) (fun hb => ?_) (fun hb => ?_)
        · have h := ite_t h hb
          obtain ⟨hob, h⟩ := ite_get h
          refine T_reg henv hC [(3, some 29)] [(0, .p (.str s)), (3, .arr 3), (4, .p (.int .i64 vi1))] [(3, .barr 5 false (vb2 ++ [UInt8.ofNat (((s.getD (vi1).toNat 0).toNat : Int)).toNat]))] [0 ≤ vi1 ∧ vi1 < (s.length : Int), (vb2.length + [UInt8.ofNat (((s.getD (vi1).toNat 0).toNat : Int)).toNat].length) * 1 ≤ 140737488355328] (by kernel_rfl) (by kernel_rfl) ⟨hob.1, hob.2, trivial⟩ (fun s1 hs1 => ?_)
          exact ⟨s, vi1, vb2 ++ [UInt8.ofNat (((s.getD (vi1).toNat 0).toNat : Int)).toNat], h, Sub.trans hs1 (Sub_view hC [(3, some 3)] (by kernel_rfl) (by kernel_rfl) (by kernel_rfl))⟩
        · have h := ite_f h hb
          refine T_seqp (p := [1, 1, 0, 1, 0, 0, 1, 0, 0, 1, 0, 1, 1]) (by kernel_rfl) ?_
          obtain ⟨hob, h⟩ := ite_get h
          refine T_reg henv hC [(3, some 3)] [(0, .p (.str s)), (3, .arr 3), (4, .p (.int .i64 vi1)), (5, .p (.str (s.drop (vi1 + (1 : Int)).toNat))), (30, .p (.bool (((decide (((s.drop (vi1 + (1 : Int)).toNat).length : Int) > (1 : Int))) && (decide ((digitS (((s.drop (vi1 + (1 : Int)).toNat).getD ((0 : Int)).toNat 0).toNat : Int)) ≥ (0 : Int)))) && (decide ((digitS (((s.drop (vi1 + (1 : Int)).toNat).getD ((1 : Int)).toNat 0).toNat : Int)) ≥ (0 : Int))))))] [(3, .barr 5 false vb2)] [(decide (((s.drop (vi1 + (1 : Int)).toNat).length : Int) > (1 : Int))) = true → (decide (((s.drop (vi1 + (1 : Int)).toNat).length : Int) > (1 : Int))) = true, (decide (((s.drop (vi1 + (1 : Int)).toNat).length : Int) > (1 : Int))) = true → 0 ≤ (0 : Int) ∧ (0 : Int) < ((s.drop (vi1 + (1 : Int)).toNat).length : Int), (decide (((s.drop (vi1 + (1 : Int)).toNat).length : Int) > (1 : Int))) = true → (decide (((s.drop (vi1 + (1 : Int)).toNat).length : Int) > (1 : Int))) = true, (decide (((s.drop (vi1 + (1 : Int)).toNat).length : Int) > (1 : Int))) = true → (decide (((s.drop (vi1 + (1 : Int)).toNat).length : Int) > (1 : Int))) = true, (decide (((s.drop (vi1 + (1 : Int)).toNat).length : Int) > (1 : Int))) = true → (decide (((s.drop (vi1 + (1 : Int)).toNat).length : Int) > (1 : Int))) = true, ((decide (((s.drop (vi1 + (1 : Int)).toNat).length : Int) > (1 : Int))) && (decide ((digitS (((s.drop (vi1 + (1 : Int)).toNat).getD ((0 : Int)).toNat 0).toNat : Int)) ≥ (0 : Int)))) = true → ((decide (((s.drop (vi1 + (1 : Int)).toNat).length : Int) > (1 : Int))) && (decide ((digitS (((s.drop (vi1 + (1 : Int)).toNat).getD ((0 : Int)).toNat 0).toNat : Int)) ≥ (0 : Int)))) = true, ((decide (((s.drop (vi1 + (1 : Int)).toNat).length : Int) > (1 : Int))) && (decide ((digitS (((s.drop (vi1 + (1 : Int)).toNat).getD ((0 : Int)).toNat 0).toNat : Int)) ≥ (0 : Int)))) = true → 0 ≤ (1 : Int) ∧ (1 : Int) < ((s.drop (vi1 + (1 : Int)).toNat).length : Int), ((decide (((s.drop (vi1 + (1 : Int)).toNat).length : Int) > (1 : Int))) && (decide ((digitS (((s.drop (vi1 + (1 : Int)).toNat).getD ((0 : Int)).toNat 0).toNat : Int)) ≥ (0 : Int)))) = true → ((decide (((s.drop (vi1 + (1 : Int)).toNat).length : Int) > (1 : Int))) && (decide ((digitS (((s.drop (vi1 + (1 : Int)).toNat).getD ((0 : Int)).toNat 0).toNat : Int)) ≥ (0 : Int)))) = true, ((decide (((s.drop (vi1 + (1 : Int)).toNat).length : Int) > (1 : Int))) && (decide ((digitS (((s.drop (vi1 + (1 : Int)).toNat).getD ((0 : Int)).toNat 0).toNat : Int)) ≥ (0 : Int)))) = true → ((decide (((s.drop (vi1 + (1 : Int)).toNat).length : Int) > (1 : Int))) && (decide ((digitS (((s.drop (vi1 + (1 : Int)).toNat).getD ((0 : Int)).toNat 0).toNat : Int)) ≥ (0 : Int)))) = true, ((decide (((s.drop (vi1 + (1 : Int)).toNat).length : Int) > (1 : Int))) && (decide ((digitS (((s.drop (vi1 + (1 : Int)).toNat).getD ((0 : Int)).toNat 0).toNat : Int)) ≥ (0 : Int)))) = true → ((decide (((s.drop (vi1 + (1 : Int)).toNat).length : Int) > (1 : Int))) && (decide ((digitS (((s.drop (vi1 + (1 : Int)).toNat).getD ((0 : Int)).toNat 0).toNat : Int)) ≥ (0 : Int)))) = true] (by kernel_rfl) (by kernel_rfl) ⟨(fun q0 => q0), hob.1, (fun q0 => q0), (fun q0 => q0), (fun q0 => q0), (fun q0 => q0), hob.2, (fun q0 => q0), (fun q0 => q0), (fun q0 => q0), trivial⟩ (fun s1 hs1 => ?_)
          refine (T.weaken ?_ hs1 : T Try.prog C (at_ cDecode [1, 1, 0, 1, 0, 0, 1, 0, 0, 1, 0, 1, 1, 1]) _ _)
          refine T_condp (p := [1, 1, 0, 1, 0, 0, 1, 0, 0, 1, 0, 1, 1, 1]) (by kernel_rfl) (((decide (((s.drop (vi1 + (1 : Int)).toNat).length : Int) > (1 : Int))) && (decide ((digitS (((s.drop (vi1 + (1 : Int)).toNat).getD ((0 : Int)).toNat 0).toNat : Int)) ≥ (0 : Int)))) && (decide ((digitS (((s.drop (vi1 + (1 : Int)).toNat).getD ((1 : Int)).toNat 0).toNat : Int)) ≥ (0 : Int)))) (by kernel_rfl) (fun hb => ?_) (fun hb => ?_)
          · have h := ite_t h hb
            refine T_seqp (p := [1, 1, 0, 1, 0, 0, 1, 0, 0, 1, 0, 1, 1, 1, 0]) (by kernel_rfl) ?_
            obtain ⟨hob, h⟩ := ite_get h
            refine T_regd henv hmx hC [(3, some 57)] [(0, .p (.str s)), (3, .arr 3), (4, .p (.int .i64 vi1))] [(3, .barr 5 false (vb2 ++ [UInt8.ofNat (IntKind.u8.wrap (ibits .or .i64 (IntKind.i64.wrap ((digitS (((s.drop (vi1 + (1 : Int)).toNat).getD ((0 : Int)).toNat 0).toNat : Int)) * 2 ^ (min ((4 : Int)).toNat 64))) (digitS (((s.drop (vi1 + (1 : Int)).toNat).getD ((1 : Int)).toNat 0).toNat : Int)))).toNat]))] [0 ≤ (0 : Int) ∧ (0 : Int) < ((s.drop (vi1 + (1 : Int)).toNat).length : Int), 0 ≤ (4 : Int), 0 ≤ (1 : Int) ∧ (1 : Int) < ((s.drop (vi1 + (1 : Int)).toNat).length : Int), (vb2.length + [UInt8.ofNat (IntKind.u8.wrap (ibits .or .i64 (IntKind.i64.wrap ((digitS (((s.drop (vi1 + (1 : Int)).toNat).getD ((0 : Int)).toNat 0).toNat : Int)) * 2 ^ (min ((4 : Int)).toNat 64))) (digitS (((s.drop (vi1 + (1 : Int)).toNat).getD ((1 : Int)).toNat 0).toNat : Int)))).toNat].length) * 1 ≤ 140737488355328] (by kernel_rfl) (by kernel_rfl) (by kernel_rfl) ⟨hob.1, hob.2.1, hob.2.2.1, hob.2.2.2, trivial⟩ (fun s1 hs1 => ?_)
            refine (T.weaken ?_ hs1 : T Try.prog C (at_ cDecode [1, 1, 0, 1, 0, 0, 1, 0, 0, 1, 0, 1, 1, 1, 0, 1]) _ _)
            obtain ⟨hob, h⟩ := ite_get h
            refine T_reg henv hC [(3, some 3)] [(0, .p (.str s)), (3, .arr 3), (4, .p (.int .i64 (vi1 + (2 : Int))))] [(3, .barr 5 false (vb2 ++ [UInt8.ofNat (IntKind.u8.wrap (ibits .or .i64 (IntKind.i64.wrap ((digitS (((s.drop (vi1 + (1 : Int)).toNat).getD ((0 : Int)).toNat 0).toNat : Int)) * 2 ^ (min ((4 : Int)).toNat 64))) (digitS (((s.drop (vi1 + (1 : Int)).toNat).getD ((1 : Int)).toNat 0).toNat : Int)))).toNat]))] [i64ok (vi1 + (2 : Int))] (by kernel_rfl) (by kernel_rfl) ⟨hob, trivial⟩ (fun s1 hs1 => ?_)
            exact ⟨s, vi1 + (2 : Int), vb2 ++ [UInt8.ofNat (IntKind.u8.wrap (ibits .or .i64 (IntKind.i64.wrap ((digitS (((s.drop (vi1 + (1 : Int)).toNat).getD ((0 : Int)).toNat 0).toNat : Int)) * 2 ^ (min ((4 : Int)).toNat 64))) (digitS (((s.drop (vi1 + (1 : Int)).toNat).getD ((1 : Int)).toNat 0).toNat : Int)))).toNat], h, Sub.trans hs1 (Sub_view hC [(3, some 3)] (by kernel_rfl) (by kernel_rfl) (by kernel_rfl))⟩
          · have h := ite_f h hb
            refine T_seqp (p := [1, 1, 0, 1, 0, 0, 1, 0, 0, 1, 0, 1, 1, 1, 1]) (by kernel_rfl) ?_
            obtain ⟨hob, h⟩ := ite_get h
            refine T_reg henv hC [(3, some 3)] [(0, .p (.str s)), (3, .arr 3), (4, .p (.int .i64 vi1)), (5, .p (.str (s.drop (vi1 + (1 : Int)).toNat))), (60, .p (.bool ((decide (((s.drop (vi1 + (1 : Int)).toNat).length : Int) > (0 : Int))) && ((((s.drop (vi1 + (1 : Int)).toNat).getD ((0 : Int)).toNat 0).toNat : Int) == (10 : Int)))))] [(3, .barr 5 false vb2)] [(decide (((s.drop (vi1 + (1 : Int)).toNat).length : Int) > (0 : Int))) = true → (decide (((s.drop (vi1 + (1 : Int)).toNat).length : Int) > (0 : Int))) = true, (decide (((s.drop (vi1 + (1 : Int)).toNat).length : Int) > (0 : Int))) = true → 0 ≤ (0 : Int) ∧ (0 : Int) < ((s.drop (vi1 + (1 : Int)).toNat).length : Int), (decide (((s.drop (vi1 + (1 : Int)).toNat).length : Int) > (0 : Int))) = true → (decide (((s.drop (vi1 + (1 : Int)).toNat).length : Int) > (0 : Int))) = true, (decide (((s.drop (vi1 + (1 : Int)).toNat).length : Int) > (0 : Int))) = true → (decide (((s.drop (vi1 + (1 : Int)).toNat).length : Int) > (0 : Int))) = true] (by kernel_rfl) (by kernel_rfl) ⟨(fun q0 => q0), hob, (fun q0 => q0), (fun q0 => q0), trivial⟩ (fun s1 hs1 => ?_)
            refine (T.weaken ?_ hs1 : T Try.prog C (at_ cDecode [1, 1, 0, 1, 0, 0, 1, 0, 0, 1, 0, 1, 1, 1, 1, 1]) _ _)
            refine T_condp (p := [1, 1, 0, 1, 0, 0, 1, 0, 0, 1, 0, 1, 1, 1, 1, 1]) (by kernel_rfl) ((decide (((s.drop (vi1 + (1 : Int)).toNat).length : Int) > (0 : Int))) && ((((s.drop (vi1 + (1 : Int)).toNat).getD ((0 : Int)).toNat 0).toNat : Int) == (10 : Int))) (by kernel_rfl) (fun hb => ?_) (fun hb => ?_)
            · have h := ite_t h hb
              obtain ⟨hob, h⟩ := ite_get h
              refine T_reg henv hC [(3, some 3)] [(0, .p (.str s)), (3, .arr 3), (4, .p (.int .i64 (vi1 + (1 : Int))))] [(3, .barr 5 false vb2)] [i64ok (vi1 + (1 : Int))] (by kernel_rfl) (by kernel_rfl) ⟨hob, trivial⟩ (fun s1 hs1 => ?_)
              exact ⟨s, vi1 + (1 : Int), vb2, h, Sub.trans hs1 (Sub_view hC [(3, some 3)] (by kernel_rfl) (by kernel_rfl) (by kernel_rfl))⟩
            · have h := ite_f h hb
              refine T_seqp (p := [1, 1, 0, 1, 0, 0, 1, 0, 0, 1, 0, 1, 1, 1, 1, 1, 1]) (by kernel_rfl) ?_
              obtain ⟨hob, h⟩ := ite_get h
              refine T_reg henv hC [(3, some 3)] [(0, .p (.str s)), (3, .arr 3), (4, .p (.int .i64 vi1)), (71, .p (.bool (((decide (((s.drop (vi1 + (1 : Int)).toNat).length : Int) > (1 : Int))) && ((((s.drop (vi1 + (1 : Int)).toNat).getD ((0 : Int)).toNat 0).toNat : Int) == (13 : Int))) && ((((s.drop (vi1 + (1 : Int)).toNat).getD ((1 : Int)).toNat 0).toNat : Int) == (10 : Int)))))] [(3, .barr 5 false vb2)] [(decide (((s.drop (vi1 + (1 : Int)).toNat).length : Int) > (1 : Int))) = true → (decide (((s.drop (vi1 + (1 : Int)).toNat).length : Int) > (1 : Int))) = true, (decide (((s.drop (vi1 + (1 : Int)).toNat).length : Int) > (1 : Int))) = true → 0 ≤ (0 : Int) ∧ (0 : Int) < ((s.drop (vi1 + (1 : Int)).toNat).length : Int), (decide (((s.drop (vi1 + (1 : Int)).toNat).length : Int) > (1 : Int))) = true → (decide (((s.drop (vi1 + (1 : Int)).toNat).length : Int) > (1 : Int))) = true, (decide (((s.drop (vi1 + (1 : Int)).toNat).length : Int) > (1 : Int))) = true → (decide (((s.drop (vi1 + (1 : Int)).toNat).length : Int) > (1 : Int))) = true, ((decide (((s.drop (vi1 + (1 : Int)).toNat).length : Int) > (1 : Int))) && ((((s.drop (vi1 + (1 : Int)).toNat).getD ((0 : Int)).toNat 0).toNat : Int) == (13 : Int))) = true → ((decide (((s.drop (vi1 + (1 : Int)).toNat).length : Int) > (1 : Int))) && ((((s.drop (vi1 + (1 : Int)).toNat).getD ((0 : Int)).toNat 0).toNat : Int) == (13 : Int))) = true, ((decide (((s.drop (vi1 + (1 : Int)).toNat).length : Int) > (1 : Int))) && ((((s.drop (vi1 + (1 : Int)).toNat).getD ((0 : Int)).toNat 0).toNat : Int) == (13 : Int))) = true → 0 ≤ (1 : Int) ∧ (1 : Int) < ((s.drop (vi1 + (1 : Int)).toNat).length : Int), ((decide (((s.drop (vi1 + (1 : Int)).toNat).length : Int) > (1 : Int))) && ((((s.drop (vi1 + (1 : Int)).toNat).getD ((0 : Int)).toNat 0).toNat : Int) == (13 : Int))) = true → ((decide (((s.drop (vi1 + (1 : Int)).toNat).length : Int) > (1 : Int))) && ((((s.drop (vi1 + (1 : Int)).toNat).getD ((0 : Int)).toNat 0).toNat : Int) == (13 : Int))) = true, ((decide (((s.drop (vi1 + (1 : Int)).toNat).length : Int) > (1 : Int))) && ((((s.drop (vi1 + (1 : Int)).toNat).getD ((0 : Int)).toNat 0).toNat : Int) == (13 : Int))) = true → ((decide (((s.drop (vi1 + (1 : Int)).toNat).length : Int) > (1 : Int))) && ((((s.drop (vi1 + (1 : Int)).toNat).getD ((0 : Int)).toNat 0).toNat : Int) == (13 : Int))) = true] (by kernel_rfl) (by kernel_rfl) ⟨(fun q0 => q0), hob.1, (fun q0 => q0), (fun q0 => q0), (fun q0 => q0), hob.2, (fun q0 => q0), (fun q0 => q0), trivial⟩ (fun s1 hs1 => ?_)
              refine (T.weaken ?_ hs1 : T Try.prog C (at_ cDecode [1, 1, 0, 1, 0, 0, 1, 0, 0, 1, 0, 1, 1, 1, 1, 1, 1, 1]) _ _)
              refine T_condp (p := [1, 1, 0, 1, 0, 0, 1, 0, 0, 1, 0, 1, 1, 1, 1, 1, 1, 1]) (by kernel_rfl) (((decide (((s.drop (vi1 + (1 : Int)).toNat).length : Int) > (1 : Int))) && ((((s.drop (vi1 + (1 : Int)).toNat).getD ((0 : Int)).toNat 0).toNat : Int) == (13 : Int))) && ((((s.drop (vi1 + (1 : Int)).toNat).getD ((1 : Int)).toNat 0).toNat : Int) == (10 : Int))) (by kernel_rfl) (fun hb => ?_) (fun hb => ?_)
              · have h := ite_t h hb
                obtain ⟨hob, h⟩ := ite_get h
                refine T_reg henv hC [(3, some 3)] [(0, .p (.str s)), (3, .arr 3), (4, .p (.int .i64 (vi1 + (2 : Int))))] [(3, .barr 5 false vb2)] [i64ok (vi1 + (2 : Int))] (by kernel_rfl) (by kernel_rfl) ⟨hob, trivial⟩ (fun s1 hs1 => ?_)
                exact ⟨s, vi1 + (2 : Int), vb2, h, Sub.trans hs1 (Sub_view hC [(3, some 3)] (by kernel_rfl) (by kernel_rfl) (by kernel_rfl))⟩
              · have h := ite_f h hb
                obtain ⟨hob, h⟩ := ite_get h
                refine T_reg henv hC [(3, some 18)] [(0, .p (.str s)), (3, .arr 3), (4, .p (.int .i64 vi1))] [(3, .barr 5 false (vb2 ++ [UInt8.ofNat ((61 : Int)).toNat]))] [(vb2.length + [UInt8.ofNat ((61 : Int)).toNat].length) * 1 ≤ 140737488355328] (by kernel_rfl) (by kernel_rfl) ⟨hob, trivial⟩ (fun s1 hs1 => ?_)
                exact ⟨s, vi1, vb2 ++ [UInt8.ofNat ((61 : Int)).toNat], h, Sub.trans hs1 (Sub_view hC [(3, some 3)] (by kernel_rfl) (by kernel_rfl) (by kernel_rfl))⟩
      · rintro s2 ⟨s, vi3, vb4, h, hs2⟩
        unfold BDecode_2 at h
        refine (T.weaken ?_ hs2 : T Try.prog C (at_ cDecode [1, 1, 0, 1, 0, 0, 1, 1]) _ _)
        obtain ⟨hob, h⟩ := ite_get h
        refine T_reg henv hC [(3, some 3)] [(0, .p (.str s)), (3, .arr 3), (4, .p (.int .i64 (vi3 + (1 : Int))))] [(3, .barr 5 false vb4)] [i64ok (vi3 + (1 : Int))] (by kernel_rfl) (by kernel_rfl) ⟨hob, trivial⟩ (fun s1 hs1 => ?_)
        exact ⟨f, _, Nat.lt_succ_self f, ⟨s, vi3 + (1 : Int), vb4, rfl, h⟩, Sub.trans hs1 (Sub_view hC [(3, some 3)] (by kernel_rfl) (by kernel_rfl) (by kernel_rfl))⟩
    · have h := ite_f h hb
      refine T_exitp (p := [1, 1, 0, 1, 0, 0, 0, 1, 1]) 0 (by kernel_rfl) ?_
      refine then_exit ?_
      refine then_exit ?_
      refine inblock_hit ?_
      refine (T.weaken ?_ (Sub.refl _) : T Try.prog C (at_ cDecode [1, 1, 1]) _ _)
      refine T_seqp (p := [1, 1, 1]) (by kernel_rfl) ?_
      refine T_reg henv hC [] [(2, .p (.str vb2))] [] [] (by kernel_rfl) (by kernel_rfl) trivial (fun s1 hs1 => ?_)
      refine (T.weaken ?_ hs1 : T Try.prog C (at_ cDecode [1, 1, 1, 1]) _ _)
      refine T_retp (p := [1, 1, 1, 1]) (by kernel_rfl) ?_
      have h := Option.some.inj h; subst h
      exact ⟨mkS [(2, .p (.str vb2))] [], (Sub.refl _), by kernel_rfl⟩

theorem fn_Decode (fuel : Nat) (s : List UInt8) (res : List UInt8) (h : (∃ M vs, ARels γ0 M [.p (.str s)] vs) → FDecode fuel s = some res) : FnP Try.prog 10 [.p (.str s)] (.p (.str res)) :=
  FnP_lift (fn := Try.f10) (by kernel_rfl) (by kernel_rfl) fun M vs hvs C hC0 => have hC : CtxOk C 89 [] := ⟨hC0.nt.trans (by kernel_rfl), hC0.fx⟩; T.weaken (TDecode fuel s res (h ⟨M, vs, hvs⟩) C hC) (sinit_sub hC (by kernel_rfl) (by kernel_rfl))
end Go.Proofs.Ytnojfkkdihchiaa
